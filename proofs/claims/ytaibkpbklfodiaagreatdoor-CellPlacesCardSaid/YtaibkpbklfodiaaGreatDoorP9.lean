/- The walk of package integer: divide. The walk of package integer: divide, the long case. -/
import Derived.Test.YtaibkpbklfodiaaGreatDoorP8
import Derived.Test.YtaibkpbklfodiaaGreatDoorPShelf
import Derived.Lib.ItoaNum
set_option linter.all false
set_option maxHeartbeats 100000000
section
namespace Go.Proofs.Υ
open Go.RowKit Dowel
theorem lead {y:Nat} (h:0<y) (hB:y<4294967296):∃ s:Nat,(32 - (Lib.bitLen y:Int))=(s:Int)∧s≤31∧y*2 ^ s<4294967296:=by
 have h1:=Lib.bitLenAux_bounds 64 y ω ω;have h2:Lib.bitLen y≤32:=Lib.bitLen_le y 32 ω hB;unfold Lib.bitLen at *;generalize Lib.bitLenAux 64 y=n at *;refine ⟨32 - n,by omega,by omega,?_⟩;have h3:y*2 ^ (32 - n)<2 ^ n*2 ^ (32 - n):=Nat.mul_lt_mul_of_pos_right h1.2.2 (Nat.two_pow_pos _);rw [← Nat.pow_add,show n+(32 - n)=32 from by omega] at h3;exact h3
def qq (w:World) (e:Ending) (X Y:Nat):Prop:=
 ∃ a1 n1 c1 d1 a2 n2 c2 d2,e=.returned (.tuple #[.slice a1 n1 c1,.slice a2 n2 c2])∧Mag w a1 n1 c1 d1∧Nz d1∧val d1=X / Y∧Mag w a2 n2 c2 d2∧Nz d2∧val d2=X % Y
set_option maxRecDepth 100000 in
theorem divide_less (a b:Option Addr) (la ca lb cb:Nat) (xs ys:List Nat) (w:World) (ha:Mag w a la ca xs) (hb:Mag w b lb cb ys) (na:Nz xs) (nb:Nz ys) (h1:la≤1000000) (h2:lb≤1000000) (hlt:val xs<val ys) :
  Calls Tryz.prog 133 #[.slice a la ca,.slice b lb cb] w fun e w'=>qq w' e (val xs) (val ys)∧Below w.heap.size w w':=by
 have HA:=η ha;have HB:=η hb;have HL:=η hlt;have hc:=pZ hlt;have HC:=η hc;clear ha hb hlt hc
 go_enter Tryz.func133,Tryz.ntmps133
 go_wp2_with fail
 refine (fb _ _ _ _ _ _ xs ys _ HA.out HB.out na nb ω ω).mono ?_;rw [HC.out];rintro e w0 ⟨rfl,hb0⟩;have H0:=η hb0;clear hb0;go_wp2
 go_ret2
 exact ⟨⟨_,_,_,[],_,_,_,xs,rfl,Mag.nil _,Or.inl rfl,by rw [Nat.div_eq_of_lt HL.out];rfl,HA.out.below H0.out,na,by rw [Nat.mod_eq_of_lt HL.out]⟩,H0.out⟩
set_option maxRecDepth 100000 in
theorem divide_one (a b:Option Addr) (la ca cb:Nat) (xs ys:List Nat) (w:World) (ha:Mag w a la ca xs) (hb:Mag w b 1 cb ys) (na:Nz xs) (nb:Nz ys) (h1:la≤1000000) (hle:val ys≤val xs) :
  Calls Tryz.prog 133 #[.slice a la ca,.slice b 1 cb] w fun e w'=>qq w' e (val xs) (val ys)∧Below w.heap.size w w':=by
 have HA:=η ha;have HB:=η hb;have hc:0≤eP (val xs) (val ys):=by unfold eP;rw [if_neg ω];split <;> omega
 obtain ⟨y,rfl⟩:∃ y,ys=[y]:=by
  have:=hb.len
  match ys,this with
  | [y],_=>exact ⟨y,rfl⟩
 have hy0:0<y:=by
  have:=eh nb (by simp)
  simpa [val] using this
 have hyb:y<4294967296:=hb.dg y (by simp);have hvy:val [y]=y:=by simp [val]
 rw [hvy] at hc ⊢;generalize hcc:eP (val xs) y=cc at *;have HC:=η hcc;have HVY:=η hvy;clear ha hb hle hcc hvy
 go_enter Tryz.func133,Tryz.ntmps133
 go_wp2_with fail
 refine (fb _ _ _ _ _ _ xs [y] _ HA.out HB.out na nb ω ω).mono ?_;rw [HVY.out,HC.out];rintro e w0 ⟨rfl,hb0⟩;obtain ⟨b',o',rfl,hbb,hcb,hyc⟩:=(HB.out.below hb0).cells ω;have hy1:=hyc 0 ω;simp only [List.getD_cons_zero,Nat.add_zero] at hy1;have H0:=η hb0;clear hb0 hyc hbb
 go_wp2_with fail
 refine (kM _ _ _ y xs _ (HA.out.below H0.out) h1 hy0 hyb).mono ?_;rintro e w1 ⟨⟨p1,q1,r1,e1,rfl,hm1,hn1,hv1,hle1⟩,hb1⟩;have M1:=η hm1;have N1:=η hn1;have V1:=η hv1;have L1:Hid (Below w.heap.size w w1):=ae H0.out hb1 ρ;clear hm1 hn1 hv1 hb1
 go_wp2_with fail
 have hrm:val xs % y<4294967296:=Nat.lt_trans (Nat.mod_lt _ hy0) hyb;refine (eK _ 1 1 [val xs % y] _ (Mag.alloc _ _ _ _ _ _ (by simp) (by simp [dig]) (Dg.cons hrm Dg.nil) rfl rfl) ω).mono ?_;rintro e w2 ⟨⟨n,hm,hn,hnz,hv,rfl⟩,rfl⟩;have M2:=η hm;have N2:=η hnz;have V2:=η hv;clear hm hnz hv hrm;go_wp2
 go_ret2
 have hb3:Below w1.heap.size w1 (w1.alloc (.cells #[.int .u32 ((val xs:Int) % (y:Int))] 191)):=by go_grown
 exact ⟨⟨_,_,_,_,_,_,_,_,rfl,M1.out.below hb3,N1.out,V1.out,M2.out,N2.out,by rw [V2.out];simp [val]⟩,ae L1.out hb3 ρ⟩
end Go.Proofs.Υ
end

section
namespace Go.Proofs.Υ
open Go.RowKit Dowel
theorem top_less {xs ys us:List Nat} {la lb s:Nat} (hd:Dg xs) (hlx:xs.length=la) (hu:us.length=la+1) (hly:ys.length=lb) (hny:Nz ys) (hlb:0<lb) (hle:lb≤la)
  (hv:val us=2 ^ s*val xs):val (us.drop (la - lb+1))<2 ^ s*val ys:=by
 have h1:=eC us (la - lb+1) ω;have h2:=ij hd;rw [hlx] at h2;have h3:B ^ (lb - 1)≤val ys:=by
  have:=iT hny (by intro h;rw [h] at hly;simp at hly;omega)
  rwa [hly] at this
 have h4:B ^ la=B ^ (la - lb+1)*B ^ (lb - 1):=by rw [← Nat.pow_add];congr 1;omega
 have h5:B ^ (la - lb+1)*val (us.drop (la - lb+1))<B ^ (la - lb+1)*(2 ^ s*val ys):=by
  have e1:2 ^ s*val xs<2 ^ s*(B ^ (la - lb+1)*B ^ (lb - 1)):=by rw [← h4];exact Nat.mul_lt_mul_of_pos_left h2 (Nat.two_pow_pos s)
  have e2:2 ^ s*(B ^ (la - lb+1)*B ^ (lb - 1))≤2 ^ s*(B ^ (la - lb+1)*val ys):=Nat.mul_le_mul_left _ (Nat.mul_le_mul_left _ h3);have e3:2 ^ s*(B ^ (la - lb+1)*val ys)=B ^ (la - lb+1)*(2 ^ s*val ys):=by rw [Nat.mul_left_comm]
  omega
 exact Nat.lt_of_mul_lt_mul_left h5
theorem top_fits {ys:List Nat} {lb s y:Nat} (hd:Dg ys) (hly:ys.length=lb) (hlb:0<lb) (hy:ys.getD (lb - 1) 0=y) (hs31:s≤31) (hs:y*2 ^ s<B):2 ^ s*val ys<B ^ lb:=by
 obtain ⟨k,rfl⟩:∃ k,lb=k+1:=⟨lb - 1,by omega⟩;have h1:=aV ys k;rw [List.take_of_length_le ω] at h1;simp only [Nat.add_sub_cancel] at hy;rw [hy] at h1;have h2:=ij (hd.take k);rw [List.length_take,Nat.min_eq_left ω] at h2;have h3:val ys<B ^ k*(y+1):=by rw [Nat.mul_add];omega
 have h4:2 ^ s*val ys<2 ^ s*(B ^ k*(y+1)):=Nat.mul_lt_mul_of_pos_left h3 (Nat.two_pow_pos s);have h5:(y+1)*2 ^ s≤B:=by
  have e:B=2 ^ (32 - s)*2 ^ s:=by rw [← Nat.pow_add,show 32 - s+s=32 from by omega];rfl
  rw [e] at hs ⊢;have:=Nat.lt_of_mul_lt_mul_right hs;exact Nat.mul_le_mul_right _ this
 have h6:2 ^ s*(B ^ k*(y+1))=B ^ k*((y+1)*2 ^ s):=by grind
 have h7:B ^ k*((y+1)*2 ^ s)≤B ^ k*B:=Nat.mul_le_mul_left _ h5;rw [Nat.pow_succ];omega
set_option maxRecDepth 100000 in
theorem divide_long (a b:Option Addr) (la ca lb cb:Nat) (xs ys:List Nat) (w:World) (ha:Mag w a la ca xs) (hb:Mag w b lb cb ys) (na:Nz xs) (nb:Nz ys) (h1:la≤1000000) (hlb:2≤lb) (hle:val ys≤val xs) :
  Calls Tryz.prog 133 #[.slice a la ca,.slice b lb cb] w fun e w'=>qq w' e (val xs) (val ys)∧Below w.heap.size w w':=by
 have HA:=η ha;have HB:=η hb;have hc:0≤eP (val xs) (val ys):=by unfold eP;rw [if_neg ω];split <;> omega
 have hll:lb≤la:=by have:=fS ha.dg nb hle;have:=ha.len;have:=hb.len;omega
 have lxs:=η ha.len;have lys:=η hb.len;have HNA:=η na;have HNB:=η nb;generalize hcc:eP (val xs) (val ys)=cc at *;have HC:=η hcc;have hne1:(((lb:Nat):Int) == 1)=false:=by rw [beq_eq_false_iff_ne];omega
 obtain ⟨y,hy'⟩:∃ y,ys.getD (lb - 1) 0=y:=⟨_,rfl⟩;have hy0:0<y:=by
  rcases nb with h | h
  ·rw [h] at hb;have:=hb.len;simp at this;omega
  ·rw [hb.len,hy'] at h;omega
 have hyb:y<4294967296:=by rw [← hy'];exact hb.dg.getD _
 obtain ⟨s,hs,hs31,hsB⟩:=lead hy0 hyb;have HY:=η hy';have HSB:=η hsB;clear ha hb hle hcc hy' na nb hsB
 go_enter Tryz.func133,Tryz.ntmps133
 go_wp2_with fail
 refine (fb _ _ _ _ _ _ xs ys _ HA.out HB.out HNA.out HNB.out ω ω).mono ?_;rw [HC.out];rintro e w0 ⟨rfl,hb0⟩;obtain ⟨bb,ob,rfl,hbb,hcb,hyc⟩:=(HB.out.below hb0).cells ω;have hy1:=hyc (lb - 1) ω;rw [HY.out] at hy1;have H0:=η hb0;clear hb0 hyc hbb
 go_wp2_with fail
 refine (Tryz.bits_LeadingZeros32 (y:Int) _ ω ω).mono ?_;rw [Int.toNat_natCast,hs];rintro e w' ⟨rfl,rfl⟩;clear hs hy1
 go_wp2_with fail
 refine (mP _ _ _ s xs _ (HA.out.below H0.out) h1 hs31).mono ?_;rintro e w1 ⟨⟨us,rfl,hou,hdu,hvu⟩,hb1⟩;have OU:=η hou;have DU:=η hdu;have VU:=η hvu;have L1:Hid (Below w.heap.size w w1):=ae H0.out hb1 ρ;have HGU:Hid (w.heap.size≤w'.heap.size):=H0.out.size;obtain ⟨gu,hgu⟩:∃ gu,gu=w'.heap.size:=⟨_,rfl⟩;rw [← hgu] at OU HGU ⊢;clear hou hdu hvu hb1 hgu
 go_wp2_with fail
 refine (mP _ _ _ s ys _ (HB.out.below L1.out) ω hs31).mono ?_;rintro e w2 ⟨⟨vs,rfl,hov,hdv,hvv⟩,hb2⟩;have hgu1:gu<w1.heap.size:=OU.out.lt;have OU2:Hid (Own w2 gu (la+1) us):=OU.out.below hb2 hgu1;have OV:=η hov;have DV:=η hdv;have VV:=η hvv;have L2:Hid (Below w.heap.size w w2):=ae L1.out hb2 ρ;obtain ⟨gv,hgv⟩:∃ gv,gv=w1.heap.size:=⟨_,rfl⟩;rw [← hgv] at OV hgu1 ⊢;clear hov hdv hvv hb2 hgv OU;have lvs:=η OV.out.len
 go_wp2_with fail
 refine (eK _ _ _ vs _ (OV.out.mag DV.out) ω).mono ?_;rintro e w' ⟨⟨n,hm,hn,hnz,hv,rfl⟩,rfl⟩;rw [VV.out] at hv;have hfit:=top_fits HB.out.dg lys.out ω HY.out hs31 HSB.out;have hnl:n=lb:=by
  have hl:(vs.take n).length=n:=hm.len;have e1:=oG hnz (n:=lb) (by rw [hv];exact hfit);have e2:B ^ (lb - 1)≤val ys:=by
   have:=iT HNB.out (by intro h;have:=lys.out;rw [h] at this;simp at this;omega)
   rwa [lys.out] at this
  have e3:B ^ (lb - 1)<B ^ n:=by
   have e4:=ij hm.dg;rw [hl,hv] at e4;have e5:1*val ys≤2 ^ s*val ys:=Nat.mul_le_mul_right _ (Nat.two_pow_pos s);omega
  have:=(Nat.pow_lt_pow_iff_right (by unfold B;omega:1<B)).1 e3;omega
 subst hnl;have MV:=η hm;have VT:=η hv;have NT:=η hnz;have FT:=η hfit;clear hm hnz hv hfit;have hsub:((la:Int) - n)+1=((la - n+1:Nat):Int):=ω
 go_wp2_with (at_make;refine fA _ rfl _ _ rfl _ _ _ _ rfl rfl (la - n+1) ?c1 ?c2 ?c3 ?_)
 case c1=>omega
 case c2=>omega
 case c3=>omega
 intro w3 hoq hb3;have OQ:=η hoq;have HB3:=η hb3;have L3:Hid (Below w.heap.size w w3):=ae L2.out hb3 ρ;have hgq1:gv<w2.heap.size:=OV.out.lt;have OU3:Hid (Own w3 gu (la+1) us):=OU2.out.below hb3 ω;have MV3:Hid (Mag w3 (some ⟨gv,0,none⟩) n (n+1) (vs.take n)):=MV.out.below hb3;have HGQ:Hid (w.heap.size≤w2.heap.size):=L2.out.size;obtain ⟨gq,hgq⟩:∃ gq,gq=w2.heap.size:=⟨_,rfl⟩;rw [← hgq] at OQ hgq1 HGQ ⊢;clear hoq hb3 hgq hsub;have V0:Hid (0<2 ^ s*val ys):=Nat.mul_pos (Nat.two_pow_pos s) (eh HNB.out (by intro h;have:=lys.out;rw [h] at this;simp at this;omega));have TOP:Hid (val (us.drop (la - n+1))<2 ^ s*val ys):=top_less HA.out.dg lxs.out OU2.out.len lys.out HNB.out ω hll VU.out;go_wp2;have HNZ:Hid (0<(vs.take n).getD (n - 1) 0):=by
  have hl:(vs.take n).length=n:=MV3.out.len
  rcases NT.out with h | h
  ·rw [h] at hl;simp at hl;omega
  ·rw [hl] at h;show 0<_;omega
 clear L1 L2 OU2 MV HY
 go_loopw [11] (fun iv wr=>∃ k us' qs,k≤la - n+1∧iv=.int .i64 ((k:Int) - 1)∧Own wr gu (la+1) us'∧Own wr gq (la - n+1) qs∧Mag wr (some ⟨gv,0,none⟩) n (n+1) (vs.take n)∧DivI (val us) (2 ^ s*val ys) k us' qs∧Below w.heap.size w wr) (fun iv _=>(intOf iv+1).toNat)
 case atStart=>exact ⟨la - n+1,us,_,Nat.le_refl _,jl ω,OU3.out,OQ.out,MV3.out,⟨DU.out,Dg.zeros _,by rw [om];simp,TOP.out,fun j _=>by simp [List.getElem?_replicate];split <;> rfl⟩,L3.out⟩
 case round =>
  obtain ⟨k,us',qs,hk,rfl,hou,hoq,hmv,hdi,hbl⟩:=hrel;have OU4:=η hou;have OQ4:=η hoq;have MV4:=η hmv;have DI:=η hdi;have L4:=η hbl;clear hou hoq hmv hdi hbl;by_cases hk0:0<k
  ·obtain ⟨i,rfl⟩:∃ i,k=i+1:=⟨k - 1,by omega⟩
   have ei:(((i+1:Nat):Int) - 1)=(i:Int):=ω;rw [ei];clear ei;have WN:=η (DI.out.window (n:=n) FT.out (by rw [OU4.out.len];omega))
   go_wp2_with fail
   rw [show i+n+1 - i=n+1 from by omega];refine (digit_any gu i (la+1) n (la+1 - i) gv 0 (n+1) us' (vs.take n) wr OU4.out DI.out.1 ω ω MV4.out ω hlb ω HNZ.out (by rw [VT.out];exact WN.out.2.2)).mono ?_;rw [VT.out];rintro e w5 ⟨us2,rfl,hou2,hdu2,hw2,hs2,ht2⟩;have OU5:=η hou2;have DI5:=η (DI.out.step V0.out FT.out (by rw [OU4.out.len];omega) (by rw [OQ4.out.len];omega) (by rw [hou2.len,OU4.out.len]) hdu2 hw2 hs2);have OQ5:=η (OQ4.out.touch ht2 ω);have MV5:=η (MV4.out.touch ht2 ω);have L5:Hid (Below w.heap.size w w5):=Tch.below L4.out ht2 HGU.out L4.out.size;have hqc:=OQ5.out.cell i ω;have hqf:=OQ5.out.free i;obtain ⟨qd,hqd⟩:∃ qd,val (win us' i (n+1)) / (2 ^ s*val ys)=qd:=⟨_,rfl⟩;rw [hqd] at DI5 ⊢;have hqb:qd<4294967296:=by
    rw [← hqd,Nat.div_lt_iff_lt_mul V0.out,Nat.mul_comm];exact WN.out.2.2
   clear hou2 hdu2 hw2 hs2 ht2 hqd;go_wp2
   go_roundw
   case rel =>
    exact ⟨i,us2,qs.set i qd,by omega,rfl,(OU5.out.kept (heap_setCell_other _ _ _ _ (by show gu≠gq;omega))),OQ5.out.stored _ _ _ rfl,MV5.out.touch ((Tch.refl gq w5).set i _) ω,DI5.out,L5.out.setCell HGQ.out _⟩
   case measure=>simp [intOf]
  ·obtain rfl:k=0:=ω
   clear hk0
   go_wp2_with fail
   refine (eK _ _ _ qs _ (OQ4.out.mag DI.out.2.1) ω).mono ?_;rintro e w' ⟨⟨n1,hm1,hn1,hnz1,hv1,rfl⟩,rfl⟩;have M1:=η hm1;have N1:=η hnz1;have V1:=η hv1;clear hm1 hnz1 hv1
   go_wp2_with fail
   refine (eK _ _ _ us' _ (OU4.out.mag DI.out.1) ω).mono ?_;rintro e w' ⟨⟨n2,hm2,hn2,hnz2,hv2,rfl⟩,rfl⟩;have M2:=η hm2;have V2:=η hv2;clear hm2 hnz2 hv2
   go_wp2_with fail
   refine (lowered_any gu 0 n2 (la+1) s _ _ M2.out ω hs31).mono ?_;rintro e w6 ⟨⟨a3,n3,c3,d3,rfl,hm3,hnz3,hv3,hle3⟩,hb6⟩;rw [V2.out] at hv3;have M3:=η hm3;have N3:=η hnz3;have V3:=η hv3;have L6:Hid (Below w.heap.size w w6):=ae L4.out hb6 ρ;have M1':=η (M1.out.below hb6);clear hm3 hnz3 hv3 hb6;go_wp2
   go_ret2
   obtain ⟨d1,d2,d4,d5,-⟩:=DI.out;rw [List.drop_zero] at d5;have hu0:=VU.out;have hdiv:val qs=val xs / val ys∧val us'=2 ^ s*(val xs % val ys):=by
    have e1:val us / (2 ^ s*val ys)=val qs:=by
     rw [d4,Nat.mul_add_div V0.out,Nat.div_eq_of_lt d5,Nat.add_zero]
    have e2:val us % (2 ^ s*val ys)=val us':=by
     rw [d4,Nat.mul_add_mod,Nat.mod_eq_of_lt d5]
    rw [hu0,Nat.mul_div_mul_left _ _ (Nat.two_pow_pos s)] at e1;rw [hu0,Nat.mul_mod_mul_left] at e2;exact ⟨e1.symm,e2.symm⟩
   refine ⟨⟨_,_,_,_,_,_,_,_,rfl,M1'.out,N1.out,by rw [V1.out];exact hdiv.1,M3.out,N3.out,?_⟩,L6.out⟩;rw [V3.out,hdiv.2,Nat.mul_div_cancel_left _ (Nat.two_pow_pos s)]
theorem jK (a b:Option Addr) (la ca lb cb:Nat) (xs ys:List Nat) (w:World) (ha:Mag w a la ca xs) (hb:Mag w b lb cb ys) (na:Nz xs) (nb:Nz ys) (h1:la≤1000000) (h2:lb≤1000000) (hy:0<val ys) :
  Calls Tryz.prog 133 #[.slice a la ca,.slice b lb cb] w fun e w'=>qq w' e (val xs) (val ys)∧Below w.heap.size w w':=by
 by_cases hlt:val xs<val ys
 ·exact divide_less a b la ca lb cb xs ys w ha hb na nb h1 h2 hlt
 ·by_cases hl1:lb=1
  ·subst hl1
   exact divide_one a b la ca cb xs ys w ha hb na nb h1 ω
  ·refine divide_long a b la ca lb cb xs ys w ha hb na nb h1 ?_ ω
   have:=hb.len
   rcases Nat.lt_or_ge lb 1 with h | h
   ·have:ys=[]:=List.length_eq_zero_iff.1 ω
    rw [this] at hy;simp [val] at hy
   ·omega
#print axioms jK
end Go.Proofs.Υ
end
