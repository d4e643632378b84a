/- Package cell: side. The points of a set of bits, one by one. Package cell: ring. Package vector: Compare. Printed by gen/vec5.py. Package vector: Cross, Det. Printed by gen/vec6.py. Package vector: Det. Printed by gen/vec7.py. Package vector: Primitive. Printed by gen/vec8.py. Rationals with one denominator. -/
import Derived.Test.YtaibkpbklfodiaaGreatDoorP6
import Derived.Test.YtaibkpbklfodiaaGreatDoorP10
import Derived.Test.YtaibkpbklfodiaaGreatDoorP1
import Derived.Test.YtaibkpbklfodiaaGreatDoorP17
set_option linter.all false
set_option maxHeartbeats 100000000
section
namespace Dowel
open Go Go.RowKit
def kO (n:V) (o:Nat):Value:=.agg #[.int .i64 n.x,.int .i64 n.y,.int .i64 n.z,.int .u64 (o:Int)]
def eR (P:Nat→V) (N i j m:Nat) (n:V):Prop:=
 tri P i j m≠V.zero∧(n=tri P i j m∨n=-tri P i j m)∧(∀ q,q<N→V.dot n (P q - P i)≤0)∧∃ q,q<N∧V.dot n (P q - P i)<0
def cH (P:Nat→V) (N:Nat) (n:V) (i:Nat):Nat:=iW (fun q=>decide (V.dot n (P q - P i)=0)) N
def RetSide (P:Nat→V) (N i j m:Nat) (e:Ending):Prop:=
 (∃ n,eR P N i j m n∧e=.returned (.tuple #[kO n (cH P N n i),.bool true]))∨((∀ n,¬ eR P N i j m n)∧∃ n o,e=.returned (.tuple #[kO n o,.bool false]))
def eX (P:Nat→V) (i:Nat) (n:V) (k:Nat) (l1 l2:Bool) (o:Nat):Prop:=
 (l1=true↔∃ q,q<k∧V.dot n (P q - P i)<0)∧(l2=true↔∃ q,q<k∧0<V.dot n (P q - P i))∧o=iW (fun q=>decide (V.dot n (P q - P i)=0)) k
theorem kS (p:Nat→Bool) (k:Nat):iW p (k+1)=iW p k ||| (if p k then 2 ^ k else 0):=rfl
theorem eX.zero (P:Nat→V) (i:Nat) (n:V):eX P i n 0 false false 0:=⟨by simp,by simp,rfl⟩
theorem jo {p:Nat→Prop} {k:Nat}:(∃ q,q<k+1∧p q)↔(∃ q,q<k∧p q)∨p k:=
 ⟨fun ⟨q,h,hp⟩=>by
  by_cases e:q=k
  ·exact .inr (e ▸ hp)
  ·exact .inl ⟨q,by omega,hp⟩,fun h=>by
  rcases h with ⟨q,h,hp⟩ | hp
  ·exact ⟨q,by omega,hp⟩
  ·exact ⟨k,by omega,hp⟩⟩
theorem eX.neg {P:Nat→V} {i k o:Nat} {n:V} {l1 l2:Bool} (h:eX P i n k l1 l2 o) (hd:V.dot n (P k - P i)<0):eX P i n (k+1) true l2 o:=by
 obtain ⟨h1,h2,h3⟩:=h;refine ⟨by rw [jo];simp [hd],by rw [jo,h2];simp;omega,?_⟩;rw [h3,kS,if_neg (by simp;omega),Nat.or_zero]
theorem eX.pos {P:Nat→V} {i k o:Nat} {n:V} {l1 l2:Bool} (h:eX P i n k l1 l2 o) (hd:0<V.dot n (P k - P i)):eX P i n (k+1) l1 true o:=by
 obtain ⟨h1,h2,h3⟩:=h;refine ⟨by rw [jo,h1];simp;omega,by rw [jo];simp [hd],?_⟩;rw [h3,kS,if_neg (by simp;omega),Nat.or_zero]
theorem eX.zer {P:Nat→V} {i k o:Nat} {n:V} {l1 l2:Bool} (h:eX P i n k l1 l2 o) (hd:V.dot n (P k - P i)=0):eX P i n (k+1) l1 l2 (o ||| 2 ^ k):=by
 obtain ⟨h1,h2,h3⟩:=h;refine ⟨by rw [jo,h1];simp;omega,by rw [jo,h2];simp;omega,?_⟩;rw [h3,kS,if_pos (by simp [hd])]
theorem shl_or (o k:Nat) (ho:o<18446744073709551616) (hk:k<64):bits .or .u64 (o:Int) (IntKind.u64.wrap ((2:Int) ^ k))=((o ||| 2 ^ k:Nat):Int):=by
 have h2:2 ^ k<18446744073709551616:=Nat.lt_of_lt_of_le (Nat.pow_lt_pow_right ω hk) ν;have e:IntKind.u64.wrap ((2:Int) ^ k)=((2 ^ k:Nat):Int):=by
  rw [IntKind.wrap_u64,show ((2:Int) ^ k)=((2 ^ k:Nat):Int) by simp];generalize 2 ^ k=x at *;omega
 rw [e,u64_or_nat _ _ ho h2]
theorem eX.lt {P:Nat→V} {i k o:Nat} {n:V} {l1 l2:Bool} (h:eX P i n k l1 l2 o) (hk:k≤64):o<18446744073709551616:=by
 rw [h.2.2];exact Nat.lt_of_lt_of_le (j9 _ _) (Nat.pow_le_pow_right ω hk)
theorem eX.done {P:Nat→V} {i j m k o:Nat} {n:V} {l1 l2:Bool} (h:eX P i n k l1 l2 o) (ht:tri P i j m=n) (h0:n≠V.zero) :
  (l2=false→l1=true→eR P k i j m n∧o=cH P k n i)∧(l2=true→l1=false→eR P k i j m (-n)∧o=cH P k (-n) i)∧(l1=l2→∀ n',¬ eR P k i j m n'):=by
 obtain ⟨h1,h2,h3⟩:=h;refine ⟨fun a b=>?_,fun a b=>?_,fun e n' hs=>?_⟩
 ·subst a;subst b
  refine ⟨⟨by rw [ht];exact h0,.inl ht.symm,fun q hq=>?_,by simpa using h1⟩,h3⟩;have:¬ 0<V.dot n (P q - P i):=fun hp=>by have:=h2.mpr ⟨q,hq,hp⟩;cases this
  omega
 ·subst a;subst b
  refine ⟨⟨by rw [ht];exact h0,.inr (by rw [ht]),fun q hq=>?_,?_⟩,?_⟩
  ·rw [bo]
   have:¬ V.dot n (P q - P i)<0:=fun hp=>by have:=h1.mpr ⟨q,hq,hp⟩;cases this
   omega
  ·obtain ⟨q,hq,hp⟩:=h2.mp rfl
   exact ⟨q,hq,by rw [bo];omega⟩
  ·rw [h3];unfold cH
   exact ip _ _ _ fun q _=>by rw [bo];congr 1;simp
 ·obtain ⟨_,hn,ha,q,hq,hp⟩:=hs
  rw [ht] at hn
  rcases hn with rfl | rfl
  ·have t1:=h1.mpr ⟨q,hq,hp⟩
   obtain ⟨q',hq',hp'⟩:=h2.mp (by rw [← e];exact t1);have:=ha q' hq';omega
  ·rw [bo] at hp
   have t2:=h2.mpr ⟨q,hq,by omega⟩;obtain ⟨q',hq',hp'⟩:=h1.mp (by rw [e];exact t2);have:=ha q' hq';rw [bo] at this;omega
end Dowel
namespace Go.Proofs.Υ
open Go.RowKit Dowel
theorem kW:(Tryz.prog.info? 120).map (·.size)=some 4:=by kernel_rfl
set_option maxRecDepth 10000 in
theorem side_any (a:Option Addr) (len cap i j m:Nat) (P:Nat→V) (w:World) (hP:Pts w a len cap P) (hlen:len≤64) (hnear:∀ i,i<len→LeV 4096 (P i)) (hi:i<len) (hj:j<len) (hm:m<len) :
    Calls Tryz.prog 143 #[.slice a len cap,.int .i64 (i:Int),.int .i64 (j:Int),.int .i64 (m:Int)] w fun e w'=>RetSide P len i j m e∧Below w.heap.size w w':=by
  obtain ⟨W,hW,b1,hB,hS⟩:=aG w #[.int .i64 0,.int .i64 0,.int .i64 0,.int .u64 0] 120;have HP:=η (hP.below hB);have HN:=η hnear;have B1:=η b1;have HB:=η hB;have HS:=η hS;have HW:=η hW;have i1:((i:Nat):Int)<(len:Int):=ω;have i2:((j:Nat):Int)<(len:Int):=ω;have i3:((m:Nat):Int)<(len:Int):=ω;obtain ⟨b,off,rfl,hb,hc,hcc⟩:=HP.out.cells ω;obtain ⟨pi0,pi1,pi2⟩:=hcc i hi;obtain ⟨pj0,pj1,pj2⟩:=hcc j hj;obtain ⟨pm0,pm1,pm2⟩:=hcc m hm;have ni:=HN.out i hi;have nj:=HN.out j hj;have nm:=HN.out m hm;have ht:tri P i j m=V.cross (P j - P i) (P m - P i):=rfl;generalize hpi:P i=pi at ni ht pi0 pi1 pi2;have HPI:=η hpi;generalize hpj:P j=pj at nj ht pj0 pj1 pj2;generalize hpm:P m=pm at nm ht pm0 pm1 pm2;have KP:Hid (∀ w',Below W.heap.size W w'→w'.cell? ⟨b,off+j*3,none⟩=some (.int .i64 pj.x)∧w'.cell? ⟨b,off+j*3+1,none⟩=some (.int .i64 pj.y)∧w'.cell? ⟨b,off+j*3+2,none⟩=some (.int .i64 pj.z)∧w'.cell? ⟨b,off+i*3,none⟩=some (.int .i64 pi.x)∧w'.cell? ⟨b,off+i*3+1,none⟩=some (.int .i64 pi.y)∧w'.cell? ⟨b,off+i*3+2,none⟩=some (.int .i64 pi.z)∧w'.cell? ⟨b,off+m*3,none⟩=some (.int .i64 pm.x)∧w'.cell? ⟨b,off+m*3+1,none⟩=some (.int .i64 pm.y)∧w'.cell? ⟨b,off+m*3+2,none⟩=some (.int .i64 pm.z)):=fun w' h =>
    ⟨keepC pj0 h hb,keepC pj1 h hb,keepC pj2 h hb,keepC pi0 h hb,keepC pi1 h hb,keepC pi2 h hb,keepC pm0 h hb,keepC pm1 h hb,keepC pm2 h hb⟩
  have nij:=nj.sub ni;have nim:=nm.sub ni;have L0:=η (Below.refl W.heap.size W);have L00:Hid (Below W.heap.size W W.drew):=L0.out.drew;have hcr:=fun v=>jO (pj - pi) (pm - pi) 8192 8192 v nij nim ω
  have hnl:=nij.cross nim;rw [← ht] at hcr hnl;generalize htr:tri P i j m=nn at *;have HTR:=η htr;have HCR:Hid (∀ v,Calls Tryz.prog 112 #[bX (pj - pi),bX (pm - pi)] v fun e w'=>e=.returned (.agg #[.int .i64 nn.x,.int .i64 nn.y,.int .i64 nn.z])∧Below v.heap.size v w'):=hcr;have HNL:=η hnl;have hf1:=KP.out _ L0.out;clear hP hnear b1 hB hS hW hcc pi0 pi1 pi2 pj0 pj1 pj2 pm0 pm1 pm2 ht htr hcr hnl hpi hpj hpm
  go_enter Tryz.func143,Tryz.ntmps143
  go_upto_region 1 with fail
  rw [HW.out]
  go_cut [10] from 17 to 35 (fun pv wx=>∃ nb:Nat,pv=.pointer (some ⟨nb,0,none⟩)∧Hid (Box wx nb #[.int .i64 nn.x,.int .i64 nn.y,.int .i64 nn.z] 46)∧Hid (Below W.heap.size W wx)∧Hid (W.heap.size≤nb))
  case first =>
    go_wp2_with fail
    go_region_held3 (fun w'=>w'.cell? ⟨b,off+j*3,none⟩=some (.int .i64 pj.x)∧w'.cell? ⟨b,off+j*3+1,none⟩=some (.int .i64 pj.y)∧w'.cell? ⟨b,off+j*3+2,none⟩=some (.int .i64 pj.z)∧w'.cell? ⟨b,off+i*3,none⟩=some (.int .i64 pi.x)∧w'.cell? ⟨b,off+i*3+1,none⟩=some (.int .i64 pi.y)∧w'.cell? ⟨b,off+i*3+2,none⟩=some (.int .i64 pi.z)∧w'.cell? ⟨b,off+m*3,none⟩=some (.int .i64 pm.x)∧w'.cell? ⟨b,off+m*3+1,none⟩=some (.int .i64 pm.y)∧w'.cell? ⟨b,off+m*3+2,none⟩=some (.int .i64 pm.z))
      (first | with_reducible exact (KP.out _ L3.out)
             | with_reducible exact (KP.out _ (L3.out.alloc L3.out.size _))
             | with_reducible exact (KP.out _ L2.out)
             | with_reducible exact (KP.out _ (L2.out.alloc L2.out.size _))
             | with_reducible exact (KP.out _ L1.out)
             | with_reducible exact (KP.out _ (L1.out.alloc L1.out.size _))
             | with_reducible exact (KP.out _ L00.out)
             | with_reducible exact (KP.out _ (L0.out.alloc L0.out.size _).drew)
             | with_reducible exact (KP.out _ (((L3.out.setCell NL.out _).setCell NL.out _).setCell NL.out _)))
      (first
        | (have _g:=L2.out;clear _g;go_at_call 112;refine (HCR.out _).mono ?_;rintro e w3 ⟨rfl,hb3⟩
           have L3:=η (show Below W.heap.size W w3 from by first | with_reducible exact ae L2.out hb3 ρ | with_reducible exact ae (L2.out.alloc L2.out.size _) hb3 ρ)
           first
             | (have NB:=η (show Box w3 _ _ _ from by with_reducible exact NB.out.below hb3 NB.out.lt)
                obtain ⟨n0,n1,n2,n3,n4,n5⟩:=NB.out.three)
             | (have NB:=η (show Box w3 _ #[.int .i64 0,.int .i64 0,.int .i64 0] 46 from by with_reducible exact (Box.new _ _ _ _ rfl).below hb3 (by simp))
                have NL:=η L2.out.size;obtain ⟨n0,n1,n2,n3,n4,n5⟩:=NB.out.three)
             | skip
           clear hb3)
        | (have _g:=L1.out;clear _g;go_at_call 113;refine (fC pm pi 4096 4096 _ nm ni ω).mono ?_;rintro e w2 ⟨rfl,hb2⟩
           have L2:=η (show Below W.heap.size W w2 from by first | with_reducible exact ae L1.out hb2 ρ | with_reducible exact ae (L1.out.alloc L1.out.size _) hb2 ρ)
           first
             | (have NB:=η (show Box w2 _ _ _ from by with_reducible exact NB.out.below hb2 NB.out.lt)
                obtain ⟨n0,n1,n2,n3,n4,n5⟩:=NB.out.three)
             | (have NB:=η (show Box w2 _ #[.int .i64 0,.int .i64 0,.int .i64 0] 46 from by with_reducible exact (Box.new _ _ _ _ rfl).below hb2 (by simp))
                have NL:=η L1.out.size;obtain ⟨n0,n1,n2,n3,n4,n5⟩:=NB.out.three)
             | skip
           clear hb2)
        | (go_at_call 113;refine (fC pj pi 4096 4096 _ nj ni ω).mono ?_;rintro e w1 ⟨rfl,hb1⟩
           have L1:=η (show Below W.heap.size W w1 from by first | with_reducible exact ae L00.out hb1 ρ | with_reducible exact ae (L0.out.alloc L0.out.size _).drew hb1 ρ)
           first
             | (have NB:=η (show Box w1 _ _ _ from by with_reducible exact NB.out.below hb1 NB.out.lt)
                obtain ⟨n0,n1,n2,n3,n4,n5⟩:=NB.out.three)
             | (have NB:=η (show Box w1 _ #[.int .i64 0,.int .i64 0,.int .i64 0] 46 from by with_reducible exact (Box.new _ _ _ _ rfl).drew.below hb1 (Box.new _ _ _ _ rfl).drew.lt)
                have NL:=η L0.out.size;obtain ⟨n0,n1,n2,n3,n4,n5⟩:=NB.out.three)
             | skip
           clear hb1))
    all_goals
      go_wp2_with fail
      go_meet
    all_goals first
      | (with_reducible exact ⟨_,rfl,η (Box.new _ _ _ _ rfl),η (L3.out.alloc L3.out.size _),η L3.out.size⟩)
      | (with_reducible exact ⟨_,rfl,η (NB.out.set3 _ _ _),η (((L3.out.setCell NL.out _).setCell NL.out _).setCell NL.out _),η NL.out⟩)
  case rest =>
    obtain ⟨nb,rfl,hnb,hbc,hnl⟩:=hcut;have hcc2:=η HP.out;obtain ⟨c0,c1,c2,-⟩:=hnb.out.three;have e46:=eq46;have b1c:=B1.out.below hbc.out (ψ HS.out);obtain ⟨d0,d1,d2,d3,d4,d5,d6,d7⟩:=b1c.four;have B1C:=η b1c;clear hf1 KP HCR b1c;by_cases hz:nn=V.zero
    · rw [hz] at c0 c1 c2
      simp only [V.zero] at c0 c1 c2;have HZ:=η hz;clear hz;go_wp2;exact bP Tryz.results143 w.heap.size (B1C.out.set4 (.int .i64 0) (.int .i64 0) (.int .i64 0) (.int .u64 0)) _ rfl Tryz.underlying120 rfl kW rfl
        ⟨.inr ⟨fun n h=>h.1 (by rw [HTR.out];exact HZ.out),V.zero,0,rfl⟩,aU (ae HB.out hbc.out (ψ HS.out)) ρ _ _ _ _⟩
    · have hzz:(nn.x == 0 && nn.y == 0 && nn.z == 0)=false:=by
        rw [Bool.eq_false_iff];intro h;simp at h;exact hz (V.ext' h.1.1 h.1.2 h.2)
      have HZ:=η hz;clear hz
      go_wp2_with fail
      obtain ⟨Wp,hWp,bp,hBp,hSp⟩:=aG wc #[.int .i64 nn.x,.int .i64 nn.y,.int .i64 nn.z,.int .u64 0] 120;rw [hWp];have BP:=η bp;have HBP:=η hBp;have HSP:=η hSp;have hgl:nb<wc.heap.size:=hnb.out.lt;clear hWp bp hBp hSp d0 d1 d2 d3 d4 d5 d6 d7 c0 c1 c2 e46 hzz
      go_loopw [12,13,44] (fun lv mv v wr=>∃ k l1 l2 o,k≤len∧lv=.bool l1∧mv=.bool l2∧v=.int .i64 (k:Nat)∧Hid (eX P i nn k l1 l2 o)∧Hid (Box wr wc.heap.size #[.int .i64 nn.x,.int .i64 nn.y,.int .i64 nn.z,.int .u64 (o:Nat)] 120)∧Hid (Below wc.heap.size wc wr)) (fun _ _ v _=>len - (intOf v).toNat)
      case atStart=>exact ⟨0,false,false,0,Nat.zero_le _,rfl,rfl,rfl,eX.zero P i nn,BP.out,HBP.out⟩
      case round =>
        obtain ⟨k,l1,l2,o,hk,rfl,rfl,rfl,HI,HX,HR⟩:=hrel;by_cases h0:k=len
        · have hn:¬ (k:Int)<(len:Int):=ω
          have H0:=η h0;clear h0;have b1r:=B1C.out.below HR.out B1C.out.lt;have hnbr:=hnb.out.below HR.out hgl;obtain ⟨x0,x1,x2,x3,x4,x5,x6,x7⟩:=HX.out.four;obtain ⟨y0,y1,y2,y3,y4,y5,y6,y7⟩:=b1r.four;have B1R:=η b1r;have hgn:w.heap.size≠wc.heap.size:=by have:=B1C.out.lt;omega
          have HIL:Hid (eX P i nn len l1 l2 o):=by rw [← H0.out];exact HI.out
          have hall:=ae (ae HB.out hbc.out (ψ HS.out)) HR.out (by have:=HS.out;have:=HB.out.size;omega);have HALL:=η hall;clear b1r hall;cases l2
          · go_wp2
            refine bP Tryz.results143 w.heap.size (B1R.out.set4 (.int .i64 nn.x) (.int .i64 nn.y) (.int .i64 nn.z) (.int .u64 (o:Nat))) _ rfl Tryz.underlying120 rfl kW rfl
              ⟨?_,aU HALL.out ρ _ _ _ _⟩
            have hd:=HIL.out.done HTR.out HZ.out;cases l1
            · exact .inr ⟨hd.2.2 rfl,nn,o,rfl⟩
            · have:=hd.1 rfl rfl
              exact .inl ⟨nn,this.1,by rw [← this.2];rfl⟩
          · obtain ⟨c0,c1,c2,-⟩:=hnbr.three
            go_wp2_with fail
            have hcs:∀ v,Calls Tryz.prog 113 #[.agg #[.int .i64 0,.int .i64 0,.int .i64 0],.agg #[.int .i64 nn.x,.int .i64 nn.y,.int .i64 nn.z]] v fun e w'=>e=.returned (.agg #[.int .i64 (-nn).x,.int .i64 (-nn).y,.int .i64 (-nn).z])∧Below v.heap.size v w':=fun v =>
              (fC V.zero nn 1 200000000 v ⟨⟨by decide,by decide⟩,⟨by decide,by decide⟩,by decide,by decide⟩ (HNL.out.mono ω) ω).mono fun e w' h=>⟨by
                rw [h.1];show Ending.returned (.agg #[.int .i64 (0 - nn.x),.int .i64 (0 - nn.y),.int .i64 (0 - nn.z)])=_;simp only [V.neg_x,V.neg_y,V.neg_z,Int.zero_sub],h.2⟩
            refine (hcs _).mono ?_;clear hcs;rintro e w1 ⟨rfl,hb1⟩;have hXl:=HX.out.below hb1 HX.out.lt;have hBl:=B1R.out.below hb1 B1R.out.lt;have HXL:=η hXl;have HBL:=η hBl;obtain ⟨x0,x1,x2,x3,x4,x5,x6,x7⟩:=hXl.four;obtain ⟨y0,y1,y2,y3,y4,y5,y6,y7⟩:=hBl.four;have hal:=ae HALL.out hb1 (ψ HALL.out.size);have HAL:=η hal;have HNE:=η hgn;clear hXl hBl hal hb1;generalize hng:-nn=ng at *;have HNG:=η hng;clear hng;go_wp2;refine bP Tryz.results143 w.heap.size ((HBL.out.other3 HNE.out (.int .i64 ng.x) (.int .i64 ng.y) (.int .i64 ng.z)).set4 (.int .i64 ng.x) (.int .i64 ng.y) (.int .i64 ng.z) (.int .u64 (o:Nat))) _ rfl Tryz.underlying120 rfl kW rfl
              ⟨?_,aU (ew HAL.out (ψ B1C.out.lt) _ _ _) ρ _ _ _ _⟩
            have hd:=HIL.out.done HTR.out HZ.out;rw [HNG.out] at hd;cases l1
            · have:=hd.2.1 rfl rfl
              exact .inl ⟨ng,this.1,by rw [← this.2];rfl⟩
            · exact .inr ⟨hd.2.2 rfl,ng,o,rfl⟩
        · have hlt:(k:Int)<(len:Int):=ω
          have hkl:k<len:=ω;clear h0;obtain ⟨b',off',e',hb',hc',hcc⟩:=(hcc2.out.below (ae hbc.out HR.out ρ)).cells ω;cases e';obtain ⟨q0,q1,q2⟩:=hcc k hkl;clear hcc;go_wp2;obtain ⟨Wk,hWk,bk,hBk,hSk⟩:=aG wr #[.int .i64 (P k).x,.int .i64 (P k).y,.int .i64 (P k).z] 46;rw [hWk];have hBWk:=ae (ae hbc.out HR.out ρ) hBk ρ;have hcWk:=ae HR.out hBk ρ;have hxk:=HX.out.below hBk HX.out.lt;obtain ⟨b',off',e',hb',hc',hcc⟩:=(hcc2.out.below hBWk).cells ω;cases e';obtain ⟨r0,r1,r2⟩:=hcc i hi;obtain ⟨s0,s1,s2,-⟩:=bk.three;obtain ⟨t0,t1,t2,-⟩:=(hnb.out.below hcWk hgl).three;have nk:=HN.out k hkl;rw [HPI.out] at r0 r1 r2;generalize hpk:P k=pk at *;have HPK:=η hpk;have hgw:wr.heap.size<Wk.heap.size:=ω;have hnw:nb<Wk.heap.size:=by have:=hcWk.size;omega
          have KQ:Hid (∀ w',Below Wk.heap.size Wk w'→w'.cell? ⟨nb,0,none⟩=some (.int .i64 nn.x)∧w'.cell? ⟨nb,1,none⟩=some (.int .i64 nn.y)∧w'.cell? ⟨nb,2,none⟩=some (.int .i64 nn.z)∧w'.cell? ⟨wr.heap.size,0,none⟩=some (.int .i64 pk.x)∧w'.cell? ⟨wr.heap.size,1,none⟩=some (.int .i64 pk.y)∧w'.cell? ⟨wr.heap.size,2,none⟩=some (.int .i64 pk.z) ∧
              w'.cell? ⟨b,off+i*3,none⟩=some (.int .i64 pi.x)∧w'.cell? ⟨b,off+i*3+1,none⟩=some (.int .i64 pi.y)∧w'.cell? ⟨b,off+i*3+2,none⟩=some (.int .i64 pi.z)):=fun w' h =>
            ⟨keepC t0 h hnw,keepC t1 h hnw,keepC t2 h hnw,keepC s0 h hgw,keepC s1 h hgw,keepC s2 h hgw,keepC r0 h hb',keepC r1 h hb',keepC r2 h hb'⟩
          have M0:=η (Below.refl Wk.heap.size Wk);have M00:Hid (Below Wk.heap.size Wk Wk.drew):=M0.out.drew;have HBWk:=η hcWk;have HXK:=η hxk;have nki:=nk.sub ni;have nnl:LeV 200000000 nn:=HNL.out.mono ω;clear hWk hBk hSk hcc r0 r1 r2 s0 s1 s2 t0 t1 t2 hBWk hcWk hxk hpk q0 q1 q2;have hf2:=KQ.out _ M0.out
          go_region_held3 (fun w'=>w'.cell? ⟨nb,0,none⟩=some (.int .i64 nn.x)∧w'.cell? ⟨nb,1,none⟩=some (.int .i64 nn.y)∧w'.cell? ⟨nb,2,none⟩=some (.int .i64 nn.z)∧w'.cell? ⟨wr.heap.size,0,none⟩=some (.int .i64 pk.x)∧w'.cell? ⟨wr.heap.size,1,none⟩=some (.int .i64 pk.y)∧w'.cell? ⟨wr.heap.size,2,none⟩=some (.int .i64 pk.z) ∧
              w'.cell? ⟨b,off+i*3,none⟩=some (.int .i64 pi.x)∧w'.cell? ⟨b,off+i*3+1,none⟩=some (.int .i64 pi.y)∧w'.cell? ⟨b,off+i*3+2,none⟩=some (.int .i64 pi.z))
            (first | with_reducible exact (KQ.out _ M2.out) | with_reducible exact (KQ.out _ M1.out) | with_reducible exact (KQ.out _ M00.out))
            (first
              | (have _g:=M1.out;clear _g;go_at_call 115;refine (kj nn (pk - pi) 200000000 8192 _ nnl nki ω).mono ?_;rintro e w2 ⟨rfl,hb2⟩
                 have M2:Hid (Below Wk.heap.size Wk w2):=ae M1.out hb2 ρ;clear hb2)
              | (go_at_call 113;refine (fC pk pi 4096 4096 _ nk ni ω).mono ?_;rintro e w1 ⟨rfl,hb1⟩
                 have M1:Hid (Below Wk.heap.size Wk w1):=ae M00.out hb1 ρ;clear hb1))
          have HRn:=η (ae HBWk.out M2.out ρ);have hxn:=HXK.out.below M2.out HXK.out.lt;have HXN:=η hxn;clear hf2;have hd:=η (show V.dot nn (pk - pi)=V.dot nn (pk - pi) from rfl);generalize hdd:V.dot nn (pk - pi)=d at *;have HD:Hid (V.dot nn (P k - P i)=d):=by rw [HPK.out,HPI.out];exact hdd
          clear hd hdd
          rcases Int.lt_trichotomy d 0 with hl | hl | hl
          · have HL:=η hl
            go_wp2;go_round
            case rel=>exact ⟨k+1,true,l2,o,by omega,rfl,rfl,rfl,HI.out.neg (by rw [HD.out];exact HL.out),HXN.out,HRn.out⟩
            case measure=>show len - ((k:Int)+1).toNat<len - (k:Int).toNat;omega
          · have HL:=η hl
            obtain ⟨x0,x1,x2,x3,x4,x5,x6,x7⟩:=hxn.four
            go_wp2_with fail
            have hk63:(k:Int)<64:=ω;have hk0:(0:Int)≤(k:Int):=ω;go_region;have hor:=shl_or o k (HI.out.lt ω) ω;go_wp2;go_round
            case rel=>exact ⟨k+1,l1,l2,o ||| 2 ^ k,by omega,rfl,rfl,rfl,HI.out.zer (by rw [HD.out];exact HL.out),(by rw [← hor];exact (HXN.out.set 3 _).drew),(HRn.out.setCell (by show wc.heap.size≤wc.heap.size;omega) _).drew⟩
            case measure=>show len - ((k:Int)+1).toNat<len - (k:Int).toNat;omega
          · have HL:=η hl
            have hnl:¬ d<0:=ω;go_wp2;go_round
            case rel=>exact ⟨k+1,l1,true,o,by omega,rfl,rfl,rfl,HI.out.pos (by rw [HD.out];exact HL.out),HXN.out,HRn.out⟩
            case measure=>show len - ((k:Int)+1).toNat<len - (k:Int).toNat;omega
end Go.Proofs.Υ
end

section
namespace Dowel
open Go Go.RowKit
def bA (M k:Nat):List Nat:=(List.range k).filter fun i=>M.testBit i
theorem bitsOf_mask (p:Nat→Bool) (N:Nat) (h:N≤64):bA (iW p N) 64=(List.range N).filter p:=by
 have:∀ d,bA (iW p N) (N+d)=(List.range N).filter p:=by
  intro d
  induction d with
  | zero =>
   unfold bA;refine List.filter_congr fun i hi=>?_
   have:=List.mem_range.mp hi;rw [iV];simp;intro;omega
  | succ d ih =>
   unfold bA at *;rw [← Nat.add_assoc,List.range_succ,List.filter_append,ih,List.filter_cons_of_neg (by rw [iV];simp;intro;omega),List.filter_nil,List.append_nil]
 have e:=this (64 - N)
 rwa [show N+(64 - N)=64 by omega] at e
theorem jP (M k t:Nat) (hkt:k≤t) (h:∀ i,k≤i→i<t→M.testBit i=false):bA M t=bA M k:=by
 have:∀ d,(∀ i,k≤i→i<k+d→M.testBit i=false)→bA M (k+d)=bA M k:=by
  intro d
  induction d with
  | zero=>intro _;rfl
  | succ d ih =>
   intro h;have:=ih fun i h1 h2=>h i h1 ω
   unfold bA at *;rw [← Nat.add_assoc,List.range_succ,List.filter_append,this,List.filter_cons_of_neg (by rw [h (k+d) ω ω];simp),List.filter_nil,List.append_nil]
 have e:=this (t - k) fun i h1 h2=>h i h1 ω
 rwa [show k+(t - k)=t by omega] at e
theorem bitsOf_succ (M t:Nat) (h:M.testBit t=true):bA M (t+1)=bA M t ++ [t]:=by
 unfold bA;rw [List.range_succ,List.filter_append,List.filter_cons_of_pos h,List.filter_nil]
theorem oe (M k:Nat):(bA M k).length≤k:=by
 unfold bA;have:=List.length_filter_le (fun i=>M.testBit i) (List.range k)
 simpa using this
def dp (M k m:Nat):Prop:=∀ i,m.testBit i=(decide (k≤i) && M.testBit i)
theorem dp.start (M:Nat):dp M 0 M:=fun i=>by simp
theorem dp.zero {M k:Nat} (h:dp M k 0) (hk:k≤64):bA M 64=bA M k:=
 jP M k 64 hk fun i h1 _=>by
  have:=h i;rw [Nat.zero_testBit] at this
  simpa [h1] using this.symm
theorem lowest {m:Nat} (h:m≠0):∃ t,m.testBit t=true∧∀ i,i<t→m.testBit i=false:=by
 obtain ⟨i,hi⟩:=Nat.exists_testBit_of_ne_zero h;revert hi
 induction i using Nat.strongRecOn with
 | _ i ih =>
  intro hi;by_cases hj:∃ j,j<i∧m.testBit j=true
  ·obtain ⟨j,hj,hb⟩:=hj;exact ih j hj hb
  ·exact ⟨i,hi,fun j h=>by
    by_cases hb:m.testBit j=true
    ·exact absurd ⟨j,h,hb⟩ hj
    ·simpa using hb⟩
theorem dp.step {M k m t:Nat} (h:dp M k m) (hM:M<18446744073709551616) (ht:m.testBit t=true) (hl:∀ i,i<t→m.testBit i=false) :
  k≤t∧t<64∧M.testBit t=true∧bA M (t+1)=bA M k ++ [t]∧dp M (t+1) (m &&& (m - 1)):=by
 have h1:=h t;rw [ht] at h1;have h2:k≤t∧M.testBit t=true:=by simpa using h1.symm
 have ht64:t<64:=by
  rcases Nat.lt_or_ge t 64 with h | h
  ·exact h
  ·have:=h2.2
   rw [Nat.testBit_lt_two_pow (Nat.lt_of_lt_of_le hM (Nat.pow_le_pow_right (n:=2) ω h:2 ^ 64≤2 ^ t))] at this;cases this
 refine ⟨h2.1,ht64,h2.2,?_,fun i=>?_⟩
 ·rw [bitsOf_succ M t h2.2,jP M k t h2.1 fun i a b=>by
   have:=h i;rw [hl i b] at this;simpa [a] using this.symm]
 ·rw [low_bit ht hl,h i]
  by_cases hi:t<i
  ·simp [hi,show k≤i by omega,show t+1≤i by omega]
  ·simp [hi,show ¬ t+1≤i by omega]
theorem dp.lt {M k m:Nat} (h:dp M k m) (hM:M<18446744073709551616):m<18446744073709551616:=by
 refine Nat.lt_pow_two_of_testBit (n:=64) m fun i hi=>?_
 rw [h i,Nat.testBit_lt_two_pow (Nat.lt_of_lt_of_le hM (Nat.pow_le_pow_right (n:=2) ω hi:2 ^ 64≤2 ^ i))];simp
end Dowel
end

section
namespace Dowel
open Go Go.RowKit
def dr (w:World) (base:Nat) (v:Value) (l:List Nat):Prop:=w.ownsRow base 3 1 v l.length (l.map fun (i:Nat)=>Value.int .i64 (i:Int))
theorem cJ {w:World} {base e k:Nat} {v:Value} {n:Nat} {xs:List Value} (h:w.ownsRow base e k v n xs):∀ g,v.ownBlock=some g→base≤g:=by
 obtain ⟨hl,⟨rfl,rfl⟩ | ⟨g,cap,cur,rfl,hg,hh,hn,hm,hs,ht⟩⟩:=h
 ·intro g hg;cases hg
 ·intro g' hg';cases hg';exact hg
theorem dp.end {M k m:Nat} (h:dp M k m) (h0:m=0) (hk:k≤64):bA M 64=bA M k:=by subst h0;exact h.zero hk
theorem dr.ints {w:World} {base:Nat} {v:Value} {l:List Nat} (h:dr w base v l):∃ a cap,v=.slice a l.length cap∧Ints w a l.length cap (l.map fun (i:Nat)=>(i:Int)):=by
 obtain ⟨a,cap,hv,hs⟩:=Sl.of_owns h;exact ⟨a,cap,hv,by rw [List.map_map];exact hs,by simp⟩
def RetInts (w:World) (base:Nat) (e:Ending) (l:List Nat):Prop:=∃ v,e=.returned v∧dr w base v l
theorem cj {w:World} {base base' e k:Nat} {v:Value} {n:Nat} {xs:List Value} (h:w.ownsRow base e k v n xs) (hb:base'≤base):w.ownsRow base' e k v n xs:=by
 obtain ⟨hl,h | ⟨g,cap,cur,rfl,hg,r⟩⟩:=h
 ·exact ⟨hl,.inl h⟩
 ·exact ⟨hl,.inr ⟨g,cap,cur,rfl,Nat.le_trans hb hg,r⟩⟩
theorem aF {w w':World} {base e k:Nat} {v:Value} {n:Nat} {xs:List Value} (h:w.ownsRow base e k v n xs) (hb:Below w.heap.size w w'):w'.ownsRow base e k v n xs:=by
 obtain ⟨hl,h | ⟨g,cap,cur,rfl,hg,hh,hn,hm,hs,ht⟩⟩:=h
 ·exact ⟨hl,.inl h⟩
 ·exact ⟨hl,.inr ⟨g,cap,cur,rfl,hg,by rw [hb.block g (Array.getElem?_eq_some_iff.1 hh).1];exact hh,hn,hm,hs,ht⟩⟩
def encO:Option Nat→Int
 | none=>-1
 | some b=>b
theorem pick_mem (P:Nat→V) (n:V) (a:Nat) (l:List Nat) (o:Option Nat) (b:Nat) (h:l.foldl (pick P n a) o=some b):b ∈ l∨o=some b:=by
 induction l generalizing o with
 | nil=>exact .inr h
 | cons q l ih =>
  rcases ih _ h with h1 | h1
  ·exact .inl (List.mem_cons_of_mem _ h1)
  ·unfold pick at h1
   by_cases hq:q=a
   ·rw [if_pos hq] at h1;exact .inr h1
   ·rw [if_neg hq] at h1
    cases o with
    | none=>cases h1;exact .inl (by simp)
    | some c =>
     dsimp only at h1
     split at h1
     ·cases h1;exact .inl (by simp)
     ·exact .inr h1
theorem pick_take (P:Nat→V) (n:V) (a:Nat) (l:List Nat) (i:Nat) (hi:i<l.length):(l.take (i+1)).foldl (pick P n a) none=pick P n a ((l.take i).foldl (pick P n a) none) (l.getD i 0):=by
 rw [List.take_succ_eq_append_getElem hi,List.foldl_append];simp [hi]
theorem and_nat (m:Nat) (h0:m≠0) (hm:m<18446744073709551616):bits .and .u64 (m:Int) ((m:Int) - 1)=((m &&& (m - 1):Nat):Int):=by
 have e:(m:Int) - 1=((m - 1:Nat):Int):=ω;rw [e,u64_and_nat _ _ hm ω]
end Dowel
namespace Go.Proofs.Υ
open Go.RowKit Dowel
theorem info3:(Tryz.prog.info? 3).map (fun i=>(i.zero,i.size,i.bytes))=some (some (.int .i64 0),1,8):=by kernel_rfl
set_option maxRecDepth 10000 in
theorem ring_any (a:Option Addr) (len cap b0 M:Nat) (n:V) (P:Nat→V) (w:World) (hT:Tab w) (hP:Pts w a len cap P) (hlen:len≤64) (hnear:∀ i,i<len→LeV 4096 (P i)) (hn:LeV 200000000 n)
    (hM:M=cH P len n b0) (hF:Face P len n b0) (hS:Sorted P len) :
    Calls Tryz.prog 101 #[.slice a len cap,kO n M] w fun e w'=>RetInts w' w.heap.size e (ring P (aH P len n b0) n)∧Below w.heap.size w w':=by
  have hon:bA M 64=aH P len n b0:=by rw [hM];exact bitsOf_mask _ _ hlen
  obtain ⟨kp,hkp,hk1,hk2,hk3,hk4⟩:=kQ (hF.flat hS.inj) hF.two (hF.head hS);have HK:Hid (kp=per (nx P (aH P len n b0) n) ((aH P len n b0).headD 0) (aH P len n b0).length 1∧1≤kp∧kp<1+(aH P len n b0).length∧orb (nx P (aH P len n b0) n) ((aH P len n b0).headD 0) kp=(aH P len n b0).headD 0∧∀ i,1≤i→i<kp→orb (nx P (aH P len n b0) n) ((aH P len n b0).headD 0) i≠(aH P len n b0).headD 0):=⟨hkp,hk1,hk2,hk3,hk4⟩;have HF:=η hF;have HSS:=η hS;have HON:=η hon;clear hon hkp hk1 hk2 hk3 hk4 hF hS;obtain ⟨W,hW,b1,hB,hS⟩:=aG w #[.int .i64 n.x,.int .i64 n.y,.int .i64 n.z,.int .u64 (M:Int)] 120;have HT:=η (hT.below hB hT.1);have HP:=η (hP.below hB);have HN:=η hnear;have B1:=η b1;have HB:=η hB;have HS:=η hS;have HW:=η hW;have hM64:M<18446744073709551616:=by rw [hM];exact Nat.lt_of_lt_of_le (j9 _ _) (Nat.pow_le_pow_right ω hlen)
  have HM:=η hM64;have HMM:=η hM;obtain ⟨x0,x1,x2,x3,-⟩:=b1.four;obtain ⟨i0,hinf,hz0,hz1,hz2⟩:=info_parts info3;clear hT hP hnear b1 hB hS hW hM64 hM;unfold kO
  go_enter Tryz.func101,Tryz.ntmps101
  go_wp2_with fail
  rw [HW.out]
  go_loopw [5,6] (fun ov mv wr=>∃ k m:Nat,k≤64∧mv=.int .u64 (m:Int)∧Hid (dp M k m)∧Hid (dr wr W.heap.size ov (bA M k))∧Hid (Below W.heap.size W wr)) (fun _ mv _=>(intOf mv).toNat)
  case atStart=>exact ⟨0,M,by omega,rfl,dp.start M,World.ownsRow_nil _ _ _ _,Below.refl _ _⟩
  case round =>
    obtain ⟨k,m,hk,rfl,HL,HO,HR⟩:=hrel;by_cases h0:m=0
    · have hm0:((m:Int) != 0)=false:=by rw [h0];rfl
      have hO:dr wr W.heap.size u5 (aH P len n b0):=by
        have:=HO.out;rwa [← HL.out.end h0 hk,HON.out] at this
      obtain ⟨ao,co,rfl,ho⟩:=hO.ints;have HOI:=η ho;obtain ⟨L,hLe⟩:∃ L,aH P len n b0=L:=⟨_,rfl⟩;have HLE:=η hLe;rw [hLe] at ho HOI HK;have hL0:0<L.length:=by
        have:=(HF.out.head HSS.out).1;rw [hLe] at this;exact List.length_pos_of_mem this
      have hL64:L.length≤64:=by
        rw [← hLe];unfold aH;exact Nat.le_trans (List.length_filter_le _ _) (by simpa using hlen)
      obtain ⟨b,off,rfl,hb,hc,hcc⟩:=ho.cells hL0;have hc0:=hcc 0 hL0;have e0:(L.map fun (i:Nat)=>(i:Int)).getD 0 0=((L.headD 0:Nat):Int):=by cases L <;> simp
      rw [e0,Nat.add_zero] at hc0;have hl0:(0:Int)<(L.length:Int):=ω;rw [hLe];obtain ⟨a0,ha0⟩:∃ a0,L.headD 0=a0:=⟨_,rfl⟩;rw [ha0] at hc0 HK;have HA0:=η ha0;have hbs:=HR.out.size;obtain ⟨w1,rfl⟩:∃ w1,w1=wr:=⟨_,rfl⟩;clear hcc ho hO hLe h0 HO HL HON HMM e0 ha0
      go_wp2_with fail
      obtain ⟨Wo,hWo⟩:∃ Wo,w1.alloc (.cells #[.int .i64 (a0:Int)] 3)=Wo:=⟨_,rfl⟩;rw [hWo];have hown0:dr Wo w1.heap.size (.slice (some ⟨w1.heap.size,0,none⟩) 1 1) ((List.range 1).map (orb (nx P L n) a0)):=by
        rw [← hWo];exact World.ownsRow_lit _ _ 1 ρ (by unfold maxLen;omega) rfl
      have hBo:Below w1.heap.size w1 Wo:=by rw [← hWo];exact β.alloc ρ _
      have HO0:=η hown0;have HBO:=η hBo;clear hown0 hBo hWo
      go_loopw [7] (fun ov w2=>∃ j,1≤j∧j≤kp∧Hid (dr w2 w1.heap.size ov ((List.range j).map (orb (nx P L n) a0)))∧Hid (Below w1.heap.size w1 w2)) (fun ov _=>kp - (match ov with | .slice _ n _=>n | _=>0))
      case atStart=>exact ⟨1,Nat.le_refl _,HK.out.2.1,HO0.out,HBO.out⟩
      case round =>
        obtain ⟨j,hj1,hj2,HO,HR2⟩:=hrel;obtain ⟨j,rfl⟩:∃ i,j=i+1:=⟨j - 1,by omega⟩;obtain ⟨ag,cg,rfl,hoi⟩:=HO.out.ints;have elen:((List.range (j+1)).map (orb (nx P L n) a0)).length=j+1:=by simp
        rw [elen] at hoi ⊢;obtain ⟨g,og,rfl,hg,hcg,hgc⟩:=hoi.cells ω;have g0:=hgc 0 ω;have g1:=hgc j ω;have eg0:(((List.range (j+1)).map (orb (nx P L n) a0)).map fun (i:Nat)=>(i:Int)).getD 0 0=(a0:Int):=by simp [orb]
        have eg1:(((List.range (j+1)).map (orb (nx P L n) a0)).map fun (i:Nat)=>(i:Int)).getD j 0=((orb (nx P L n) a0 j:Nat):Int):=by simp
        rw [eg0,Nat.add_zero] at g0;rw [eg1] at g1;obtain ⟨la,hla⟩:∃ la,orb (nx P L n) a0 j=la:=⟨_,rfl⟩;rw [hla] at g1;have HLA:=η hla;have HOIJ:=η hoi;have HOI2:=η (HOI.out.below HR2.out);have hjl:(j:Int)<((j+1:Nat):Int):=ω;have hj0:(0:Int)<((j+1:Nat):Int):=ω;have hj64:j≤64:=by have:=HK.out.2.2.1;omega
        obtain ⟨w2,rfl⟩:∃ w2,w2=wr:=⟨_,rfl⟩;have ELEN:=η elen;clear hgc hoi elen eg0 eg1 hla
        go_wp2_with fail
        go_loopw [9,40] (fun nv iv wi=>∃ i o,i≤L.length∧iv=.int .i64 (i:Nat)∧nv=.int .i64 (encO o)∧Hid ((L.take i).foldl (pick P n la) none=o)∧Hid (Below w2.heap.size w2 wi)) (fun _ iv _=>L.length - (intOf iv).toNat)
        case atStart=>exact ⟨0,none,Nat.zero_le _,rfl,rfl,by exact rfl,Below.refl _ _⟩
        case round =>
          obtain ⟨i,o,hi,rfl,rfl,HOP,HR3⟩:=hrel;obtain ⟨w3,rfl⟩:∃ w3,w3=wr:=⟨_,rfl⟩;have hvert:fm P L la:=by
            have:=dH (HF.out.flat HSS.out.inj) HF.out.two (HF.out.head HSS.out) j;rw [HLE.out,HA0.out,HLA.out] at this;exact this
          have HV:=η hvert;clear hvert;by_cases h0:i=L.length
          · have hnx:o=some (orb (nx P L n) a0 (j+1)):=by
              have hfl:=HF.out.flat HSS.out.inj;have h2:=HF.out.two;rw [HLE.out] at hfl h2;have:=(l8 hfl HV.out (h2 _)).1;rw [← HOP.out,h0,List.take_length,this];show _=some (nx P L n (orb (nx P L n) a0 j));rw [HLA.out]
            subst hnx;show Code.wp _ _ _ _ _;have hn:¬ (i:Int)<(L.length:Int):=ω;have H0:=η h0;have g03:=keepC g0 HR3.out hg;obtain ⟨nb,hnb⟩:∃ nb,orb (nx P L n) a0 (j+1)=nb:=⟨_,rfl⟩;rw [hnb];have HNB:=η hnb;clear h0 hnb;show Code.wp _ _ _ _ _;by_cases hend:nb=a0
            · have hek:j+1=kp:=by
                refine Decidable.byContradiction fun hne=>?_
                exact HK.out.2.2.2.2 (j+1) ω ω (by rw [HNB.out,hend])
              have HEK:=η hek;subst hend;clear hek;have hee:encO (some nb)=(nb:Int):=rfl;rw [hee];go_wp2;refine bodyPost_ret (results_tmp Tryz.results101 _ _ _) rfl ⟨⟨_,rfl,?_⟩,?_⟩
              · have hb1:w.heap.size≤w1.heap.size:=by have:=HS.out;have:=HR.out.size;omega
                have hown:=cj (aF HO.out HR3.out) hb1;rw [HLE.out];unfold ring;rw [HA0.out,← HK.out.1,← HEK.out];unfold dr;rw [ELEN.out] at hown ⊢;exact hown
              · exact ae (ae (ae HB.out HR.out (ψ HS.out)) HR2.out (by have:=HS.out;have:=HR.out.size;omega)) HR3.out (by have:=HS.out;have:=HR.out.size;have:=HR2.out.size;omega)
            · have hek:j+1<kp:=by
                refine Decidable.byContradiction fun hne=>hend ?_
                have:j+1=kp:=ω;rw [← HNB.out,this];exact HK.out.2.2.2.1
              have hee:encO (some nb)=(nb:Int):=rfl;rw [hee];obtain ⟨xs,hxs⟩:∃ xs,(((List.range (j+1)).map (orb (nx P L n) a0)).map fun (i:Nat)=>Value.int .i64 (i:Int))=xs:=⟨_,rfl⟩;have HXS:=η hxs;clear hxs;have hcond:((nb:Int) == (a0:Int))=false:=by rw [beq_eq_false_iff_ne];omega
              have hown:w3.ownsRow w1.heap.size 3 1 (.slice (some ⟨g,og,none⟩) (j+1) cg) (j+1) xs:=by
                have:=aF HO.out HR3.out;rw [ELEN.out,HXS.out] at this;exact this
              have hs23:=HR3.out.size;have hs12:=HR2.out.size
              go_wp2_with (at_builtin;refine wpList_append_own _ rfl _ _ 43 rfl w1.heap.size 3 i0 (.int .i64 0) 1 8 Tryz.underlying43 hinf hz0 hz1 hz2 rfl ν _ _ _ rfl (hown.alloc _) ⟨w3.heap.size,0,none⟩ 1 1 [.int .i64 (nb:Nat)] rfl rfl ?d1 ?d2 ?d3 ?d4 ?d5 ?_)
              case d2=>rfl
              case d3=>unfold maxLen;omega
              case d4=>omega
              case d5=>omega
              · intro v' w4 hown' hgrow _
                have hO2:dr w4 w1.heap.size v' ((List.range (j+1+1)).map (orb (nx P L n) a0)):=by
                  unfold dr;rw [List.range_succ,List.map_append,List.map_append,List.length_append,List.map_singleton,List.map_singleton,HNB.out,HXS.out,ELEN.out];exact hown'
                have hB2:Below w1.heap.size w1 w4:=((ae HR2.out HR3.out ρ).alloc ω _).grown hgrow (by simp;omega) (cJ hown);have HO2:=η hO2;have HB2:=η hB2;obtain ⟨av,cv,rfl,-⟩:=hO2.ints;have HEK:=η hek;clear hown' hgrow hown hO2 hB2;go_wp2;go_round
                case rel=>exact ⟨j+1+1,by omega,by have:=HEK.out;omega,HO2.out,HB2.out⟩
                case measure=>show kp - ((List.range (j+1+1)).map (orb (nx P L n) a0)).length<kp - (j+1);simp;have:=HEK.out;omega
          · have hil:i<L.length:=ω
            obtain ⟨b',off',e',hb',hc',hcc⟩:=(HOI2.out.below HR3.out).cells ω;cases e';have hq0:=hcc i hil;have eq0:(L.map fun (i:Nat)=>(i:Int)).getD i 0=((L.getD i 0:Nat):Int):=by simp [hil]
            rw [eq0] at hq0;have hpt:=η (pick_take P n la L i hil);have hqm:L.getD i 0 ∈ L:=by
              have:L.getD i 0=L[i]:=by simp [hil]
              rw [this];exact List.getElem_mem hil
            have hom:∀ c,o=some c→c ∈ L:=fun c hc=>by
              have:=pick_mem P n la (L.take i) none c (by rw [HOP.out,hc])
              rcases this with h | h
              · exact List.mem_of_mem_take h
              · cases h
            have HQM:=η hqm;have HOM:=η hom;have hilt:(i:Int)<(L.length:Int):=ω;obtain ⟨q,hq⟩:∃ q,L.getD i 0=q:=⟨_,rfl⟩;rw [hq] at hq0;have HQ:=η hq;clear hcc eq0 hqm hom hq h0;by_cases hql:q=la
            · have hcond:((q:Int) == (la:Int))=true:=by rw [beq_iff_eq];omega
              have HQL:=η hql;clear hql;go_wp2;go_round
              case rel=>exact ⟨i+1,o,by omega,rfl,rfl,(by show _=o;rw [hpt.out,HOP.out,HQ.out];unfold pick;rw [if_pos HQL.out]),HR3.out⟩
              case measure=>show L.length - ((i:Int)+1).toNat<L.length - (i:Int).toNat;omega
            have hcond:((q:Int) == (la:Int))=false:=by rw [beq_eq_false_iff_ne];omega
            have HQL:=η hql;clear hql
            cases o with
            | none =>
              have he:encO none=-1:=rfl;rw [he];go_wp2;go_round
              case rel=>exact ⟨i+1,some q,by omega,rfl,rfl,(by show _=some q;rw [hpt.out,HOP.out,HQ.out];unfold pick;rw [if_neg HQL.out]),HR3.out⟩
              case measure=>show L.length - ((i:Int)+1).toNat<L.length - (i:Int).toNat;omega
            | some bb =>
              have he:encO (some bb)=(bb:Int):=rfl;rw [he];have mem_lt:∀ c,c ∈ L→c<len:=fun c hc=>by rw [← HLE.out] at hc;exact (aD.mp hc).1
              have lb:=mem_lt bb (HOM.out bb rfl);have lq:=mem_lt q (by rw [← HQ.out];exact HQM.out);have ll:=mem_lt la HV.out.1;have hWall:Below W.heap.size W w3:=ae (ae HR.out HR2.out (ψ HR.out.size)) HR3.out (by have:=HR.out.size;have:=HR2.out.size;omega);have HWA:=η hWall;obtain ⟨bp,op,ep,hbp,hcp,hcc⟩:=(HP.out.below hWall).cells ω;cases ep;obtain ⟨pb0,pb1,pb2⟩:=hcc bb lb;obtain ⟨pl0,pl1,pl2⟩:=hcc la ll;obtain ⟨pq0,pq1,pq2⟩:=hcc q lq;have nb:=HN.out bb lb;have nl:=HN.out la ll;have nq:=HN.out q lq;have eu:∀ x y:V,LeV 4096 x→LeV 4096 y→∀ v,Calls Tryz.prog 113 #[.agg #[.int .i64 x.x,.int .i64 x.y,.int .i64 x.z],.agg #[.int .i64 y.x,.int .i64 y.y,.int .i64 y.z]] v fun e w'=>e=.returned (.agg #[.int .i64 (x - y).x,.int .i64 (x - y).y,.int .i64 (x - y).z])∧Below v.heap.size v w':=
                fun x y hx hy v=>fC x y 4096 4096 v hx hy ω
              have hu:=eu _ _ nb nl;have hv:=eu _ _ nq nl;have lu:=nb.sub nl;have lv:=nq.sub nl;generalize huu:P bb - P la=u at *;generalize hvv:P q - P la=vv at *;have HUU:=η huu;have HVV:=η hvv;have hsu:=η hu;have hsv:=η hv;have LU:=η lu;have LVV:=η lv;generalize P bb=pb at nb pb0 pb1 pb2 hsu;generalize P la=pl at nl pl0 pl1 pl2 hsu hsv;generalize P q=pq at nq pq0 pq1 pq2 hsv;have KP:Hid (∀ w',Below w3.heap.size w3 w'→w'.cell? ⟨bp,op+bb*3,none⟩=some (.int .i64 pb.x)∧w'.cell? ⟨bp,op+bb*3+1,none⟩=some (.int .i64 pb.y)∧w'.cell? ⟨bp,op+bb*3+2,none⟩=some (.int .i64 pb.z)∧w'.cell? ⟨bp,op+la*3,none⟩=some (.int .i64 pl.x)∧w'.cell? ⟨bp,op+la*3+1,none⟩=some (.int .i64 pl.y)∧w'.cell? ⟨bp,op+la*3+2,none⟩=some (.int .i64 pl.z)∧w'.cell? ⟨bp,op+q*3,none⟩=some (.int .i64 pq.x)∧w'.cell? ⟨bp,op+q*3+1,none⟩=some (.int .i64 pq.y)∧w'.cell? ⟨bp,op+q*3+2,none⟩=some (.int .i64 pq.z)):=fun w' h =>
                ⟨keepC pb0 h hbp,keepC pb1 h hbp,keepC pb2 h hbp,keepC pl0 h hbp,keepC pl1 h hbp,keepC pl2 h hbp,keepC pq0 h hbp,keepC pq1 h hbp,keepC pq2 h hbp⟩
              have M0:=η (Below.refl w3.heap.size w3);have M00:Hid (Below w3.heap.size w3 w3.drew):=M0.out.drew;have hf1:=KP.out _ M0.out;have b1':((bb:Nat):Int)<(len:Int):=ω;have b2':((la:Nat):Int)<(len:Int):=ω;have b3':((q:Nat):Int)<(len:Int):=ω;have hbn:¬ (bb:Int)<0:=ω;clear hcc pb0 pb1 pb2 pl0 pl1 pl2 pq0 pq1 pq2 nb nl nq eu hu hv lu lv huu hvv hWall g0 g1
              go_upto_region 15 with fail
              go_cut [12,13,40] from 40 to 90 (fun pu pv iv wx=>iv=.int .i64 (i:Int)∧∃ nu nv:Nat,pu=.pointer (some ⟨nu,0,none⟩)∧pv=.pointer (some ⟨nv,0,none⟩)∧Hid (Box wx nu #[.int .i64 u.x,.int .i64 u.y,.int .i64 u.z] 46)∧Hid (Box wx nv #[.int .i64 vv.x,.int .i64 vv.y,.int .i64 vv.z] 46)∧Hid (Below w3.heap.size w3 wx))
              case first =>
                go_wp2_with fail
                go_region_held3 (fun w'=>w'.cell? ⟨bp,op+bb*3,none⟩=some (.int .i64 pb.x)∧w'.cell? ⟨bp,op+bb*3+1,none⟩=some (.int .i64 pb.y)∧w'.cell? ⟨bp,op+bb*3+2,none⟩=some (.int .i64 pb.z)∧w'.cell? ⟨bp,op+la*3,none⟩=some (.int .i64 pl.x)∧w'.cell? ⟨bp,op+la*3+1,none⟩=some (.int .i64 pl.y)∧w'.cell? ⟨bp,op+la*3+2,none⟩=some (.int .i64 pl.z)∧w'.cell? ⟨bp,op+q*3,none⟩=some (.int .i64 pq.x)∧w'.cell? ⟨bp,op+q*3+1,none⟩=some (.int .i64 pq.y)∧w'.cell? ⟨bp,op+q*3+2,none⟩=some (.int .i64 pq.z))
                  (first | with_reducible exact (KP.out _ M2.out)
                         | with_reducible exact (KP.out _ (M2.out.alloc M2.out.size _))
                         | with_reducible exact (KP.out _ ((M2.out.alloc M2.out.size _).alloc (M2.out.alloc M2.out.size _).size _))
                         | with_reducible exact (KP.out _ M1.out)
                         | with_reducible exact (KP.out _ (M1.out.alloc M1.out.size _))
                         | with_reducible exact (KP.out _ ((M1.out.alloc M1.out.size _).alloc (M1.out.alloc M1.out.size _).size _))
                         | with_reducible exact (KP.out _ M00.out)
                         | with_reducible exact (KP.out _ (M0.out.alloc M0.out.size _).drew)
                         | with_reducible exact (KP.out _ ((M0.out.alloc M0.out.size _).alloc (M0.out.alloc M0.out.size _).size _).drew)
                         | with_reducible exact (KP.out _ ((((M2.out).setCell NL1.out _).setCell NL1.out _).setCell NL1.out _))
                         | with_reducible exact (KP.out _ ((((M2.out).setCell NL2.out _).setCell NL2.out _).setCell NL2.out _))
                         | with_reducible exact (KP.out _ ((((M2.out).setCell M2.out.size _).setCell M2.out.size _).setCell M2.out.size _))
                         | with_reducible exact (KP.out _ ((((M2.out).setCell (M2.out.alloc M2.out.size (.cells #[.int .i64 0,.int .i64 0,.int .i64 0] 46)).size _).setCell (M2.out.alloc M2.out.size (.cells #[.int .i64 0,.int .i64 0,.int .i64 0] 46)).size _).setCell (M2.out.alloc M2.out.size (.cells #[.int .i64 0,.int .i64 0,.int .i64 0] 46)).size _))
                         | with_reducible exact (KP.out _ ((((M2.out.alloc M2.out.size _).setCell NL1.out _).setCell NL1.out _).setCell NL1.out _))
                         | with_reducible exact (KP.out _ ((((M2.out.alloc M2.out.size _).setCell NL2.out _).setCell NL2.out _).setCell NL2.out _))
                         | with_reducible exact (KP.out _ ((((M2.out.alloc M2.out.size _).setCell M2.out.size _).setCell M2.out.size _).setCell M2.out.size _))
                         | with_reducible exact (KP.out _ ((((M2.out.alloc M2.out.size _).setCell (M2.out.alloc M2.out.size (.cells #[.int .i64 0,.int .i64 0,.int .i64 0] 46)).size _).setCell (M2.out.alloc M2.out.size (.cells #[.int .i64 0,.int .i64 0,.int .i64 0] 46)).size _).setCell (M2.out.alloc M2.out.size (.cells #[.int .i64 0,.int .i64 0,.int .i64 0] 46)).size _))
                         | with_reducible exact (KP.out _ (((((M2.out.alloc M2.out.size _).alloc (M2.out.alloc M2.out.size _).size _).setCell NL1.out _).setCell NL1.out _).setCell NL1.out _))
                         | with_reducible exact (KP.out _ (((((M2.out.alloc M2.out.size _).alloc (M2.out.alloc M2.out.size _).size _).setCell NL2.out _).setCell NL2.out _).setCell NL2.out _))
                         | with_reducible exact (KP.out _ (((((M2.out.alloc M2.out.size _).alloc (M2.out.alloc M2.out.size _).size _).setCell M2.out.size _).setCell M2.out.size _).setCell M2.out.size _))
                         | with_reducible exact (KP.out _ (((((M2.out.alloc M2.out.size _).alloc (M2.out.alloc M2.out.size _).size _).setCell (M2.out.alloc M2.out.size (.cells #[.int .i64 0,.int .i64 0,.int .i64 0] 46)).size _).setCell (M2.out.alloc M2.out.size (.cells #[.int .i64 0,.int .i64 0,.int .i64 0] 46)).size _).setCell (M2.out.alloc M2.out.size (.cells #[.int .i64 0,.int .i64 0,.int .i64 0] 46)).size _))
                         | with_reducible exact (KP.out _ (((((((M2.out).setCell NL1.out _).setCell NL1.out _).setCell NL1.out _).setCell NL2.out _).setCell NL2.out _).setCell NL2.out _))
                         | with_reducible exact (KP.out _ (((((((M2.out).setCell NL2.out _).setCell NL2.out _).setCell NL2.out _).setCell NL1.out _).setCell NL1.out _).setCell NL1.out _))
                         | with_reducible exact (KP.out _ (((((((M2.out.alloc M2.out.size _).setCell NL1.out _).setCell NL1.out _).setCell NL1.out _).setCell M2.out.size _).setCell M2.out.size _).setCell M2.out.size _))
                         | with_reducible exact (KP.out _ (((((((M2.out.alloc M2.out.size _).setCell M2.out.size _).setCell M2.out.size _).setCell M2.out.size _).setCell NL1.out _).setCell NL1.out _).setCell NL1.out _))
                         | with_reducible exact (KP.out _ (((((((M2.out.alloc M2.out.size _).setCell NL1.out _).setCell NL1.out _).setCell NL1.out _).setCell NL2.out _).setCell NL2.out _).setCell NL2.out _))
                         | with_reducible exact (KP.out _ (((((((M2.out.alloc M2.out.size _).setCell NL2.out _).setCell NL2.out _).setCell NL2.out _).setCell NL1.out _).setCell NL1.out _).setCell NL1.out _))
                         | with_reducible exact (KP.out _ ((((((((M2.out.alloc M2.out.size _).alloc (M2.out.alloc M2.out.size _).size _).setCell NL1.out _).setCell NL1.out _).setCell NL1.out _).setCell M2.out.size _).setCell M2.out.size _).setCell M2.out.size _))
                         | with_reducible exact (KP.out _ ((((((((M2.out.alloc M2.out.size _).alloc (M2.out.alloc M2.out.size _).size _).setCell M2.out.size _).setCell M2.out.size _).setCell M2.out.size _).setCell NL1.out _).setCell NL1.out _).setCell NL1.out _))
                         | with_reducible exact (KP.out _ ((((((((M2.out.alloc M2.out.size _).alloc (M2.out.alloc M2.out.size _).size _).setCell NL1.out _).setCell NL1.out _).setCell NL1.out _).setCell NL2.out _).setCell NL2.out _).setCell NL2.out _))
                         | with_reducible exact (KP.out _ ((((((((M2.out.alloc M2.out.size _).alloc (M2.out.alloc M2.out.size _).size _).setCell NL2.out _).setCell NL2.out _).setCell NL2.out _).setCell NL1.out _).setCell NL1.out _).setCell NL1.out _)))
                  (first
                    | (have _g:=M1.out;clear _g;go_at_call 113;refine (hsv.out _).mono ?_;rintro e v2 ⟨rfl,hb2⟩
                       have M2:=η (show Below w3.heap.size w3 v2 from by first | with_reducible exact ae M1.out hb2 ρ | with_reducible exact ae (M1.out.alloc M1.out.size _) hb2 ρ | with_reducible exact ae ((M1.out.alloc M1.out.size _).alloc (M1.out.alloc M1.out.size _).size _) hb2 ρ)
                       first
                       | (have NB1:=η (show Box v2 _ _ _ from by with_reducible exact NB1.out.below hb2 NB1.out.lt)
                          have NB2:=η (show Box v2 _ _ _ from by with_reducible exact NB2.out.below hb2 NB2.out.lt))
                       | (have ne3:=Nat.ne_of_lt NB1.out.lt
                          have ne4:=ne3.symm;have NB2:=η (show Box v2 _ #[.int .i64 0,.int .i64 0,.int .i64 0] 46 from by with_reducible exact (Box.new _ _ _ _ rfl).below hb2 (Box.new _ _ _ _ rfl).lt);have NB1:=η (show Box v2 _ _ _ from by with_reducible exact (NB1.out.old _).below hb2 (NB1.out.old _).lt);have NL2:=η M1.out.size)
                       | (have NB1:=η (show Box v2 _ _ _ from by with_reducible exact NB1.out.below hb2 NB1.out.lt))
                       | (have NB2:=η (show Box v2 (v1.heap.size+1) #[.int .i64 0,.int .i64 0,.int .i64 0] 46 from by with_reducible exact (Box.new _ _ _ (v1.heap.size+1) (by simp)).below hb2 (Box.new _ _ _ (v1.heap.size+1) (by simp)).lt)
                          have NB1:=η (show Box v2 _ #[.int .i64 0,.int .i64 0,.int .i64 0] 46 from by with_reducible exact ((Box.new _ _ _ _ rfl).old _).below hb2 ((Box.new _ _ _ _ rfl).old _).lt);have NL1:=η M1.out.size;have NL2:=η (show w3.heap.size≤v1.heap.size+1 from by have:=M1.out.size;omega))
                       | (have NB1:=η (show Box v2 _ #[.int .i64 0,.int .i64 0,.int .i64 0] 46 from by with_reducible exact (Box.new _ _ _ _ rfl).below hb2 (Box.new _ _ _ _ rfl).lt)
                          have NL1:=η M1.out.size)
                       | skip
                       try have ne1:=Nat.ne_of_lt NB1.out.lt
                       try have ne2:=ne1.symm
                       try obtain ⟨n0,n1,n2,n3,n4,n5⟩:=NB1.out.three
                       try have nold:=fun o=>(NB1.out.old o).three
                       try obtain ⟨m0,m1,m2,m3,m4,m5⟩:=NB2.out.three
                       clear hb2)
                    | (go_at_call 113;refine (hsu.out _).mono ?_;rintro e v1 ⟨rfl,hb1⟩
                       have M1:=η (show Below w3.heap.size w3 v1 from by first | with_reducible exact ae M00.out hb1 ρ | with_reducible exact ae (M0.out.alloc M0.out.size _).drew hb1 ρ | with_reducible exact ae ((M0.out.alloc M0.out.size _).alloc (M0.out.alloc M0.out.size _).size _).drew hb1 ρ)
                       first
                       | (have NB2:=η (show Box v1 (w3.heap.size+1) #[.int .i64 0,.int .i64 0,.int .i64 0] 46 from by with_reducible exact (Box.new _ _ _ (w3.heap.size+1) (by simp)).drew.below hb1 (Box.new _ _ _ (w3.heap.size+1) (by simp)).drew.lt)
                          have NB1:=η (show Box v1 _ #[.int .i64 0,.int .i64 0,.int .i64 0] 46 from by with_reducible exact ((Box.new _ _ _ _ rfl).old _).drew.below hb1 ((Box.new _ _ _ _ rfl).old _).drew.lt);have NL1:=η M0.out.size;have NL2:=η (show w3.heap.size≤w3.heap.size+1 from by have:=M0.out.size;omega))
                       | (have NB1:=η (show Box v1 _ #[.int .i64 0,.int .i64 0,.int .i64 0] 46 from by with_reducible exact (Box.new _ _ _ _ rfl).drew.below hb1 (Box.new _ _ _ _ rfl).drew.lt)
                          have NL1:=η M0.out.size)
                       | skip
                       try have ne1:=Nat.ne_of_lt NB1.out.lt
                       try have ne2:=ne1.symm
                       try obtain ⟨n0,n1,n2,n3,n4,n5⟩:=NB1.out.three
                       try have nold:=fun o=>(NB1.out.old o).three
                       try obtain ⟨m0,m1,m2,m3,m4,m5⟩:=NB2.out.three
                       clear hb1))
                all_goals
                  go_wp2_with fail
                  go_meet
                all_goals first
                  | (with_reducible exact ⟨rfl,_,_,rfl,rfl,η ((Box.new _ _ _ _ rfl).old _),η (Box.new _ _ _ _ (by simp)),η ((M2.out.alloc M2.out.size _).alloc (M2.out.alloc M2.out.size _).size _)⟩)
                  | (with_reducible exact ⟨rfl,_,_,rfl,rfl,η (Box.new _ _ _ _ (by simp)),η ((Box.new _ _ _ _ rfl).old _),η ((M2.out.alloc M2.out.size _).alloc (M2.out.alloc M2.out.size _).size _)⟩)
                  | (with_reducible exact ⟨rfl,_,_,rfl,rfl,η (((NB1.out.old _).set3 _ _ _).other3 (by first | assumption | (apply Ne.symm;assumption) | omega) _ _ _),η (((Box.new _ _ _ _ rfl).other3 (by first | assumption | (apply Ne.symm;assumption) | omega) _ _ _).set3 _ _ _),η (((((((M2.out.alloc M2.out.size _).setCell NL1.out _).setCell NL1.out _).setCell NL1.out _).setCell M2.out.size _).setCell M2.out.size _).setCell M2.out.size _)⟩)
                  | (with_reducible exact ⟨rfl,_,_,rfl,rfl,η ((Box.new _ _ _ _ rfl).other3 (by first | assumption | (apply Ne.symm;assumption) | omega) _ _ _),η ((NB1.out.old _).set3 _ _ _),η ((((M2.out.alloc M2.out.size _).setCell NL1.out _).setCell NL1.out _).setCell NL1.out _)⟩)
                  | (with_reducible exact ⟨rfl,_,_,rfl,rfl,η ((NB1.out.set3 _ _ _).other3 (by first | assumption | (apply Ne.symm;assumption) | omega) _ _ _),η ((NB2.out.other3 (by first | assumption | (apply Ne.symm;assumption) | omega) _ _ _).set3 _ _ _),η (((((((M2.out).setCell NL1.out _).setCell NL1.out _).setCell NL1.out _).setCell NL2.out _).setCell NL2.out _).setCell NL2.out _)⟩)
                  | (with_reducible exact ⟨rfl,_,_,rfl,rfl,η ((NB2.out.set3 _ _ _).other3 (by first | assumption | (apply Ne.symm;assumption) | omega) _ _ _),η ((NB1.out.other3 (by first | assumption | (apply Ne.symm;assumption) | omega) _ _ _).set3 _ _ _),η (((((((M2.out).setCell NL2.out _).setCell NL2.out _).setCell NL2.out _).setCell NL1.out _).setCell NL1.out _).setCell NL1.out _)⟩)
              case rest =>
                obtain ⟨rfl,nu,nv,rfl,rfl,hnu,hnv,hbc⟩:=hcut;have b1c:=B1.out.below (ae HWA.out hbc.out ρ) (ψ HS.out);obtain ⟨c0,c1,c2,-⟩:=b1c.four;obtain ⟨d0,d1,d2,-⟩:=hnu.out.three;obtain ⟨e0,e1,e2,-⟩:=hnv.out.three;have l1:=b1c.lt;have l2:=hnu.out.lt;have l3:=hnv.out.lt;have KQ:Hid (∀ w',Below wc.heap.size wc w'→w'.cell? ⟨w.heap.size,0,none⟩=some (.int .i64 n.x)∧w'.cell? ⟨w.heap.size,1,none⟩=some (.int .i64 n.y)∧w'.cell? ⟨w.heap.size,2,none⟩=some (.int .i64 n.z)∧w'.cell? ⟨nu,0,none⟩=some (.int .i64 u.x)∧w'.cell? ⟨nu,1,none⟩=some (.int .i64 u.y)∧w'.cell? ⟨nu,2,none⟩=some (.int .i64 u.z)∧w'.cell? ⟨nv,0,none⟩=some (.int .i64 vv.x)∧w'.cell? ⟨nv,1,none⟩=some (.int .i64 vv.y)∧w'.cell? ⟨nv,2,none⟩=some (.int .i64 vv.z)):=fun w' h =>
                  ⟨keepC c0 h l1,keepC c1 h l1,keepC c2 h l1,keepC d0 h l2,keepC d1 h l2,keepC d2 h l2,keepC e0 h l3,keepC e1 h l3,keepC e2 h l3⟩
                have N0:=η (Below.refl wc.heap.size wc);have N00:Hid (Below wc.heap.size wc wc.drew):=N0.out.drew;have hcr:=η (fun v=>jO u vv 8192 8192 v LU.out LVV.out ω);have hdt:=η (fun v=>kj n (V.cross u vv) 200000000 134217728 v hn ((LU.out.cross LVV.out).mono ω) ω);have hdd:=η (fun x lx v=>kj x x 8192 8192 v lx lx ω);have hf2:=KQ.out _ N0.out;obtain ⟨τ,hτ⟩:∃ τ,V.dot n (V.cross u vv)=τ:=⟨_,rfl⟩;have HTAU:Hid (T n u vv=τ):=hτ;rw [hτ] at hdt;clear b1c c0 c1 c2 d0 d1 d2 e0 e1 e2 hf1 KP hτ
                go_wp2_with fail
                go_region_held3 (fun w'=>w'.cell? ⟨w.heap.size,0,none⟩=some (.int .i64 n.x)∧w'.cell? ⟨w.heap.size,1,none⟩=some (.int .i64 n.y)∧w'.cell? ⟨w.heap.size,2,none⟩=some (.int .i64 n.z)∧w'.cell? ⟨nu,0,none⟩=some (.int .i64 u.x)∧w'.cell? ⟨nu,1,none⟩=some (.int .i64 u.y)∧w'.cell? ⟨nu,2,none⟩=some (.int .i64 u.z)∧w'.cell? ⟨nv,0,none⟩=some (.int .i64 vv.x)∧w'.cell? ⟨nv,1,none⟩=some (.int .i64 vv.y)∧w'.cell? ⟨nv,2,none⟩=some (.int .i64 vv.z))
                  (first | with_reducible exact (KQ.out _ N2.out) | with_reducible exact (KQ.out _ N1.out) | with_reducible exact (KQ.out _ N00.out))
                  (first
                    | (have _g:=N1.out;clear _g;go_at_call 115;refine (hdt.out _).mono ?_;rintro e v2 ⟨rfl,hb2⟩
                       have N2:Hid (Below wc.heap.size wc v2):=ae N1.out hb2 ρ;clear hb2)
                    | (go_at_call 112;refine (hcr.out _).mono ?_;rintro e v1 ⟨rfl,hb1⟩
                       have N1:Hid (Below wc.heap.size wc v1):=ae N00.out hb1 ρ;clear hb1))
                have N2':=N2;have HR4:Hid (Below w2.heap.size w2 v2):=ae HR3.out (ae hbc.out N2.out ρ) ρ;have hf3:=(KQ.out _ N2.out).2.2.2;clear hf2
                rcases Int.lt_trichotomy τ 0 with ht | ht | ht
                · have ht1:(decide (τ<0))=true:=decide_eq_true ht
                  have HTT:=η ht
                  go_wp2_with fail
                  go_quiet (fail)
                  go_wp2;go_round
                  case rel=>exact ⟨i+1,some q,by omega,rfl,rfl,(by
                    show _=some q;rw [hpt.out,HOP.out,HQ.out];unfold pick;rw [if_neg HQL.out];dsimp only;rw [HUU.out,HVV.out,HTAU.out,if_pos (.inl HTT.out)]),aJ HR4.out _⟩
                  case measure=>show L.length - ((i:Int)+1).toNat<L.length - (i:Int).toNat;omega
                · have ht1:(decide (τ<0))=false:=decide_eq_false ω
                  have ht2:(τ == 0)=true:=by rw [beq_iff_eq];exact ht
                  have HTT:=η ht;have KR:Hid (∀ w',Below v2.heap.size v2 w'→w'.cell? ⟨nu,0,none⟩=some (.int .i64 u.x)∧w'.cell? ⟨nu,1,none⟩=some (.int .i64 u.y)∧w'.cell? ⟨nu,2,none⟩=some (.int .i64 u.z)∧w'.cell? ⟨nv,0,none⟩=some (.int .i64 vv.x)∧w'.cell? ⟨nv,1,none⟩=some (.int .i64 vv.y)∧w'.cell? ⟨nv,2,none⟩=some (.int .i64 vv.z)):=fun w' h=>(KQ.out _ (ae N2.out h ρ)).2.2.2
                  have O0:=η (Below.refl v2.heap.size v2);have O00:Hid (Below v2.heap.size v2 v2.drew):=O0.out.drew;clear ht;obtain ⟨dv,hdv⟩:∃ dv,V.dot vv vv=dv:=⟨_,rfl⟩;obtain ⟨du,hdu⟩:∃ du,V.dot u u=du:=⟨_,rfl⟩;have hcv:=hdd.out vv LVV.out;have hcu:=hdd.out u LU.out;rw [hdv] at hcv;rw [hdu] at hcu;have hcv:=η hcv;have hcu:=η hcu;have HDV:=η hdv;have HDU:=η hdu;clear hdv hdu hdd
                  go_wp2_with fail
                  go_region_held3 (fun w'=>w'.cell? ⟨nu,0,none⟩=some (.int .i64 u.x)∧w'.cell? ⟨nu,1,none⟩=some (.int .i64 u.y)∧w'.cell? ⟨nu,2,none⟩=some (.int .i64 u.z)∧w'.cell? ⟨nv,0,none⟩=some (.int .i64 vv.x)∧w'.cell? ⟨nv,1,none⟩=some (.int .i64 vv.y)∧w'.cell? ⟨nv,2,none⟩=some (.int .i64 vv.z))
                    (first | with_reducible exact (KR.out _ O2.out) | with_reducible exact (KR.out _ O1.out) | with_reducible exact (KR.out _ O00.out))
                    (first
                      | (have _g:=O1.out;clear _g;go_at_call 115;refine (hcu.out _).mono ?_;rintro e v4 ⟨rfl,hb2⟩
                         have O2:Hid (Below v2.heap.size v2 v4):=ae O1.out hb2 ρ;clear hb2)
                      | (go_at_call 115;refine (hcv.out _).mono ?_;rintro e v3 ⟨rfl,hb1⟩
                         have O1:Hid (Below v2.heap.size v2 v3):=ae O00.out hb1 ρ;clear hb1))
                  have HR5:Hid (Below w2.heap.size w2 v4):=ae HR4.out O2.out ρ;by_cases hgt:dv > du
                  · have HG:=η hgt
                    go_wp2;go_round
                    case rel=>exact ⟨i+1,some q,by omega,rfl,rfl,(by
                      show _=some q;rw [hpt.out,HOP.out,HQ.out];unfold pick;rw [if_neg HQL.out];dsimp only;rw [HUU.out,HVV.out,HTAU.out,HDV.out,HDU.out,if_pos (.inr ⟨HTT.out,HG.out⟩)]),HR5.out⟩
                    case measure=>show L.length - ((i:Int)+1).toNat<L.length - (i:Int).toNat;omega
                  · have HG:=η hgt
                    go_wp2;go_round
                    case rel=>exact ⟨i+1,some bb,by omega,rfl,rfl,(by
                      show _=some bb;rw [hpt.out,HOP.out,HQ.out];unfold pick;rw [if_neg HQL.out];dsimp only;rw [HUU.out,HVV.out,HTAU.out,HDV.out,HDU.out,if_neg (by have:=HTT.out;have:=HG.out;omega)]),HR5.out⟩
                    case measure=>show L.length - ((i:Int)+1).toNat<L.length - (i:Int).toNat;omega
                · have ht1:(decide (τ<0))=false:=decide_eq_false ω
                  have ht2:(τ == 0)=false:=by rw [beq_eq_false_iff_ne];omega
                  have HTT:=η ht
                  go_wp2_with fail
                  go_quiet (fail)
                  go_wp2;go_round
                  case rel=>exact ⟨i+1,some bb,by omega,rfl,rfl,(by
                    show _=some bb;rw [hpt.out,HOP.out,HQ.out];unfold pick;rw [if_neg HQL.out];dsimp only;rw [HUU.out,HVV.out,HTAU.out,if_neg (ψ HTT.out)]),aJ HR4.out _⟩
                  case measure=>show L.length - ((i:Int)+1).toNat<L.length - (i:Int).toNat;omega
    · have hm0:((m:Int) != 0)=true:=by rw [bne_iff_ne];omega
      obtain ⟨t,ht,hl⟩:=lowest h0;have hm64:=HL.out.lt HM.out;have hst:=η (HL.out.step HM.out ht hl);have htz:=η (fun v hv=>tz_any m t v hv hm64 ht hl);have hand:=and_nat m h0 hm64;have hdec:m &&& (m - 1)<m:=Nat.lt_of_le_of_lt Nat.and_le_right ω;have hlen':(bA M k).length≤64:=Nat.le_trans (oe M k) hk;have hszr:=HR.out.size;clear ht hl
      go_wp2_with fail
      refine (htz.out _ (HT.out.below HR.out (ψ HT.out.1))).mono ?_;rintro e w1 ⟨rfl,rfl⟩;have hown:w1.ownsRow W.heap.size 3 1 u5 (bA M k).length ((bA M k).map fun (i:Nat)=>Value.int .i64 (i:Int)):=HO.out
      go_wp2_with (at_builtin;refine wpList_append_own _ rfl _ _ 43 rfl W.heap.size 3 i0 (.int .i64 0) 1 8 Tryz.underlying43 hinf hz0 hz1 hz2 rfl ν _ _ _ rfl (hown.alloc _) ⟨w1.heap.size,0,none⟩ 1 1 [.int .i64 (t:Nat)] rfl rfl ?c1 ?c2 ?c3 ?c4 ?c5 ?_)
      case c1 =>
        intro j u hj
        match j,hj with
        | 0,hj=>simp at hj;subst hj;simp [Addr.add]
      case c2=>intro u hu;simp at hu;subst hu;rfl
      case c3=>unfold maxLen;omega
      case c4=>omega
      case c5=>simp;omega
      · intro v' w2 hown' hgrow _
        have hO2:dr w2 W.heap.size v' (bA M (t+1)):=by
          unfold dr;rw [hst.out.2.2.2.1];simpa using hown'
        have hB2:Below W.heap.size W w2:=by
          exact (HR.out.alloc hszr _).grown hgrow (by simp;omega) (cJ hown)
        have HO2:=η hO2;have HB2:=η hB2;clear hown' hgrow hown hO2 hB2;go_wp2;go_round
        case rel=>exact ⟨t+1,m &&& (m - 1),by have:=hst.out.2.1;omega,rfl,hst.out.2.2.2.2,HO2.out,HB2.out⟩
        case measure=>show ((m &&& (m - 1):Nat):Int).toNat<((m:Nat):Int).toNat;omega
end Go.Proofs.Υ
end

section
namespace Go.Proofs.Υ
open Go.RowKit Dowel
def n9 (a b:Q3):Int:=if dY a.x b.x≠0 then dY a.x b.x else if dY a.y b.y≠0 then dY a.y b.y else dY a.z b.z
theorem jp {x y:Rat}:dY x y=0↔x=y:=by
 unfold dY
 split
 ·rename_i h;exact ⟨fun h2=>by omega,fun h2=>absurd h (by rw [h2];exact Rat.lt_irrefl)⟩
 ·split
  ·rename_i h;exact ⟨fun h2=>by omega,fun h2=>absurd h (by rw [h2];exact Rat.lt_irrefl)⟩
  ·rename_i h1 h2;exact ⟨fun _=>Rat.le_antisymm (Rat.not_lt.mp h2) (Rat.not_lt.mp h1),fun _=>rfl⟩
theorem oW {a b:Q3}:n9 a b=0↔a=b:=by
 unfold n9;obtain ⟨x,y,z⟩:=a;obtain ⟨x',y',z'⟩:=b;simp only [Q3.mk.injEq];by_cases h1:dY x x'=0
 ·rw [if_neg (fun h=>h h1)]
  by_cases h2:dY y y'=0
  ·rw [if_neg (fun h=>h h2),jp];rw [jp] at h1 h2;simp [h1,h2]
  ·rw [if_pos h2];exact ⟨fun h=>absurd h h2,fun h=>absurd (jp.mpr h.2.1) h2⟩
 ·rw [if_pos h1];exact ⟨fun h=>absurd h h1,fun h=>absurd (jp.mpr h.1) h1⟩
set_option maxRecDepth 20000 in
theorem ku (va vb:Value) (a b:Q3) (k l:Nat) (w:World) (ha:aA w va a) (hb:aA w vb b) (hk:BdV k a) (hl:BdV l b) (h1:k+l≤1000000) :
    Calls Tryz.prog 78 #[va,vb] w fun e w'=>e=.returned (.int .i64 (n9 a b))∧Below w.heap.size w w':=by
  obtain ⟨a0,a1,a2,rfl,hax,hay,haz⟩:=ha;obtain ⟨b0,b1,b2,rfl,hbx,hby,hbz⟩:=hb;obtain ⟨W,hW,c1,c2,hB,hS⟩:=da w (ah a0 a1 a2) (ah b0 b1 b2) 58 58;have A:=η c1;have Bb:=η c2;have HA0:=η (hax.below hB);have HA1:=η (hay.below hB);have HA2:=η (haz.below hB);have HB0:=η (hbx.below hB);have HB1:=η (hby.below hB);have HB2:=η (hbz.below hB);have HK:=η hk;have HL:=η hl;have HBL:=η hB;have HSZ:=η hS;have Z0:=η (Below.refl W.heap.size W);clear hax hay haz hbx hby hbz hk hl c1 c2 hB hS;unfold ah at hW ⊢
  go_enter Tryz.func78,Tryz.ntmps78
  go_wp2_with fail
  refine aP.loop 4 ?_;refine aP.next (fun K hK=>?_);have KP1:Hid (∀ w',Below W.heap.size W w'→w'.cell? ⟨w.heap.size,0,none⟩=some (.bool a0.s)∧w'.cell? ⟨w.heap.size,1,none⟩=some (.slice a0.a a0.n a0.c)∧w'.cell? ⟨w.heap.size,2,none⟩=some (.bool a0.t)∧w'.cell? ⟨w.heap.size,3,none⟩=some (.slice a0.b a0.m a0.d)∧w'.cell? ⟨w.heap.size+1,0,none⟩=some (.bool b0.s)∧w'.cell? ⟨w.heap.size+1,1,none⟩=some (.slice b0.a b0.n b0.c)∧w'.cell? ⟨w.heap.size+1,2,none⟩=some (.bool b0.t)∧w'.cell? ⟨w.heap.size+1,3,none⟩=some (.slice b0.b b0.m b0.d)):=fun w' h=>by
    obtain ⟨p0,p1,p2,p3⟩:=(A.out.below h A.out.lt).p0.1;obtain ⟨q0,q1,q2,q3⟩:=(Bb.out.below h Bb.out.lt).p0.1;exact ⟨p0,p1,p2,p3,q0,q1,q2,q3⟩
  have hf:=KP1.out _ Z0.out;have Y0:Hid (Below W.heap.size W W.drew):=Z0.out.drew;obtain ⟨d0,hd0⟩:∃ d,dY a.x b.x=d:=⟨_,rfl⟩;have HD0:=η hd0
  go_wp2_with fail
  clear hd0
  go_region_held3 (fun w'=>w'.cell? ⟨w.heap.size,0,none⟩=some (.bool a0.s)∧w'.cell? ⟨w.heap.size,1,none⟩=some (.slice a0.a a0.n a0.c)∧w'.cell? ⟨w.heap.size,2,none⟩=some (.bool a0.t)∧w'.cell? ⟨w.heap.size,3,none⟩=some (.slice a0.b a0.m a0.d)∧w'.cell? ⟨w.heap.size+1,0,none⟩=some (.bool b0.s)∧w'.cell? ⟨w.heap.size+1,1,none⟩=some (.slice b0.a b0.n b0.c)∧w'.cell? ⟨w.heap.size+1,2,none⟩=some (.bool b0.t)∧w'.cell? ⟨w.heap.size+1,3,none⟩=some (.slice b0.b b0.m b0.d))
    (first | with_reducible exact (KP1.out _ L1.out) | with_reducible exact (KP1.out _ Y0.out))
    (first
      | (go_at_call 27;refine (cS a0.agg b0.agg a.x b.x k l _ (HA0.out.below Y0.out) (HB0.out.below Y0.out) HK.out.1 HL.out.1 ω).mono ?_
         rw [HD0.out];rintro e u1 ⟨rfl,hb1⟩;have L1:Hid (Below W.heap.size W u1):=ae Y0.out hb1 ρ;clear hb1))
  clear hf;by_cases hz0:d0=0
  case neg =>
    have hzb:(d0 != 0)=true:=bne_iff_ne.mpr hz0;have HZ:=η hz0;clear hz0;go_wp2;exact bodyPost_ret (results_tmp Tryz.results78 _ _ _) rfl ⟨by
      unfold n9;rw [if_pos (show dY a.x b.x≠0 by rw [HD0.out];exact HZ.out),HD0.out];rfl,ae HBL.out L1.out (ψ HSZ.out)⟩
  case pos =>
  have hzb0:(d0 != 0)=false:=by rw [hz0];rfl
  have HZ0:=η hz0;clear hz0
  go_wp2_with fail
  clear hzb0;refine aP.next (fun K hK=>?_);have KP2:Hid (∀ w',Below W.heap.size W w'→w'.cell? ⟨w.heap.size,4,none⟩=some (.bool a1.s)∧w'.cell? ⟨w.heap.size,5,none⟩=some (.slice a1.a a1.n a1.c)∧w'.cell? ⟨w.heap.size,6,none⟩=some (.bool a1.t)∧w'.cell? ⟨w.heap.size,7,none⟩=some (.slice a1.b a1.m a1.d)∧w'.cell? ⟨w.heap.size+1,4,none⟩=some (.bool b1.s)∧w'.cell? ⟨w.heap.size+1,5,none⟩=some (.slice b1.a b1.n b1.c)∧w'.cell? ⟨w.heap.size+1,6,none⟩=some (.bool b1.t)∧w'.cell? ⟨w.heap.size+1,7,none⟩=some (.slice b1.b b1.m b1.d)):=fun w' h=>by
    obtain ⟨p0,p1,p2,p3⟩:=(A.out.below h A.out.lt).p1.1;obtain ⟨q0,q1,q2,q3⟩:=(Bb.out.below h Bb.out.lt).p1.1;exact ⟨p0,p1,p2,p3,q0,q1,q2,q3⟩
  have hf:=KP2.out _ L1.out;have Y1:Hid (Below W.heap.size W u1.drew):=L1.out.drew;obtain ⟨d1,hd1⟩:∃ d,dY a.y b.y=d:=⟨_,rfl⟩;have HD1:=η hd1
  go_wp2_with fail
  clear hd1
  go_region_held3 (fun w'=>w'.cell? ⟨w.heap.size,4,none⟩=some (.bool a1.s)∧w'.cell? ⟨w.heap.size,5,none⟩=some (.slice a1.a a1.n a1.c)∧w'.cell? ⟨w.heap.size,6,none⟩=some (.bool a1.t)∧w'.cell? ⟨w.heap.size,7,none⟩=some (.slice a1.b a1.m a1.d)∧w'.cell? ⟨w.heap.size+1,4,none⟩=some (.bool b1.s)∧w'.cell? ⟨w.heap.size+1,5,none⟩=some (.slice b1.a b1.n b1.c)∧w'.cell? ⟨w.heap.size+1,6,none⟩=some (.bool b1.t)∧w'.cell? ⟨w.heap.size+1,7,none⟩=some (.slice b1.b b1.m b1.d))
    (first | with_reducible exact (KP2.out _ L2.out) | with_reducible exact (KP2.out _ Y1.out))
    (first
      | (go_at_call 27;refine (cS a1.agg b1.agg a.y b.y k l _ (HA1.out.below Y1.out) (HB1.out.below Y1.out) HK.out.2.1 HL.out.2.1 ω).mono ?_
         rw [HD1.out];rintro e u2 ⟨rfl,hb2⟩;have L2:Hid (Below W.heap.size W u2):=ae Y1.out hb2 ρ;clear hb2))
  clear hf;by_cases hz1:d1=0
  case neg =>
    have hzb:(d1 != 0)=true:=bne_iff_ne.mpr hz1;have HZ:=η hz1;clear hz1;go_wp2;exact bodyPost_ret (results_tmp Tryz.results78 _ _ _) rfl ⟨by
      unfold n9;rw [if_neg (show ¬ dY a.x b.x≠0 from fun h=>h (HD0.out.trans HZ0.out))];rw [if_pos (show dY a.y b.y≠0 by rw [HD1.out];exact HZ.out),HD1.out];rfl,ae HBL.out L2.out (ψ HSZ.out)⟩
  case pos =>
  have hzb1:(d1 != 0)=false:=by rw [hz1];rfl
  have HZ1:=η hz1;clear hz1
  go_wp2_with fail
  clear hzb1;refine aP.next (fun K hK=>?_);have KP3:Hid (∀ w',Below W.heap.size W w'→w'.cell? ⟨w.heap.size,8,none⟩=some (.bool a2.s)∧w'.cell? ⟨w.heap.size,9,none⟩=some (.slice a2.a a2.n a2.c)∧w'.cell? ⟨w.heap.size,10,none⟩=some (.bool a2.t)∧w'.cell? ⟨w.heap.size,11,none⟩=some (.slice a2.b a2.m a2.d)∧w'.cell? ⟨w.heap.size+1,8,none⟩=some (.bool b2.s)∧w'.cell? ⟨w.heap.size+1,9,none⟩=some (.slice b2.a b2.n b2.c)∧w'.cell? ⟨w.heap.size+1,10,none⟩=some (.bool b2.t)∧w'.cell? ⟨w.heap.size+1,11,none⟩=some (.slice b2.b b2.m b2.d)):=fun w' h=>by
    obtain ⟨p0,p1,p2,p3⟩:=(A.out.below h A.out.lt).p2.1;obtain ⟨q0,q1,q2,q3⟩:=(Bb.out.below h Bb.out.lt).p2.1;exact ⟨p0,p1,p2,p3,q0,q1,q2,q3⟩
  have hf:=KP3.out _ L2.out;have Y2:Hid (Below W.heap.size W u2.drew):=L2.out.drew;obtain ⟨d2,hd2⟩:∃ d,dY a.z b.z=d:=⟨_,rfl⟩;have HD2:=η hd2
  go_wp2_with fail
  clear hd2
  go_region_held3 (fun w'=>w'.cell? ⟨w.heap.size,8,none⟩=some (.bool a2.s)∧w'.cell? ⟨w.heap.size,9,none⟩=some (.slice a2.a a2.n a2.c)∧w'.cell? ⟨w.heap.size,10,none⟩=some (.bool a2.t)∧w'.cell? ⟨w.heap.size,11,none⟩=some (.slice a2.b a2.m a2.d)∧w'.cell? ⟨w.heap.size+1,8,none⟩=some (.bool b2.s)∧w'.cell? ⟨w.heap.size+1,9,none⟩=some (.slice b2.a b2.n b2.c)∧w'.cell? ⟨w.heap.size+1,10,none⟩=some (.bool b2.t)∧w'.cell? ⟨w.heap.size+1,11,none⟩=some (.slice b2.b b2.m b2.d))
    (first | with_reducible exact (KP3.out _ L3.out) | with_reducible exact (KP3.out _ Y2.out))
    (first
      | (go_at_call 27;refine (cS a2.agg b2.agg a.z b.z k l _ (HA2.out.below Y2.out) (HB2.out.below Y2.out) HK.out.2.2 HL.out.2.2 ω).mono ?_
         rw [HD2.out];rintro e u3 ⟨rfl,hb3⟩;have L3:Hid (Below W.heap.size W u3):=ae Y2.out hb3 ρ;clear hb3))
  clear hf;by_cases hz2:d2=0
  case neg =>
    have hzb:(d2 != 0)=true:=bne_iff_ne.mpr hz2;have HZ:=η hz2;clear hz2;go_wp2;exact bodyPost_ret (results_tmp Tryz.results78 _ _ _) rfl ⟨by
      unfold n9;rw [if_neg (show ¬ dY a.x b.x≠0 from fun h=>h (HD0.out.trans HZ0.out))];rw [if_neg (show ¬ dY a.y b.y≠0 from fun h=>h (HD1.out.trans HZ1.out))];rw [HD2.out];rfl,ae HBL.out L3.out (ψ HSZ.out)⟩
  case pos =>
  have hzb2:(d2 != 0)=false:=by rw [hz2];rfl
  have HZ2:=η hz2;clear hz2
  go_wp2_with fail
  clear hzb2;refine aP.next (fun K hK=>?_);go_wp2;exact bodyPost_ret (results_tmp Tryz.results78 _ _ _) rfl ⟨by
    rw [show n9 a b=0 from by
      unfold n9;rw [if_neg (show ¬ dY a.x b.x≠0 from fun h=>h (HD0.out.trans HZ0.out)),if_neg (show ¬ dY a.y b.y≠0 from fun h=>h (HD1.out.trans HZ1.out))];exact HD2.out.trans HZ2.out];rfl,ae HBL.out L3.out (ψ HSZ.out)⟩
set_option maxRecDepth 20000 in
theorem iz (va vb:Value) (a b:Q3) (k l:Nat) (w:World) (ha:aA w va a) (hb:aA w vb b) (hk:BdV k a) (hl:BdV l b) (h1:k+l≤1000000) :
  Calls Tryz.prog 38 #[va,vb] w fun e w'=>eS e (a=b)∧Below w.heap.size w w':=by
 have hc:=fun w' h2 h3=>ku va vb a b k l w' h2 h3 hk hl h1
 obtain ⟨d,hd⟩:∃ d,n9 a b=d:=⟨_,rfl⟩;have hda:d=0↔a=b:=by rw [← hd];exact oW
 rw [hd] at hc;have HDA:=η hda;have HA:=η ha;have HB:=η hb;obtain ⟨a0,a1,a2,rfl,-⟩:=ha;obtain ⟨b0,b1,b2,rfl,-⟩:=hb;have HC:=η hc;obtain ⟨W,hW,c1,c2,hBl,hS⟩:=da w (ah a0 a1 a2) (ah b0 b1 b2) 58 58;have HBL:=η hBl;have HSZ:=η hS;obtain ⟨⟨x0,x1,x2,x3⟩,-⟩:=c1.p0;obtain ⟨⟨x4,x5,x6,x7⟩,-⟩:=c1.p1;obtain ⟨⟨x8,x9,x10,x11⟩,-⟩:=c1.p2;obtain ⟨⟨y0,y1,y2,y3⟩,-⟩:=c2.p0;obtain ⟨⟨y4,y5,y6,y7⟩,-⟩:=c2.p1;obtain ⟨⟨y8,y9,y10,y11⟩,-⟩:=c2.p2;clear hc hk hl h1 c1 c2 hBl hS hd hda;unfold ah at hW ⊢
 go_enter Tryz.func38,Tryz.ntmps38
 go_wp2_with fail
 refine (HC.out _ (HA.out.below HBL.out) (HB.out.below HBL.out)).mono ?_;rintro e w1 ⟨rfl,hb1⟩;have L:=η (ae HBL.out hb1 (ψ HSZ.out));clear hb1 x0 x1 x2 x3 x4 x5 x6 x7 x8 x9 x10 x11 y0 y1 y2 y3 y4 y5 y6 y7 y8 y9 y10 y11;go_wp2;refine bodyPost_ret (results_tmp Tryz.results38 _ _ _) rfl ⟨⟨d == 0,rfl,?_⟩,L.out⟩;rw [beq_iff_eq];exact HDA.out
set_option maxRecDepth 20000 in
theorem VIsZero_any (va:Value) (a:Q3) (k:Nat) (w:World) (ha:aA w va a) (hk:BdV k a) (h1:k≤900000) :
  Calls Tryz.prog 89 #[va] w fun e w'=>eS e (a=⟨0,0,0⟩)∧Below w.heap.size w w':=by
 have hc:=fun w' h2 h3=>ku va (.agg (ah RC.zero RC.zero RC.zero)) a ⟨0,0,0⟩ k 1 w' h2 h3 hk ⟨Bd.zero,Bd.zero,Bd.zero⟩ ω
 obtain ⟨d,hd⟩:∃ d,n9 a ⟨0,0,0⟩=d:=⟨_,rfl⟩;have hda:d=0↔a=⟨0,0,0⟩:=by rw [← hd];exact oW
 rw [hd] at hc;have HDA:=η hda;have HA:=η ha;obtain ⟨a0,a1,a2,rfl,-⟩:=ha;have HC:=η hc;obtain ⟨W,hW,c1,hBl,hS⟩:=aG w (ah a0 a1 a2) 58;have HBL:=η hBl;have HSZ:=η hS;obtain ⟨⟨x0,x1,x2,x3⟩,-⟩:=c1.p0;obtain ⟨⟨x4,x5,x6,x7⟩,-⟩:=c1.p1;obtain ⟨⟨x8,x9,x10,x11⟩,-⟩:=c1.p2;clear hc hk h1 c1 hBl hS hd hda;unfold ah at hW ⊢
 go_enter Tryz.func89,Tryz.ntmps89
 go_wp2_with fail
 refine (HC.out _ (HA.out.below HBL.out) (aA.zero _)).mono ?_;rintro e w1 ⟨rfl,hb1⟩;have L:=η (ae HBL.out hb1 (ψ HSZ.out));clear hb1 x0 x1 x2 x3 x4 x5 x6 x7 x8 x9 x10 x11;go_wp2;refine bodyPost_ret (results_tmp Tryz.results89 _ _ _) rfl ⟨⟨d == 0,rfl,?_⟩,L.out⟩;rw [beq_iff_eq];exact HDA.out
end Go.Proofs.Υ
end

section
namespace Dowel
open Go Go.RowKit
def dT (a b:Q3):Q3:=⟨a.y*b.z - a.z*b.y,a.z*b.x - a.x*b.z,a.x*b.y - a.y*b.x⟩
theorem BdV.cross {k l:Nat} {a b:Q3} (ha:BdV k a) (hb:BdV l b):BdV (2*(k+l)+1) (dT a b):=by
 refine ⟨?_,?_,?_⟩
 ·have:=(ha.2.1.mul hb.2.2).sub (ha.2.2.mul hb.2.1);rwa [show k+l+(k+l)+1=2*(k+l)+1 by omega] at this
 ·have:=(ha.2.2.mul hb.1).sub (ha.1.mul hb.2.2);rwa [show k+l+(k+l)+1=2*(k+l)+1 by omega] at this
 ·have:=(ha.1.mul hb.2.1).sub (ha.2.1.mul hb.1);rwa [show k+l+(k+l)+1=2*(k+l)+1 by omega] at this
end Dowel
namespace Go.Proofs.Υ
open Go.RowKit Dowel
set_option maxRecDepth 20000 in
theorem VCross_any (va vb:Value) (a b:Q3) (k l:Nat) (w:World) (ha:aA w va a) (hb:aA w vb b) (hk:BdV k a) (hl:BdV l b) (h1:k+l<200000) :
    Calls Tryz.prog 150 #[va,vb] w fun e w'=>gV w' e (dT a b)∧Below w.heap.size w w':=by
  obtain ⟨a0,a1,a2,rfl,hax,hay,haz⟩:=ha;obtain ⟨b0,b1,b2,rfl,hbx,hby,hbz⟩:=hb;obtain ⟨W,hW,c1,c2,c3,c4,hB,hS⟩:=lf w (ah a0 a1 a2) (ah b0 b1 b2) #[.bool false,.slice none 0 0,.bool false,.slice none 0 0,.bool false,.slice none 0 0,.bool false,.slice none 0 0,.bool false,.slice none 0 0,.bool false,.slice none 0 0] #[.bool false,.slice none 0 0,.bool false,.slice none 0 0,.bool false,.slice none 0 0,.bool false,.slice none 0 0,.bool false,.slice none 0 0,.bool false,.slice none 0 0] 58 58 58 58;have A:=η c1;have Bb:=η c2;have C:Hid (Box W (w.heap.size+2) (ah RC.zero RC.zero RC.zero) 58):=c3;have D:Hid (Box W (w.heap.size+3) (ah RC.zero RC.zero RC.zero) 58):=c4;have RA0:=η (hax.below hB);have RA1:=η (hay.below hB);have RA2:=η (haz.below hB);have RB0:=η (hbx.below hB);have RB1:=η (hby.below hB);have RB2:=η (hbz.below hB);have HBL:=η hB;have HSZ:=η hS;have HKK:=η hk;have HLL:=η hl;have G3:Hid (w.heap.size+2≤w.heap.size+1+1+1):=by show _≤_;omega
  clear hax hay haz hbx hby hbz hk hl c1 c2 c3 c4 hB hS;unfold ah at hW ⊢
  go_enter Tryz.func150,Tryz.ntmps150
  go_wp2_with fail
  refine aP.loop 4 ?_;refine aP.next (fun K hK=>?_);have KP1:Hid (∀ w',Below (w.heap.size+2) W w'→w'.cell? ⟨w.heap.size,4,none⟩=some (.bool a1.s)∧w'.cell? ⟨w.heap.size,5,none⟩=some (.slice a1.a a1.n a1.c)∧w'.cell? ⟨w.heap.size,6,none⟩=some (.bool a1.t)∧w'.cell? ⟨w.heap.size,7,none⟩=some (.slice a1.b a1.m a1.d)∧w'.cell? ⟨w.heap.size+1,8,none⟩=some (.bool b2.s)∧w'.cell? ⟨w.heap.size+1,9,none⟩=some (.slice b2.a b2.n b2.c)∧w'.cell? ⟨w.heap.size+1,10,none⟩=some (.bool b2.t)∧w'.cell? ⟨w.heap.size+1,11,none⟩=some (.slice b2.b b2.m b2.d)∧w'.cell? ⟨w.heap.size,8,none⟩=some (.bool a2.s)∧w'.cell? ⟨w.heap.size,9,none⟩=some (.slice a2.a a2.n a2.c)∧w'.cell? ⟨w.heap.size,10,none⟩=some (.bool a2.t)∧w'.cell? ⟨w.heap.size,11,none⟩=some (.slice a2.b a2.m a2.d)∧w'.cell? ⟨w.heap.size+1,4,none⟩=some (.bool b1.s)∧w'.cell? ⟨w.heap.size+1,5,none⟩=some (.slice b1.a b1.n b1.c)∧w'.cell? ⟨w.heap.size+1,6,none⟩=some (.bool b1.t)∧w'.cell? ⟨w.heap.size+1,7,none⟩=some (.slice b1.b b1.m b1.d)):=fun w' h=>by
    obtain ⟨p0,p1,p2,p3⟩:=(A.out.below h ω).p1.1;obtain ⟨q0,q1,q2,q3⟩:=(Bb.out.below h ω).p2.1;obtain ⟨r0,r1,r2,r3⟩:=(A.out.below h ω).p2.1;obtain ⟨s0,s1,s2,s3⟩:=(Bb.out.below h ω).p1.1;exact ⟨p0,p1,p2,p3,q0,q1,q2,q3,r0,r1,r2,r3,s0,s1,s2,s3⟩
  have L00:Hid (Below W.heap.size W W.drew):=β.drew;have N0:Hid (Below (w.heap.size+2) W W.drew):=β.drew;have hf1:=KP1.out _ β;have hM1:=η (fun v h2 h3=>dK a1.agg b2.agg a.y b.z k l v h2 h3 HKK.out.2.1 HLL.out.2.2 ω);have hM2:=η (fun v h2 h3=>dK a2.agg b1.agg a.z b.y k l v h2 h3 HKK.out.2.2 HLL.out.2.1 ω);have hM3:=η (fun v va vb h2 h3=>ie va vb (a.y*b.z) (a.z*b.y) (k+l) (k+l) v h2 h3 (HKK.out.2.1.mul HLL.out.2.2) (HKK.out.2.2.mul HLL.out.2.1) ω)
  go_wp2_with fail
  go_region_held3 (fun w'=>w'.cell? ⟨w.heap.size,4,none⟩=some (.bool a1.s)∧w'.cell? ⟨w.heap.size,5,none⟩=some (.slice a1.a a1.n a1.c)∧w'.cell? ⟨w.heap.size,6,none⟩=some (.bool a1.t)∧w'.cell? ⟨w.heap.size,7,none⟩=some (.slice a1.b a1.m a1.d)∧w'.cell? ⟨w.heap.size+1,8,none⟩=some (.bool b2.s)∧w'.cell? ⟨w.heap.size+1,9,none⟩=some (.slice b2.a b2.n b2.c)∧w'.cell? ⟨w.heap.size+1,10,none⟩=some (.bool b2.t)∧w'.cell? ⟨w.heap.size+1,11,none⟩=some (.slice b2.b b2.m b2.d)∧w'.cell? ⟨w.heap.size,8,none⟩=some (.bool a2.s)∧w'.cell? ⟨w.heap.size,9,none⟩=some (.slice a2.a a2.n a2.c)∧w'.cell? ⟨w.heap.size,10,none⟩=some (.bool a2.t)∧w'.cell? ⟨w.heap.size,11,none⟩=some (.slice a2.b a2.m a2.d)∧w'.cell? ⟨w.heap.size+1,4,none⟩=some (.bool b1.s)∧w'.cell? ⟨w.heap.size+1,5,none⟩=some (.slice b1.a b1.n b1.c)∧w'.cell? ⟨w.heap.size+1,6,none⟩=some (.bool b1.t)∧w'.cell? ⟨w.heap.size+1,7,none⟩=some (.slice b1.b b1.m b1.d))
    (first | with_reducible exact (KP1.out _ (cw N1.out G3.out _ _ _ _ _ _ _ _)) | with_reducible exact (KP1.out _ N1.out) | with_reducible exact (KP1.out _ N21.out) | with_reducible exact (KP1.out _ N11.out) | with_reducible exact (KP1.out _ N0.out))
    (first
      | (have _g:=M21.out;clear _g;go_at_call 64;refine (hM3.out _ _ _ (P11.out.below X21.out) P21.out).mono ?_;rintro e z1 ⟨⟨v1,rfl,hv1⟩,hb1⟩
         obtain ⟨r0,rfl,hr0⟩:=hv1.rcv;have M1:Hid (Below W.heap.size W z1):=ae M21.out hb1 ρ;have N1:Hid (Below (w.heap.size+2) W z1):=ae N21.out hb1 (ψ D.out.lt);have S0:=η hr0;obtain ⟨⟨x0,x1,x2,x3⟩,x4,x5,x6,x7⟩:=(D.out.below M1.out D.out.lt).p0;clear hv1 hr0 hb1)
      | (have _g:=M11.out;clear _g;go_at_call 67;refine (hM2.out _ (RA2.out.below M11.out) (RB1.out.below M11.out)).mono ?_;rintro e y1 ⟨⟨v1,rfl,hv1⟩,hb1⟩
         have M21:Hid (Below W.heap.size W y1):=ae M11.out hb1 ρ;have N21:Hid (Below (w.heap.size+2) W y1):=ae N11.out hb1 (ψ D.out.lt);have P21:=η hv1;have X21:=η hb1;clear hv1 hb1)
      | (go_at_call 67;refine (hM1.out _ (RA1.out.below L00.out) (RB2.out.below L00.out)).mono ?_;rintro e x1 ⟨⟨v1,rfl,hv1⟩,hb1⟩
         have M11:Hid (Below W.heap.size W x1):=ae L00.out hb1 ρ;have N11:Hid (Below (w.heap.size+2) W x1):=ae N0.out hb1 (ψ D.out.lt);have P11:=η hv1;clear hv1 hb1))
  clear hf1 x0 x1 x2 x3 x4 x5 x6 x7 hM1 hM2 hM3
  go_wp2_with fail
  change aP _ _ _ _ _ (put4 z1 (w.heap.size+3) 0 r0);have E1:=η (D.out.below M1.out D.out.lt);have A1_:=η ((A.out.below M1.out A.out.lt).oput4 (g':=w.heap.size+3) ω 0 r0);have Bb1_:=η ((Bb.out.below M1.out Bb.out.lt).oput4 (g':=w.heap.size+3) ω 0 r0);have C1_:=η ((C.out.below M1.out C.out.lt).oput4 (g':=w.heap.size+3) ω 0 r0);have D1_:=η (E1.out.s0 r0);have T0:=η (S0.out.put4 E1.out.p0 r0);replace RA0:=η ((RA0.out.below M1.out).put4 E1.out.p0 r0);replace RA1:=η ((RA1.out.below M1.out).put4 E1.out.p0 r0);replace RA2:=η ((RA2.out.below M1.out).put4 E1.out.p0 r0);replace RB0:=η ((RB0.out.below M1.out).put4 E1.out.p0 r0);replace RB1:=η ((RB1.out.below M1.out).put4 E1.out.p0 r0);replace RB2:=η ((RB2.out.below M1.out).put4 E1.out.p0 r0);have K1:=η (aX (ae HBL.out M1.out (ψ D.out.lt)) (Nat.le_add_right _ 3) 0 r0);clear KP1 L00 N0 N1 S0 N11 N21 M11 M21 P11 P21 X21;clear M1 E1;generalize put4 z1 (w.heap.size+3) 0 r0=U1 at *;refine aP.next (fun K hK=>?_);have KP2:Hid (∀ w',Below (w.heap.size+2) U1 w'→w'.cell? ⟨w.heap.size,8,none⟩=some (.bool a2.s)∧w'.cell? ⟨w.heap.size,9,none⟩=some (.slice a2.a a2.n a2.c)∧w'.cell? ⟨w.heap.size,10,none⟩=some (.bool a2.t)∧w'.cell? ⟨w.heap.size,11,none⟩=some (.slice a2.b a2.m a2.d)∧w'.cell? ⟨w.heap.size+1,0,none⟩=some (.bool b0.s)∧w'.cell? ⟨w.heap.size+1,1,none⟩=some (.slice b0.a b0.n b0.c)∧w'.cell? ⟨w.heap.size+1,2,none⟩=some (.bool b0.t)∧w'.cell? ⟨w.heap.size+1,3,none⟩=some (.slice b0.b b0.m b0.d)∧w'.cell? ⟨w.heap.size,0,none⟩=some (.bool a0.s)∧w'.cell? ⟨w.heap.size,1,none⟩=some (.slice a0.a a0.n a0.c)∧w'.cell? ⟨w.heap.size,2,none⟩=some (.bool a0.t)∧w'.cell? ⟨w.heap.size,3,none⟩=some (.slice a0.b a0.m a0.d)∧w'.cell? ⟨w.heap.size+1,8,none⟩=some (.bool b2.s)∧w'.cell? ⟨w.heap.size+1,9,none⟩=some (.slice b2.a b2.n b2.c)∧w'.cell? ⟨w.heap.size+1,10,none⟩=some (.bool b2.t)∧w'.cell? ⟨w.heap.size+1,11,none⟩=some (.slice b2.b b2.m b2.d)):=fun w' h=>by
    obtain ⟨p0,p1,p2,p3⟩:=(A1_.out.below h ω).p2.1;obtain ⟨q0,q1,q2,q3⟩:=(Bb1_.out.below h ω).p0.1;obtain ⟨r0,r1,r2,r3⟩:=(A1_.out.below h ω).p0.1;obtain ⟨s0,s1,s2,s3⟩:=(Bb1_.out.below h ω).p2.1;exact ⟨p0,p1,p2,p3,q0,q1,q2,q3,r0,r1,r2,r3,s0,s1,s2,s3⟩
  have L00:Hid (Below U1.heap.size U1 U1.drew):=β.drew;have N0:Hid (Below (w.heap.size+2) U1 U1.drew):=β.drew;have hf1:=KP2.out _ β;have hM1:=η (fun v h2 h3=>dK a2.agg b0.agg a.z b.x k l v h2 h3 HKK.out.2.2 HLL.out.1 ω);have hM2:=η (fun v h2 h3=>dK a0.agg b2.agg a.x b.z k l v h2 h3 HKK.out.1 HLL.out.2.2 ω);have hM3:=η (fun v va vb h2 h3=>ie va vb (a.z*b.x) (a.x*b.z) (k+l) (k+l) v h2 h3 (HKK.out.2.2.mul HLL.out.1) (HKK.out.1.mul HLL.out.2.2) ω)
  go_wp2_with fail
  go_region_held3 (fun w'=>w'.cell? ⟨w.heap.size,8,none⟩=some (.bool a2.s)∧w'.cell? ⟨w.heap.size,9,none⟩=some (.slice a2.a a2.n a2.c)∧w'.cell? ⟨w.heap.size,10,none⟩=some (.bool a2.t)∧w'.cell? ⟨w.heap.size,11,none⟩=some (.slice a2.b a2.m a2.d)∧w'.cell? ⟨w.heap.size+1,0,none⟩=some (.bool b0.s)∧w'.cell? ⟨w.heap.size+1,1,none⟩=some (.slice b0.a b0.n b0.c)∧w'.cell? ⟨w.heap.size+1,2,none⟩=some (.bool b0.t)∧w'.cell? ⟨w.heap.size+1,3,none⟩=some (.slice b0.b b0.m b0.d)∧w'.cell? ⟨w.heap.size,0,none⟩=some (.bool a0.s)∧w'.cell? ⟨w.heap.size,1,none⟩=some (.slice a0.a a0.n a0.c)∧w'.cell? ⟨w.heap.size,2,none⟩=some (.bool a0.t)∧w'.cell? ⟨w.heap.size,3,none⟩=some (.slice a0.b a0.m a0.d)∧w'.cell? ⟨w.heap.size+1,8,none⟩=some (.bool b2.s)∧w'.cell? ⟨w.heap.size+1,9,none⟩=some (.slice b2.a b2.n b2.c)∧w'.cell? ⟨w.heap.size+1,10,none⟩=some (.bool b2.t)∧w'.cell? ⟨w.heap.size+1,11,none⟩=some (.slice b2.b b2.m b2.d))
    (first | with_reducible exact (KP2.out _ (cw N2.out G3.out _ _ _ _ _ _ _ _)) | with_reducible exact (KP2.out _ N2.out) | with_reducible exact (KP2.out _ N22.out) | with_reducible exact (KP2.out _ N12.out) | with_reducible exact (KP2.out _ N0.out))
    (first
      | (have _g:=M22.out;clear _g;go_at_call 64;refine (hM3.out _ _ _ (P12.out.below X22.out) P22.out).mono ?_;rintro e z2 ⟨⟨v2,rfl,hv2⟩,hb2⟩
         obtain ⟨r1,rfl,hr1⟩:=hv2.rcv;have M2:Hid (Below U1.heap.size U1 z2):=ae M22.out hb2 ρ;have N2:Hid (Below (w.heap.size+2) U1 z2):=ae N22.out hb2 (ψ D1_.out.lt);have S1:=η hr1;obtain ⟨⟨x0,x1,x2,x3⟩,x4,x5,x6,x7⟩:=(D1_.out.below M2.out D1_.out.lt).p1;clear hv2 hr1 hb2)
      | (have _g:=M12.out;clear _g;go_at_call 67;refine (hM2.out _ (RA0.out.below M12.out) (RB2.out.below M12.out)).mono ?_;rintro e y2 ⟨⟨v2,rfl,hv2⟩,hb2⟩
         have M22:Hid (Below U1.heap.size U1 y2):=ae M12.out hb2 ρ;have N22:Hid (Below (w.heap.size+2) U1 y2):=ae N12.out hb2 (ψ D1_.out.lt);have P22:=η hv2;have X22:=η hb2;clear hv2 hb2)
      | (go_at_call 67;refine (hM1.out _ (RA2.out.below L00.out) (RB0.out.below L00.out)).mono ?_;rintro e x2 ⟨⟨v2,rfl,hv2⟩,hb2⟩
         have M12:Hid (Below U1.heap.size U1 x2):=ae L00.out hb2 ρ;have N12:Hid (Below (w.heap.size+2) U1 x2):=ae N0.out hb2 (ψ D1_.out.lt);have P12:=η hv2;clear hv2 hb2))
  clear hf1 x0 x1 x2 x3 x4 x5 x6 x7 hM1 hM2 hM3
  go_wp2_with fail
  change aP _ _ _ _ _ (put4 z2 (w.heap.size+3) 4 r1);have E2:=η (D1_.out.below M2.out D1_.out.lt);have A2_:=η ((A1_.out.below M2.out A1_.out.lt).oput4 (g':=w.heap.size+3) ω 4 r1);have Bb2_:=η ((Bb1_.out.below M2.out Bb1_.out.lt).oput4 (g':=w.heap.size+3) ω 4 r1);have C2_:=η ((C1_.out.below M2.out C1_.out.lt).oput4 (g':=w.heap.size+3) ω 4 r1);have D2_:=η (E2.out.s1 r1);have T1:=η (S1.out.put4 E2.out.p1 r1);replace RA0:=η ((RA0.out.below M2.out).put4 E2.out.p1 r1);replace RA1:=η ((RA1.out.below M2.out).put4 E2.out.p1 r1);replace RA2:=η ((RA2.out.below M2.out).put4 E2.out.p1 r1);replace RB0:=η ((RB0.out.below M2.out).put4 E2.out.p1 r1);replace RB1:=η ((RB1.out.below M2.out).put4 E2.out.p1 r1);replace RB2:=η ((RB2.out.below M2.out).put4 E2.out.p1 r1);replace T0:=η ((T0.out.below M2.out).put4 E2.out.p1 r1);have K2:=η (aX (ae K1.out M2.out (ψ D1_.out.lt)) (Nat.le_add_right _ 3) 4 r1);clear KP2 L00 N0 N2 S1 N12 N22 M12 M22 P12 P22 X22;clear M2 E2;generalize put4 z2 (w.heap.size+3) 4 r1=U2 at *;refine aP.next (fun K hK=>?_);have KP3:Hid (∀ w',Below (w.heap.size+2) U2 w'→w'.cell? ⟨w.heap.size,0,none⟩=some (.bool a0.s)∧w'.cell? ⟨w.heap.size,1,none⟩=some (.slice a0.a a0.n a0.c)∧w'.cell? ⟨w.heap.size,2,none⟩=some (.bool a0.t)∧w'.cell? ⟨w.heap.size,3,none⟩=some (.slice a0.b a0.m a0.d)∧w'.cell? ⟨w.heap.size+1,4,none⟩=some (.bool b1.s)∧w'.cell? ⟨w.heap.size+1,5,none⟩=some (.slice b1.a b1.n b1.c)∧w'.cell? ⟨w.heap.size+1,6,none⟩=some (.bool b1.t)∧w'.cell? ⟨w.heap.size+1,7,none⟩=some (.slice b1.b b1.m b1.d)∧w'.cell? ⟨w.heap.size,4,none⟩=some (.bool a1.s)∧w'.cell? ⟨w.heap.size,5,none⟩=some (.slice a1.a a1.n a1.c)∧w'.cell? ⟨w.heap.size,6,none⟩=some (.bool a1.t)∧w'.cell? ⟨w.heap.size,7,none⟩=some (.slice a1.b a1.m a1.d)∧w'.cell? ⟨w.heap.size+1,0,none⟩=some (.bool b0.s)∧w'.cell? ⟨w.heap.size+1,1,none⟩=some (.slice b0.a b0.n b0.c)∧w'.cell? ⟨w.heap.size+1,2,none⟩=some (.bool b0.t)∧w'.cell? ⟨w.heap.size+1,3,none⟩=some (.slice b0.b b0.m b0.d)):=fun w' h=>by
    obtain ⟨p0,p1,p2,p3⟩:=(A2_.out.below h ω).p0.1;obtain ⟨q0,q1,q2,q3⟩:=(Bb2_.out.below h ω).p1.1;obtain ⟨r0,r1,r2,r3⟩:=(A2_.out.below h ω).p1.1;obtain ⟨s0,s1,s2,s3⟩:=(Bb2_.out.below h ω).p0.1;exact ⟨p0,p1,p2,p3,q0,q1,q2,q3,r0,r1,r2,r3,s0,s1,s2,s3⟩
  have L00:Hid (Below U2.heap.size U2 U2.drew):=β.drew;have N0:Hid (Below (w.heap.size+2) U2 U2.drew):=β.drew;have hf1:=KP3.out _ β;have hM1:=η (fun v h2 h3=>dK a0.agg b1.agg a.x b.y k l v h2 h3 HKK.out.1 HLL.out.2.1 ω);have hM2:=η (fun v h2 h3=>dK a1.agg b0.agg a.y b.x k l v h2 h3 HKK.out.2.1 HLL.out.1 ω);have hM3:=η (fun v va vb h2 h3=>ie va vb (a.x*b.y) (a.y*b.x) (k+l) (k+l) v h2 h3 (HKK.out.1.mul HLL.out.2.1) (HKK.out.2.1.mul HLL.out.1) ω)
  go_wp2_with fail
  go_region_held3 (fun w'=>w'.cell? ⟨w.heap.size,0,none⟩=some (.bool a0.s)∧w'.cell? ⟨w.heap.size,1,none⟩=some (.slice a0.a a0.n a0.c)∧w'.cell? ⟨w.heap.size,2,none⟩=some (.bool a0.t)∧w'.cell? ⟨w.heap.size,3,none⟩=some (.slice a0.b a0.m a0.d)∧w'.cell? ⟨w.heap.size+1,4,none⟩=some (.bool b1.s)∧w'.cell? ⟨w.heap.size+1,5,none⟩=some (.slice b1.a b1.n b1.c)∧w'.cell? ⟨w.heap.size+1,6,none⟩=some (.bool b1.t)∧w'.cell? ⟨w.heap.size+1,7,none⟩=some (.slice b1.b b1.m b1.d)∧w'.cell? ⟨w.heap.size,4,none⟩=some (.bool a1.s)∧w'.cell? ⟨w.heap.size,5,none⟩=some (.slice a1.a a1.n a1.c)∧w'.cell? ⟨w.heap.size,6,none⟩=some (.bool a1.t)∧w'.cell? ⟨w.heap.size,7,none⟩=some (.slice a1.b a1.m a1.d)∧w'.cell? ⟨w.heap.size+1,0,none⟩=some (.bool b0.s)∧w'.cell? ⟨w.heap.size+1,1,none⟩=some (.slice b0.a b0.n b0.c)∧w'.cell? ⟨w.heap.size+1,2,none⟩=some (.bool b0.t)∧w'.cell? ⟨w.heap.size+1,3,none⟩=some (.slice b0.b b0.m b0.d))
    (first | with_reducible exact (KP3.out _ (cw N3.out G3.out _ _ _ _ _ _ _ _)) | with_reducible exact (KP3.out _ N3.out) | with_reducible exact (KP3.out _ N23.out) | with_reducible exact (KP3.out _ N13.out) | with_reducible exact (KP3.out _ N0.out))
    (first
      | (have _g:=M23.out;clear _g;go_at_call 64;refine (hM3.out _ _ _ (P13.out.below X23.out) P23.out).mono ?_;rintro e z3 ⟨⟨v3,rfl,hv3⟩,hb3⟩
         obtain ⟨r2,rfl,hr2⟩:=hv3.rcv;have M3:Hid (Below U2.heap.size U2 z3):=ae M23.out hb3 ρ;have N3:Hid (Below (w.heap.size+2) U2 z3):=ae N23.out hb3 (ψ D2_.out.lt);have S2:=η hr2;obtain ⟨⟨x0,x1,x2,x3⟩,x4,x5,x6,x7⟩:=(D2_.out.below M3.out D2_.out.lt).p2;clear hv3 hr2 hb3)
      | (have _g:=M13.out;clear _g;go_at_call 67;refine (hM2.out _ (RA1.out.below M13.out) (RB0.out.below M13.out)).mono ?_;rintro e y3 ⟨⟨v3,rfl,hv3⟩,hb3⟩
         have M23:Hid (Below U2.heap.size U2 y3):=ae M13.out hb3 ρ;have N23:Hid (Below (w.heap.size+2) U2 y3):=ae N13.out hb3 (ψ D2_.out.lt);have P23:=η hv3;have X23:=η hb3;clear hv3 hb3)
      | (go_at_call 67;refine (hM1.out _ (RA0.out.below L00.out) (RB1.out.below L00.out)).mono ?_;rintro e x3 ⟨⟨v3,rfl,hv3⟩,hb3⟩
         have M13:Hid (Below U2.heap.size U2 x3):=ae L00.out hb3 ρ;have N13:Hid (Below (w.heap.size+2) U2 x3):=ae N0.out hb3 (ψ D2_.out.lt);have P13:=η hv3;clear hv3 hb3))
  clear hf1 x0 x1 x2 x3 x4 x5 x6 x7 hM1 hM2 hM3
  go_wp2_with fail
  change aP _ _ _ _ _ (put4 z3 (w.heap.size+3) 8 r2);have E3:=η (D2_.out.below M3.out D2_.out.lt);have A3_:=η ((A2_.out.below M3.out A2_.out.lt).oput4 (g':=w.heap.size+3) ω 8 r2);have Bb3_:=η ((Bb2_.out.below M3.out Bb2_.out.lt).oput4 (g':=w.heap.size+3) ω 8 r2);have C3_:=η ((C2_.out.below M3.out C2_.out.lt).oput4 (g':=w.heap.size+3) ω 8 r2);have D3_:=η (E3.out.s2 r2);have T2:=η (S2.out.put4 E3.out.p2 r2);replace RA0:=η ((RA0.out.below M3.out).put4 E3.out.p2 r2);replace RA1:=η ((RA1.out.below M3.out).put4 E3.out.p2 r2);replace RA2:=η ((RA2.out.below M3.out).put4 E3.out.p2 r2);replace RB0:=η ((RB0.out.below M3.out).put4 E3.out.p2 r2);replace RB1:=η ((RB1.out.below M3.out).put4 E3.out.p2 r2);replace RB2:=η ((RB2.out.below M3.out).put4 E3.out.p2 r2);replace T0:=η ((T0.out.below M3.out).put4 E3.out.p2 r2);replace T1:=η ((T1.out.below M3.out).put4 E3.out.p2 r2);have K3:=η (aX (ae K2.out M3.out (ψ D2_.out.lt)) (Nat.le_add_right _ 3) 8 r2);clear KP3 L00 N0 N3 S2 N13 N23 M13 M23 P13 P23 X23;clear M3 E3;generalize put4 z3 (w.heap.size+3) 8 r2=U3 at *;refine aP.next (fun K hK=>?_);obtain ⟨⟨x0,x1,x2,x3⟩,-⟩:=D3_.out.p0;obtain ⟨⟨x4,x5,x6,x7⟩,-⟩:=D3_.out.p1;obtain ⟨⟨x8,x9,x10,x11⟩,-⟩:=D3_.out.p2;obtain ⟨⟨y0,y1,y2,y3⟩,f0,f1,f2,f3⟩:=C3_.out.p0;obtain ⟨⟨y4,y5,y6,y7⟩,f4,f5,f6,f7⟩:=C3_.out.p1;obtain ⟨⟨y8,y9,y10,y11⟩,f8,f9,f10,f11⟩:=C3_.out.p2;go_wp2;exact aS Tryz.results150 (w.heap.size+2) (C3_.out.s12 r0 r1 r2) _ rfl Tryz.underlying58 rfl aK rfl
    ⟨⟨_,rfl,r0,r1,r2,rfl,T0.out.put12 C3_.out _ _ _,T1.out.put12 C3_.out _ _ _,T2.out.put12 C3_.out _ _ _⟩,bw K3.out ω _ _ _⟩
end Go.Proofs.Υ
end

section
namespace Go.Proofs.Υ
open Go.RowKit Dowel
set_option maxRecDepth 20000 in
theorem VDet_any (va vb vc:Value) (a b c:Q3) (k:Nat) (w:World) (ha:aA w va a) (hb:aA w vb b) (hc:aA w vc c) (hk:BdV k a) (hl:BdV k b) (hm:BdV k c) (h1:k<30000) :
    Calls Tryz.prog 119 #[va,vb,vc] w fun e w'=>dJ w' e (bt a (dT b c))∧Below w.heap.size w w':=by
  have hD:=η (fun v x y h2 h3=>gF x y a (dT b c) k (2*(k+k)+1) v h2 h3 hk (hl.cross hm) ω);have hX:=η (fun v x y h2 h3=>VCross_any x y b c k k v h2 h3 hl hm ω);have HA:=η ha;have HBv:=η hb;have HCv:=η hc;obtain ⟨a0,a1,a2,rfl,-⟩:=ha;obtain ⟨b0,b1,b2,rfl,-⟩:=hb;obtain ⟨c0,c1,c2,rfl,-⟩:=hc;obtain ⟨W,hW,d1,d2,d3,d4,hB,hS⟩:=lf w (ah a0 a1 a2) (ah b0 b1 b2) (ah c0 c1 c2) #[.bool false,.slice none 0 0,.bool false,.slice none 0 0] 58 58 58 56;have A:=η d1;have Bb:=η d2;have C:=η d3;have D:=η d4;have HBL:=η hB;have HSZ:=η hS;have G3:Hid (w.heap.size+3≤w.heap.size+1+1+1):=by show _≤_;omega
  clear hk hl hm h1 d1 d2 d3 d4 hB hS;have KP:Hid (∀ w',Below (w.heap.size+3) W w'→w'.cell? ⟨w.heap.size,0,none⟩=some (.bool a0.s)∧w'.cell? ⟨w.heap.size,1,none⟩=some (.slice a0.a a0.n a0.c)∧w'.cell? ⟨w.heap.size,2,none⟩=some (.bool a0.t)∧w'.cell? ⟨w.heap.size,3,none⟩=some (.slice a0.b a0.m a0.d)∧w'.cell? ⟨w.heap.size,4,none⟩=some (.bool a1.s)∧w'.cell? ⟨w.heap.size,5,none⟩=some (.slice a1.a a1.n a1.c)∧w'.cell? ⟨w.heap.size,6,none⟩=some (.bool a1.t)∧w'.cell? ⟨w.heap.size,7,none⟩=some (.slice a1.b a1.m a1.d)∧w'.cell? ⟨w.heap.size,8,none⟩=some (.bool a2.s)∧w'.cell? ⟨w.heap.size,9,none⟩=some (.slice a2.a a2.n a2.c)∧w'.cell? ⟨w.heap.size,10,none⟩=some (.bool a2.t)∧w'.cell? ⟨w.heap.size,11,none⟩=some (.slice a2.b a2.m a2.d)∧w'.cell? ⟨w.heap.size+1,0,none⟩=some (.bool b0.s)∧w'.cell? ⟨w.heap.size+1,1,none⟩=some (.slice b0.a b0.n b0.c)∧w'.cell? ⟨w.heap.size+1,2,none⟩=some (.bool b0.t)∧w'.cell? ⟨w.heap.size+1,3,none⟩=some (.slice b0.b b0.m b0.d)∧w'.cell? ⟨w.heap.size+1,4,none⟩=some (.bool b1.s)∧w'.cell? ⟨w.heap.size+1,5,none⟩=some (.slice b1.a b1.n b1.c)∧w'.cell? ⟨w.heap.size+1,6,none⟩=some (.bool b1.t)∧w'.cell? ⟨w.heap.size+1,7,none⟩=some (.slice b1.b b1.m b1.d)∧w'.cell? ⟨w.heap.size+1,8,none⟩=some (.bool b2.s)∧w'.cell? ⟨w.heap.size+1,9,none⟩=some (.slice b2.a b2.n b2.c)∧w'.cell? ⟨w.heap.size+1,10,none⟩=some (.bool b2.t)∧w'.cell? ⟨w.heap.size+1,11,none⟩=some (.slice b2.b b2.m b2.d)∧w'.cell? ⟨w.heap.size+2,0,none⟩=some (.bool c0.s)∧w'.cell? ⟨w.heap.size+2,1,none⟩=some (.slice c0.a c0.n c0.c)∧w'.cell? ⟨w.heap.size+2,2,none⟩=some (.bool c0.t)∧w'.cell? ⟨w.heap.size+2,3,none⟩=some (.slice c0.b c0.m c0.d)∧w'.cell? ⟨w.heap.size+2,4,none⟩=some (.bool c1.s)∧w'.cell? ⟨w.heap.size+2,5,none⟩=some (.slice c1.a c1.n c1.c)∧w'.cell? ⟨w.heap.size+2,6,none⟩=some (.bool c1.t)∧w'.cell? ⟨w.heap.size+2,7,none⟩=some (.slice c1.b c1.m c1.d)∧w'.cell? ⟨w.heap.size+2,8,none⟩=some (.bool c2.s)∧w'.cell? ⟨w.heap.size+2,9,none⟩=some (.slice c2.a c2.n c2.c)∧w'.cell? ⟨w.heap.size+2,10,none⟩=some (.bool c2.t)∧w'.cell? ⟨w.heap.size+2,11,none⟩=some (.slice c2.b c2.m c2.d)):=fun w' h=>by
    have hA:=A.out.below h ω;have hBb:=Bb.out.below h ω;have hC:=C.out.below h ω;obtain ⟨p0,p1,p2,p3⟩:=hA.p0.1;obtain ⟨p4,p5,p6,p7⟩:=hA.p1.1;obtain ⟨p8,p9,p10,p11⟩:=hA.p2.1;obtain ⟨q0,q1,q2,q3⟩:=hBb.p0.1;obtain ⟨q4,q5,q6,q7⟩:=hBb.p1.1;obtain ⟨q8,q9,q10,q11⟩:=hBb.p2.1;obtain ⟨r0,r1,r2,r3⟩:=hC.p0.1;obtain ⟨r4,r5,r6,r7⟩:=hC.p1.1;obtain ⟨r8,r9,r10,r11⟩:=hC.p2.1;exact ⟨p0,p1,p2,p3,p4,p5,p6,p7,p8,p9,p10,p11,q0,q1,q2,q3,q4,q5,q6,q7,q8,q9,q10,q11,r0,r1,r2,r3,r4,r5,r6,r7,r8,r9,r10,r11⟩
  have L00:Hid (Below W.heap.size W W.drew):=β.drew;have N0:Hid (Below (w.heap.size+3) W W.drew):=β.drew;have hf1:=KP.out _ β;unfold ah at hW ⊢
  go_enter Tryz.func119,Tryz.ntmps119
  go_wp2_with fail
  go_region_held3 (fun w'=>w'.cell? ⟨w.heap.size,0,none⟩=some (.bool a0.s)∧w'.cell? ⟨w.heap.size,1,none⟩=some (.slice a0.a a0.n a0.c)∧w'.cell? ⟨w.heap.size,2,none⟩=some (.bool a0.t)∧w'.cell? ⟨w.heap.size,3,none⟩=some (.slice a0.b a0.m a0.d)∧w'.cell? ⟨w.heap.size,4,none⟩=some (.bool a1.s)∧w'.cell? ⟨w.heap.size,5,none⟩=some (.slice a1.a a1.n a1.c)∧w'.cell? ⟨w.heap.size,6,none⟩=some (.bool a1.t)∧w'.cell? ⟨w.heap.size,7,none⟩=some (.slice a1.b a1.m a1.d)∧w'.cell? ⟨w.heap.size,8,none⟩=some (.bool a2.s)∧w'.cell? ⟨w.heap.size,9,none⟩=some (.slice a2.a a2.n a2.c)∧w'.cell? ⟨w.heap.size,10,none⟩=some (.bool a2.t)∧w'.cell? ⟨w.heap.size,11,none⟩=some (.slice a2.b a2.m a2.d)∧w'.cell? ⟨w.heap.size+1,0,none⟩=some (.bool b0.s)∧w'.cell? ⟨w.heap.size+1,1,none⟩=some (.slice b0.a b0.n b0.c)∧w'.cell? ⟨w.heap.size+1,2,none⟩=some (.bool b0.t)∧w'.cell? ⟨w.heap.size+1,3,none⟩=some (.slice b0.b b0.m b0.d)∧w'.cell? ⟨w.heap.size+1,4,none⟩=some (.bool b1.s)∧w'.cell? ⟨w.heap.size+1,5,none⟩=some (.slice b1.a b1.n b1.c)∧w'.cell? ⟨w.heap.size+1,6,none⟩=some (.bool b1.t)∧w'.cell? ⟨w.heap.size+1,7,none⟩=some (.slice b1.b b1.m b1.d)∧w'.cell? ⟨w.heap.size+1,8,none⟩=some (.bool b2.s)∧w'.cell? ⟨w.heap.size+1,9,none⟩=some (.slice b2.a b2.n b2.c)∧w'.cell? ⟨w.heap.size+1,10,none⟩=some (.bool b2.t)∧w'.cell? ⟨w.heap.size+1,11,none⟩=some (.slice b2.b b2.m b2.d)∧w'.cell? ⟨w.heap.size+2,0,none⟩=some (.bool c0.s)∧w'.cell? ⟨w.heap.size+2,1,none⟩=some (.slice c0.a c0.n c0.c)∧w'.cell? ⟨w.heap.size+2,2,none⟩=some (.bool c0.t)∧w'.cell? ⟨w.heap.size+2,3,none⟩=some (.slice c0.b c0.m c0.d)∧w'.cell? ⟨w.heap.size+2,4,none⟩=some (.bool c1.s)∧w'.cell? ⟨w.heap.size+2,5,none⟩=some (.slice c1.a c1.n c1.c)∧w'.cell? ⟨w.heap.size+2,6,none⟩=some (.bool c1.t)∧w'.cell? ⟨w.heap.size+2,7,none⟩=some (.slice c1.b c1.m c1.d)∧w'.cell? ⟨w.heap.size+2,8,none⟩=some (.bool c2.s)∧w'.cell? ⟨w.heap.size+2,9,none⟩=some (.slice c2.a c2.n c2.c)∧w'.cell? ⟨w.heap.size+2,10,none⟩=some (.bool c2.t)∧w'.cell? ⟨w.heap.size+2,11,none⟩=some (.slice c2.b c2.m c2.d))
    (first | with_reducible exact (KP.out _ (cw N2.out G3.out _ _ _ _ _ _ _ _)) | with_reducible exact (KP.out _ N2.out) | with_reducible exact (KP.out _ N1.out) | with_reducible exact (KP.out _ N0.out))
    (first
      | (have _g:=M1.out;clear _g;go_at_call 44;refine (hD.out _ _ _ (HA.out.below (ae HBL.out M1.out (ψ HSZ.out))) P1.out).mono ?_;rintro e y1 ⟨⟨v1,rfl,hv1⟩,hb1⟩
         obtain ⟨r,rfl,hr⟩:=hv1.rcv;have M2:Hid (Below W.heap.size W y1):=ae M1.out hb1 ρ;have N2:Hid (Below (w.heap.size+3) W y1):=ae N1.out hb1 (ψ HSZ.out);have R:=η hr;obtain ⟨x0,x1,x2,x3,x4,x5,x6,x7⟩:=(D.out.below M2.out D.out.lt).four;clear hv1 hr hb1)
      | (go_at_call 150;refine (hX.out _ _ _ (HBv.out.below (ae HBL.out L00.out (ψ HSZ.out))) (HCv.out.below (ae HBL.out L00.out (ψ HSZ.out)))).mono ?_;rintro e y0 ⟨⟨v0,rfl,hv0⟩,hb0⟩
         have M1:Hid (Below W.heap.size W y0):=ae L00.out hb0 ρ;have N1:Hid (Below (w.heap.size+3) W y0):=ae N0.out hb0 (ψ HSZ.out);have P1:=η hv0;clear hv0 hb0))
  clear hf1;have E:=η (D.out.below M2.out D.out.lt);have hfin:=η (ae HBL.out M2.out (ψ HSZ.out));clear x0 x1 x2 x3 x4 x5 x6 x7
  go_wp2_with fail
  obtain ⟨x0,x1,x2,x3,-⟩:=(E.out.set4 (.bool r.s) (.slice r.a r.n r.c) (.bool r.t) (.slice r.b r.m r.d)).four;go_wp2;exact aS Tryz.results119 (w.heap.size+3) (E.out.set4 (.bool r.s) (.slice r.a r.n r.c) (.bool r.t) (.slice r.b r.m r.d)) _ rfl Tryz.underlying56 rfl bL rfl
    ⟨⟨_,rfl,R.out.store4 E.out _ _ _ _⟩,aU hfin.out ω _ _ _ _⟩
end Go.Proofs.Υ
end

section
namespace Dowel
open Go Go.RowKit
def lcmI (x:Int) (d:Nat):Int:=x / (Int.gcd x d:Nat)*d
def cZ (a:Q3):Nat→Int
 | 0=>1
 | i+1=>lcmI (cZ a i) (a.at i).den
theorem lcmI_pos {x:Int} {d:Nat} (hx:0<x) (hd:0<d):0<lcmI x d∧lcmI x d≤x*d:=by
 have hg:0<Int.gcd x d:=Int.gcd_pos_of_ne_zero_left _ ω;have hdv:((Int.gcd x d:Nat):Int) ∣ x:=Int.gcd_dvd_left ..;have hle:x / (Int.gcd x d:Nat)≤x:=Int.ediv_le_self _ ω;have hp:0<x / (Int.gcd x d:Nat):=Int.ediv_pos_of_pos_of_dvd hx ω hdv;unfold lcmI;exact ⟨Int.mul_pos hp ω,Int.mul_le_mul_of_nonneg_right hle ω⟩
theorem fj {a:Q3} {k:Nat} (hk:BdV k a):∀ i,i≤3→0<cZ a i∧(cZ a i).natAbs<B ^ (i*k+1)
 | 0,_=>⟨by show (0:Int)<1;omega,by show 1<B ^ (0*k+1);unfold B;rw [Nat.zero_mul];omega⟩
 | i+1,h=>by
  have ih:=fj hk i ω;have hb:Bd k (a.at i):=by
   match i,h with
   | 0,_=>exact hk.1
   | 1,_=>exact hk.2.1
   | 2,_=>exact hk.2.2
  have hd:=(a.at i).den_pos;have hl:=lcmI_pos ih.1 hd;refine ⟨hl.1,?_⟩;show (lcmI (cZ a i) (a.at i).den).natAbs<_;have h1:(lcmI (cZ a i) (a.at i).den).natAbs≤(cZ a i).natAbs*(a.at i).den:=by
   have:(cZ a i*(a.at i).den:Int).natAbs=(cZ a i).natAbs*(a.at i).den:=by rw [Int.natAbs_mul];rfl
   omega
  have h2:=Nat.mul_lt_mul_of_lt_of_le ih.2 (Nat.le_of_lt hb.2) (Nat.pos_of_ne_zero (by unfold B;exact Nat.ne_of_gt (Nat.pow_pos ω)));rw [← Nat.pow_add,show i*k+1+k=(i+1)*k+1 by rw [Nat.add_mul];omega] at h2;omega
theorem SD3b {a:Q3} {k:Nat} (D:Int) (hD:cZ a 3=D) (hk:BdV k a):D.natAbs<B ^ (3*k+1):=by rw [← hD];exact (fj hk 3 ω).2
def iD (a:Q3):Nat→Nat
 | 0=>0
 | i+1=>Int.gcd (iD a i:Nat) (a.at i).num
theorem gcd_lt {x y b:Nat} (hx:x<b) (hy:y<b):Nat.gcd x y<b:=by
 by_cases h:x=0
 ·rw [h,Nat.gcd_zero_left];exact hy
 ·exact Nat.lt_of_le_of_lt (Nat.gcd_le_left _ (Nat.pos_of_ne_zero h)) hx
theorem mh {a:Q3} {k:Nat} (hk:BdV k a):∀ i,((iD a i:Nat):Int).natAbs<B ^ k
 | 0=>by show 0<B ^ k;exact Nat.pow_pos (by unfold B;omega)
 | i+1=>by
  have hb:Bd k (a.at i):=by
   match i with
   | 0=>exact hk.1
   | 1=>exact hk.2.1
   | _+2=>exact hk.2.2
  exact gcd_lt (mh hk i) hb.1
theorem cells3_inj {r0 r1 r2 s0 s1 s2:RC} (h:Value.agg #[.bool r0.s,.slice r0.a r0.n r0.c,.bool r0.t,.slice r0.b r0.m r0.d,.bool r1.s,.slice r1.a r1.n r1.c,.bool r1.t,.slice r1.b r1.m r1.d,.bool r2.s,.slice r2.a r2.n r2.c,.bool r2.t,.slice r2.b r2.m r2.d]=.agg (ah s0 s1 s2)):r0.agg=s0.agg∧r1.agg=s1.agg∧r2.agg=s2.agg:=by
 unfold ah at h;simp only [Value.agg.injEq,Array.mk.injEq,List.cons.injEq,Value.bool.injEq,Value.slice.injEq] at h;unfold RC.agg;simp only [Value.agg.injEq,Array.mk.injEq,List.cons.injEq,Value.bool.injEq,Value.slice.injEq,and_true];simp only [h,and_self]
theorem gcdQ_pos {b:Q3} (h:b≠⟨0,0,0⟩):0<iD b 3:=by
 refine Nat.pos_of_ne_zero fun h0=>h ?_
 have e:Int.gcd (Int.gcd (Int.gcd (0:Nat) b.x.num:Nat) b.y.num:Nat) b.z.num=0:=h0;obtain ⟨e1,e2⟩:=Int.gcd_eq_zero_iff.mp e;obtain ⟨e3,e4⟩:=Int.gcd_eq_zero_iff.mp (show Int.gcd (Int.gcd (0:Nat) b.x.num:Nat) b.y.num=0 by omega);obtain ⟨-,e5⟩:=Int.gcd_eq_zero_iff.mp (show Int.gcd (0:Nat) b.x.num=0 by omega);obtain ⟨x,y,z⟩:=b;rw [show x=0 from Rat.num_eq_zero.mp e5,show y=0 from Rat.num_eq_zero.mp e4,show z=0 from Rat.num_eq_zero.mp e2]
def cI (a:Q3):Q3:=
 ⟨Rat.divInt 1 (iD ⟨(cZ a 3:Rat)*a.x,(cZ a 3:Rat)*a.y,(cZ a 3:Rat)*a.z⟩ 3:Nat)*((cZ a 3:Rat)*a.x),Rat.divInt 1 (iD ⟨(cZ a 3:Rat)*a.x,(cZ a 3:Rat)*a.y,(cZ a 3:Rat)*a.z⟩ 3:Nat)*((cZ a 3:Rat)*a.y),Rat.divInt 1 (iD ⟨(cZ a 3:Rat)*a.x,(cZ a 3:Rat)*a.y,(cZ a 3:Rat)*a.z⟩ 3:Nat)*((cZ a 3:Rat)*a.z)⟩
def nM (w:World) (e:Ending) (q:Q3):Prop:=∃ v,e=.returned (.tuple #[v,.int .i64 0])∧aA w v q
theorem oF:Small 1:=⟨1,by omega,by show 1<B ^ 1;unfold B;omega⟩
theorem Bd.at {k:Nat} {a:Q3} (hk:BdV k a):∀ i,Bd k (a.at i)
 | 0=>hk.1
 | 1=>hk.2.1
 | _+2=>hk.2.2
end Dowel
namespace Go.Proofs.Υ
open Go.RowKit Dowel
set_option maxRecDepth 20000 in
theorem lm (va:Value) (a:Q3) (k:Nat) (w:World) (ha:aA w va a) (hk:BdV k a) (hk2:k≤10000) (h0:a≠⟨0,0,0⟩) :
    Calls Tryz.prog 42 #[va] w fun e w'=>nM w' e (cI a)∧Below w.heap.size w w':=by
  have HZ:=η (fun v x h2=>VIsZero_any x a k v h2 hk ω);have HA:=η ha;have HK:=η hk;have H0:=η h0;obtain ⟨a0,a1,a2,rfl,hax,hay,haz⟩:=ha;obtain ⟨W,hW,c1,c2,hBl,hS⟩:=da w (ah a0 a1 a2) (ah RC.zero RC.zero RC.zero) 58 58;have HAX:=η hax;have HAY:=η hay;have HAZ:=η haz;have HBL:=η hBl;have HSZ:=η hS;have A:=η c1;have C:=η c2;obtain ⟨⟨x0,x1,x2,x3⟩,-⟩:=c1.p0;obtain ⟨⟨x4,x5,x6,x7⟩,-⟩:=c1.p1;obtain ⟨⟨x8,x9,x10,x11⟩,-⟩:=c1.p2;clear c1 c2 hBl hS hk h0 hax hay haz;rw [ol] at hW;have i0:∀ w,(Instr.index 58 (.agg #[.bool a0.s,.slice a0.a a0.n a0.c,.bool a0.t,.slice a0.b a0.m a0.d,.bool a1.s,.slice a1.a a1.n a1.c,.bool a1.t,.slice a1.b a1.m a1.d,.bool a2.s,.slice a2.a a2.n a2.c,.bool a2.t,.slice a2.b a2.m a2.d]) (.int .i64 0)).run Tryz.prog w=.ok (.agg #[.bool a0.s,.slice a0.a a0.n a0.c,.bool a0.t,.slice a0.b a0.m a0.d]) w:=fun _=>by kernel_rfl
  have i1:∀ w,(Instr.index 58 (.agg #[.bool a0.s,.slice a0.a a0.n a0.c,.bool a0.t,.slice a0.b a0.m a0.d,.bool a1.s,.slice a1.a a1.n a1.c,.bool a1.t,.slice a1.b a1.m a1.d,.bool a2.s,.slice a2.a a2.n a2.c,.bool a2.t,.slice a2.b a2.m a2.d]) (.int .i64 1)).run Tryz.prog w=.ok (.agg #[.bool a1.s,.slice a1.a a1.n a1.c,.bool a1.t,.slice a1.b a1.m a1.d]) w:=fun _=>by kernel_rfl
  have i2:∀ w,(Instr.index 58 (.agg #[.bool a0.s,.slice a0.a a0.n a0.c,.bool a0.t,.slice a0.b a0.m a0.d,.bool a1.s,.slice a1.a a1.n a1.c,.bool a1.t,.slice a1.b a1.m a1.d,.bool a2.s,.slice a2.a a2.n a2.c,.bool a2.t,.slice a2.b a2.m a2.d]) (.int .i64 2)).run Tryz.prog w=.ok (.agg #[.bool a2.s,.slice a2.a a2.n a2.c,.bool a2.t,.slice a2.b a2.m a2.d]) w:=fun _=>by kernel_rfl
  unfold ah at hW ⊢
  go_enter Tryz.func42,Tryz.ntmps42
  go_wp2_with fail
  refine (HZ.out _ _ (HA.out.below HBL.out)).mono ?_;rintro e w1 ⟨⟨r,rfl,hr⟩,hb1⟩;have hrf:r=false:=by
    cases r
    · rfl
    · exact absurd (hr.mp rfl) H0.out
  subst hrf;have L1:=η (ae HBL.out hb1 (ψ HSZ.out));have B1:=η (A.out.below hb1 A.out.lt);have C1:=η (C.out.below hb1 C.out.lt);clear hr hb1 x0 x1 x2 x3 x4 x5 x6 x7 x8 x9 x10 x11
  go_wp2_with fail
  refine (ig 1 _ ω ω).mono ?_;rintro e w2 ⟨⟨v2,rfl,hv2⟩,hb2⟩;have L2:=η (ae L1.out hb2 ω);have B2:=η (B1.out.below hb2 B1.out.lt);have C2:=η (C1.out.below hb2 C1.out.lt);have V2:=η hv2;obtain ⟨s2,e2,n2,m2,d2,rfl,-⟩:=hv2;have E2:=B2.out.old (.cells #[.bool s2,.slice e2 n2 m2] 54);obtain ⟨⟨x0,x1,x2,x3⟩,-⟩:=E2.p0;obtain ⟨⟨x4,x5,x6,x7⟩,-⟩:=E2.p1;obtain ⟨⟨x8,x9,x10,x11⟩,-⟩:=E2.p2;have G2:=η B2.out.lt;clear hb2
  go_wp2_with fail
  clear x0 x1 x2 x3 x4 x5 x6 x7 x8 x9 x10 x11 E2
  go_loopw [22] (fun iv wr=>∃ i:Nat,i≤3∧iv=.int .i64 (i:Nat)∧∃ s3 e3 n3 m3,Hid (Box wr w2.heap.size #[.bool s3,.slice e3 n3 m3] 54)∧Hid (aN wr (.agg #[.bool s3,.slice e3 n3 m3]) (cZ a i))∧Hid (Below w2.heap.size w2 wr)) (fun iv _=>3 - (intOf iv).toNat)
  case atStart=>exact ⟨0,by omega,rfl,s2,e2,n2,m2,Box.new _ _ _ _ rfl,V2.out.below (β.alloc ρ _),β.alloc ρ _⟩
  case round =>
    obtain ⟨i,hi,rfl,s3,e3,n3,m3,HDB,HDI,HR⟩:=hrel;obtain ⟨w3,rfl⟩:∃ w3,w3=wr:=⟨_,rfl⟩;by_cases h3:i=3
    · subst h3
      have HD3:=HDI;have DB3:=HDB;have SD3:Hid (Small (cZ a 3)):=⟨3*k+1,by omega,(fj HK.out 3 ω).2⟩;have DP3:=η (fj HK.out 3 ω).1;obtain ⟨D,hD⟩:∃ D,cZ a 3=D:=⟨_,rfl⟩;rw [hD] at HD3 SD3 DP3;have HDEQ:=η hD;clear hD;have KA:Hid (∀ w',Below w3.heap.size w3 w'→w'.cell? ⟨w2.heap.size,0,none⟩=some (.bool s3)∧w'.cell? ⟨w2.heap.size,1,none⟩=some (.slice e3 n3 m3)):=fun w' h=>by
        obtain ⟨p0,p1,-,-⟩:=(DB3.out.below h DB3.out.lt).two;exact ⟨p0,p1⟩
      have P0:=η (Below.refl w3.heap.size w3);have P00:Hid (Below w3.heap.size w3 w3.drew):=P0.out.drew;have hf1:=KA.out _ P0.out;have L3:=η (ae L2.out HR.out (ψ G2.out));have B3:=η (B2.out.below HR.out G2.out);have C3:=η (C2.out.below HR.out (by have:=C2.out.lt;exact this))
      go_upto_region 10 with fail
      go_cut [10] (fun pv wy=>∃ (gw:Nat) (rw_:RC),pv=.pointer (some ⟨gw,0,none⟩)∧Hid (Box wy gw #[.bool rw_.s,.slice rw_.a rw_.n rw_.c,.bool rw_.t,.slice rw_.b rw_.m rw_.d] 56)∧Hid (am wy rw_.agg (Rat.divInt D 1))∧Hid (Below w3.heap.size w3 wy)∧Hid (w3.heap.size≤gw))
      case first =>
       go_wp2_with fail
       go_region_held3 (fun w'=>w'.cell? ⟨w2.heap.size,0,none⟩=some (.bool s3)∧w'.cell? ⟨w2.heap.size,1,none⟩=some (.slice e3 n3 m3))
        (first | with_reducible exact (KA.out _ P2.out) | with_reducible exact (KA.out _ (P2.out.alloc P2.out.size _)) | with_reducible exact (KA.out _ P1.out) | with_reducible exact (KA.out _ (P1.out.alloc P1.out.size _)) | with_reducible exact (KA.out _ P00.out) | with_reducible exact (KA.out _ (P0.out.alloc P0.out.size _).drew) | with_reducible exact (KA.out _ (cw P2.out PL.out _ _ _ _ _ _ _ _)) | with_reducible exact (KA.out _ (cw (P2.out.alloc P2.out.size _) P2.out.size _ _ _ _ _ _ _ _)))
        (first
       | (have _g:=P1.out;clear _g;go_at_call 92;refine (Make_any _ _ D 1 _ (HD3.out.below (by first | with_reducible exact P1.out | with_reducible exact (P1.out.alloc P1.out.size _))) (PV1.out.below (by first | with_reducible exact β | with_reducible exact (β.alloc ρ _))) SD3.out oF ω).mono ?_;rintro e p2 ⟨⟨q2_,rfl,hq2⟩,hb2⟩
          have P2:=η (show Below w3.heap.size w3 p2 from by first | with_reducible exact ae P1.out hb2 ρ | with_reducible exact ae (P1.out.alloc P1.out.size _) hb2 ρ);have PX2:=η (show Below p1.heap.size p1 p2 from by first | with_reducible exact ae β hb2 ρ | with_reducible exact ae (β.alloc ρ _) hb2 ρ);have PV2:=η hq2;obtain ⟨wh,rfl,hwh⟩:=hq2.rcv;have PV:=η hwh
          first
            | (have PB:=η (show Box p2 _ _ _ from by with_reducible exact PB.out.below hb2 PB.out.lt))
            | (have PB:=η (show Box p2 _ #[.bool false,.slice none 0 0,.bool false,.slice none 0 0] 56 from by with_reducible exact (Box.new _ _ _ _ rfl).below hb2 (Box.new _ _ _ _ rfl).lt)
               have PL:=η P1.out.size)
            | skip
          try have ne1:=Nat.ne_of_lt PB.out.lt
          try have ne2:=ne1.symm
          try obtain ⟨n0,n1,n2,n3,n4,n5,n6,n7⟩:=PB.out.four
          clear hb2)
       | (go_at_call 72;refine (ig 1 _ ω ω).mono ?_;rintro e p1 ⟨⟨q1_,rfl,hq1⟩,hb1⟩
          have P1:=η (show Below w3.heap.size w3 p1 from by first | with_reducible exact ae P00.out hb1 ρ | with_reducible exact ae (P0.out.alloc P0.out.size _).drew hb1 ρ);have PX1:=η (show Below w3.heap.size w3 p1 from by first | with_reducible exact ae β.drew hb1 ρ | with_reducible exact ae (β.alloc ρ _).drew hb1 ρ);have PV1:=η hq1
          first
            | (have PB:=η (show Box p1 _ #[.bool false,.slice none 0 0,.bool false,.slice none 0 0] 56 from by with_reducible exact (Box.new _ _ _ _ rfl).drew.below hb1 (Box.new _ _ _ _ rfl).drew.lt)
               have PL:=η P0.out.size)
            | skip
          try have ne1:=Nat.ne_of_lt PB.out.lt
          try have ne2:=ne1.symm
          try obtain ⟨n0,n1,n2,n3,n4,n5,n6,n7⟩:=PB.out.four
          clear hb1))
       all_goals
        go_wp2_with fail
        go_meet
       all_goals first
        | (with_reducible exact ⟨_,wh,rfl,η (Box.new _ _ _ _ rfl),η (PV.out.below (β.alloc ρ _)),η (P2.out.alloc P2.out.size _),η P2.out.size⟩)
        | (with_reducible exact ⟨_,wh,rfl,η (PB.out.set4 _ _ _ _),η (PV.out.store4 PB.out _ _ _ _),η (cw P2.out PL.out _ _ _ _ _ _ _ _),η PL.out⟩)
      case rest =>
      obtain ⟨gw,rw_,rfl,hwb,hwi,hbw,hwl⟩:=hcut;clear hf1 KA P0 P00;have hwi2:am wc rw_.agg (D:Rat):=by have:=hwi.out;rwa [jL] at this
      have BD:Bd (3*k+1) (D:Rat):=⟨SD3b D HDEQ.out HK.out,by show 1<B ^ (3*k+1);exact Nat.lt_of_lt_of_le (by unfold B;omega:1<B ^ 1) (Nat.pow_le_pow_right (by unfold B;omega) ω)⟩;have HSC:=η (gk (.agg (ah a0 a1 a2)) rw_.agg a (D:Rat) (3*k+1) k wc (HA.out.below (ae L3.out hbw.out (ψ L3.out.size))) hwi2 BD HK.out ω);have HBAW:Hid (BdV (4*k+1) ⟨(D:Rat)*a.x,(D:Rat)*a.y,(D:Rat)*a.z⟩):=by
        have h1:=BD.mul HK.out.1;have h2:=BD.mul HK.out.2.1;have h3:=BD.mul HK.out.2.2;rw [show 3*k+1+k=4*k+1 by omega] at h1 h2 h3;exact ⟨h1,h2,h3⟩
      obtain ⟨aw,haw⟩:∃ aw:Q3,(⟨(D:Rat)*a.x,(D:Rat)*a.y,(D:Rat)*a.z⟩:Q3)=aw:=⟨_,rfl⟩;rw [haw] at HSC HBAW;have HAW:=η haw;have L4:=η (ae L3.out hbw.out (ψ L3.out.size));have gA:w.heap.size<w3.heap.size:=B3.out.lt;have gC:w.heap.size+1<w3.heap.size:=C3.out.lt;have B4:=η (B3.out.below hbw.out gA);have C4:=η (C3.out.below hbw.out gC);obtain ⟨⟨x0,x1,x2,x3⟩,-⟩:=B4.out.p0;obtain ⟨⟨x4,x5,x6,x7⟩,-⟩:=B4.out.p1;obtain ⟨⟨x8,x9,x10,x11⟩,-⟩:=B4.out.p2;obtain ⟨y0,y1,y2,y3,-⟩:=hwb.out.four;unfold ah RC.agg at HSC;clear hwi2 BD haw
      go_wp2_with fail
      refine HSC.out.mono ?_;rintro e w5 ⟨⟨v5,rfl,hv5⟩,hb5⟩;obtain ⟨r0,r1,r2,rfl,hr⟩:=hv5.rcv;have R5:=η hr;have L5:=η (ae L4.out hb5 (ψ L4.out.size));have gA4:=B4.out.lt;have gC4:=C4.out.lt;have B5:=η (B4.out.below hb5 gA4);have C5:=η (C4.out.below hb5 gC4);obtain ⟨⟨x0,x1,x2,x3⟩,f0,f1,f2,f3⟩:=B5.out.p0;obtain ⟨⟨x4,x5,x6,x7⟩,f4,f5,f6,f7⟩:=B5.out.p1;obtain ⟨⟨x8,x9,x10,x11⟩,f8,f9,f10,f11⟩:=B5.out.p2;clear hv5 hr hb5 y0 y1 y2 y3;have j0:∀ w,(Instr.index 58 (.agg #[.bool r0.s,.slice r0.a r0.n r0.c,.bool r0.t,.slice r0.b r0.m r0.d,.bool r1.s,.slice r1.a r1.n r1.c,.bool r1.t,.slice r1.b r1.m r1.d,.bool r2.s,.slice r2.a r2.n r2.c,.bool r2.t,.slice r2.b r2.m r2.d]) (.int .i64 0)).run Tryz.prog w=.ok (.agg #[.bool r0.s,.slice r0.a r0.n r0.c,.bool r0.t,.slice r0.b r0.m r0.d]) w:=fun _=>by kernel_rfl
      have j1:∀ w,(Instr.index 58 (.agg #[.bool r0.s,.slice r0.a r0.n r0.c,.bool r0.t,.slice r0.b r0.m r0.d,.bool r1.s,.slice r1.a r1.n r1.c,.bool r1.t,.slice r1.b r1.m r1.d,.bool r2.s,.slice r2.a r2.n r2.c,.bool r2.t,.slice r2.b r2.m r2.d]) (.int .i64 1)).run Tryz.prog w=.ok (.agg #[.bool r1.s,.slice r1.a r1.n r1.c,.bool r1.t,.slice r1.b r1.m r1.d]) w:=fun _=>by kernel_rfl
      have j2:∀ w,(Instr.index 58 (.agg #[.bool r0.s,.slice r0.a r0.n r0.c,.bool r0.t,.slice r0.b r0.m r0.d,.bool r1.s,.slice r1.a r1.n r1.c,.bool r1.t,.slice r1.b r1.m r1.d,.bool r2.s,.slice r2.a r2.n r2.c,.bool r2.t,.slice r2.b r2.m r2.d]) (.int .i64 2)).run Tryz.prog w=.ok (.agg #[.bool r2.s,.slice r2.a r2.n r2.c,.bool r2.t,.slice r2.b r2.m r2.d]) w:=fun _=>by kernel_rfl
      go_upto_region 12 with fail
      change Code.wp _ _ _ _ (put12 w5 w.heap.size r0 r1 r2);clear x0 x1 x2 x3 x4 x5 x6 x7 x8 x9 x10 x11 f0 f1 f2 f3 f4 f5 f6 f7 f8 f9 f10 f11;have B6:=η (B5.out.s12 r0 r1 r2);have C6:=η (((C5.out.oput4 (g':=w.heap.size) ω 0 r0).oput4 (g':=w.heap.size) ω 4 r1).oput4 (g':=w.heap.size) ω 8 r2);have R6:=η (R5.out.put12 B5.out r0 r1 r2);have L6:=η (bw L5.out (Nat.le_refl w.heap.size) r0 r1 r2);change Hid (Box (put12 w5 w.heap.size r0 r1 r2) (w.heap.size+1) _ _) at C6;generalize put12 w5 w.heap.size r0 r1 r2=U at *;have E6:=B6.out.old (.cells #[.bool false,.slice none 0 0] 54);obtain ⟨⟨x0,x1,x2,x3⟩,-⟩:=E6.p0;obtain ⟨⟨x4,x5,x6,x7⟩,-⟩:=E6.p1;obtain ⟨⟨x8,x9,x10,x11⟩,-⟩:=E6.p2;clear E6
      go_wp2_with fail
      clear x0 x1 x2 x3 x4 x5 x6 x7 x8 x9 x10 x11
      go_loopw [50] (fun iv wr=>∃ i:Nat,i≤3∧iv=.int .i64 (i:Nat)∧∃ gs ge gn gm,Hid (Box wr U.heap.size #[.bool gs,.slice ge gn gm] 54)∧Hid (aN wr (.agg #[.bool gs,.slice ge gn gm]) (iD aw i:Nat))∧Hid (Below U.heap.size U wr)) (fun iv _=>3 - (intOf iv).toNat)
      case atStart=>exact ⟨0,by omega,rfl,false,none,0,0,Box.new _ _ _ _ rfl,iq _,β.alloc ρ _⟩
      case round =>
        obtain ⟨i,hi,rfl,gs,ge,gn,gm,HGB,HGI,HR6⟩:=hrel;obtain ⟨w6,rfl⟩:∃ w6,w6=wr:=⟨_,rfl⟩;by_cases h3:i=3
        · subst h3
          have GP:0<iD aw 3:=gcdQ_pos fun e=>H0.out (by
            have hD0:(D:Rat)≠0:=fun h=>by
              have:=DP3.out;have h':D=0:=by exact_mod_cast h
              omega
            rw [← HAW.out] at e;have e1:=congrArg Q3.x e;have e2:=congrArg Q3.y e;have e3:=congrArg Q3.z e;have z:∀ t:Rat,(D:Rat)*t=0→t=0:=fun t h=>(Rat.mul_eq_zero.mp h).resolve_left hD0
            obtain ⟨ax,ay,az⟩:=a;rw [show ax=0 from z _ e1,show ay=0 from z _ e2,show az=0 from z _ e3])
          have hgl:=mh HBAW.out 3;obtain ⟨G,hG⟩:∃ G,iD aw 3=G:=⟨_,rfl⟩;have HG6:=HGI;rw [hG] at GP hgl HG6;have HGEQ:=η hG;have SG6:Hid (Small ((G:Nat):Int)):=⟨4*k+1,by omega,hgl⟩;have GP6:Hid (((G:Nat):Int)≠0):=by show ((G:Nat):Int)≠0;omega
          have BP:Hid (Bd (4*k+1) (Rat.divInt 1 (G:Nat))):=eA (by show 1<B ^ (4*k+1);exact Nat.lt_of_lt_of_le (by unfold B;omega:1<B ^ 1) (Nat.pow_le_pow_right (by unfold B;omega) ω)) hgl ω;clear hG GP hgl;have KT:Hid (∀ w',Below w6.heap.size w6 w'→w'.cell? ⟨U.heap.size,0,none⟩=some (.bool gs)∧w'.cell? ⟨U.heap.size,1,none⟩=some (.slice ge gn gm)):=fun w' h=>by
            obtain ⟨p0,p1,-,-⟩:=(HGB.out.below h HGB.out.lt).two;exact ⟨p0,p1⟩
          have T0:=η (Below.refl w6.heap.size w6);have T00:Hid (Below w6.heap.size w6 w6.drew):=T0.out.drew;have hf1:=KT.out _ T0.out;have L7:=η (ae L6.out HR6.out (ψ L6.out.size));have B7:=η (B6.out.below HR6.out B6.out.lt);have C7:=η (C6.out.below HR6.out C6.out.lt);have R7:=η (R6.out.below HR6.out)
          go_upto_region 18 with fail
          go_cut [15] (fun pv wy=>∃ (gp:Nat) (rp:RC),pv=.pointer (some ⟨gp,0,none⟩)∧Hid (Box wy gp #[.bool rp.s,.slice rp.a rp.n rp.c,.bool rp.t,.slice rp.b rp.m rp.d] 56)∧Hid (am wy rp.agg (Rat.divInt 1 (G:Nat)))∧Hid (Below w6.heap.size w6 wy)∧Hid (w6.heap.size≤gp))
          case first =>
           go_wp2_with fail
           go_region_held3 (fun w'=>w'.cell? ⟨U.heap.size,0,none⟩=some (.bool gs)∧w'.cell? ⟨U.heap.size,1,none⟩=some (.slice ge gn gm))
             (first | with_reducible exact (KT.out _ T2.out) | with_reducible exact (KT.out _ (T2.out.alloc T2.out.size _)) | with_reducible exact (KT.out _ T1.out) | with_reducible exact (KT.out _ (T1.out.alloc T1.out.size _)) | with_reducible exact (KT.out _ T00.out) | with_reducible exact (KT.out _ (T0.out.alloc T0.out.size _).drew) | with_reducible exact (KT.out _ (cw T2.out TL.out _ _ _ _ _ _ _ _)) | with_reducible exact (KT.out _ (cw (T2.out.alloc T2.out.size _) T2.out.size _ _ _ _ _ _ _ _)))
             (first
         | (have _g:=T1.out;clear _g;go_at_call 92;refine (Make_any _ _ 1 (G:Nat) _ (TV1.out.below (by first | with_reducible exact β | with_reducible exact (β.alloc ρ _))) (HG6.out.below (by first | with_reducible exact T1.out | with_reducible exact (T1.out.alloc T1.out.size _))) oF SG6.out GP6.out).mono ?_;rintro e t2 ⟨⟨q2_,rfl,hq2⟩,hb2⟩
            have T2:=η (show Below w6.heap.size w6 t2 from by first | with_reducible exact ae T1.out hb2 ρ | with_reducible exact ae (T1.out.alloc T1.out.size _) hb2 ρ);have TX2:=η (show Below t1.heap.size t1 t2 from by first | with_reducible exact ae β hb2 ρ | with_reducible exact ae (β.alloc ρ _) hb2 ρ);have TV2:=η hq2;obtain ⟨pt,rfl,hpt⟩:=hq2.rcv;have TV:=η hpt
            first
              | (have TB:=η (show Box t2 _ _ _ from by with_reducible exact TB.out.below hb2 TB.out.lt))
              | (have TB:=η (show Box t2 _ #[.bool false,.slice none 0 0,.bool false,.slice none 0 0] 56 from by with_reducible exact (Box.new _ _ _ _ rfl).below hb2 (Box.new _ _ _ _ rfl).lt)
                 have TL:=η T1.out.size)
              | skip
            try have ne1:=Nat.ne_of_lt TB.out.lt
            try have ne2:=ne1.symm
            try obtain ⟨n0,n1,n2,n3,n4,n5,n6,n7⟩:=TB.out.four
            clear hb2)
         | (go_at_call 72;refine (ig 1 _ ω ω).mono ?_;rintro e t1 ⟨⟨q1_,rfl,hq1⟩,hb1⟩
            have T1:=η (show Below w6.heap.size w6 t1 from by first | with_reducible exact ae T00.out hb1 ρ | with_reducible exact ae (T0.out.alloc T0.out.size _).drew hb1 ρ);have TX1:=η (show Below w6.heap.size w6 t1 from by first | with_reducible exact ae β.drew hb1 ρ | with_reducible exact ae (β.alloc ρ _).drew hb1 ρ);have TV1:=η hq1
            first
              | (have TB:=η (show Box t1 _ #[.bool false,.slice none 0 0,.bool false,.slice none 0 0] 56 from by with_reducible exact (Box.new _ _ _ _ rfl).drew.below hb1 (Box.new _ _ _ _ rfl).drew.lt)
                 have TL:=η T0.out.size)
              | skip
            try have ne1:=Nat.ne_of_lt TB.out.lt
            try have ne2:=ne1.symm
            try obtain ⟨n0,n1,n2,n3,n4,n5,n6,n7⟩:=TB.out.four
            clear hb1))
           all_goals
            go_wp2_with fail
            go_meet
           all_goals first
            | (with_reducible exact ⟨_,pt,rfl,η (Box.new _ _ _ _ rfl),η (TV.out.below (β.alloc ρ _)),η (T2.out.alloc T2.out.size _),η T2.out.size⟩)
            | (with_reducible exact ⟨_,pt,rfl,η (TB.out.set4 _ _ _ _),η (TV.out.store4 TB.out _ _ _ _),η (cw T2.out TL.out _ _ _ _ _ _ _ _),η TL.out⟩)
          case rest =>
          obtain ⟨gp,rp,rfl,hpb,hpi,hbp,hpl⟩:=hcut;clear hf1 KT T0 T00;have L8:=η (ae L7.out hbp.out (ψ L7.out.size));have gB7:=B7.out.lt;have gC7:=C7.out.lt;have B8:=η (B7.out.below hbp.out gB7);have C8:=η (C7.out.below hbp.out gC7);have HSC:=η (gk _ rp.agg aw (Rat.divInt 1 (G:Nat)) (4*k+1) (4*k+1) wc (R7.out.below hbp.out) hpi.out BP.out HBAW.out ω);obtain ⟨⟨x0,x1,x2,x3⟩,-⟩:=B8.out.p0;obtain ⟨⟨x4,x5,x6,x7⟩,-⟩:=B8.out.p1;obtain ⟨⟨x8,x9,x10,x11⟩,-⟩:=B8.out.p2;obtain ⟨y0,y1,y2,y3,-⟩:=hpb.out.four;unfold RC.agg at HSC
          go_wp2_with fail
          refine HSC.out.mono ?_;rintro e w9 ⟨⟨v9,rfl,hv9⟩,hb9⟩;obtain ⟨t0,t1,t2,rfl,ht⟩:=hv9.rcv;have T9:=η ht;have gC8:=C8.out.lt;have L9:=η (ae L8.out hb9 (ψ L8.out.size));have C9:=η (C8.out.below hb9 gC8);obtain ⟨⟨x0,x1,x2,x3⟩,f0,f1,f2,f3⟩:=C9.out.p0;obtain ⟨⟨x4,x5,x6,x7⟩,f4,f5,f6,f7⟩:=C9.out.p1;obtain ⟨⟨x8,x9,x10,x11⟩,f8,f9,f10,f11⟩:=C9.out.p2;clear hv9 ht hb9;go_wp2;refine bP Tryz.results42 (w.heap.size+1) (C9.out.s12 t0 t1 t2) _ rfl Tryz.underlying58 rfl aK rfl
            ⟨⟨_,rfl,?_⟩,bw L9.out ω _ _ _⟩
          have e:cI a=⟨Rat.divInt 1 (G:Nat)*aw.x,Rat.divInt 1 (G:Nat)*aw.y,Rat.divInt 1 (G:Nat)*aw.z⟩:=by
            unfold cI;rw [HDEQ.out,HAW.out,HGEQ.out,← HAW.out]
          rw [e];exact T9.out.put12 C9.out _ _ _
        have hi3:i<3:=ω;have hlt:(i:Int)<3:=ω;have HI3:=η hi3;clear h3
        go_upto_region 15 with fail
        go_cut [14,50] (fun pv iv wx=>iv=.int .i64 (i:Nat)∧∃ (gx2:Nat) (rr:RC),pv=.pointer (some ⟨gx2,0,none⟩)∧Hid (Box wx gx2 #[.bool rr.s,.slice rr.a rr.n rr.c,.bool rr.t,.slice rr.b rr.m rr.d] 56)∧Hid (am wx rr.agg (aw.at i))∧Hid (Below w6.heap.size w6 wx)∧Hid (w6.heap.size≤gx2))
        case first =>
          have hwx:∀ o,Below U.heap.size U (w6.alloc o):=fun o=>ae HR6.out ((Below.refl w6.heap.size w6).alloc ρ o) ω
          have HWX:=η hwx;obtain ⟨t0,t1,t2,te,hT0,hT1,hT2⟩:=R6.out;have HT:=η (cells3_inj te);have HT0:=η (show am U r0.agg aw.x from by rw [HT.out.1];exact hT0);have HT1:=η (show am U r1.agg aw.y from by rw [HT.out.2.1];exact hT1);have HT2:=η (show am U r2.agg aw.z from by rw [HT.out.2.2];exact hT2);clear hwx te hT0 hT1 hT2;obtain rfl | rfl | rfl:i=0∨i=1∨i=2:=ω
          · go_wp2_with fail
            go_meet;exact ⟨rfl,_,r0,rfl,Box.new _ _ _ _ rfl,HT0.out.below (HWX.out _),β.alloc ρ _,Nat.le_refl _⟩
          · go_wp2_with fail
            go_meet;exact ⟨rfl,_,r1,rfl,Box.new _ _ _ _ rfl,HT1.out.below (HWX.out _),β.alloc ρ _,Nat.le_refl _⟩
          · go_wp2_with fail
            go_meet;exact ⟨rfl,_,r2,rfl,Box.new _ _ _ _ rfl,HT2.out.below (HWX.out _),β.alloc ρ _,Nat.le_refl _⟩
        case rest =>
        obtain ⟨rfl,gx2,rr,rfl,hxb,hxi,hbx,hxl⟩:=hcut;have GB:=η (HGB.out.below hbx.out HGB.out.lt);have GI:=η (HGI.out.below hbx.out);have HX:=η hxi.out;have SN:Hid (Small (aw.at i).num):=⟨4*k+1,by omega,(Bd.at HBAW.out i).1⟩;have SG:Hid (Small ((iD aw i:Nat):Int)):=⟨4*k+1,by omega,mh HBAW.out i⟩;have M0:=η (Below.refl wc.heap.size wc);have M00:Hid (Below wc.heap.size wc wc.drew):=M0.out.drew;obtain ⟨z0,z1,z2,z3⟩:=GB.out.two;obtain ⟨x0,x1,x2,x3,-⟩:=hxb.out.four;unfold RC.agg at HX
        go_upto_region 16 with fail
        go_wp2_with fail
        go_region_with (first
          | (have _g:=M1.out;clear _g;go_at_call 91;refine (mj _ _ (iD aw i:Nat) (aw.at i).num _ (GI.out.below M1.out) U1.out SG.out SN.out).mono ?_;rintro e y6 ⟨⟨u6,rfl,hu6⟩,hb6⟩
             have M2:Hid (Below wc.heap.size wc y6):=ae M1.out hb6 ρ;have U2:=η hu6;obtain ⟨ts,te,tn,tm,td,rfl,-⟩:=hu6;obtain ⟨z0,z1,z2,z3⟩:=(GB.out.below M2.out GB.out.lt).two;clear hb6)
          | (go_at_call 93;refine (Num_any _ (aw.at i) _ (HX.out.below M00.out)).mono ?_;rintro e y5 ⟨⟨u5,rfl,hu5⟩,hb5⟩
             have M1:Hid (Below wc.heap.size wc y5):=ae M00.out hb5 ρ;have U1:=η hu5;obtain ⟨z0,z1,z2,z3⟩:=(GB.out.below M1.out GB.out.lt).two;clear hb5))
        all_goals
          have GB3:=η (GB.out.below M2.out GB.out.lt);have hbe:Below U.heap.size U y6:=ae (ae HR6.out hbx.out ω) M2.out ω;have HBE:=η hbe;clear hbe;go_wp2;go_round
          case rel=>exact ⟨i+1,by have:=HI3.out;omega,rfl,ts,te,tn,tm,GB3.out.set2 _ _,U2.out.store2 GB3.out _ _,aO HBE.out ρ _ _⟩
          case measure=>show 3 - ((i:Int)+1).toNat<3 - (i:Int).toNat;have:=HI3.out;omega
    have hi3:i<3:=ω;have hlt:(i:Int)<3:=ω;have HI3:=η hi3;clear h3
    go_upto_region 6 with fail
    go_cut [6,22] (fun pv iv wx=>iv=.int .i64 (i:Nat)∧∃ (gx:Nat) (r:RC),pv=.pointer (some ⟨gx,0,none⟩)∧Hid (Box wx gx #[.bool r.s,.slice r.a r.n r.c,.bool r.t,.slice r.b r.m r.d] 56)∧Hid (am wx r.agg (a.at i))∧Hid (Below w3.heap.size w3 wx)∧Hid (w3.heap.size≤gx))
    case first =>
      have hb:=η (ae (ae L2.out HR.out (ψ G2.out)) ((Below.refl w3.heap.size w3).alloc ρ (.cells #[] 0)) (ψ L2.out.size));have hwx:∀ o,Below w.heap.size w (w3.alloc o):=fun o=>ae (ae L2.out HR.out (ψ G2.out)) ((Below.refl w3.heap.size w3).alloc ρ o) (ψ L2.out.size)
      have HWX:=η hwx;clear hwx hb;obtain rfl | rfl | rfl:i=0∨i=1∨i=2:=ω
      · go_wp2_with fail
        go_meet;exact ⟨rfl,_,a0,rfl,Box.new _ _ _ _ rfl,HAX.out.below (HWX.out _),β.alloc ρ _,Nat.le_refl _⟩
      · go_wp2_with fail
        go_meet;exact ⟨rfl,_,a1,rfl,Box.new _ _ _ _ rfl,HAY.out.below (HWX.out _),β.alloc ρ _,Nat.le_refl _⟩
      · go_wp2_with fail
        go_meet;exact ⟨rfl,_,a2,rfl,Box.new _ _ _ _ rfl,HAZ.out.below (HWX.out _),β.alloc ρ _,Nat.le_refl _⟩
    case rest =>
    obtain ⟨rfl,gx,r,rfl,hxb,hxi,hbx,hxl⟩:=hcut;obtain ⟨hDp,hDs⟩:=fj HK.out i ω;obtain ⟨D,hD⟩:∃ D,cZ a i=D:=⟨_,rfl⟩;rw [hD] at hDp hDs;have HDEQ:=η hD;have BX:=η (Bd.at HK.out i);obtain ⟨x,hx⟩:∃ x,a.at i=x:=⟨_,rfl⟩;rw [hx] at BX;have HXEQ:=η hx;obtain ⟨d,hd⟩:∃ d:Nat,x.den=d:=⟨_,rfl⟩;have HDE:=η hd;have hdp:0<d:=by rw [← hd];exact x.den_pos
    have hik:i*k≤3*10000:=Nat.mul_le_mul ω hk2;have SD:Hid (Small D):=⟨i*k+1,by omega,hDs⟩;have SDD:Hid (Small (d:Int)):=⟨k,by omega,by rw [← hd];exact BX.out.2⟩;have hgp:0<Int.gcd D d:=Int.gcd_pos_of_ne_zero_left _ ω;have hgle:Int.gcd D d≤D.natAbs:=Nat.le_of_dvd ω (Int.gcd_dvd_natAbs_left ..);have SG:Hid (Small ((Int.gcd D d:Nat):Int)):=⟨i*k+1,by omega,by show Int.gcd D d<_;omega⟩;have GP:Hid (0<((Int.gcd D d:Nat):Int)):=by show (0:Int)<_;omega
    have GD:Hid (((Int.gcd D d:Nat):Int) ∣ D):=Int.gcd_dvd_left ..;have HD:=η (show aN wc (.agg #[.bool s3,.slice e3 n3 m3]) D from by rw [← hD];exact HDI.out.below hbx.out);have HX:=η (show am wc r.agg x from by rw [← hx];exact hxi.out);have DB:=η (HDB.out.below hbx.out HDB.out.lt);clear hD hx hDp hDs hd hik hgp hgle hdp;have KP:Hid (∀ w',Below wc.heap.size wc w'→w'.cell? ⟨w2.heap.size,0,none⟩=some (.bool s3)∧w'.cell? ⟨w2.heap.size,1,none⟩=some (.slice e3 n3 m3)∧w'.cell? ⟨gx,0,none⟩=some (.bool r.s)∧w'.cell? ⟨gx,1,none⟩=some (.slice r.a r.n r.c)∧w'.cell? ⟨gx,2,none⟩=some (.bool r.t)∧w'.cell? ⟨gx,3,none⟩=some (.slice r.b r.m r.d)):=fun w' h=>by
      obtain ⟨p0,p1,-,-⟩:=(DB.out.below h DB.out.lt).two;obtain ⟨q0,q1,q2,q3,-⟩:=(hxb.out.below h hxb.out.lt).four;exact ⟨p0,p1,q0,q1,q2,q3⟩
    have M0:=η (Below.refl wc.heap.size wc);have M00:Hid (Below wc.heap.size wc wc.drew):=M0.out.drew;have hf1:=KP.out _ M0.out;unfold RC.agg at HX
    go_upto_region 7 with fail
    go_cut [6,7,22] (fun xv pv iv wy=>iv=.int .i64 (i:Nat)∧xv=.pointer (some ⟨gx,0,none⟩)∧∃ gq s e n m,pv=.pointer (some ⟨gq,0,none⟩)∧Hid (Box wy gq #[.bool s,.slice e n m] 54)∧Hid (aN wy (.agg #[.bool s,.slice e n m]) (D / (Int.gcd D d:Nat)))∧Hid (Below wc.heap.size wc wy)∧Hid (wc.heap.size≤gq))
    case first =>
      go_wp2_with fail
      go_region_held3 (fun w'=>w'.cell? ⟨w2.heap.size,0,none⟩=some (.bool s3)∧w'.cell? ⟨w2.heap.size,1,none⟩=some (.slice e3 n3 m3)∧w'.cell? ⟨gx,0,none⟩=some (.bool r.s)∧w'.cell? ⟨gx,1,none⟩=some (.slice r.a r.n r.c)∧w'.cell? ⟨gx,2,none⟩=some (.bool r.t)∧w'.cell? ⟨gx,3,none⟩=some (.slice r.b r.m r.d))
        (first | with_reducible exact (KP.out _ M3.out) | with_reducible exact (KP.out _ (M3.out.alloc M3.out.size _)) | with_reducible exact (KP.out _ ((M3.out.alloc M3.out.size _).alloc (M3.out.alloc M3.out.size _).size _)) | with_reducible exact (KP.out _ M2.out) | with_reducible exact (KP.out _ (M2.out.alloc M2.out.size _)) | with_reducible exact (KP.out _ ((M2.out.alloc M2.out.size _).alloc (M2.out.alloc M2.out.size _).size _)) | with_reducible exact (KP.out _ M1.out) | with_reducible exact (KP.out _ (M1.out.alloc M1.out.size _)) | with_reducible exact (KP.out _ ((M1.out.alloc M1.out.size _).alloc (M1.out.alloc M1.out.size _).size _)) | with_reducible exact (KP.out _ M00.out) | with_reducible exact (KP.out _ (M0.out.alloc M0.out.size _).drew) | with_reducible exact (KP.out _ ((M0.out.alloc M0.out.size _).alloc (M0.out.alloc M0.out.size _).size _).drew) | with_reducible exact (KP.out _ (((M3.out).setCell NL1.out _).setCell NL1.out _)) | with_reducible exact (KP.out _ ((((M3.out).setCell NL1.out _).setCell NL1.out _).alloc (((M3.out).setCell NL1.out _).setCell NL1.out _).size _)) | with_reducible exact (KP.out _ (((M3.out).setCell NL2.out _).setCell NL2.out _)) | with_reducible exact (KP.out _ ((((M3.out).setCell NL2.out _).setCell NL2.out _).alloc (((M3.out).setCell NL2.out _).setCell NL2.out _).size _)) | with_reducible exact (KP.out _ (((M3.out).setCell M3.out.size _).setCell M3.out.size _)) | with_reducible exact (KP.out _ ((((M3.out).setCell M3.out.size _).setCell M3.out.size _).alloc (((M3.out).setCell M3.out.size _).setCell M3.out.size _).size _)) | with_reducible exact (KP.out _ (((M3.out).setCell (M3.out.alloc M3.out.size (.cells #[.bool false,.slice none 0 0] 54)).size _).setCell (M3.out.alloc M3.out.size (.cells #[.bool false,.slice none 0 0] 54)).size _)) | with_reducible exact (KP.out _ ((((M3.out).setCell (M3.out.alloc M3.out.size (.cells #[.bool false,.slice none 0 0] 54)).size _).setCell (M3.out.alloc M3.out.size (.cells #[.bool false,.slice none 0 0] 54)).size _).alloc (((M3.out).setCell (M3.out.alloc M3.out.size (.cells #[.bool false,.slice none 0 0] 54)).size _).setCell (M3.out.alloc M3.out.size (.cells #[.bool false,.slice none 0 0] 54)).size _).size _)) | with_reducible exact (KP.out _ (((M3.out.alloc M3.out.size _).setCell NL1.out _).setCell NL1.out _)) | with_reducible exact (KP.out _ ((((M3.out.alloc M3.out.size _).setCell NL1.out _).setCell NL1.out _).alloc (((M3.out.alloc M3.out.size _).setCell NL1.out _).setCell NL1.out _).size _)) | with_reducible exact (KP.out _ (((M3.out.alloc M3.out.size _).setCell NL2.out _).setCell NL2.out _)) | with_reducible exact (KP.out _ ((((M3.out.alloc M3.out.size _).setCell NL2.out _).setCell NL2.out _).alloc (((M3.out.alloc M3.out.size _).setCell NL2.out _).setCell NL2.out _).size _)) | with_reducible exact (KP.out _ (((M3.out.alloc M3.out.size _).setCell M3.out.size _).setCell M3.out.size _)) | with_reducible exact (KP.out _ ((((M3.out.alloc M3.out.size _).setCell M3.out.size _).setCell M3.out.size _).alloc (((M3.out.alloc M3.out.size _).setCell M3.out.size _).setCell M3.out.size _).size _)) | with_reducible exact (KP.out _ (((M3.out.alloc M3.out.size _).setCell (M3.out.alloc M3.out.size (.cells #[.bool false,.slice none 0 0] 54)).size _).setCell (M3.out.alloc M3.out.size (.cells #[.bool false,.slice none 0 0] 54)).size _)) | with_reducible exact (KP.out _ ((((M3.out.alloc M3.out.size _).setCell (M3.out.alloc M3.out.size (.cells #[.bool false,.slice none 0 0] 54)).size _).setCell (M3.out.alloc M3.out.size (.cells #[.bool false,.slice none 0 0] 54)).size _).alloc (((M3.out.alloc M3.out.size _).setCell (M3.out.alloc M3.out.size (.cells #[.bool false,.slice none 0 0] 54)).size _).setCell (M3.out.alloc M3.out.size (.cells #[.bool false,.slice none 0 0] 54)).size _).size _)) | with_reducible exact (KP.out _ ((((M3.out.alloc M3.out.size _).alloc (M3.out.alloc M3.out.size _).size _).setCell NL1.out _).setCell NL1.out _)) | with_reducible exact (KP.out _ (((((M3.out.alloc M3.out.size _).alloc (M3.out.alloc M3.out.size _).size _).setCell NL1.out _).setCell NL1.out _).alloc ((((M3.out.alloc M3.out.size _).alloc (M3.out.alloc M3.out.size _).size _).setCell NL1.out _).setCell NL1.out _).size _)) | with_reducible exact (KP.out _ ((((M3.out.alloc M3.out.size _).alloc (M3.out.alloc M3.out.size _).size _).setCell NL2.out _).setCell NL2.out _)) | with_reducible exact (KP.out _ (((((M3.out.alloc M3.out.size _).alloc (M3.out.alloc M3.out.size _).size _).setCell NL2.out _).setCell NL2.out _).alloc ((((M3.out.alloc M3.out.size _).alloc (M3.out.alloc M3.out.size _).size _).setCell NL2.out _).setCell NL2.out _).size _)) | with_reducible exact (KP.out _ ((((M3.out.alloc M3.out.size _).alloc (M3.out.alloc M3.out.size _).size _).setCell M3.out.size _).setCell M3.out.size _)) | with_reducible exact (KP.out _ (((((M3.out.alloc M3.out.size _).alloc (M3.out.alloc M3.out.size _).size _).setCell M3.out.size _).setCell M3.out.size _).alloc ((((M3.out.alloc M3.out.size _).alloc (M3.out.alloc M3.out.size _).size _).setCell M3.out.size _).setCell M3.out.size _).size _)) | with_reducible exact (KP.out _ ((((M3.out.alloc M3.out.size _).alloc (M3.out.alloc M3.out.size _).size _).setCell (M3.out.alloc M3.out.size (.cells #[.bool false,.slice none 0 0] 54)).size _).setCell (M3.out.alloc M3.out.size (.cells #[.bool false,.slice none 0 0] 54)).size _)) | with_reducible exact (KP.out _ (((((M3.out.alloc M3.out.size _).alloc (M3.out.alloc M3.out.size _).size _).setCell (M3.out.alloc M3.out.size (.cells #[.bool false,.slice none 0 0] 54)).size _).setCell (M3.out.alloc M3.out.size (.cells #[.bool false,.slice none 0 0] 54)).size _).alloc ((((M3.out.alloc M3.out.size _).alloc (M3.out.alloc M3.out.size _).size _).setCell (M3.out.alloc M3.out.size (.cells #[.bool false,.slice none 0 0] 54)).size _).setCell (M3.out.alloc M3.out.size (.cells #[.bool false,.slice none 0 0] 54)).size _).size _)) | with_reducible exact (KP.out _ (((((M3.out).setCell NL1.out _).setCell NL1.out _).setCell NL2.out _).setCell NL2.out _)) | with_reducible exact (KP.out _ (((((M3.out).setCell NL2.out _).setCell NL2.out _).setCell NL1.out _).setCell NL1.out _)) | with_reducible exact (KP.out _ (((((M3.out.alloc M3.out.size _).setCell NL1.out _).setCell NL1.out _).setCell M3.out.size _).setCell M3.out.size _)) | with_reducible exact (KP.out _ (((((M3.out.alloc M3.out.size _).setCell M3.out.size _).setCell M3.out.size _).setCell NL1.out _).setCell NL1.out _)) | with_reducible exact (KP.out _ (((((M3.out.alloc M3.out.size _).setCell NL1.out _).setCell NL1.out _).setCell NL2.out _).setCell NL2.out _)) | with_reducible exact (KP.out _ (((((M3.out.alloc M3.out.size _).setCell NL2.out _).setCell NL2.out _).setCell NL1.out _).setCell NL1.out _)) | with_reducible exact (KP.out _ ((((((M3.out.alloc M3.out.size _).alloc (M3.out.alloc M3.out.size _).size _).setCell NL1.out _).setCell NL1.out _).setCell M3.out.size _).setCell M3.out.size _)) | with_reducible exact (KP.out _ ((((((M3.out.alloc M3.out.size _).alloc (M3.out.alloc M3.out.size _).size _).setCell M3.out.size _).setCell M3.out.size _).setCell NL1.out _).setCell NL1.out _)) | with_reducible exact (KP.out _ ((((((M3.out.alloc M3.out.size _).alloc (M3.out.alloc M3.out.size _).size _).setCell NL1.out _).setCell NL1.out _).setCell NL2.out _).setCell NL2.out _)) | with_reducible exact (KP.out _ ((((((M3.out.alloc M3.out.size _).alloc (M3.out.alloc M3.out.size _).size _).setCell NL2.out _).setCell NL2.out _).setCell NL1.out _).setCell NL1.out _)))
        (first
        | (have _g:=M2.out;clear _g;go_at_call 90;refine (lU _ _ D (Int.gcd D d:Nat) _ (HD.out.below (by first | with_reducible exact M2.out | with_reducible exact (M2.out.alloc M2.out.size _) | with_reducible exact ((M2.out.alloc M2.out.size _).alloc (M2.out.alloc M2.out.size _).size _))) (V2.out.below (by first | with_reducible exact β | with_reducible exact (β.alloc ρ _) | with_reducible exact ((β.alloc ρ _).alloc (β.alloc ρ _).size _))) SD.out SG.out GP.out GD.out).mono ?_;rintro e v3_ ⟨⟨v3,q1,q2,q3,q4,rfl,hv3⟩,hb3⟩
           have M3:=η (show Below wc.heap.size wc v3_ from by first | with_reducible exact ae M2.out hb3 ρ | with_reducible exact ae (M2.out.alloc M2.out.size _) hb3 ρ | with_reducible exact ae ((M2.out.alloc M2.out.size _).alloc (M2.out.alloc M2.out.size _).size _) hb3 ρ);have X3:=η (show Below v2.heap.size v2 v3_ from by first | with_reducible exact ae β hb3 ρ | with_reducible exact ae (β.alloc ρ _) hb3 ρ | with_reducible exact ae ((β.alloc ρ _).alloc (β.alloc ρ _).size _) hb3 ρ);have V3:=η hv3;obtain ⟨qs,qe,qn,qm,qd,rfl,-⟩:=hv3
           first
             | (have NB1:=η (show Box v3_ _ _ _ from by with_reducible exact NB1.out.below hb3 NB1.out.lt)
                have NB2:=η (show Box v3_ _ _ _ from by with_reducible exact NB2.out.below hb3 NB2.out.lt))
             | (have ne3:=Nat.ne_of_lt NB1.out.lt
                have ne4:=ne3.symm;have NB2:=η (show Box v3_ _ #[.bool false,.slice none 0 0] 54 from by with_reducible exact (Box.new _ _ _ _ rfl).below hb3 (Box.new _ _ _ _ rfl).lt);have NB1:=η (show Box v3_ _ _ _ from by with_reducible exact (NB1.out.old _).below hb3 (NB1.out.old _).lt);have NL2:=η M2.out.size)
             | (have NB1:=η (show Box v3_ _ _ _ from by with_reducible exact NB1.out.below hb3 NB1.out.lt))
             | (have NB2:=η (show Box v3_ (v2.heap.size+1) #[.bool false,.slice none 0 0] 54 from by with_reducible exact (Box.new _ _ _ (v2.heap.size+1) (by simp)).below hb3 (Box.new _ _ _ (v2.heap.size+1) (by simp)).lt)
                have NB1:=η (show Box v3_ _ #[.bool false,.slice none 0 0] 54 from by with_reducible exact ((Box.new _ _ _ _ rfl).old _).below hb3 ((Box.new _ _ _ _ rfl).old _).lt);have NL1:=η M2.out.size;have NL2:=η (show wc.heap.size≤v2.heap.size+1 from by have:=M2.out.size;omega))
             | (have NB1:=η (show Box v3_ _ #[.bool false,.slice none 0 0] 54 from by with_reducible exact (Box.new _ _ _ _ rfl).below hb3 (Box.new _ _ _ _ rfl).lt)
                have NL1:=η M2.out.size)
             | skip
           try have ne1:=Nat.ne_of_lt NB1.out.lt
           try have ne2:=ne1.symm
           try obtain ⟨n0,n1,n2,n3⟩:=NB1.out.two
           try have nold:=fun o=>(NB1.out.old o).two
           try obtain ⟨m0,m1,m2,m3⟩:=NB2.out.two
           clear hb3)
        | (have _g:=M1.out;clear _g;go_at_call 91;refine (mj _ _ D d _ (HD.out.below (by first | with_reducible exact M1.out | with_reducible exact (M1.out.alloc M1.out.size _) | with_reducible exact ((M1.out.alloc M1.out.size _).alloc (M1.out.alloc M1.out.size _).size _))) (V1.out.below (by first | with_reducible exact β | with_reducible exact (β.alloc ρ _) | with_reducible exact ((β.alloc ρ _).alloc (β.alloc ρ _).size _))) SD.out SDD.out).mono ?_;rintro e v2 ⟨⟨v2_,rfl,hv2⟩,hb2⟩
           have M2:=η (show Below wc.heap.size wc v2 from by first | with_reducible exact ae M1.out hb2 ρ | with_reducible exact ae (M1.out.alloc M1.out.size _) hb2 ρ | with_reducible exact ae ((M1.out.alloc M1.out.size _).alloc (M1.out.alloc M1.out.size _).size _) hb2 ρ);have X2:=η (show Below v1.heap.size v1 v2 from by first | with_reducible exact ae β hb2 ρ | with_reducible exact ae (β.alloc ρ _) hb2 ρ | with_reducible exact ae ((β.alloc ρ _).alloc (β.alloc ρ _).size _) hb2 ρ);have V2:=η hv2
           first
             | (have NB1:=η (show Box v2 _ _ _ from by with_reducible exact NB1.out.below hb2 NB1.out.lt)
                have NB2:=η (show Box v2 _ _ _ from by with_reducible exact NB2.out.below hb2 NB2.out.lt))
             | (have ne3:=Nat.ne_of_lt NB1.out.lt
                have ne4:=ne3.symm;have NB2:=η (show Box v2 _ #[.bool false,.slice none 0 0] 54 from by with_reducible exact (Box.new _ _ _ _ rfl).below hb2 (Box.new _ _ _ _ rfl).lt);have NB1:=η (show Box v2 _ _ _ from by with_reducible exact (NB1.out.old _).below hb2 (NB1.out.old _).lt);have NL2:=η M1.out.size)
             | (have NB1:=η (show Box v2 _ _ _ from by with_reducible exact NB1.out.below hb2 NB1.out.lt))
             | (have NB2:=η (show Box v2 (v1.heap.size+1) #[.bool false,.slice none 0 0] 54 from by with_reducible exact (Box.new _ _ _ (v1.heap.size+1) (by simp)).below hb2 (Box.new _ _ _ (v1.heap.size+1) (by simp)).lt)
                have NB1:=η (show Box v2 _ #[.bool false,.slice none 0 0] 54 from by with_reducible exact ((Box.new _ _ _ _ rfl).old _).below hb2 ((Box.new _ _ _ _ rfl).old _).lt);have NL1:=η M1.out.size;have NL2:=η (show wc.heap.size≤v1.heap.size+1 from by have:=M1.out.size;omega))
             | (have NB1:=η (show Box v2 _ #[.bool false,.slice none 0 0] 54 from by with_reducible exact (Box.new _ _ _ _ rfl).below hb2 (Box.new _ _ _ _ rfl).lt)
                have NL1:=η M1.out.size)
             | skip
           try have ne1:=Nat.ne_of_lt NB1.out.lt
           try have ne2:=ne1.symm
           try obtain ⟨n0,n1,n2,n3⟩:=NB1.out.two
           try have nold:=fun o=>(NB1.out.old o).two
           try obtain ⟨m0,m1,m2,m3⟩:=NB2.out.two
           clear hb2)
        | (go_at_call 71;refine (cM r.agg _ k _ (HX.out.below (by first | with_reducible exact M00.out | with_reducible exact (M0.out.alloc M0.out.size _).drew | with_reducible exact ((M0.out.alloc M0.out.size _).alloc (M0.out.alloc M0.out.size _).size _).drew)) BX.out ω).mono ?_;rw [HDE.out];rintro e v1 ⟨⟨v1_,rfl,hv1⟩,hb1⟩
           have M1:=η (show Below wc.heap.size wc v1 from by first | with_reducible exact ae M00.out hb1 ρ | with_reducible exact ae (M0.out.alloc M0.out.size _).drew hb1 ρ | with_reducible exact ae ((M0.out.alloc M0.out.size _).alloc (M0.out.alloc M0.out.size _).size _).drew hb1 ρ);have X1:=η (show Below wc.heap.size wc v1 from by first | with_reducible exact ae β.drew hb1 ρ | with_reducible exact ae (β.alloc ρ _).drew hb1 ρ | with_reducible exact ae ((β.alloc ρ _).alloc (β.alloc ρ _).size _).drew hb1 ρ);have V1:=η hv1
           first
             | (have NB2:=η (show Box v1 (wc.heap.size+1) #[.bool false,.slice none 0 0] 54 from by with_reducible exact (Box.new _ _ _ (wc.heap.size+1) (by simp)).drew.below hb1 (Box.new _ _ _ (wc.heap.size+1) (by simp)).drew.lt)
                have NB1:=η (show Box v1 _ #[.bool false,.slice none 0 0] 54 from by with_reducible exact ((Box.new _ _ _ _ rfl).old _).drew.below hb1 ((Box.new _ _ _ _ rfl).old _).drew.lt);have NL1:=η M0.out.size;have NL2:=η (show wc.heap.size≤wc.heap.size+1 from by have:=M0.out.size;omega))
             | (have NB1:=η (show Box v1 _ #[.bool false,.slice none 0 0] 54 from by with_reducible exact (Box.new _ _ _ _ rfl).drew.below hb1 (Box.new _ _ _ _ rfl).drew.lt)
                have NL1:=η M0.out.size)
             | skip
           try have ne1:=Nat.ne_of_lt NB1.out.lt
           try have ne2:=ne1.symm
           try obtain ⟨n0,n1,n2,n3⟩:=NB1.out.two
           try have nold:=fun o=>(NB1.out.old o).two
           try obtain ⟨m0,m1,m2,m3⟩:=NB2.out.two
           clear hb1))
      all_goals
        go_wp2_with fail
        go_meet
      all_goals first
        | (with_reducible exact ⟨rfl,rfl,_,_,_,_,_,rfl,η ((Box.new _ _ _ _ rfl).old _),η (V3.out.below ((β.alloc ρ _).alloc (β.alloc ρ _).size _)),η ((M3.out.alloc M3.out.size _).alloc (M3.out.alloc M3.out.size _).size _),η M3.out.size⟩)
        | (with_reducible exact ⟨rfl,rfl,_,_,_,_,_,rfl,η (Box.new _ _ _ _ (by simp)),η (V3.out.below ((β.alloc ρ _).alloc (β.alloc ρ _).size _)),η ((M3.out.alloc M3.out.size _).alloc (M3.out.alloc M3.out.size _).size _),η (Nat.le_succ_of_le M3.out.size)⟩)
        | (with_reducible exact ⟨rfl,rfl,_,_,_,_,_,rfl,η (((NB1.out.old _).set2 _ _).other2 (by first | assumption | (apply Ne.symm;assumption) | omega) _ _),η (((V3.out.below (β.alloc ρ _)).store2 (NB1.out.old _) _ _).store2 ((Box.new _ _ _ _ rfl).other2 (by first | assumption | (apply Ne.symm;assumption) | omega) _ _) _ _),η (aO (aO (M3.out.alloc M3.out.size _) NL1.out _ _) M3.out.size _ _),η NL1.out⟩)
        | (with_reducible exact ⟨rfl,rfl,_,_,_,_,_,rfl,η ((NB1.out.set2 _ _).other2 (by first | assumption | (apply Ne.symm;assumption) | omega) _ _),η ((V3.out.store2 NB1.out _ _).store2 (NB2.out.other2 (by first | assumption | (apply Ne.symm;assumption) | omega) _ _) _ _),η (aO (aO M3.out NL1.out _ _) NL2.out _ _),η NL1.out⟩)
        | (with_reducible exact ⟨rfl,rfl,_,_,_,_,_,rfl,η ((NB2.out.set2 _ _).other2 (by first | assumption | (apply Ne.symm;assumption) | omega) _ _),η ((V3.out.store2 NB2.out _ _).store2 (NB1.out.other2 (by first | assumption | (apply Ne.symm;assumption) | omega) _ _) _ _),η (aO (aO M3.out NL2.out _ _) NL1.out _ _),η NL2.out⟩)
        | (with_reducible exact ⟨rfl,rfl,_,_,_,_,_,rfl,η ((Box.new _ _ _ _ rfl).other2 (by first | assumption | (apply Ne.symm;assumption) | omega) _ _),η ((V3.out.below (β.alloc ρ _)).store2 (NB1.out.old _) _ _),η (aO (M3.out.alloc M3.out.size _) NL1.out _ _),η M3.out.size⟩)
    case rest =>
    clear hf1 KP M0 M00;obtain ⟨rfl,rfl,gq,qs,qe,qn,qm,rfl,hqb,hqi,hbq,hql⟩:=hcut;have XB:=η (hxb.out.below hbq.out hxb.out.lt);have DB2:=η (DB.out.below hbq.out DB.out.lt);have HX2:=η (HX.out.below hbq.out);have G3:Hid (w2.heap.size<w3.heap.size):=HDB.out.lt;have nq:gq≠w2.heap.size:=by have:=hql.out;have:=hbx.out.size;have:=G3.out;omega
    have nx:gx≠w2.heap.size:=by have:=hxl.out;have:=G3.out;omega
    have NQ:=η nq;have NX:=η nx;clear nq nx;have KQ:Hid (∀ w',Below wc.heap.size wc w'→w'.cell? ⟨gq,0,none⟩=some (.bool qs)∧w'.cell? ⟨gq,1,none⟩=some (.slice qe qn qm)∧w'.cell? ⟨gx,0,none⟩=some (.bool r.s)∧w'.cell? ⟨gx,1,none⟩=some (.slice r.a r.n r.c)∧w'.cell? ⟨gx,2,none⟩=some (.bool r.t)∧w'.cell? ⟨gx,3,none⟩=some (.slice r.b r.m r.d)):=fun w' h=>by
      obtain ⟨p0,p1,-,-⟩:=(hqb.out.below h hqb.out.lt).two;obtain ⟨q0,q1,q2,q3,-⟩:=(XB.out.below h XB.out.lt).four;exact ⟨p0,p1,q0,q1,q2,q3⟩
    have N0:Hid (Below wc.heap.size wc wc.drew):=β.drew;have hf2:=KQ.out _ β;have SQ:Hid (Small (D / (Int.gcd D d:Nat))):=by
      obtain ⟨t,ht,hs⟩:=SD.out;have hg:=GP.out;refine ⟨t,ht,Nat.lt_of_le_of_lt ?_ hs⟩;have hDp:0<D:=by rw [← HDEQ.out];exact (fj HK.out i (ψ HI3.out)).1
      have h1:=Int.ediv_le_self ((Int.gcd D d:Nat):Int) (a:=D) ω;have h2:=Int.ediv_nonneg (a:=D) (b:=((Int.gcd D d:Nat):Int)) ω ω;omega
    go_upto_region 8 with fail
    go_wp2_with fail
    go_region_held3 (fun w'=>w'.cell? ⟨gq,0,none⟩=some (.bool qs)∧w'.cell? ⟨gq,1,none⟩=some (.slice qe qn qm)∧w'.cell? ⟨gx,0,none⟩=some (.bool r.s)∧w'.cell? ⟨gx,1,none⟩=some (.slice r.a r.n r.c)∧w'.cell? ⟨gx,2,none⟩=some (.bool r.t)∧w'.cell? ⟨gx,3,none⟩=some (.slice r.b r.m r.d))
      (first | with_reducible exact (KS.out) | with_reducible exact (KQ.out _ N2.out) | with_reducible exact (KQ.out _ N1.out) | with_reducible exact (KQ.out _ N0.out))
      (first
        | (have _g:=N1.out;clear _g;go_at_call 70;refine (cY _ _ (D / (Int.gcd D d:Nat)) d _ (hqi.out.below N1.out) U1.out SQ.out SDD.out).mono ?_;rintro e y2 ⟨⟨u2,rfl,hu2⟩,hb2⟩
           have N2:Hid (Below wc.heap.size wc y2):=ae N1.out hb2 ρ;have U2:=η hu2;obtain ⟨ts,te,tn,tm,td,rfl,-⟩:=hu2;have KS:Hid (((y2.setCell ⟨w2.heap.size,0,none⟩ (.bool ts)).setCell ⟨w2.heap.size,1,none⟩ (.slice te tn tm)).cell? ⟨gq,0,none⟩=some (.bool qs)∧((y2.setCell ⟨w2.heap.size,0,none⟩ (.bool ts)).setCell ⟨w2.heap.size,1,none⟩ (.slice te tn tm)).cell? ⟨gq,1,none⟩=some (.slice qe qn qm)∧((y2.setCell ⟨w2.heap.size,0,none⟩ (.bool ts)).setCell ⟨w2.heap.size,1,none⟩ (.slice te tn tm)).cell? ⟨gx,0,none⟩=some (.bool r.s)∧((y2.setCell ⟨w2.heap.size,0,none⟩ (.bool ts)).setCell ⟨w2.heap.size,1,none⟩ (.slice te tn tm)).cell? ⟨gx,1,none⟩=some (.slice r.a r.n r.c)∧((y2.setCell ⟨w2.heap.size,0,none⟩ (.bool ts)).setCell ⟨w2.heap.size,1,none⟩ (.slice te tn tm)).cell? ⟨gx,2,none⟩=some (.bool r.t)∧((y2.setCell ⟨w2.heap.size,0,none⟩ (.bool ts)).setCell ⟨w2.heap.size,1,none⟩ (.slice te tn tm)).cell? ⟨gx,3,none⟩=some (.slice r.b r.m r.d)):=by
             obtain ⟨p0,p1,-,-⟩:=((hqb.out.below N2.out hqb.out.lt).other2 (g':=w2.heap.size) (i:=0) (j:=1) NQ.out (.bool ts) (.slice te tn tm)).two;obtain ⟨q0,q1,q2,q3,-⟩:=((XB.out.below N2.out XB.out.lt).other2 (g':=w2.heap.size) (i:=0) (j:=1) NX.out (.bool ts) (.slice te tn tm)).four;exact ⟨p0,p1,q0,q1,q2,q3⟩
           obtain ⟨z0,z1,z2,z3⟩:=(DB2.out.below N2.out DB2.out.lt).two;clear hb2)
        | (go_at_call 71;refine (cM _ _ k _ (HX2.out.below N0.out) BX.out ω).mono ?_;rw [HDE.out];rintro e y1 ⟨⟨u1,rfl,hu1⟩,hb1⟩
           have N1:Hid (Below wc.heap.size wc y1):=ae N0.out hb1 ρ;have U1:=η hu1;clear hb1))
    clear hf2;have DB3:=η (DB2.out.below N2.out DB2.out.lt);have hbe:Below w2.heap.size w2 y2:=ae (ae (ae HR.out hbx.out ω) hbq.out ω) N2.out ω;have HBE:=η hbe;clear hbe;go_wp2;go_round
    case rel=>exact ⟨i+1,by have:=HI3.out;omega,rfl,ts,te,tn,tm,DB3.out.set2 _ _,by
      show aN _ _ (lcmI (cZ a i) (a.at i).den);rw [HDEQ.out,HXEQ.out,HDE.out];exact U2.out.store2 DB3.out _ _,aO HBE.out ρ _ _⟩
    case measure=>show 3 - ((i:Int)+1).toNat<3 - (i:Int).toNat;have:=HI3.out;omega
end Go.Proofs.Υ
end

section
namespace Dowel
def cO (d M:Nat) (q:Rat):Prop:=∃ z:Int,q*(d:Rat)=(z:Rat)∧z.natAbs≤M
theorem cO.mono {d M M':Nat} {q:Rat} (h:cO d M q) (hm:M≤M'):cO d M' q:=by
 obtain ⟨z,h1,h2⟩:=h;exact ⟨z,h1,Nat.le_trans h2 hm⟩
theorem cO.zero (d:Nat):cO d 0 0:=⟨0,by simp,by simp⟩
theorem cO.add {d M M':Nat} {q r:Rat} (h:cO d M q) (h':cO d M' r):cO d (M+M') (q+r):=by
 obtain ⟨z,h1,h2⟩:=h;obtain ⟨y,h3,h4⟩:=h';exact ⟨z+y,by rw [Rat.add_mul,h1,h3,Rat.intCast_add],by omega⟩
theorem cO.neg {d M:Nat} {q:Rat} (h:cO d M q):cO d M (-q):=by
 obtain ⟨z,h1,h2⟩:=h;exact ⟨-z,by rw [Rat.neg_mul,h1,Rat.intCast_neg],by omega⟩
theorem cO.sub {d M M':Nat} {q r:Rat} (h:cO d M q) (h':cO d M' r):cO d (M+M') (q - r):=by
 rw [Rat.sub_eq_add_neg];exact h.add h'.neg
theorem cO.mul {d d' M M':Nat} {q r:Rat} (h:cO d M q) (h':cO d' M' r):cO (d*d') (M*M') (q*r):=by
 obtain ⟨z,h1,h2⟩:=h;obtain ⟨y,h3,h4⟩:=h';refine ⟨z*y,?_,?_⟩
 ·rw [Rat.natCast_mul,Rat.intCast_mul,← h1,← h3]
  grind
 ·rw [Int.natAbs_mul];exact Nat.mul_le_mul h2 h4
theorem cO.int (z:Int) (M:Nat) (h:z.natAbs≤M):cO 1 M (z:Rat):=⟨z,by simp,h⟩
theorem cO.bd {d M k:Nat} {q:Rat} (h:cO d M q) (hd:0<d) (h1:M<B ^ k) (h2:d<B ^ k):Bd k q:=by
 obtain ⟨z,h3,h4⟩:=h;have h0:(d:Rat)≠0:=fun e=>by
  have:d=0:=by exact_mod_cast e
  omega
 have e:q=Rat.divInt z (d:Int):=by
  rw [Rat.divInt_eq_div,← h3,Rat.div_def,Rat.mul_assoc,show ((d:Int):Rat)=(d:Rat) from rfl,Rat.mul_inv_cancel _ h0,Rat.mul_one]
 rw [e];exact eA ω ω ω
def qsub (a b:Q3):Q3:=⟨a.x - b.x,a.y - b.y,a.z - b.z⟩
def qadd (a b:Q3):Q3:=⟨a.x+b.x,a.y+b.y,a.z+b.z⟩
def qscale (k:Rat) (a:Q3):Q3:=⟨k*a.x,k*a.y,k*a.z⟩
theorem BdV.qsub {k l:Nat} {a b:Q3} (h:BdV k a) (h':BdV l b):BdV (k+l+1) (qsub a b):=⟨h.1.sub h'.1,h.2.1.sub h'.2.1,h.2.2.sub h'.2.2⟩
theorem BdV.qadd {k l:Nat} {a b:Q3} (h:BdV k a) (h':BdV l b):BdV (k+l+1) (qadd a b):=⟨h.1.add h'.1,h.2.1.add h'.2.1,h.2.2.add h'.2.2⟩
theorem BdV.qscale {k l:Nat} {q:Rat} {a:Q3} (h:Bd k q) (h':BdV l a):BdV (k+l) (qscale q a):=⟨h.mul h'.1,h.mul h'.2.1,h.mul h'.2.2⟩
theorem BdV.mono {k l:Nat} {a:Q3} (h:BdV k a) (hl:k≤l):BdV l a:=⟨h.1.mono hl,h.2.1.mono hl,h.2.2.mono hl⟩
def bN (d M:Nat) (q:Q3):Prop:=cO d M q.x∧cO d M q.y∧cO d M q.z
theorem bN.qadd {d M M':Nat} {q r:Q3} (h:bN d M q) (h':bN d M' r):bN d (M+M') (qadd q r):=⟨h.1.add h'.1,h.2.1.add h'.2.1,h.2.2.add h'.2.2⟩
theorem bN.qsub {d M M':Nat} {q r:Q3} (h:bN d M q) (h':bN d M' r):bN d (M+M') (qsub q r):=⟨h.1.sub h'.1,h.2.1.sub h'.2.1,h.2.2.sub h'.2.2⟩
theorem bN.qscale {d d' M M':Nat} {k:Rat} {q:Q3} (h:cO d M k) (h':bN d' M' q):bN (d*d') (M*M') (qscale k q):=⟨h.mul h'.1,h.mul h'.2.1,h.mul h'.2.2⟩
theorem bN.cross {d d' M M':Nat} {q r:Q3} (h:bN d M q) (h':bN d' M' r):bN (d*d') (2*(M*M')) (dT q r):=by
 rw [Nat.two_mul];exact ⟨(h.2.1.mul h'.2.2).sub (h.2.2.mul h'.2.1),(h.2.2.mul h'.1).sub (h.1.mul h'.2.2),(h.1.mul h'.2.1).sub (h.2.1.mul h'.1)⟩
theorem bN.dot {d d' M M':Nat} {q r:Q3} (h:bN d M q) (h':bN d' M' r):cO (d*d') (3*(M*M')) (bt q r):=by
 have:=((h.1.mul h'.1).add (h.2.1.mul h'.2.1)).add (h.2.2.mul h'.2.2);rw [show M*M'+M*M'+M*M'=3*(M*M') by omega] at this;exact this
theorem bN.bd {d M k:Nat} {q:Q3} (h:bN d M q) (hd:0<d) (h1:M<B ^ k) (h2:d<B ^ k):BdV k q:=⟨h.1.bd hd h1 h2,h.2.1.bd hd h1 h2,h.2.2.bd hd h1 h2⟩
def fJ (t a b c:Q3):Rat:=bt (qsub a t) (dT (qsub b t) (qsub c t))
def fX (t a b c:Q3):Q3:=qadd (qadd a b) (qadd c t)
theorem pieceD_frac {d M:Nat} {t a b c:Q3} (ht:bN d M t) (ha:bN d M a) (hb:bN d M b) (hc:bN d M c):cO (d*(d*d)) (3*((M+M)*(2*((M+M)*(M+M))))) (fJ t a b c):=
 (ha.qsub ht).dot ((hb.qsub ht).cross (hc.qsub ht))
theorem pieceC_frac {d M:Nat} {t a b c:Q3} (ht:bN d M t) (ha:bN d M a) (hb:bN d M b) (hc:bN d M c):bN d (M+M+(M+M)) (fX t a b c):=
 (ha.qadd hb).qadd (hc.qadd ht)
def gK (q:Nat→Q3) (r:List Nat) (k:Nat):Rat × Q3:=(fJ (q 0) (q (r.getD 0 0)) (q (r.getD (k+1) 0)) (q (r.getD (k+2) 0)),fX (q 0) (q (r.getD 0 0)) (q (r.getD (k+1) 0)) (q (r.getD (k+2) 0)))
def lX (q:Nat→Q3) (r:List Nat) (n:Nat):List (Rat × Q3):=(List.range n).map (gK q r)
def ak (q:Nat→Q3) (rs:List (List Nat)):List (Rat × Q3):=rs.flatMap fun r=>lX q r (r.length - 2)
theorem fanQ_succ (q:Nat→Q3) (r:List Nat) (n:Nat):lX q r (n+1)=lX q r n ++ [gK q r n]:=by
 unfold lX;rw [List.range_succ,List.map_append];rfl
theorem nc (q:Nat→Q3) (r:List Nat) (n:Nat):(lX q r n).length=n:=by unfold lX;simp
theorem pL (q:Nat→Q3) (rs:List (List Nat)) (r:List Nat):ak q (rs ++ [r])=ak q rs ++ lX q r (r.length - 2):=by
 unfold ak;rw [List.flatMap_append];simp
theorem piecesQ_len (q:Nat→Q3) (rs:List (List Nat)) (h:∀ r ∈ rs,r.length≤64):(ak q rs).length≤rs.length*62:=by
 induction rs with
 | nil=>exact Nat.zero_le _
 | cons r rs ih =>
  have h1:=ih fun r hr=>h r (by simp [hr])
  have h2:=h r (by simp);unfold ak at *;rw [List.flatMap_cons,List.length_append,nc,List.length_cons,Nat.add_mul];omega
theorem piecesQ_lt {q:Nat→Q3} {rs:List (List Nat)} {i j:Nat} {r:List Nat} (h:rs[i]?=some r) (hj:j<r.length - 2):(ak q (rs.take i)).length+j<(ak q rs).length:=by
 have hi:=(List.getElem?_eq_some_iff.1 h).1;have e:rs=rs.take i ++ r :: rs.drop (i+1):=by
  conv=>lhs;rw [← List.take_append_drop i rs]
  rw [List.drop_eq_getElem_cons hi];rw [List.getElem?_eq_getElem hi] at h;rw [Option.some.inj h]
 have e2:(ak q rs).length=(ak q (rs.take i)).length+((r.length - 2)+(ak q (rs.drop (i+1))).length):=by
  conv=>lhs;rw [e]
  unfold ak;rw [List.flatMap_append,List.flatMap_cons,List.length_append,List.length_append,nc]
 omega
theorem piecesQ_mem {q:Nat→Q3} {rs:List (List Nat)} {i j:Nat} {r:List Nat} (h:rs[i]?=some r) (hj:j<r.length - 2):gK q r j ∈ ak q rs:=
 List.mem_flatMap.mpr ⟨r,List.mem_of_getElem? h,List.mem_map.mpr ⟨j,List.mem_range.mpr hj,rfl⟩⟩
def bB (l:List (Rat × Q3)):Rat:=l.foldl (fun s x=>s+x.1) 0
def dW (l:List (Rat × Q3)):Q3:=l.foldl (fun s x=>qadd s (qscale x.1 x.2)) ⟨0,0,0⟩
theorem dN (l:List (Rat × Q3)) (x:Rat × Q3):bB (l ++ [x])=bB l+x.1:=by simp [bB]
theorem je (l:List (Rat × Q3)) (x:Rat × Q3):dW (l ++ [x])=qadd (dW l) (qscale x.1 x.2):=by simp [dW]
theorem iL {α:Type} {p:List α→Prop} (h0:p []) (h1:∀ l x,p l→p (l ++ [x])):∀ l,p l:=by
 intro l;have:∀ m:List α,p m.reverse:=fun m=>by
  induction m with
  | nil=>exact h0
  | cons x m ih=>rw [List.reverse_cons];exact h1 _ x ih
 have h:=this l.reverse
 rwa [List.reverse_reverse] at h
theorem sumD_frac {d M:Nat}:∀ l:List (Rat × Q3),(∀ x ∈ l,cO d M x.1)→cO d (l.length*M) (bB l):=by
 refine iL ?_ ?_
 ·intro _;exact (cO.zero d).mono (by simp)
 ·intro l x ih h
  rw [dN,List.length_append,List.length_singleton,Nat.add_mul,Nat.one_mul];exact (ih fun y hy=>h y (List.mem_append_left _ hy)).add (h x (by simp))
theorem sumC_frac {d M e L:Nat}:∀ l:List (Rat × Q3),(∀ x ∈ l,cO d M x.1∧bN e L x.2)→bN (d*e) (l.length*(M*L)) (dW l):=by
 refine iL ?_ ?_
 ·intro _
  have z:cO (d*e) (([]:List (Rat × Q3)).length*(M*L)) 0:=(cO.zero _).mono (by simp);exact ⟨z,z,z⟩
 ·intro l x ih h
  rw [je,List.length_append,List.length_singleton,Nat.add_mul,Nat.one_mul];have h2:=h x (by simp);exact (ih fun y hy=>h y (List.mem_append_left _ hy)).qadd (bN.qscale h2.1 h2.2)
theorem pieces_frac {q:Nat→Q3} {d M:Nat} (hq:∀ i,bN d M (q i)) (rs:List (List Nat)):∀ x ∈ ak q rs,cO (d*(d*d)) (3*((M+M)*(2*((M+M)*(M+M))))) x.1∧bN d (M+M+(M+M)) x.2:=by
 intro x hx;obtain ⟨r,_,hr⟩:=List.mem_flatMap.mp hx;obtain ⟨j,_,rfl⟩:=List.mem_map.mp hr;exact ⟨pieceD_frac (hq _) (hq _) (hq _) (hq _),pieceC_frac (hq _) (hq _) (hq _) (hq _)⟩
end Dowel
end
