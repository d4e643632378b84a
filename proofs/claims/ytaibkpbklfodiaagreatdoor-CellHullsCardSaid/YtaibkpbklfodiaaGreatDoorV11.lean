/- Package cell: side. The points of a set of bits, one by one. Package cell: ring. Package vector: Compare. Printed by gen/vec5.py. Package vector: Cross, Det. Printed by gen/vec6.py. Package vector: Det. Printed by gen/vec7.py. Package vector: Primitive. Printed by gen/vec8.py. Rationals with one denominator. -/
import Derived.Test.YtaibkpbklfodiaaGreatDoorV6
import Derived.Test.YtaibkpbklfodiaaGreatDoorV10
import Derived.Test.YtaibkpbklfodiaaGreatDoorV1
import Derived.Test.YtaibkpbklfodiaaGreatDoorV17
set_option linter.all false
/- Package cell: side. -/
section
namespace Dowel
open Go Go.RowKit
def planeV (n:V) (o:Nat):Value:=.agg #[.int .i64 n.x,.int .i64 n.y,.int .i64 n.z,.int .u64 (o:Int)]
def SideOk (P:Nat→V) (N i j m:Nat) (n:V):Prop:=
 tri P i j m≠V.zero∧(n=tri P i j m∨n=-tri P i j m)∧(∀ q,q<N→V.dot n (P q - P i)≤0)∧∃ q,q<N∧V.dot n (P q - P i)<0
def onMask (P:Nat→V) (N:Nat) (n:V) (i:Nat):Nat:=mask (fun q=>decide (V.dot n (P q - P i)=0)) N
def RetSide (P:Nat→V) (N i j m:Nat) (e:Ending):Prop:=
 (∃ n,SideOk P N i j m n∧e=.returned (.tuple #[planeV n (onMask P N n i),.bool true]))∨((∀ n,¬ SideOk P N i j m n)∧∃ n o,e=.returned (.tuple #[planeV n o,.bool false]))
def SideI (P:Nat→V) (i:Nat) (n:V) (k:Nat) (l1 l2:Bool) (o:Nat):Prop:=
 (l1=true↔∃ q,q<k∧V.dot n (P q - P i)<0)∧(l2=true↔∃ q,q<k∧0<V.dot n (P q - P i))∧o=mask (fun q=>decide (V.dot n (P q - P i)=0)) k
theorem mask_succ (p:Nat→Bool) (k:Nat):mask p (k+1)=mask p k ||| (if p k then 2 ^ k else 0):=rfl
theorem SideI.zero (P:Nat→V) (i:Nat) (n:V):SideI P i n 0 false false 0:=⟨by simp,by simp,rfl⟩
theorem ex_succ {p:Nat→Prop} {k:Nat}:(∃ q,q<k+1∧p q)↔(∃ q,q<k∧p q)∨p k:=
 ⟨fun ⟨q,h,hp⟩=>by
  by_cases e:q=k
  ·exact .inr (e ▸ hp)
  ·exact .inl ⟨q,by omega,hp⟩,fun h=>by
  rcases h with ⟨q,h,hp⟩ | hp
  ·exact ⟨q,by omega,hp⟩
  ·exact ⟨k,by omega,hp⟩⟩
theorem SideI.neg {P:Nat→V} {i k o:Nat} {n:V} {l1 l2:Bool} (h:SideI P i n k l1 l2 o) (hd:V.dot n (P k - P i)<0):SideI P i n (k+1) true l2 o:=by
 obtain ⟨h1,h2,h3⟩:=h
 refine ⟨by rw [ex_succ];simp [hd],by rw [ex_succ,h2];simp;omega,?_⟩
 rw [h3,mask_succ,if_neg (by simp;omega),Nat.or_zero]
theorem SideI.pos {P:Nat→V} {i k o:Nat} {n:V} {l1 l2:Bool} (h:SideI P i n k l1 l2 o) (hd:0<V.dot n (P k - P i)):SideI P i n (k+1) l1 true o:=by
 obtain ⟨h1,h2,h3⟩:=h
 refine ⟨by rw [ex_succ,h1];simp;omega,by rw [ex_succ];simp [hd],?_⟩
 rw [h3,mask_succ,if_neg (by simp;omega),Nat.or_zero]
theorem SideI.zer {P:Nat→V} {i k o:Nat} {n:V} {l1 l2:Bool} (h:SideI P i n k l1 l2 o) (hd:V.dot n (P k - P i)=0):SideI P i n (k+1) l1 l2 (o ||| 2 ^ k):=by
 obtain ⟨h1,h2,h3⟩:=h
 refine ⟨by rw [ex_succ,h1];simp;omega,by rw [ex_succ,h2];simp;omega,?_⟩
 rw [h3,mask_succ,if_pos (by simp [hd])]
theorem shl_or (o k:Nat) (ho:o<18446744073709551616) (hk:k<64):bits .or .u64 (o:Int) (IntKind.u64.wrap ((2:Int) ^ k))=((o ||| 2 ^ k:Nat):Int):=by
 have h2:2 ^ k<18446744073709551616:=Nat.lt_of_lt_of_le (Nat.pow_lt_pow_right (by omega) hk) (by decide)
 have e:IntKind.u64.wrap ((2:Int) ^ k)=((2 ^ k:Nat):Int):=by
  rw [IntKind.wrap_u64,show ((2:Int) ^ k)=((2 ^ k:Nat):Int) by simp]
  generalize 2 ^ k=x at *
  omega
 rw [e,u64_or_nat _ _ ho h2]
theorem SideI.lt {P:Nat→V} {i k o:Nat} {n:V} {l1 l2:Bool} (h:SideI P i n k l1 l2 o) (hk:k≤64):o<18446744073709551616:=by
 rw [h.2.2];exact Nat.lt_of_lt_of_le (mask_lt _ _) (Nat.pow_le_pow_right (by omega) hk)
theorem SideI.done {P:Nat→V} {i j m k o:Nat} {n:V} {l1 l2:Bool} (h:SideI P i n k l1 l2 o) (ht:tri P i j m=n) (h0:n≠V.zero) :
  (l2=false→l1=true→SideOk P k i j m n∧o=onMask P k n i)∧(l2=true→l1=false→SideOk P k i j m (-n)∧o=onMask P k (-n) i)∧(l1=l2→∀ n',¬ SideOk P k i j m n'):=by
 obtain ⟨h1,h2,h3⟩:=h
 refine ⟨fun a b=>?_,fun a b=>?_,fun e n' hs=>?_⟩
 ·subst a;subst b
  refine ⟨⟨by rw [ht];exact h0,.inl ht.symm,fun q hq=>?_,by simpa using h1⟩,h3⟩
  have:¬ 0<V.dot n (P q - P i):=fun hp=>by have:=h2.mpr ⟨q,hq,hp⟩;cases this
  omega
 ·subst a;subst b
  refine ⟨⟨by rw [ht];exact h0,.inr (by rw [ht]),fun q hq=>?_,?_⟩,?_⟩
  ·rw [dot_neg]
   have:¬ V.dot n (P q - P i)<0:=fun hp=>by have:=h1.mpr ⟨q,hq,hp⟩;cases this
   omega
  ·obtain ⟨q,hq,hp⟩:=h2.mp rfl
   exact ⟨q,hq,by rw [dot_neg];omega⟩
  ·rw [h3];unfold onMask
   exact mask_congr _ _ _ fun q _=>by rw [dot_neg];congr 1;simp
 ·obtain ⟨_,hn,ha,q,hq,hp⟩:=hs
  rw [ht] at hn
  rcases hn with rfl | rfl
  ·have t1:=h1.mpr ⟨q,hq,hp⟩
   obtain ⟨q',hq',hp'⟩:=h2.mp (by rw [← e];exact t1)
   have:=ha q' hq';omega
  ·rw [dot_neg] at hp
   have t2:=h2.mpr ⟨q,hq,by omega⟩
   obtain ⟨q',hq',hp'⟩:=h1.mp (by rw [e];exact t2)
   have:=ha q' hq';rw [dot_neg] at this;omega
end Dowel
namespace Go.Proofs.YtaibkpbklfodiaaGreatDoor
open Go.RowKit Dowel
theorem infoPlane:(Tryz.prog.info? 120).map (·.size)=some 4:=by kernel_rfl
set_option maxHeartbeats 2000000 in
set_option maxRecDepth 10000 in
theorem side_any (a:Option Addr) (len cap i j m:Nat) (P:Nat→V) (w:World) (hP:Pts w a len cap P) (hlen:len≤64) (hnear:∀ i,i<len→LeV 4096 (P i)) (hi:i<len) (hj:j<len) (hm:m<len) :
    Calls Tryz.prog 143 #[.slice a len cap,.int .i64 (i:Int),.int .i64 (j:Int),.int .i64 (m:Int)] w fun e w'=>RetSide P len i j m e∧Below w.heap.size w w':=by
  obtain ⟨W,hW,b1,hB,hS⟩:=boxes1 w #[.int .i64 0,.int .i64 0,.int .i64 0,.int .u64 0] 120
  have HP:=Lib.hid (hP.below hB)
  have HN:=Lib.hid hnear
  have B1:=Lib.hid b1
  have HB:=Lib.hid hB
  have HS:=Lib.hid hS
  have HW:=Lib.hid hW
  have i1:((i:Nat):Int)<(len:Int):=by omega
  have i2:((j:Nat):Int)<(len:Int):=by omega
  have i3:((m:Nat):Int)<(len:Int):=by omega
  obtain ⟨b,off,rfl,hb,hc,hcc⟩:=HP.out.cells (by omega)
  obtain ⟨pi0,pi1,pi2⟩:=hcc i hi
  obtain ⟨pj0,pj1,pj2⟩:=hcc j hj
  obtain ⟨pm0,pm1,pm2⟩:=hcc m hm
  have ni:=HN.out i hi
  have nj:=HN.out j hj
  have nm:=HN.out m hm
  have ht:tri P i j m=V.cross (P j - P i) (P m - P i):=rfl
  generalize hpi:P i=pi at ni ht pi0 pi1 pi2
  have HPI:=Lib.hid hpi
  generalize hpj:P j=pj at nj ht pj0 pj1 pj2
  generalize hpm:P m=pm at nm ht pm0 pm1 pm2
  have KP:Hid (∀ w',Below W.heap.size W w'→w'.cell? ⟨b,off+j*3,none⟩=some (.int .i64 pj.x)∧w'.cell? ⟨b,off+j*3+1,none⟩=some (.int .i64 pj.y)∧w'.cell? ⟨b,off+j*3+2,none⟩=some (.int .i64 pj.z)∧w'.cell? ⟨b,off+i*3,none⟩=some (.int .i64 pi.x)∧w'.cell? ⟨b,off+i*3+1,none⟩=some (.int .i64 pi.y)∧w'.cell? ⟨b,off+i*3+2,none⟩=some (.int .i64 pi.z)∧w'.cell? ⟨b,off+m*3,none⟩=some (.int .i64 pm.x)∧w'.cell? ⟨b,off+m*3+1,none⟩=some (.int .i64 pm.y)∧w'.cell? ⟨b,off+m*3+2,none⟩=some (.int .i64 pm.z)):=fun w' h =>
    ⟨keepC pj0 h hb,keepC pj1 h hb,keepC pj2 h hb,keepC pi0 h hb,keepC pi1 h hb,keepC pi2 h hb,keepC pm0 h hb,keepC pm1 h hb,keepC pm2 h hb⟩
  have nij:=nj.sub ni
  have nim:=nm.sub ni
  have L0:=Lib.hid (Below.refl W.heap.size W)
  have L00:Hid (Below W.heap.size W W.drew):=L0.out.drew
  have hcr:=fun v=>ccross_any (pj - pi) (pm - pi) 8192 8192 v nij nim (by omega)
  have hnl:=nij.cross nim
  rw [← ht] at hcr hnl
  generalize htr:tri P i j m=nn at *
  have HTR:=Lib.hid htr
  have HCR:Hid (∀ v,Calls Tryz.prog 112 #[vecV (pj - pi),vecV (pm - pi)] v fun e w'=>e=.returned (.agg #[.int .i64 nn.x,.int .i64 nn.y,.int .i64 nn.z])∧Below v.heap.size v w'):=hcr
  have HNL:=Lib.hid hnl
  have hf1:=KP.out _ L0.out
  clear hP hnear b1 hB hS hW hcc pi0 pi1 pi2 pj0 pj1 pj2 pm0 pm1 pm2 ht htr hcr hnl hpi hpj hpm
  go_enter Tryz.func143,Tryz.ntmps143
  go_upto_region 1 with fail
  rw [HW.out]
  go_cut [10] from 17 to 35 (fun pv wx=>∃ nb:Nat,pv=.pointer (some ⟨nb,0,none⟩)∧Hid (Box wx nb #[.int .i64 nn.x,.int .i64 nn.y,.int .i64 nn.z] 46)∧Hid (Below W.heap.size W wx)∧Hid (W.heap.size≤nb))
  case first =>
    go_wp2_with fail
    go_region_held3 (fun w'=>w'.cell? ⟨b,off+j*3,none⟩=some (.int .i64 pj.x)∧w'.cell? ⟨b,off+j*3+1,none⟩=some (.int .i64 pj.y)∧w'.cell? ⟨b,off+j*3+2,none⟩=some (.int .i64 pj.z)∧w'.cell? ⟨b,off+i*3,none⟩=some (.int .i64 pi.x)∧w'.cell? ⟨b,off+i*3+1,none⟩=some (.int .i64 pi.y)∧w'.cell? ⟨b,off+i*3+2,none⟩=some (.int .i64 pi.z)∧w'.cell? ⟨b,off+m*3,none⟩=some (.int .i64 pm.x)∧w'.cell? ⟨b,off+m*3+1,none⟩=some (.int .i64 pm.y)∧w'.cell? ⟨b,off+m*3+2,none⟩=some (.int .i64 pm.z))
      (first | with_reducible exact (KP.out _ L3.out)
             | with_reducible exact (KP.out _ (L3.out.alloc L3.out.size _))
             | with_reducible exact (KP.out _ L2.out)
             | with_reducible exact (KP.out _ (L2.out.alloc L2.out.size _))
             | with_reducible exact (KP.out _ L1.out)
             | with_reducible exact (KP.out _ (L1.out.alloc L1.out.size _))
             | with_reducible exact (KP.out _ L00.out)
             | with_reducible exact (KP.out _ (L0.out.alloc L0.out.size _).drew)
             | with_reducible exact (KP.out _ (((L3.out.setCell NL.out _).setCell NL.out _).setCell NL.out _)))
      (first
        | (have _g:=L2.out;clear _g;go_at_call 112;refine (HCR.out _).mono ?_;rintro e w3 ⟨rfl,hb3⟩
           have L3:=Lib.hid (show Below W.heap.size W w3 from by first | with_reducible exact below_call L2.out hb3 (Nat.le_refl _) | with_reducible exact below_call (L2.out.alloc L2.out.size _) hb3 (Nat.le_refl _))
           first
             | (have NB:=Lib.hid (show Box w3 _ _ _ from by with_reducible exact NB.out.below hb3 NB.out.lt)
                obtain ⟨n0,n1,n2,n3,n4,n5⟩:=NB.out.three)
             | (have NB:=Lib.hid (show Box w3 _ #[.int .i64 0,.int .i64 0,.int .i64 0] 46 from by with_reducible exact (Box.new _ _ _ _ rfl).below hb3 (by simp))
                have NL:=Lib.hid L2.out.size
                obtain ⟨n0,n1,n2,n3,n4,n5⟩:=NB.out.three)
             | skip
           clear hb3)
        | (have _g:=L1.out;clear _g;go_at_call 113;refine (csub_any pm pi 4096 4096 _ nm ni (by omega)).mono ?_;rintro e w2 ⟨rfl,hb2⟩
           have L2:=Lib.hid (show Below W.heap.size W w2 from by first | with_reducible exact below_call L1.out hb2 (Nat.le_refl _) | with_reducible exact below_call (L1.out.alloc L1.out.size _) hb2 (Nat.le_refl _))
           first
             | (have NB:=Lib.hid (show Box w2 _ _ _ from by with_reducible exact NB.out.below hb2 NB.out.lt)
                obtain ⟨n0,n1,n2,n3,n4,n5⟩:=NB.out.three)
             | (have NB:=Lib.hid (show Box w2 _ #[.int .i64 0,.int .i64 0,.int .i64 0] 46 from by with_reducible exact (Box.new _ _ _ _ rfl).below hb2 (by simp))
                have NL:=Lib.hid L1.out.size
                obtain ⟨n0,n1,n2,n3,n4,n5⟩:=NB.out.three)
             | skip
           clear hb2)
        | (go_at_call 113;refine (csub_any pj pi 4096 4096 _ nj ni (by omega)).mono ?_;rintro e w1 ⟨rfl,hb1⟩
           have L1:=Lib.hid (show Below W.heap.size W w1 from by first | with_reducible exact below_call L00.out hb1 (Nat.le_refl _) | with_reducible exact below_call (L0.out.alloc L0.out.size _).drew hb1 (Nat.le_refl _))
           first
             | (have NB:=Lib.hid (show Box w1 _ _ _ from by with_reducible exact NB.out.below hb1 NB.out.lt)
                obtain ⟨n0,n1,n2,n3,n4,n5⟩:=NB.out.three)
             | (have NB:=Lib.hid (show Box w1 _ #[.int .i64 0,.int .i64 0,.int .i64 0] 46 from by with_reducible exact (Box.new _ _ _ _ rfl).drew.below hb1 (Box.new _ _ _ _ rfl).drew.lt)
                have NL:=Lib.hid L0.out.size
                obtain ⟨n0,n1,n2,n3,n4,n5⟩:=NB.out.three)
             | skip
           clear hb1))
    all_goals
      go_wp2_with fail
      go_meet
    all_goals first
      | (with_reducible exact ⟨_,rfl,Lib.hid (Box.new _ _ _ _ rfl),Lib.hid (L3.out.alloc L3.out.size _),Lib.hid L3.out.size⟩)
      | (with_reducible exact ⟨_,rfl,Lib.hid (NB.out.set3 _ _ _),Lib.hid (((L3.out.setCell NL.out _).setCell NL.out _).setCell NL.out _),Lib.hid NL.out⟩)
  case rest =>
    obtain ⟨nb,rfl,hnb,hbc,hnl⟩:=hcut
    have hcc2:=Lib.hid HP.out
    obtain ⟨c0,c1,c2,-⟩:=hnb.out.three
    have e46:=eq46
    have b1c:=B1.out.below hbc.out (by have:=HS.out;omega)
    obtain ⟨d0,d1,d2,d3,d4,d5,d6,d7⟩:=b1c.four
    have B1C:=Lib.hid b1c
    clear hf1 KP HCR b1c
    by_cases hz:nn=V.zero
    · rw [hz] at c0 c1 c2
      simp only [V.zero] at c0 c1 c2
      have HZ:=Lib.hid hz
      clear hz
      go_wp2
      exact ret_box1 Tryz.results143 w.heap.size (B1C.out.set4 (.int .i64 0) (.int .i64 0) (.int .i64 0) (.int .u64 0)) _ rfl Tryz.underlying120 rfl infoPlane rfl
        ⟨.inr ⟨fun n h=>h.1 (by rw [HTR.out];exact HZ.out),V.zero,0,rfl⟩,below_set4 (below_call HB.out hbc.out (by have:=HS.out;omega)) (Nat.le_refl _) _ _ _ _⟩
    · have hzz:(nn.x == 0 && nn.y == 0 && nn.z == 0)=false:=by
        rw [Bool.eq_false_iff];intro h;simp at h;exact hz (V.ext' h.1.1 h.1.2 h.2)
      have HZ:=Lib.hid hz
      clear hz
      go_wp2_with fail
      obtain ⟨Wp,hWp,bp,hBp,hSp⟩:=boxes1 wc #[.int .i64 nn.x,.int .i64 nn.y,.int .i64 nn.z,.int .u64 0] 120
      rw [hWp]
      have BP:=Lib.hid bp
      have HBP:=Lib.hid hBp
      have HSP:=Lib.hid hSp
      have hgl:nb<wc.heap.size:=hnb.out.lt
      clear hWp bp hBp hSp d0 d1 d2 d3 d4 d5 d6 d7 c0 c1 c2 e46 hzz
      go_loopw [12,13,44] (fun lv mv v wr=>∃ k l1 l2 o,k≤len∧lv=.bool l1∧mv=.bool l2∧v=.int .i64 (k:Nat)∧Hid (SideI P i nn k l1 l2 o)∧Hid (Box wr wc.heap.size #[.int .i64 nn.x,.int .i64 nn.y,.int .i64 nn.z,.int .u64 (o:Nat)] 120)∧Hid (Below wc.heap.size wc wr)) (fun _ _ v _=>len - (intOf v).toNat)
      case atStart=>exact ⟨0,false,false,0,Nat.zero_le _,rfl,rfl,rfl,SideI.zero P i nn,BP.out,HBP.out⟩
      case round =>
        obtain ⟨k,l1,l2,o,hk,rfl,rfl,rfl,HI,HX,HR⟩:=hrel
        by_cases h0:k=len
        · have hn:¬ (k:Int)<(len:Int):=by omega
          have H0:=Lib.hid h0
          clear h0
          have b1r:=B1C.out.below HR.out B1C.out.lt
          have hnbr:=hnb.out.below HR.out hgl
          obtain ⟨x0,x1,x2,x3,x4,x5,x6,x7⟩:=HX.out.four
          obtain ⟨y0,y1,y2,y3,y4,y5,y6,y7⟩:=b1r.four
          have B1R:=Lib.hid b1r
          have hgn:w.heap.size≠wc.heap.size:=by have:=B1C.out.lt;omega
          have HIL:Hid (SideI P i nn len l1 l2 o):=by rw [← H0.out];exact HI.out
          have hall:=below_call (below_call HB.out hbc.out (by have:=HS.out;omega)) HR.out (by have:=HS.out;have:=HB.out.size;omega)
          have HALL:=Lib.hid hall
          clear b1r hall
          cases l2
          · go_wp2
            refine ret_box1 Tryz.results143 w.heap.size (B1R.out.set4 (.int .i64 nn.x) (.int .i64 nn.y) (.int .i64 nn.z) (.int .u64 (o:Nat))) _ rfl Tryz.underlying120 rfl infoPlane rfl
              ⟨?_,below_set4 HALL.out (Nat.le_refl _) _ _ _ _⟩
            have hd:=HIL.out.done HTR.out HZ.out
            cases l1
            · exact .inr ⟨hd.2.2 rfl,nn,o,rfl⟩
            · have:=hd.1 rfl rfl
              exact .inl ⟨nn,this.1,by rw [← this.2];rfl⟩
          · obtain ⟨c0,c1,c2,-⟩:=hnbr.three
            go_wp2_with fail
            have hcs:∀ v,Calls Tryz.prog 113 #[.agg #[.int .i64 0,.int .i64 0,.int .i64 0],.agg #[.int .i64 nn.x,.int .i64 nn.y,.int .i64 nn.z]] v fun e w'=>e=.returned (.agg #[.int .i64 (-nn).x,.int .i64 (-nn).y,.int .i64 (-nn).z])∧Below v.heap.size v w':=fun v =>
              (csub_any V.zero nn 1 200000000 v ⟨⟨by decide,by decide⟩,⟨by decide,by decide⟩,by decide,by decide⟩ (HNL.out.mono (by omega)) (by omega)).mono fun e w' h=>⟨by
                rw [h.1];show Ending.returned (.agg #[.int .i64 (0 - nn.x),.int .i64 (0 - nn.y),.int .i64 (0 - nn.z)])=_
                simp only [V.neg_x,V.neg_y,V.neg_z,Int.zero_sub],h.2⟩
            refine (hcs _).mono ?_
            clear hcs
            rintro e w1 ⟨rfl,hb1⟩
            have hXl:=HX.out.below hb1 HX.out.lt
            have hBl:=B1R.out.below hb1 B1R.out.lt
            have HXL:=Lib.hid hXl
            have HBL:=Lib.hid hBl
            obtain ⟨x0,x1,x2,x3,x4,x5,x6,x7⟩:=hXl.four
            obtain ⟨y0,y1,y2,y3,y4,y5,y6,y7⟩:=hBl.four
            have hal:=below_call HALL.out hb1 (by have:=HALL.out.size;omega)
            have HAL:=Lib.hid hal
            have HNE:=Lib.hid hgn
            clear hXl hBl hal hb1
            generalize hng:-nn=ng at *
            have HNG:=Lib.hid hng
            clear hng
            go_wp2
            refine ret_box1 Tryz.results143 w.heap.size ((HBL.out.other3 HNE.out (.int .i64 ng.x) (.int .i64 ng.y) (.int .i64 ng.z)).set4 (.int .i64 ng.x) (.int .i64 ng.y) (.int .i64 ng.z) (.int .u64 (o:Nat))) _ rfl Tryz.underlying120 rfl infoPlane rfl
              ⟨?_,below_set4 (below_set3 HAL.out (by have:=B1C.out.lt;omega) _ _ _) (Nat.le_refl _) _ _ _ _⟩
            have hd:=HIL.out.done HTR.out HZ.out
            rw [HNG.out] at hd
            cases l1
            · have:=hd.2.1 rfl rfl
              exact .inl ⟨ng,this.1,by rw [← this.2];rfl⟩
            · exact .inr ⟨hd.2.2 rfl,ng,o,rfl⟩
        · have hlt:(k:Int)<(len:Int):=by omega
          have hkl:k<len:=by omega
          clear h0
          obtain ⟨b',off',e',hb',hc',hcc⟩:=(hcc2.out.below (below_call hbc.out HR.out (Nat.le_refl _))).cells (by omega)
          cases e'
          obtain ⟨q0,q1,q2⟩:=hcc k hkl
          clear hcc
          go_wp2
          obtain ⟨Wk,hWk,bk,hBk,hSk⟩:=boxes1 wr #[.int .i64 (P k).x,.int .i64 (P k).y,.int .i64 (P k).z] 46
          rw [hWk]
          have hBWk:=below_call (below_call hbc.out HR.out (Nat.le_refl _)) hBk (Nat.le_refl _)
          have hcWk:=below_call HR.out hBk (Nat.le_refl _)
          have hxk:=HX.out.below hBk HX.out.lt
          obtain ⟨b',off',e',hb',hc',hcc⟩:=(hcc2.out.below hBWk).cells (by omega)
          cases e'
          obtain ⟨r0,r1,r2⟩:=hcc i hi
          obtain ⟨s0,s1,s2,-⟩:=bk.three
          obtain ⟨t0,t1,t2,-⟩:=(hnb.out.below hcWk hgl).three
          have nk:=HN.out k hkl
          rw [HPI.out] at r0 r1 r2
          generalize hpk:P k=pk at *
          have HPK:=Lib.hid hpk
          have hgw:wr.heap.size<Wk.heap.size:=by omega
          have hnw:nb<Wk.heap.size:=by have:=hcWk.size;omega
          have KQ:Hid (∀ w',Below Wk.heap.size Wk w'→w'.cell? ⟨nb,0,none⟩=some (.int .i64 nn.x)∧w'.cell? ⟨nb,1,none⟩=some (.int .i64 nn.y)∧w'.cell? ⟨nb,2,none⟩=some (.int .i64 nn.z)∧w'.cell? ⟨wr.heap.size,0,none⟩=some (.int .i64 pk.x)∧w'.cell? ⟨wr.heap.size,1,none⟩=some (.int .i64 pk.y)∧w'.cell? ⟨wr.heap.size,2,none⟩=some (.int .i64 pk.z) ∧
              w'.cell? ⟨b,off+i*3,none⟩=some (.int .i64 pi.x)∧w'.cell? ⟨b,off+i*3+1,none⟩=some (.int .i64 pi.y)∧w'.cell? ⟨b,off+i*3+2,none⟩=some (.int .i64 pi.z)):=fun w' h =>
            ⟨keepC t0 h hnw,keepC t1 h hnw,keepC t2 h hnw,keepC s0 h hgw,keepC s1 h hgw,keepC s2 h hgw,keepC r0 h hb',keepC r1 h hb',keepC r2 h hb'⟩
          have M0:=Lib.hid (Below.refl Wk.heap.size Wk)
          have M00:Hid (Below Wk.heap.size Wk Wk.drew):=M0.out.drew
          have HBWk:=Lib.hid hcWk
          have HXK:=Lib.hid hxk
          have nki:=nk.sub ni
          have nnl:LeV 200000000 nn:=HNL.out.mono (by omega)
          clear hWk hBk hSk hcc r0 r1 r2 s0 s1 s2 t0 t1 t2 hBWk hcWk hxk hpk q0 q1 q2
          have hf2:=KQ.out _ M0.out
          go_region_held3 (fun w'=>w'.cell? ⟨nb,0,none⟩=some (.int .i64 nn.x)∧w'.cell? ⟨nb,1,none⟩=some (.int .i64 nn.y)∧w'.cell? ⟨nb,2,none⟩=some (.int .i64 nn.z)∧w'.cell? ⟨wr.heap.size,0,none⟩=some (.int .i64 pk.x)∧w'.cell? ⟨wr.heap.size,1,none⟩=some (.int .i64 pk.y)∧w'.cell? ⟨wr.heap.size,2,none⟩=some (.int .i64 pk.z) ∧
              w'.cell? ⟨b,off+i*3,none⟩=some (.int .i64 pi.x)∧w'.cell? ⟨b,off+i*3+1,none⟩=some (.int .i64 pi.y)∧w'.cell? ⟨b,off+i*3+2,none⟩=some (.int .i64 pi.z))
            (first | with_reducible exact (KQ.out _ M2.out) | with_reducible exact (KQ.out _ M1.out) | with_reducible exact (KQ.out _ M00.out))
            (first
              | (have _g:=M1.out;clear _g;go_at_call 115;refine (cdot_any nn (pk - pi) 200000000 8192 _ nnl nki (by omega)).mono ?_;rintro e w2 ⟨rfl,hb2⟩
                 have M2:Hid (Below Wk.heap.size Wk w2):=below_call M1.out hb2 (Nat.le_refl _)
                 clear hb2)
              | (go_at_call 113;refine (csub_any pk pi 4096 4096 _ nk ni (by omega)).mono ?_;rintro e w1 ⟨rfl,hb1⟩
                 have M1:Hid (Below Wk.heap.size Wk w1):=below_call M00.out hb1 (Nat.le_refl _)
                 clear hb1))
          have HRn:=Lib.hid (below_call HBWk.out M2.out (Nat.le_refl _))
          have hxn:=HXK.out.below M2.out HXK.out.lt
          have HXN:=Lib.hid hxn
          clear hf2
          have hd:=Lib.hid (show V.dot nn (pk - pi)=V.dot nn (pk - pi) from rfl)
          generalize hdd:V.dot nn (pk - pi)=d at *
          have HD:Hid (V.dot nn (P k - P i)=d):=by rw [HPK.out,HPI.out];exact hdd
          clear hd hdd
          rcases Int.lt_trichotomy d 0 with hl | hl | hl
          · have HL:=Lib.hid hl
            go_wp2
            go_round
            case rel=>exact ⟨k+1,true,l2,o,by omega,rfl,rfl,rfl,HI.out.neg (by rw [HD.out];exact HL.out),HXN.out,HRn.out⟩
            case measure=>show len - ((k:Int)+1).toNat<len - (k:Int).toNat;omega
          · have HL:=Lib.hid hl
            obtain ⟨x0,x1,x2,x3,x4,x5,x6,x7⟩:=hxn.four
            go_wp2_with fail
            have hk63:(k:Int)<64:=by omega
            have hk0:(0:Int)≤(k:Int):=by omega
            go_region
            have hor:=shl_or o k (HI.out.lt (by omega)) (by omega)
            go_wp2
            go_round
            case rel=>exact ⟨k+1,l1,l2,o ||| 2 ^ k,by omega,rfl,rfl,rfl,HI.out.zer (by rw [HD.out];exact HL.out),(by rw [← hor];exact (HXN.out.set 3 _).drew),(HRn.out.setCell (by show wc.heap.size≤wc.heap.size;omega) _).drew⟩
            case measure=>show len - ((k:Int)+1).toNat<len - (k:Int).toNat;omega
          · have HL:=Lib.hid hl
            have hnl:¬ d<0:=by omega
            go_wp2
            go_round
            case rel=>exact ⟨k+1,l1,true,o,by omega,rfl,rfl,rfl,HI.out.pos (by rw [HD.out];exact HL.out),HXN.out,HRn.out⟩
            case measure=>show len - ((k:Int)+1).toNat<len - (k:Int).toNat;omega
end Go.Proofs.YtaibkpbklfodiaaGreatDoor
end

/- The points of a set of bits, one by one. -/
section
namespace Dowel
open Go Go.RowKit
def bitsOf (M k:Nat):List Nat:=(List.range k).filter fun i=>M.testBit i
theorem bitsOf_mask (p:Nat→Bool) (N:Nat) (h:N≤64):bitsOf (mask p N) 64=(List.range N).filter p:=by
 have:∀ d,bitsOf (mask p N) (N+d)=(List.range N).filter p:=by
  intro d
  induction d with
  | zero =>
   unfold bitsOf
   refine List.filter_congr fun i hi=>?_
   have:=List.mem_range.mp hi
   rw [mask_bit];simp;intro;omega
  | succ d ih =>
   unfold bitsOf at *
   rw [← Nat.add_assoc,List.range_succ,List.filter_append,ih,List.filter_cons_of_neg (by rw [mask_bit];simp;intro;omega),List.filter_nil,List.append_nil]
 have e:=this (64 - N)
 rwa [show N+(64 - N)=64 by omega] at e
theorem bitsOf_gap (M k t:Nat) (hkt:k≤t) (h:∀ i,k≤i→i<t→M.testBit i=false):bitsOf M t=bitsOf M k:=by
 have:∀ d,(∀ i,k≤i→i<k+d→M.testBit i=false)→bitsOf M (k+d)=bitsOf M k:=by
  intro d
  induction d with
  | zero=>intro _;rfl
  | succ d ih =>
   intro h
   have:=ih fun i h1 h2=>h i h1 (by omega)
   unfold bitsOf at *
   rw [← Nat.add_assoc,List.range_succ,List.filter_append,this,List.filter_cons_of_neg (by rw [h (k+d) (by omega) (by omega)];simp),List.filter_nil,List.append_nil]
 have e:=this (t - k) fun i h1 h2=>h i h1 (by omega)
 rwa [show k+(t - k)=t by omega] at e
theorem bitsOf_succ (M t:Nat) (h:M.testBit t=true):bitsOf M (t+1)=bitsOf M t ++ [t]:=by
 unfold bitsOf
 rw [List.range_succ,List.filter_append,List.filter_cons_of_pos h,List.filter_nil]
theorem bitsOf_length (M k:Nat):(bitsOf M k).length≤k:=by
 unfold bitsOf
 have:=List.length_filter_le (fun i=>M.testBit i) (List.range k)
 simpa using this
def LeftBits (M k m:Nat):Prop:=∀ i,m.testBit i=(decide (k≤i) && M.testBit i)
theorem LeftBits.start (M:Nat):LeftBits M 0 M:=fun i=>by simp
theorem LeftBits.zero {M k:Nat} (h:LeftBits M k 0) (hk:k≤64):bitsOf M 64=bitsOf M k:=
 bitsOf_gap M k 64 hk fun i h1 _=>by
  have:=h i
  rw [Nat.zero_testBit] at this
  simpa [h1] using this.symm
theorem lowest {m:Nat} (h:m≠0):∃ t,m.testBit t=true∧∀ i,i<t→m.testBit i=false:=by
 obtain ⟨i,hi⟩:=Nat.exists_testBit_of_ne_zero h
 revert hi
 induction i using Nat.strongRecOn with
 | _ i ih =>
  intro hi
  by_cases hj:∃ j,j<i∧m.testBit j=true
  ·obtain ⟨j,hj,hb⟩:=hj;exact ih j hj hb
  ·exact ⟨i,hi,fun j h=>by
    by_cases hb:m.testBit j=true
    ·exact absurd ⟨j,h,hb⟩ hj
    ·simpa using hb⟩
theorem LeftBits.step {M k m t:Nat} (h:LeftBits M k m) (hM:M<18446744073709551616) (ht:m.testBit t=true) (hl:∀ i,i<t→m.testBit i=false) :
  k≤t∧t<64∧M.testBit t=true∧bitsOf M (t+1)=bitsOf M k ++ [t]∧LeftBits M (t+1) (m &&& (m - 1)):=by
 have h1:=h t
 rw [ht] at h1
 have h2:k≤t∧M.testBit t=true:=by simpa using h1.symm
 have ht64:t<64:=by
  rcases Nat.lt_or_ge t 64 with h | h
  ·exact h
  ·have:=h2.2
   rw [Nat.testBit_lt_two_pow (Nat.lt_of_lt_of_le hM (Nat.pow_le_pow_right (n:=2) (by omega) h:2 ^ 64≤2 ^ t))] at this;cases this
 refine ⟨h2.1,ht64,h2.2,?_,fun i=>?_⟩
 ·rw [bitsOf_succ M t h2.2,bitsOf_gap M k t h2.1 fun i a b=>by
   have:=h i;rw [hl i b] at this;simpa [a] using this.symm]
 ·rw [low_bit ht hl,h i]
  by_cases hi:t<i
  ·simp [hi,show k≤i by omega,show t+1≤i by omega]
  ·simp [hi,show ¬ t+1≤i by omega]
theorem LeftBits.lt {M k m:Nat} (h:LeftBits M k m) (hM:M<18446744073709551616):m<18446744073709551616:=by
 refine Nat.lt_pow_two_of_testBit (n:=64) m fun i hi=>?_
 rw [h i,Nat.testBit_lt_two_pow (Nat.lt_of_lt_of_le hM (Nat.pow_le_pow_right (n:=2) (by omega) hi:2 ^ 64≤2 ^ i))];simp
end Dowel
end

/- Package cell: ring. -/
section
namespace Dowel
open Go Go.RowKit
def OwnN (w:World) (base:Nat) (v:Value) (l:List Nat):Prop:=w.ownsRow base 3 1 v l.length (l.map fun (i:Nat)=>Value.int .i64 (i:Int))
theorem own_ge {w:World} {base e k:Nat} {v:Value} {n:Nat} {xs:List Value} (h:w.ownsRow base e k v n xs):∀ g,v.ownBlock=some g→base≤g:=by
 obtain ⟨hl,⟨rfl,rfl⟩ | ⟨g,cap,cur,rfl,hg,hh,hn,hm,hs,ht⟩⟩:=h
 ·intro g hg;cases hg
 ·intro g' hg';cases hg';exact hg
theorem LeftBits.end {M k m:Nat} (h:LeftBits M k m) (h0:m=0) (hk:k≤64):bitsOf M 64=bitsOf M k:=by subst h0;exact h.zero hk
theorem OwnN.ints {w:World} {base:Nat} {v:Value} {l:List Nat} (h:OwnN w base v l):∃ a cap,v=.slice a l.length cap∧Ints w a l.length cap (l.map fun (i:Nat)=>(i:Int)):=by
 obtain ⟨a,cap,hv,hs⟩:=Sl.of_owns h
 exact ⟨a,cap,hv,by rw [List.map_map];exact hs,by simp⟩
def RetInts (w:World) (base:Nat) (e:Ending) (l:List Nat):Prop:=∃ v,e=.returned v∧OwnN w base v l
theorem own_base {w:World} {base base' e k:Nat} {v:Value} {n:Nat} {xs:List Value} (h:w.ownsRow base e k v n xs) (hb:base'≤base):w.ownsRow base' e k v n xs:=by
 obtain ⟨hl,h | ⟨g,cap,cur,rfl,hg,r⟩⟩:=h
 ·exact ⟨hl,.inl h⟩
 ·exact ⟨hl,.inr ⟨g,cap,cur,rfl,Nat.le_trans hb hg,r⟩⟩
theorem own_below {w w':World} {base e k:Nat} {v:Value} {n:Nat} {xs:List Value} (h:w.ownsRow base e k v n xs) (hb:Below w.heap.size w w'):w'.ownsRow base e k v n xs:=by
 obtain ⟨hl,h | ⟨g,cap,cur,rfl,hg,hh,hn,hm,hs,ht⟩⟩:=h
 ·exact ⟨hl,.inl h⟩
 ·exact ⟨hl,.inr ⟨g,cap,cur,rfl,hg,by rw [hb.block g (Array.getElem?_eq_some_iff.1 hh).1];exact hh,hn,hm,hs,ht⟩⟩
def encO:Option Nat→Int
 | none=>-1
 | some b=>b
theorem pick_mem (P:Nat→V) (n:V) (a:Nat) (l:List Nat) (o:Option Nat) (b:Nat) (h:l.foldl (pick P n a) o=some b):b ∈ l∨o=some b:=by
 induction l generalizing o with
 | nil=>exact .inr h
 | cons q l ih =>
  rcases ih _ h with h1 | h1
  ·exact .inl (List.mem_cons_of_mem _ h1)
  ·unfold pick at h1
   by_cases hq:q=a
   ·rw [if_pos hq] at h1;exact .inr h1
   ·rw [if_neg hq] at h1
    cases o with
    | none=>cases h1;exact .inl (by simp)
    | some c =>
     dsimp only at h1
     split at h1
     ·cases h1;exact .inl (by simp)
     ·exact .inr h1
theorem pick_take (P:Nat→V) (n:V) (a:Nat) (l:List Nat) (i:Nat) (hi:i<l.length):(l.take (i+1)).foldl (pick P n a) none=pick P n a ((l.take i).foldl (pick P n a) none) (l.getD i 0):=by
 rw [List.take_succ_eq_append_getElem hi,List.foldl_append]
 simp [hi]
theorem and_nat (m:Nat) (h0:m≠0) (hm:m<18446744073709551616):bits .and .u64 (m:Int) ((m:Int) - 1)=((m &&& (m - 1):Nat):Int):=by
 have e:(m:Int) - 1=((m - 1:Nat):Int):=by omega
 rw [e,u64_and_nat _ _ hm (by omega)]
end Dowel
namespace Go.Proofs.YtaibkpbklfodiaaGreatDoor
open Go.RowKit Dowel
theorem info3:(Tryz.prog.info? 3).map (fun i=>(i.zero,i.size,i.bytes))=some (some (.int .i64 0),1,8):=by kernel_rfl
set_option maxHeartbeats 2000000 in
set_option maxRecDepth 10000 in
theorem ring_any (a:Option Addr) (len cap b0 M:Nat) (n:V) (P:Nat→V) (w:World) (hT:Tab w) (hP:Pts w a len cap P) (hlen:len≤64) (hnear:∀ i,i<len→LeV 4096 (P i)) (hn:LeV 200000000 n)
    (hM:M=onMask P len n b0) (hF:Face P len n b0) (hS:Sorted P len) :
    Calls Tryz.prog 101 #[.slice a len cap,planeV n M] w fun e w'=>RetInts w' w.heap.size e (ring P (onPl P len n b0) n)∧Below w.heap.size w w':=by
  have hon:bitsOf M 64=onPl P len n b0:=by rw [hM];exact bitsOf_mask _ _ hlen
  obtain ⟨kp,hkp,hk1,hk2,hk3,hk4⟩:=period (hF.flat hS.inj) hF.two (hF.head hS)
  have HK:Hid (kp=per (nx P (onPl P len n b0) n) ((onPl P len n b0).headD 0) (onPl P len n b0).length 1∧1≤kp∧kp<1+(onPl P len n b0).length∧orb (nx P (onPl P len n b0) n) ((onPl P len n b0).headD 0) kp=(onPl P len n b0).headD 0∧∀ i,1≤i→i<kp→orb (nx P (onPl P len n b0) n) ((onPl P len n b0).headD 0) i≠(onPl P len n b0).headD 0):=⟨hkp,hk1,hk2,hk3,hk4⟩
  have HF:=Lib.hid hF
  have HSS:=Lib.hid hS
  have HON:=Lib.hid hon
  clear hon hkp hk1 hk2 hk3 hk4 hF hS
  obtain ⟨W,hW,b1,hB,hS⟩:=boxes1 w #[.int .i64 n.x,.int .i64 n.y,.int .i64 n.z,.int .u64 (M:Int)] 120
  have HT:=Lib.hid (hT.below hB hT.1)
  have HP:=Lib.hid (hP.below hB)
  have HN:=Lib.hid hnear
  have B1:=Lib.hid b1
  have HB:=Lib.hid hB
  have HS:=Lib.hid hS
  have HW:=Lib.hid hW
  have hM64:M<18446744073709551616:=by rw [hM];exact Nat.lt_of_lt_of_le (mask_lt _ _) (Nat.pow_le_pow_right (by omega) hlen)
  have HM:=Lib.hid hM64
  have HMM:=Lib.hid hM
  obtain ⟨x0,x1,x2,x3,-⟩:=b1.four
  obtain ⟨i0,hinf,hz0,hz1,hz2⟩:=info_parts info3
  clear hT hP hnear b1 hB hS hW hM64 hM
  unfold planeV
  go_enter Tryz.func101,Tryz.ntmps101
  go_wp2_with fail
  rw [HW.out]
  go_loopw [5,6] (fun ov mv wr=>∃ k m:Nat,k≤64∧mv=.int .u64 (m:Int)∧Hid (LeftBits M k m)∧Hid (OwnN wr W.heap.size ov (bitsOf M k))∧Hid (Below W.heap.size W wr)) (fun _ mv _=>(intOf mv).toNat)
  case atStart=>exact ⟨0,M,by omega,rfl,LeftBits.start M,World.ownsRow_nil _ _ _ _,Below.refl _ _⟩
  case round =>
    obtain ⟨k,m,hk,rfl,HL,HO,HR⟩:=hrel
    by_cases h0:m=0
    · have hm0:((m:Int) != 0)=false:=by rw [h0];rfl
      have hO:OwnN wr W.heap.size u5 (onPl P len n b0):=by
        have:=HO.out;rwa [← HL.out.end h0 hk,HON.out] at this
      obtain ⟨ao,co,rfl,ho⟩:=hO.ints
      have HOI:=Lib.hid ho
      obtain ⟨L,hLe⟩:∃ L,onPl P len n b0=L:=⟨_,rfl⟩
      have HLE:=Lib.hid hLe
      rw [hLe] at ho HOI HK
      have hL0:0<L.length:=by
        have:=(HF.out.head HSS.out).1;rw [hLe] at this;exact List.length_pos_of_mem this
      have hL64:L.length≤64:=by
        rw [← hLe];unfold onPl;exact Nat.le_trans (List.length_filter_le _ _) (by simpa using hlen)
      obtain ⟨b,off,rfl,hb,hc,hcc⟩:=ho.cells hL0
      have hc0:=hcc 0 hL0
      have e0:(L.map fun (i:Nat)=>(i:Int)).getD 0 0=((L.headD 0:Nat):Int):=by cases L <;> simp
      rw [e0,Nat.add_zero] at hc0
      have hl0:(0:Int)<(L.length:Int):=by omega
      rw [hLe]
      obtain ⟨a0,ha0⟩:∃ a0,L.headD 0=a0:=⟨_,rfl⟩
      rw [ha0] at hc0 HK
      have HA0:=Lib.hid ha0
      have hbs:=HR.out.size
      obtain ⟨w1,rfl⟩:∃ w1,w1=wr:=⟨_,rfl⟩
      clear hcc ho hO hLe h0 HO HL HON HMM e0 ha0
      go_wp2_with fail
      obtain ⟨Wo,hWo⟩:∃ Wo,w1.alloc (.cells #[.int .i64 (a0:Int)] 3)=Wo:=⟨_,rfl⟩
      rw [hWo]
      have hown0:OwnN Wo w1.heap.size (.slice (some ⟨w1.heap.size,0,none⟩) 1 1) ((List.range 1).map (orb (nx P L n) a0)):=by
        rw [← hWo];exact World.ownsRow_lit _ _ 1 (Nat.le_refl _) (by unfold maxLen;omega) rfl
      have hBo:Below w1.heap.size w1 Wo:=by rw [← hWo];exact (Below.refl _ _).alloc (Nat.le_refl _) _
      have HO0:=Lib.hid hown0
      have HBO:=Lib.hid hBo
      clear hown0 hBo hWo
      go_loopw [7] (fun ov w2=>∃ j,1≤j∧j≤kp∧Hid (OwnN w2 w1.heap.size ov ((List.range j).map (orb (nx P L n) a0)))∧Hid (Below w1.heap.size w1 w2)) (fun ov _=>kp - (match ov with | .slice _ n _=>n | _=>0))
      case atStart=>exact ⟨1,Nat.le_refl _,HK.out.2.1,HO0.out,HBO.out⟩
      case round =>
        obtain ⟨j,hj1,hj2,HO,HR2⟩:=hrel
        obtain ⟨j,rfl⟩:∃ i,j=i+1:=⟨j - 1,by omega⟩
        obtain ⟨ag,cg,rfl,hoi⟩:=HO.out.ints
        have elen:((List.range (j+1)).map (orb (nx P L n) a0)).length=j+1:=by simp
        rw [elen] at hoi ⊢
        obtain ⟨g,og,rfl,hg,hcg,hgc⟩:=hoi.cells (by omega)
        have g0:=hgc 0 (by omega)
        have g1:=hgc j (by omega)
        have eg0:(((List.range (j+1)).map (orb (nx P L n) a0)).map fun (i:Nat)=>(i:Int)).getD 0 0=(a0:Int):=by simp [orb]
        have eg1:(((List.range (j+1)).map (orb (nx P L n) a0)).map fun (i:Nat)=>(i:Int)).getD j 0=((orb (nx P L n) a0 j:Nat):Int):=by simp
        rw [eg0,Nat.add_zero] at g0
        rw [eg1] at g1
        obtain ⟨la,hla⟩:∃ la,orb (nx P L n) a0 j=la:=⟨_,rfl⟩
        rw [hla] at g1
        have HLA:=Lib.hid hla
        have HOIJ:=Lib.hid hoi
        have HOI2:=Lib.hid (HOI.out.below HR2.out)
        have hjl:(j:Int)<((j+1:Nat):Int):=by omega
        have hj0:(0:Int)<((j+1:Nat):Int):=by omega
        have hj64:j≤64:=by have:=HK.out.2.2.1;omega
        obtain ⟨w2,rfl⟩:∃ w2,w2=wr:=⟨_,rfl⟩
        have ELEN:=Lib.hid elen
        clear hgc hoi elen eg0 eg1 hla
        go_wp2_with fail
        go_loopw [9,40] (fun nv iv wi=>∃ i o,i≤L.length∧iv=.int .i64 (i:Nat)∧nv=.int .i64 (encO o)∧Hid ((L.take i).foldl (pick P n la) none=o)∧Hid (Below w2.heap.size w2 wi)) (fun _ iv _=>L.length - (intOf iv).toNat)
        case atStart=>exact ⟨0,none,Nat.zero_le _,rfl,rfl,by exact rfl,Below.refl _ _⟩
        case round =>
          obtain ⟨i,o,hi,rfl,rfl,HOP,HR3⟩:=hrel
          obtain ⟨w3,rfl⟩:∃ w3,w3=wr:=⟨_,rfl⟩
          have hvert:Vert P L la:=by
            have:=orb_vert (HF.out.flat HSS.out.inj) HF.out.two (HF.out.head HSS.out) j
            rw [HLE.out,HA0.out,HLA.out] at this;exact this
          have HV:=Lib.hid hvert
          clear hvert
          by_cases h0:i=L.length
          · have hnx:o=some (orb (nx P L n) a0 (j+1)):=by
              have hfl:=HF.out.flat HSS.out.inj
              have h2:=HF.out.two
              rw [HLE.out] at hfl h2
              have:=(nx_spec hfl HV.out (h2 _)).1
              rw [← HOP.out,h0,List.take_length,this]
              show _=some (nx P L n (orb (nx P L n) a0 j));rw [HLA.out]
            subst hnx
            show Code.wp _ _ _ _ _
            have hn:¬ (i:Int)<(L.length:Int):=by omega
            have H0:=Lib.hid h0
            have g03:=keepC g0 HR3.out hg
            obtain ⟨nb,hnb⟩:∃ nb,orb (nx P L n) a0 (j+1)=nb:=⟨_,rfl⟩
            rw [hnb]
            have HNB:=Lib.hid hnb
            clear h0 hnb
            show Code.wp _ _ _ _ _
            by_cases hend:nb=a0
            · have hek:j+1=kp:=by
                refine Decidable.byContradiction fun hne=>?_
                exact HK.out.2.2.2.2 (j+1) (by omega) (by omega) (by rw [HNB.out,hend])
              have HEK:=Lib.hid hek
              subst hend
              clear hek
              have hee:encO (some nb)=(nb:Int):=rfl
              rw [hee]
              go_wp2
              refine bodyPost_ret (results_tmp Tryz.results101 _ _ _) rfl ⟨⟨_,rfl,?_⟩,?_⟩
              · have hb1:w.heap.size≤w1.heap.size:=by have:=HS.out;have:=HR.out.size;omega
                have hown:=own_base (own_below HO.out HR3.out) hb1
                rw [HLE.out];unfold ring;rw [HA0.out,← HK.out.1,← HEK.out]
                unfold OwnN;rw [ELEN.out] at hown ⊢;exact hown
              · exact below_call (below_call (below_call HB.out HR.out (by have:=HS.out;omega)) HR2.out (by have:=HS.out;have:=HR.out.size;omega)) HR3.out (by have:=HS.out;have:=HR.out.size;have:=HR2.out.size;omega)
            · have hek:j+1<kp:=by
                refine Decidable.byContradiction fun hne=>hend ?_
                have:j+1=kp:=by omega
                rw [← HNB.out,this];exact HK.out.2.2.2.1
              have hee:encO (some nb)=(nb:Int):=rfl
              rw [hee]
              obtain ⟨xs,hxs⟩:∃ xs,(((List.range (j+1)).map (orb (nx P L n) a0)).map fun (i:Nat)=>Value.int .i64 (i:Int))=xs:=⟨_,rfl⟩
              have HXS:=Lib.hid hxs
              clear hxs
              have hcond:((nb:Int) == (a0:Int))=false:=by rw [beq_eq_false_iff_ne];omega
              have hown:w3.ownsRow w1.heap.size 3 1 (.slice (some ⟨g,og,none⟩) (j+1) cg) (j+1) xs:=by
                have:=own_below HO.out HR3.out;rw [ELEN.out,HXS.out] at this;exact this
              have hs23:=HR3.out.size
              have hs12:=HR2.out.size
              go_wp2_with (at_builtin;refine wpList_append_own _ rfl _ _ 43 rfl w1.heap.size 3 i0 (.int .i64 0) 1 8 Tryz.underlying43 hinf hz0 hz1 hz2 rfl (by decide) _ _ _ rfl (hown.alloc _) ⟨w3.heap.size,0,none⟩ 1 1 [.int .i64 (nb:Nat)] rfl rfl ?d1 ?d2 ?d3 ?d4 ?d5 ?_)
              case d2=>rfl
              case d3=>unfold maxLen;omega
              case d4=>omega
              case d5=>omega
              · intro v' w4 hown' hgrow _
                have hO2:OwnN w4 w1.heap.size v' ((List.range (j+1+1)).map (orb (nx P L n) a0)):=by
                  unfold OwnN;rw [List.range_succ,List.map_append,List.map_append,List.length_append,List.map_singleton,List.map_singleton,HNB.out,HXS.out,ELEN.out];exact hown'
                have hB2:Below w1.heap.size w1 w4:=((below_call HR2.out HR3.out (Nat.le_refl _)).alloc (by omega) _).grown hgrow (by simp;omega) (own_ge hown)
                have HO2:=Lib.hid hO2
                have HB2:=Lib.hid hB2
                obtain ⟨av,cv,rfl,-⟩:=hO2.ints
                have HEK:=Lib.hid hek
                clear hown' hgrow hown hO2 hB2
                go_wp2
                go_round
                case rel=>exact ⟨j+1+1,by omega,by have:=HEK.out;omega,HO2.out,HB2.out⟩
                case measure=>show kp - ((List.range (j+1+1)).map (orb (nx P L n) a0)).length<kp - (j+1);simp;have:=HEK.out;omega
          · have hil:i<L.length:=by omega
            obtain ⟨b',off',e',hb',hc',hcc⟩:=(HOI2.out.below HR3.out).cells (by omega)
            cases e'
            have hq0:=hcc i hil
            have eq0:(L.map fun (i:Nat)=>(i:Int)).getD i 0=((L.getD i 0:Nat):Int):=by simp [hil]
            rw [eq0] at hq0
            have hpt:=Lib.hid (pick_take P n la L i hil)
            have hqm:L.getD i 0 ∈ L:=by
              have:L.getD i 0=L[i]:=by simp [hil]
              rw [this];exact List.getElem_mem hil
            have hom:∀ c,o=some c→c ∈ L:=fun c hc=>by
              have:=pick_mem P n la (L.take i) none c (by rw [HOP.out,hc])
              rcases this with h | h
              · exact List.mem_of_mem_take h
              · cases h
            have HQM:=Lib.hid hqm
            have HOM:=Lib.hid hom
            have hilt:(i:Int)<(L.length:Int):=by omega
            obtain ⟨q,hq⟩:∃ q,L.getD i 0=q:=⟨_,rfl⟩
            rw [hq] at hq0
            have HQ:=Lib.hid hq
            clear hcc eq0 hqm hom hq h0
            by_cases hql:q=la
            · have hcond:((q:Int) == (la:Int))=true:=by rw [beq_iff_eq];omega
              have HQL:=Lib.hid hql
              clear hql
              go_wp2
              go_round
              case rel=>exact ⟨i+1,o,by omega,rfl,rfl,(by show _=o;rw [hpt.out,HOP.out,HQ.out];unfold pick;rw [if_pos HQL.out]),HR3.out⟩
              case measure=>show L.length - ((i:Int)+1).toNat<L.length - (i:Int).toNat;omega
            have hcond:((q:Int) == (la:Int))=false:=by rw [beq_eq_false_iff_ne];omega
            have HQL:=Lib.hid hql
            clear hql
            cases o with
            | none =>
              have he:encO none=-1:=rfl
              rw [he]
              go_wp2
              go_round
              case rel=>exact ⟨i+1,some q,by omega,rfl,rfl,(by show _=some q;rw [hpt.out,HOP.out,HQ.out];unfold pick;rw [if_neg HQL.out]),HR3.out⟩
              case measure=>show L.length - ((i:Int)+1).toNat<L.length - (i:Int).toNat;omega
            | some bb =>
              have he:encO (some bb)=(bb:Int):=rfl
              rw [he]
              have mem_lt:∀ c,c ∈ L→c<len:=fun c hc=>by rw [← HLE.out] at hc;exact (mem_onPl.mp hc).1
              have lb:=mem_lt bb (HOM.out bb rfl)
              have lq:=mem_lt q (by rw [← HQ.out];exact HQM.out)
              have ll:=mem_lt la HV.out.1
              have hWall:Below W.heap.size W w3:=below_call (below_call HR.out HR2.out (by have:=HR.out.size;omega)) HR3.out (by have:=HR.out.size;have:=HR2.out.size;omega)
              have HWA:=Lib.hid hWall
              obtain ⟨bp,op,ep,hbp,hcp,hcc⟩:=(HP.out.below hWall).cells (by omega)
              cases ep
              obtain ⟨pb0,pb1,pb2⟩:=hcc bb lb
              obtain ⟨pl0,pl1,pl2⟩:=hcc la ll
              obtain ⟨pq0,pq1,pq2⟩:=hcc q lq
              have nb:=HN.out bb lb
              have nl:=HN.out la ll
              have nq:=HN.out q lq
              have eu:∀ x y:V,LeV 4096 x→LeV 4096 y→∀ v,Calls Tryz.prog 113 #[.agg #[.int .i64 x.x,.int .i64 x.y,.int .i64 x.z],.agg #[.int .i64 y.x,.int .i64 y.y,.int .i64 y.z]] v fun e w'=>e=.returned (.agg #[.int .i64 (x - y).x,.int .i64 (x - y).y,.int .i64 (x - y).z])∧Below v.heap.size v w':=
                fun x y hx hy v=>csub_any x y 4096 4096 v hx hy (by omega)
              have hu:=eu _ _ nb nl
              have hv:=eu _ _ nq nl
              have lu:=nb.sub nl
              have lv:=nq.sub nl
              generalize huu:P bb - P la=u at *
              generalize hvv:P q - P la=vv at *
              have HUU:=Lib.hid huu
              have HVV:=Lib.hid hvv
              have hsu:=Lib.hid hu
              have hsv:=Lib.hid hv
              have LU:=Lib.hid lu
              have LVV:=Lib.hid lv
              generalize P bb=pb at nb pb0 pb1 pb2 hsu
              generalize P la=pl at nl pl0 pl1 pl2 hsu hsv
              generalize P q=pq at nq pq0 pq1 pq2 hsv
              have KP:Hid (∀ w',Below w3.heap.size w3 w'→w'.cell? ⟨bp,op+bb*3,none⟩=some (.int .i64 pb.x)∧w'.cell? ⟨bp,op+bb*3+1,none⟩=some (.int .i64 pb.y)∧w'.cell? ⟨bp,op+bb*3+2,none⟩=some (.int .i64 pb.z)∧w'.cell? ⟨bp,op+la*3,none⟩=some (.int .i64 pl.x)∧w'.cell? ⟨bp,op+la*3+1,none⟩=some (.int .i64 pl.y)∧w'.cell? ⟨bp,op+la*3+2,none⟩=some (.int .i64 pl.z)∧w'.cell? ⟨bp,op+q*3,none⟩=some (.int .i64 pq.x)∧w'.cell? ⟨bp,op+q*3+1,none⟩=some (.int .i64 pq.y)∧w'.cell? ⟨bp,op+q*3+2,none⟩=some (.int .i64 pq.z)):=fun w' h =>
                ⟨keepC pb0 h hbp,keepC pb1 h hbp,keepC pb2 h hbp,keepC pl0 h hbp,keepC pl1 h hbp,keepC pl2 h hbp,keepC pq0 h hbp,keepC pq1 h hbp,keepC pq2 h hbp⟩
              have M0:=Lib.hid (Below.refl w3.heap.size w3)
              have M00:Hid (Below w3.heap.size w3 w3.drew):=M0.out.drew
              have hf1:=KP.out _ M0.out
              have b1':((bb:Nat):Int)<(len:Int):=by omega
              have b2':((la:Nat):Int)<(len:Int):=by omega
              have b3':((q:Nat):Int)<(len:Int):=by omega
              have hbn:¬ (bb:Int)<0:=by omega
              clear hcc pb0 pb1 pb2 pl0 pl1 pl2 pq0 pq1 pq2 nb nl nq eu hu hv lu lv huu hvv hWall g0 g1
              go_upto_region 15 with fail
              go_cut [12,13,40] from 40 to 90 (fun pu pv iv wx=>iv=.int .i64 (i:Int)∧∃ nu nv:Nat,pu=.pointer (some ⟨nu,0,none⟩)∧pv=.pointer (some ⟨nv,0,none⟩)∧Hid (Box wx nu #[.int .i64 u.x,.int .i64 u.y,.int .i64 u.z] 46)∧Hid (Box wx nv #[.int .i64 vv.x,.int .i64 vv.y,.int .i64 vv.z] 46)∧Hid (Below w3.heap.size w3 wx))
              case first =>
                go_wp2_with fail
                go_region_held3 (fun w'=>w'.cell? ⟨bp,op+bb*3,none⟩=some (.int .i64 pb.x)∧w'.cell? ⟨bp,op+bb*3+1,none⟩=some (.int .i64 pb.y)∧w'.cell? ⟨bp,op+bb*3+2,none⟩=some (.int .i64 pb.z)∧w'.cell? ⟨bp,op+la*3,none⟩=some (.int .i64 pl.x)∧w'.cell? ⟨bp,op+la*3+1,none⟩=some (.int .i64 pl.y)∧w'.cell? ⟨bp,op+la*3+2,none⟩=some (.int .i64 pl.z)∧w'.cell? ⟨bp,op+q*3,none⟩=some (.int .i64 pq.x)∧w'.cell? ⟨bp,op+q*3+1,none⟩=some (.int .i64 pq.y)∧w'.cell? ⟨bp,op+q*3+2,none⟩=some (.int .i64 pq.z))
                  (first | with_reducible exact (KP.out _ M2.out)
                         | with_reducible exact (KP.out _ (M2.out.alloc M2.out.size _))
                         | with_reducible exact (KP.out _ ((M2.out.alloc M2.out.size _).alloc (M2.out.alloc M2.out.size _).size _))
                         | with_reducible exact (KP.out _ M1.out)
                         | with_reducible exact (KP.out _ (M1.out.alloc M1.out.size _))
                         | with_reducible exact (KP.out _ ((M1.out.alloc M1.out.size _).alloc (M1.out.alloc M1.out.size _).size _))
                         | with_reducible exact (KP.out _ M00.out)
                         | with_reducible exact (KP.out _ (M0.out.alloc M0.out.size _).drew)
                         | with_reducible exact (KP.out _ ((M0.out.alloc M0.out.size _).alloc (M0.out.alloc M0.out.size _).size _).drew)
                         | with_reducible exact (KP.out _ ((((M2.out).setCell NL1.out _).setCell NL1.out _).setCell NL1.out _))
                         | with_reducible exact (KP.out _ ((((M2.out).setCell NL2.out _).setCell NL2.out _).setCell NL2.out _))
                         | with_reducible exact (KP.out _ ((((M2.out).setCell M2.out.size _).setCell M2.out.size _).setCell M2.out.size _))
                         | with_reducible exact (KP.out _ ((((M2.out).setCell (M2.out.alloc M2.out.size (.cells #[.int .i64 0,.int .i64 0,.int .i64 0] 46)).size _).setCell (M2.out.alloc M2.out.size (.cells #[.int .i64 0,.int .i64 0,.int .i64 0] 46)).size _).setCell (M2.out.alloc M2.out.size (.cells #[.int .i64 0,.int .i64 0,.int .i64 0] 46)).size _))
                         | with_reducible exact (KP.out _ ((((M2.out.alloc M2.out.size _).setCell NL1.out _).setCell NL1.out _).setCell NL1.out _))
                         | with_reducible exact (KP.out _ ((((M2.out.alloc M2.out.size _).setCell NL2.out _).setCell NL2.out _).setCell NL2.out _))
                         | with_reducible exact (KP.out _ ((((M2.out.alloc M2.out.size _).setCell M2.out.size _).setCell M2.out.size _).setCell M2.out.size _))
                         | with_reducible exact (KP.out _ ((((M2.out.alloc M2.out.size _).setCell (M2.out.alloc M2.out.size (.cells #[.int .i64 0,.int .i64 0,.int .i64 0] 46)).size _).setCell (M2.out.alloc M2.out.size (.cells #[.int .i64 0,.int .i64 0,.int .i64 0] 46)).size _).setCell (M2.out.alloc M2.out.size (.cells #[.int .i64 0,.int .i64 0,.int .i64 0] 46)).size _))
                         | with_reducible exact (KP.out _ (((((M2.out.alloc M2.out.size _).alloc (M2.out.alloc M2.out.size _).size _).setCell NL1.out _).setCell NL1.out _).setCell NL1.out _))
                         | with_reducible exact (KP.out _ (((((M2.out.alloc M2.out.size _).alloc (M2.out.alloc M2.out.size _).size _).setCell NL2.out _).setCell NL2.out _).setCell NL2.out _))
                         | with_reducible exact (KP.out _ (((((M2.out.alloc M2.out.size _).alloc (M2.out.alloc M2.out.size _).size _).setCell M2.out.size _).setCell M2.out.size _).setCell M2.out.size _))
                         | with_reducible exact (KP.out _ (((((M2.out.alloc M2.out.size _).alloc (M2.out.alloc M2.out.size _).size _).setCell (M2.out.alloc M2.out.size (.cells #[.int .i64 0,.int .i64 0,.int .i64 0] 46)).size _).setCell (M2.out.alloc M2.out.size (.cells #[.int .i64 0,.int .i64 0,.int .i64 0] 46)).size _).setCell (M2.out.alloc M2.out.size (.cells #[.int .i64 0,.int .i64 0,.int .i64 0] 46)).size _))
                         | with_reducible exact (KP.out _ (((((((M2.out).setCell NL1.out _).setCell NL1.out _).setCell NL1.out _).setCell NL2.out _).setCell NL2.out _).setCell NL2.out _))
                         | with_reducible exact (KP.out _ (((((((M2.out).setCell NL2.out _).setCell NL2.out _).setCell NL2.out _).setCell NL1.out _).setCell NL1.out _).setCell NL1.out _))
                         | with_reducible exact (KP.out _ (((((((M2.out.alloc M2.out.size _).setCell NL1.out _).setCell NL1.out _).setCell NL1.out _).setCell M2.out.size _).setCell M2.out.size _).setCell M2.out.size _))
                         | with_reducible exact (KP.out _ (((((((M2.out.alloc M2.out.size _).setCell M2.out.size _).setCell M2.out.size _).setCell M2.out.size _).setCell NL1.out _).setCell NL1.out _).setCell NL1.out _))
                         | with_reducible exact (KP.out _ (((((((M2.out.alloc M2.out.size _).setCell NL1.out _).setCell NL1.out _).setCell NL1.out _).setCell NL2.out _).setCell NL2.out _).setCell NL2.out _))
                         | with_reducible exact (KP.out _ (((((((M2.out.alloc M2.out.size _).setCell NL2.out _).setCell NL2.out _).setCell NL2.out _).setCell NL1.out _).setCell NL1.out _).setCell NL1.out _))
                         | with_reducible exact (KP.out _ ((((((((M2.out.alloc M2.out.size _).alloc (M2.out.alloc M2.out.size _).size _).setCell NL1.out _).setCell NL1.out _).setCell NL1.out _).setCell M2.out.size _).setCell M2.out.size _).setCell M2.out.size _))
                         | with_reducible exact (KP.out _ ((((((((M2.out.alloc M2.out.size _).alloc (M2.out.alloc M2.out.size _).size _).setCell M2.out.size _).setCell M2.out.size _).setCell M2.out.size _).setCell NL1.out _).setCell NL1.out _).setCell NL1.out _))
                         | with_reducible exact (KP.out _ ((((((((M2.out.alloc M2.out.size _).alloc (M2.out.alloc M2.out.size _).size _).setCell NL1.out _).setCell NL1.out _).setCell NL1.out _).setCell NL2.out _).setCell NL2.out _).setCell NL2.out _))
                         | with_reducible exact (KP.out _ ((((((((M2.out.alloc M2.out.size _).alloc (M2.out.alloc M2.out.size _).size _).setCell NL2.out _).setCell NL2.out _).setCell NL2.out _).setCell NL1.out _).setCell NL1.out _).setCell NL1.out _)))
                  (first
                    | (have _g:=M1.out;clear _g;go_at_call 113;refine (hsv.out _).mono ?_;rintro e v2 ⟨rfl,hb2⟩
                       have M2:=Lib.hid (show Below w3.heap.size w3 v2 from by first | with_reducible exact below_call M1.out hb2 (Nat.le_refl _) | with_reducible exact below_call (M1.out.alloc M1.out.size _) hb2 (Nat.le_refl _) | with_reducible exact below_call ((M1.out.alloc M1.out.size _).alloc (M1.out.alloc M1.out.size _).size _) hb2 (Nat.le_refl _))
                       first
                       | (have NB1:=Lib.hid (show Box v2 _ _ _ from by with_reducible exact NB1.out.below hb2 NB1.out.lt)
                          have NB2:=Lib.hid (show Box v2 _ _ _ from by with_reducible exact NB2.out.below hb2 NB2.out.lt))
                       | (have ne3:=Nat.ne_of_lt NB1.out.lt
                          have ne4:=ne3.symm
                          have NB2:=Lib.hid (show Box v2 _ #[.int .i64 0,.int .i64 0,.int .i64 0] 46 from by with_reducible exact (Box.new _ _ _ _ rfl).below hb2 (Box.new _ _ _ _ rfl).lt)
                          have NB1:=Lib.hid (show Box v2 _ _ _ from by with_reducible exact (NB1.out.old _).below hb2 (NB1.out.old _).lt)
                          have NL2:=Lib.hid M1.out.size)
                       | (have NB1:=Lib.hid (show Box v2 _ _ _ from by with_reducible exact NB1.out.below hb2 NB1.out.lt))
                       | (have NB2:=Lib.hid (show Box v2 (v1.heap.size+1) #[.int .i64 0,.int .i64 0,.int .i64 0] 46 from by with_reducible exact (Box.new _ _ _ (v1.heap.size+1) (by simp)).below hb2 (Box.new _ _ _ (v1.heap.size+1) (by simp)).lt)
                          have NB1:=Lib.hid (show Box v2 _ #[.int .i64 0,.int .i64 0,.int .i64 0] 46 from by with_reducible exact ((Box.new _ _ _ _ rfl).old _).below hb2 ((Box.new _ _ _ _ rfl).old _).lt)
                          have NL1:=Lib.hid M1.out.size
                          have NL2:=Lib.hid (show w3.heap.size≤v1.heap.size+1 from by have:=M1.out.size;omega))
                       | (have NB1:=Lib.hid (show Box v2 _ #[.int .i64 0,.int .i64 0,.int .i64 0] 46 from by with_reducible exact (Box.new _ _ _ _ rfl).below hb2 (Box.new _ _ _ _ rfl).lt)
                          have NL1:=Lib.hid M1.out.size)
                       | skip
                       try have ne1:=Nat.ne_of_lt NB1.out.lt
                       try have ne2:=ne1.symm
                       try obtain ⟨n0,n1,n2,n3,n4,n5⟩:=NB1.out.three
                       try have nold:=fun o=>(NB1.out.old o).three
                       try obtain ⟨m0,m1,m2,m3,m4,m5⟩:=NB2.out.three
                       clear hb2)
                    | (go_at_call 113;refine (hsu.out _).mono ?_;rintro e v1 ⟨rfl,hb1⟩
                       have M1:=Lib.hid (show Below w3.heap.size w3 v1 from by first | with_reducible exact below_call M00.out hb1 (Nat.le_refl _) | with_reducible exact below_call (M0.out.alloc M0.out.size _).drew hb1 (Nat.le_refl _) | with_reducible exact below_call ((M0.out.alloc M0.out.size _).alloc (M0.out.alloc M0.out.size _).size _).drew hb1 (Nat.le_refl _))
                       first
                       | (have NB2:=Lib.hid (show Box v1 (w3.heap.size+1) #[.int .i64 0,.int .i64 0,.int .i64 0] 46 from by with_reducible exact (Box.new _ _ _ (w3.heap.size+1) (by simp)).drew.below hb1 (Box.new _ _ _ (w3.heap.size+1) (by simp)).drew.lt)
                          have NB1:=Lib.hid (show Box v1 _ #[.int .i64 0,.int .i64 0,.int .i64 0] 46 from by with_reducible exact ((Box.new _ _ _ _ rfl).old _).drew.below hb1 ((Box.new _ _ _ _ rfl).old _).drew.lt)
                          have NL1:=Lib.hid M0.out.size
                          have NL2:=Lib.hid (show w3.heap.size≤w3.heap.size+1 from by have:=M0.out.size;omega))
                       | (have NB1:=Lib.hid (show Box v1 _ #[.int .i64 0,.int .i64 0,.int .i64 0] 46 from by with_reducible exact (Box.new _ _ _ _ rfl).drew.below hb1 (Box.new _ _ _ _ rfl).drew.lt)
                          have NL1:=Lib.hid M0.out.size)
                       | skip
                       try have ne1:=Nat.ne_of_lt NB1.out.lt
                       try have ne2:=ne1.symm
                       try obtain ⟨n0,n1,n2,n3,n4,n5⟩:=NB1.out.three
                       try have nold:=fun o=>(NB1.out.old o).three
                       try obtain ⟨m0,m1,m2,m3,m4,m5⟩:=NB2.out.three
                       clear hb1))
                all_goals
                  go_wp2_with fail
                  go_meet
                all_goals first
                  | (with_reducible exact ⟨rfl,_,_,rfl,rfl,Lib.hid ((Box.new _ _ _ _ rfl).old _),Lib.hid (Box.new _ _ _ _ (by simp)),Lib.hid ((M2.out.alloc M2.out.size _).alloc (M2.out.alloc M2.out.size _).size _)⟩)
                  | (with_reducible exact ⟨rfl,_,_,rfl,rfl,Lib.hid (Box.new _ _ _ _ (by simp)),Lib.hid ((Box.new _ _ _ _ rfl).old _),Lib.hid ((M2.out.alloc M2.out.size _).alloc (M2.out.alloc M2.out.size _).size _)⟩)
                  | (with_reducible exact ⟨rfl,_,_,rfl,rfl,Lib.hid (((NB1.out.old _).set3 _ _ _).other3 (by first | assumption | (apply Ne.symm;assumption) | omega) _ _ _),Lib.hid (((Box.new _ _ _ _ rfl).other3 (by first | assumption | (apply Ne.symm;assumption) | omega) _ _ _).set3 _ _ _),Lib.hid (((((((M2.out.alloc M2.out.size _).setCell NL1.out _).setCell NL1.out _).setCell NL1.out _).setCell M2.out.size _).setCell M2.out.size _).setCell M2.out.size _)⟩)
                  | (with_reducible exact ⟨rfl,_,_,rfl,rfl,Lib.hid ((Box.new _ _ _ _ rfl).other3 (by first | assumption | (apply Ne.symm;assumption) | omega) _ _ _),Lib.hid ((NB1.out.old _).set3 _ _ _),Lib.hid ((((M2.out.alloc M2.out.size _).setCell NL1.out _).setCell NL1.out _).setCell NL1.out _)⟩)
                  | (with_reducible exact ⟨rfl,_,_,rfl,rfl,Lib.hid ((NB1.out.set3 _ _ _).other3 (by first | assumption | (apply Ne.symm;assumption) | omega) _ _ _),Lib.hid ((NB2.out.other3 (by first | assumption | (apply Ne.symm;assumption) | omega) _ _ _).set3 _ _ _),Lib.hid (((((((M2.out).setCell NL1.out _).setCell NL1.out _).setCell NL1.out _).setCell NL2.out _).setCell NL2.out _).setCell NL2.out _)⟩)
                  | (with_reducible exact ⟨rfl,_,_,rfl,rfl,Lib.hid ((NB2.out.set3 _ _ _).other3 (by first | assumption | (apply Ne.symm;assumption) | omega) _ _ _),Lib.hid ((NB1.out.other3 (by first | assumption | (apply Ne.symm;assumption) | omega) _ _ _).set3 _ _ _),Lib.hid (((((((M2.out).setCell NL2.out _).setCell NL2.out _).setCell NL2.out _).setCell NL1.out _).setCell NL1.out _).setCell NL1.out _)⟩)
              case rest =>
                obtain ⟨rfl,nu,nv,rfl,rfl,hnu,hnv,hbc⟩:=hcut
                have b1c:=B1.out.below (below_call HWA.out hbc.out (Nat.le_refl _)) (by have:=HS.out;omega)
                obtain ⟨c0,c1,c2,-⟩:=b1c.four
                obtain ⟨d0,d1,d2,-⟩:=hnu.out.three
                obtain ⟨e0,e1,e2,-⟩:=hnv.out.three
                have l1:=b1c.lt
                have l2:=hnu.out.lt
                have l3:=hnv.out.lt
                have KQ:Hid (∀ w',Below wc.heap.size wc w'→w'.cell? ⟨w.heap.size,0,none⟩=some (.int .i64 n.x)∧w'.cell? ⟨w.heap.size,1,none⟩=some (.int .i64 n.y)∧w'.cell? ⟨w.heap.size,2,none⟩=some (.int .i64 n.z)∧w'.cell? ⟨nu,0,none⟩=some (.int .i64 u.x)∧w'.cell? ⟨nu,1,none⟩=some (.int .i64 u.y)∧w'.cell? ⟨nu,2,none⟩=some (.int .i64 u.z)∧w'.cell? ⟨nv,0,none⟩=some (.int .i64 vv.x)∧w'.cell? ⟨nv,1,none⟩=some (.int .i64 vv.y)∧w'.cell? ⟨nv,2,none⟩=some (.int .i64 vv.z)):=fun w' h =>
                  ⟨keepC c0 h l1,keepC c1 h l1,keepC c2 h l1,keepC d0 h l2,keepC d1 h l2,keepC d2 h l2,keepC e0 h l3,keepC e1 h l3,keepC e2 h l3⟩
                have N0:=Lib.hid (Below.refl wc.heap.size wc)
                have N00:Hid (Below wc.heap.size wc wc.drew):=N0.out.drew
                have hcr:=Lib.hid (fun v=>ccross_any u vv 8192 8192 v LU.out LVV.out (by omega))
                have hdt:=Lib.hid (fun v=>cdot_any n (V.cross u vv) 200000000 134217728 v hn ((LU.out.cross LVV.out).mono (by omega)) (by omega))
                have hdd:=Lib.hid (fun x lx v=>cdot_any x x 8192 8192 v lx lx (by omega))
                have hf2:=KQ.out _ N0.out
                obtain ⟨τ,hτ⟩:∃ τ,V.dot n (V.cross u vv)=τ:=⟨_,rfl⟩
                have HTAU:Hid (T n u vv=τ):=hτ
                rw [hτ] at hdt
                clear b1c c0 c1 c2 d0 d1 d2 e0 e1 e2 hf1 KP hτ
                go_wp2_with fail
                go_region_held3 (fun w'=>w'.cell? ⟨w.heap.size,0,none⟩=some (.int .i64 n.x)∧w'.cell? ⟨w.heap.size,1,none⟩=some (.int .i64 n.y)∧w'.cell? ⟨w.heap.size,2,none⟩=some (.int .i64 n.z)∧w'.cell? ⟨nu,0,none⟩=some (.int .i64 u.x)∧w'.cell? ⟨nu,1,none⟩=some (.int .i64 u.y)∧w'.cell? ⟨nu,2,none⟩=some (.int .i64 u.z)∧w'.cell? ⟨nv,0,none⟩=some (.int .i64 vv.x)∧w'.cell? ⟨nv,1,none⟩=some (.int .i64 vv.y)∧w'.cell? ⟨nv,2,none⟩=some (.int .i64 vv.z))
                  (first | with_reducible exact (KQ.out _ N2.out) | with_reducible exact (KQ.out _ N1.out) | with_reducible exact (KQ.out _ N00.out))
                  (first
                    | (have _g:=N1.out;clear _g;go_at_call 115;refine (hdt.out _).mono ?_;rintro e v2 ⟨rfl,hb2⟩
                       have N2:Hid (Below wc.heap.size wc v2):=below_call N1.out hb2 (Nat.le_refl _)
                       clear hb2)
                    | (go_at_call 112;refine (hcr.out _).mono ?_;rintro e v1 ⟨rfl,hb1⟩
                       have N1:Hid (Below wc.heap.size wc v1):=below_call N00.out hb1 (Nat.le_refl _)
                       clear hb1))
                have N2':=N2
                have HR4:Hid (Below w2.heap.size w2 v2):=below_call HR3.out (below_call hbc.out N2.out (Nat.le_refl _)) (Nat.le_refl _)
                have hf3:=(KQ.out _ N2.out).2.2.2
                clear hf2
                rcases Int.lt_trichotomy τ 0 with ht | ht | ht
                · have ht1:(decide (τ<0))=true:=decide_eq_true ht
                  have HTT:=Lib.hid ht
                  go_wp2_with fail
                  go_quiet (fail)
                  go_wp2
                  go_round
                  case rel=>exact ⟨i+1,some q,by omega,rfl,rfl,(by
                    show _=some q;rw [hpt.out,HOP.out,HQ.out];unfold pick
                    rw [if_neg HQL.out];dsimp only;rw [HUU.out,HVV.out,HTAU.out,if_pos (.inl HTT.out)]),below_drewN HR4.out _⟩
                  case measure=>show L.length - ((i:Int)+1).toNat<L.length - (i:Int).toNat;omega
                · have ht1:(decide (τ<0))=false:=decide_eq_false (by omega)
                  have ht2:(τ == 0)=true:=by rw [beq_iff_eq];exact ht
                  have HTT:=Lib.hid ht
                  have KR:Hid (∀ w',Below v2.heap.size v2 w'→w'.cell? ⟨nu,0,none⟩=some (.int .i64 u.x)∧w'.cell? ⟨nu,1,none⟩=some (.int .i64 u.y)∧w'.cell? ⟨nu,2,none⟩=some (.int .i64 u.z)∧w'.cell? ⟨nv,0,none⟩=some (.int .i64 vv.x)∧w'.cell? ⟨nv,1,none⟩=some (.int .i64 vv.y)∧w'.cell? ⟨nv,2,none⟩=some (.int .i64 vv.z)):=fun w' h=>(KQ.out _ (below_call N2.out h (Nat.le_refl _))).2.2.2
                  have O0:=Lib.hid (Below.refl v2.heap.size v2)
                  have O00:Hid (Below v2.heap.size v2 v2.drew):=O0.out.drew
                  clear ht
                  obtain ⟨dv,hdv⟩:∃ dv,V.dot vv vv=dv:=⟨_,rfl⟩
                  obtain ⟨du,hdu⟩:∃ du,V.dot u u=du:=⟨_,rfl⟩
                  have hcv:=hdd.out vv LVV.out
                  have hcu:=hdd.out u LU.out
                  rw [hdv] at hcv
                  rw [hdu] at hcu
                  have hcv:=Lib.hid hcv
                  have hcu:=Lib.hid hcu
                  have HDV:=Lib.hid hdv
                  have HDU:=Lib.hid hdu
                  clear hdv hdu hdd
                  go_wp2_with fail
                  go_region_held3 (fun w'=>w'.cell? ⟨nu,0,none⟩=some (.int .i64 u.x)∧w'.cell? ⟨nu,1,none⟩=some (.int .i64 u.y)∧w'.cell? ⟨nu,2,none⟩=some (.int .i64 u.z)∧w'.cell? ⟨nv,0,none⟩=some (.int .i64 vv.x)∧w'.cell? ⟨nv,1,none⟩=some (.int .i64 vv.y)∧w'.cell? ⟨nv,2,none⟩=some (.int .i64 vv.z))
                    (first | with_reducible exact (KR.out _ O2.out) | with_reducible exact (KR.out _ O1.out) | with_reducible exact (KR.out _ O00.out))
                    (first
                      | (have _g:=O1.out;clear _g;go_at_call 115;refine (hcu.out _).mono ?_;rintro e v4 ⟨rfl,hb2⟩
                         have O2:Hid (Below v2.heap.size v2 v4):=below_call O1.out hb2 (Nat.le_refl _)
                         clear hb2)
                      | (go_at_call 115;refine (hcv.out _).mono ?_;rintro e v3 ⟨rfl,hb1⟩
                         have O1:Hid (Below v2.heap.size v2 v3):=below_call O00.out hb1 (Nat.le_refl _)
                         clear hb1))
                  have HR5:Hid (Below w2.heap.size w2 v4):=below_call HR4.out O2.out (Nat.le_refl _)
                  by_cases hgt:dv > du
                  · have HG:=Lib.hid hgt
                    go_wp2
                    go_round
                    case rel=>exact ⟨i+1,some q,by omega,rfl,rfl,(by
                      show _=some q;rw [hpt.out,HOP.out,HQ.out];unfold pick
                      rw [if_neg HQL.out];dsimp only;rw [HUU.out,HVV.out,HTAU.out,HDV.out,HDU.out,if_pos (.inr ⟨HTT.out,HG.out⟩)]),HR5.out⟩
                    case measure=>show L.length - ((i:Int)+1).toNat<L.length - (i:Int).toNat;omega
                  · have HG:=Lib.hid hgt
                    go_wp2
                    go_round
                    case rel=>exact ⟨i+1,some bb,by omega,rfl,rfl,(by
                      show _=some bb;rw [hpt.out,HOP.out,HQ.out];unfold pick
                      rw [if_neg HQL.out];dsimp only;rw [HUU.out,HVV.out,HTAU.out,HDV.out,HDU.out,if_neg (by have:=HTT.out;have:=HG.out;omega)]),HR5.out⟩
                    case measure=>show L.length - ((i:Int)+1).toNat<L.length - (i:Int).toNat;omega
                · have ht1:(decide (τ<0))=false:=decide_eq_false (by omega)
                  have ht2:(τ == 0)=false:=by rw [beq_eq_false_iff_ne];omega
                  have HTT:=Lib.hid ht
                  go_wp2_with fail
                  go_quiet (fail)
                  go_wp2
                  go_round
                  case rel=>exact ⟨i+1,some bb,by omega,rfl,rfl,(by
                    show _=some bb;rw [hpt.out,HOP.out,HQ.out];unfold pick
                    rw [if_neg HQL.out];dsimp only;rw [HUU.out,HVV.out,HTAU.out,if_neg (by have:=HTT.out;omega)]),below_drewN HR4.out _⟩
                  case measure=>show L.length - ((i:Int)+1).toNat<L.length - (i:Int).toNat;omega
    · have hm0:((m:Int) != 0)=true:=by rw [bne_iff_ne];omega
      obtain ⟨t,ht,hl⟩:=lowest h0
      have hm64:=HL.out.lt HM.out
      have hst:=Lib.hid (HL.out.step HM.out ht hl)
      have htz:=Lib.hid (fun v hv=>tz_any m t v hv hm64 ht hl)
      have hand:=and_nat m h0 hm64
      have hdec:m &&& (m - 1)<m:=Nat.lt_of_le_of_lt Nat.and_le_right (by omega)
      have hlen':(bitsOf M k).length≤64:=Nat.le_trans (bitsOf_length M k) hk
      have hszr:=HR.out.size
      clear ht hl
      go_wp2_with fail
      refine (htz.out _ (HT.out.below HR.out (by have:=HT.out.1;omega))).mono ?_
      rintro e w1 ⟨rfl,rfl⟩
      have hown:w1.ownsRow W.heap.size 3 1 u5 (bitsOf M k).length ((bitsOf M k).map fun (i:Nat)=>Value.int .i64 (i:Int)):=HO.out
      go_wp2_with (at_builtin;refine wpList_append_own _ rfl _ _ 43 rfl W.heap.size 3 i0 (.int .i64 0) 1 8 Tryz.underlying43 hinf hz0 hz1 hz2 rfl (by decide) _ _ _ rfl (hown.alloc _) ⟨w1.heap.size,0,none⟩ 1 1 [.int .i64 (t:Nat)] rfl rfl ?c1 ?c2 ?c3 ?c4 ?c5 ?_)
      case c1 =>
        intro j u hj
        match j,hj with
        | 0,hj=>simp at hj;subst hj;simp [Addr.add]
      case c2=>intro u hu;simp at hu;subst hu;rfl
      case c3=>unfold maxLen;omega
      case c4=>omega
      case c5=>simp;omega
      · intro v' w2 hown' hgrow _
        have hO2:OwnN w2 W.heap.size v' (bitsOf M (t+1)):=by
          unfold OwnN;rw [hst.out.2.2.2.1];simpa using hown'
        have hB2:Below W.heap.size W w2:=by
          exact (HR.out.alloc hszr _).grown hgrow (by simp;omega) (own_ge hown)
        have HO2:=Lib.hid hO2
        have HB2:=Lib.hid hB2
        clear hown' hgrow hown hO2 hB2
        go_wp2
        go_round
        case rel=>exact ⟨t+1,m &&& (m - 1),by have:=hst.out.2.1;omega,rfl,hst.out.2.2.2.2,HO2.out,HB2.out⟩
        case measure=>show ((m &&& (m - 1):Nat):Int).toNat<((m:Nat):Int).toNat;omega
end Go.Proofs.YtaibkpbklfodiaaGreatDoor
end

/- Package vector: Compare. Printed by gen/vec5.py. -/
section
namespace Go.Proofs.YtaibkpbklfodiaaGreatDoor
open Go.RowKit Dowel
def cmpQ (a b:Q3):Int:=if cmpR a.x b.x≠0 then cmpR a.x b.x else if cmpR a.y b.y≠0 then cmpR a.y b.y else cmpR a.z b.z
theorem cmpR_zero {x y:Rat}:cmpR x y=0↔x=y:=by
 unfold cmpR
 split
 ·rename_i h;exact ⟨fun h2=>by omega,fun h2=>absurd h (by rw [h2];exact Rat.lt_irrefl)⟩
 ·split
  ·rename_i h;exact ⟨fun h2=>by omega,fun h2=>absurd h (by rw [h2];exact Rat.lt_irrefl)⟩
  ·rename_i h1 h2;exact ⟨fun _=>Rat.le_antisymm (Rat.not_lt.mp h2) (Rat.not_lt.mp h1),fun _=>rfl⟩
theorem cmpQ_zero {a b:Q3}:cmpQ a b=0↔a=b:=by
 unfold cmpQ
 obtain ⟨x,y,z⟩:=a
 obtain ⟨x',y',z'⟩:=b
 simp only [Q3.mk.injEq]
 by_cases h1:cmpR x x'=0
 ·rw [if_neg (fun h=>h h1)]
  by_cases h2:cmpR y y'=0
  ·rw [if_neg (fun h=>h h2),cmpR_zero];rw [cmpR_zero] at h1 h2;simp [h1,h2]
  ·rw [if_pos h2];exact ⟨fun h=>absurd h h2,fun h=>absurd (cmpR_zero.mpr h.2.1) h2⟩
 ·rw [if_pos h1];exact ⟨fun h=>absurd h h1,fun h=>absurd (cmpR_zero.mpr h.1) h1⟩
set_option maxRecDepth 20000 in
set_option maxHeartbeats 4000000 in
theorem VCompare_any (va vb:Value) (a b:Q3) (k l:Nat) (w:World) (ha:IsVec w va a) (hb:IsVec w vb b) (hk:BdV k a) (hl:BdV l b) (h1:k+l≤1000000) :
    Calls Tryz.prog 78 #[va,vb] w fun e w'=>e=.returned (.int .i64 (cmpQ a b))∧Below w.heap.size w w':=by
  obtain ⟨a0,a1,a2,rfl,hax,hay,haz⟩:=ha
  obtain ⟨b0,b1,b2,rfl,hbx,hby,hbz⟩:=hb
  obtain ⟨W,hW,c1,c2,hB,hS⟩:=boxes2 w (cells3 a0 a1 a2) (cells3 b0 b1 b2) 58 58
  have A:=Lib.hid c1
  have Bb:=Lib.hid c2
  have HA0:=Lib.hid (hax.below hB)
  have HA1:=Lib.hid (hay.below hB)
  have HA2:=Lib.hid (haz.below hB)
  have HB0:=Lib.hid (hbx.below hB)
  have HB1:=Lib.hid (hby.below hB)
  have HB2:=Lib.hid (hbz.below hB)
  have HK:=Lib.hid hk
  have HL:=Lib.hid hl
  have HBL:=Lib.hid hB
  have HSZ:=Lib.hid hS
  have Z0:=Lib.hid (Below.refl W.heap.size W)
  clear hax hay haz hbx hby hbz hk hl c1 c2 hB hS
  unfold cells3 at hW ⊢
  go_enter Tryz.func78,Tryz.ntmps78
  go_wp2_with fail
  refine Round.loop 4 ?_
  refine Round.next (fun K hK=>?_)
  have KP1:Hid (∀ w',Below W.heap.size W w'→w'.cell? ⟨w.heap.size,0,none⟩=some (.bool a0.s)∧w'.cell? ⟨w.heap.size,1,none⟩=some (.slice a0.a a0.n a0.c)∧w'.cell? ⟨w.heap.size,2,none⟩=some (.bool a0.t)∧w'.cell? ⟨w.heap.size,3,none⟩=some (.slice a0.b a0.m a0.d)∧w'.cell? ⟨w.heap.size+1,0,none⟩=some (.bool b0.s)∧w'.cell? ⟨w.heap.size+1,1,none⟩=some (.slice b0.a b0.n b0.c)∧w'.cell? ⟨w.heap.size+1,2,none⟩=some (.bool b0.t)∧w'.cell? ⟨w.heap.size+1,3,none⟩=some (.slice b0.b b0.m b0.d)):=fun w' h=>by
    obtain ⟨p0,p1,p2,p3⟩:=(A.out.below h A.out.lt).p0.1
    obtain ⟨q0,q1,q2,q3⟩:=(Bb.out.below h Bb.out.lt).p0.1
    exact ⟨p0,p1,p2,p3,q0,q1,q2,q3⟩
  have hf:=KP1.out _ Z0.out
  have Y0:Hid (Below W.heap.size W W.drew):=Z0.out.drew
  obtain ⟨d0,hd0⟩:∃ d,cmpR a.x b.x=d:=⟨_,rfl⟩
  have HD0:=Lib.hid hd0
  go_wp2_with fail
  clear hd0
  go_region_held3 (fun w'=>w'.cell? ⟨w.heap.size,0,none⟩=some (.bool a0.s)∧w'.cell? ⟨w.heap.size,1,none⟩=some (.slice a0.a a0.n a0.c)∧w'.cell? ⟨w.heap.size,2,none⟩=some (.bool a0.t)∧w'.cell? ⟨w.heap.size,3,none⟩=some (.slice a0.b a0.m a0.d)∧w'.cell? ⟨w.heap.size+1,0,none⟩=some (.bool b0.s)∧w'.cell? ⟨w.heap.size+1,1,none⟩=some (.slice b0.a b0.n b0.c)∧w'.cell? ⟨w.heap.size+1,2,none⟩=some (.bool b0.t)∧w'.cell? ⟨w.heap.size+1,3,none⟩=some (.slice b0.b b0.m b0.d))
    (first | with_reducible exact (KP1.out _ L1.out) | with_reducible exact (KP1.out _ Y0.out))
    (first
      | (go_at_call 27;refine (RCompare_any a0.agg b0.agg a.x b.x k l _ (HA0.out.below Y0.out) (HB0.out.below Y0.out) HK.out.1 HL.out.1 (by omega)).mono ?_
         rw [HD0.out]
         rintro e u1 ⟨rfl,hb1⟩
         have L1:Hid (Below W.heap.size W u1):=below_call Y0.out hb1 (Nat.le_refl _)
         clear hb1))
  clear hf
  by_cases hz0:d0=0
  case neg =>
    have hzb:(d0 != 0)=true:=bne_iff_ne.mpr hz0
    have HZ:=Lib.hid hz0
    clear hz0
    go_wp2
    exact bodyPost_ret (results_tmp Tryz.results78 _ _ _) rfl ⟨by
      unfold cmpQ
      rw [if_pos (show cmpR a.x b.x≠0 by rw [HD0.out];exact HZ.out),HD0.out];rfl,below_call HBL.out L1.out (by have:=HSZ.out;omega)⟩
  case pos =>
  have hzb0:(d0 != 0)=false:=by rw [hz0];rfl
  have HZ0:=Lib.hid hz0
  clear hz0
  go_wp2_with fail
  clear hzb0
  refine Round.next (fun K hK=>?_)
  have KP2:Hid (∀ w',Below W.heap.size W w'→w'.cell? ⟨w.heap.size,4,none⟩=some (.bool a1.s)∧w'.cell? ⟨w.heap.size,5,none⟩=some (.slice a1.a a1.n a1.c)∧w'.cell? ⟨w.heap.size,6,none⟩=some (.bool a1.t)∧w'.cell? ⟨w.heap.size,7,none⟩=some (.slice a1.b a1.m a1.d)∧w'.cell? ⟨w.heap.size+1,4,none⟩=some (.bool b1.s)∧w'.cell? ⟨w.heap.size+1,5,none⟩=some (.slice b1.a b1.n b1.c)∧w'.cell? ⟨w.heap.size+1,6,none⟩=some (.bool b1.t)∧w'.cell? ⟨w.heap.size+1,7,none⟩=some (.slice b1.b b1.m b1.d)):=fun w' h=>by
    obtain ⟨p0,p1,p2,p3⟩:=(A.out.below h A.out.lt).p1.1
    obtain ⟨q0,q1,q2,q3⟩:=(Bb.out.below h Bb.out.lt).p1.1
    exact ⟨p0,p1,p2,p3,q0,q1,q2,q3⟩
  have hf:=KP2.out _ L1.out
  have Y1:Hid (Below W.heap.size W u1.drew):=L1.out.drew
  obtain ⟨d1,hd1⟩:∃ d,cmpR a.y b.y=d:=⟨_,rfl⟩
  have HD1:=Lib.hid hd1
  go_wp2_with fail
  clear hd1
  go_region_held3 (fun w'=>w'.cell? ⟨w.heap.size,4,none⟩=some (.bool a1.s)∧w'.cell? ⟨w.heap.size,5,none⟩=some (.slice a1.a a1.n a1.c)∧w'.cell? ⟨w.heap.size,6,none⟩=some (.bool a1.t)∧w'.cell? ⟨w.heap.size,7,none⟩=some (.slice a1.b a1.m a1.d)∧w'.cell? ⟨w.heap.size+1,4,none⟩=some (.bool b1.s)∧w'.cell? ⟨w.heap.size+1,5,none⟩=some (.slice b1.a b1.n b1.c)∧w'.cell? ⟨w.heap.size+1,6,none⟩=some (.bool b1.t)∧w'.cell? ⟨w.heap.size+1,7,none⟩=some (.slice b1.b b1.m b1.d))
    (first | with_reducible exact (KP2.out _ L2.out) | with_reducible exact (KP2.out _ Y1.out))
    (first
      | (go_at_call 27;refine (RCompare_any a1.agg b1.agg a.y b.y k l _ (HA1.out.below Y1.out) (HB1.out.below Y1.out) HK.out.2.1 HL.out.2.1 (by omega)).mono ?_
         rw [HD1.out]
         rintro e u2 ⟨rfl,hb2⟩
         have L2:Hid (Below W.heap.size W u2):=below_call Y1.out hb2 (Nat.le_refl _)
         clear hb2))
  clear hf
  by_cases hz1:d1=0
  case neg =>
    have hzb:(d1 != 0)=true:=bne_iff_ne.mpr hz1
    have HZ:=Lib.hid hz1
    clear hz1
    go_wp2
    exact bodyPost_ret (results_tmp Tryz.results78 _ _ _) rfl ⟨by
      unfold cmpQ
      rw [if_neg (show ¬ cmpR a.x b.x≠0 from fun h=>h (HD0.out.trans HZ0.out))];rw [if_pos (show cmpR a.y b.y≠0 by rw [HD1.out];exact HZ.out),HD1.out];rfl,below_call HBL.out L2.out (by have:=HSZ.out;omega)⟩
  case pos =>
  have hzb1:(d1 != 0)=false:=by rw [hz1];rfl
  have HZ1:=Lib.hid hz1
  clear hz1
  go_wp2_with fail
  clear hzb1
  refine Round.next (fun K hK=>?_)
  have KP3:Hid (∀ w',Below W.heap.size W w'→w'.cell? ⟨w.heap.size,8,none⟩=some (.bool a2.s)∧w'.cell? ⟨w.heap.size,9,none⟩=some (.slice a2.a a2.n a2.c)∧w'.cell? ⟨w.heap.size,10,none⟩=some (.bool a2.t)∧w'.cell? ⟨w.heap.size,11,none⟩=some (.slice a2.b a2.m a2.d)∧w'.cell? ⟨w.heap.size+1,8,none⟩=some (.bool b2.s)∧w'.cell? ⟨w.heap.size+1,9,none⟩=some (.slice b2.a b2.n b2.c)∧w'.cell? ⟨w.heap.size+1,10,none⟩=some (.bool b2.t)∧w'.cell? ⟨w.heap.size+1,11,none⟩=some (.slice b2.b b2.m b2.d)):=fun w' h=>by
    obtain ⟨p0,p1,p2,p3⟩:=(A.out.below h A.out.lt).p2.1
    obtain ⟨q0,q1,q2,q3⟩:=(Bb.out.below h Bb.out.lt).p2.1
    exact ⟨p0,p1,p2,p3,q0,q1,q2,q3⟩
  have hf:=KP3.out _ L2.out
  have Y2:Hid (Below W.heap.size W u2.drew):=L2.out.drew
  obtain ⟨d2,hd2⟩:∃ d,cmpR a.z b.z=d:=⟨_,rfl⟩
  have HD2:=Lib.hid hd2
  go_wp2_with fail
  clear hd2
  go_region_held3 (fun w'=>w'.cell? ⟨w.heap.size,8,none⟩=some (.bool a2.s)∧w'.cell? ⟨w.heap.size,9,none⟩=some (.slice a2.a a2.n a2.c)∧w'.cell? ⟨w.heap.size,10,none⟩=some (.bool a2.t)∧w'.cell? ⟨w.heap.size,11,none⟩=some (.slice a2.b a2.m a2.d)∧w'.cell? ⟨w.heap.size+1,8,none⟩=some (.bool b2.s)∧w'.cell? ⟨w.heap.size+1,9,none⟩=some (.slice b2.a b2.n b2.c)∧w'.cell? ⟨w.heap.size+1,10,none⟩=some (.bool b2.t)∧w'.cell? ⟨w.heap.size+1,11,none⟩=some (.slice b2.b b2.m b2.d))
    (first | with_reducible exact (KP3.out _ L3.out) | with_reducible exact (KP3.out _ Y2.out))
    (first
      | (go_at_call 27;refine (RCompare_any a2.agg b2.agg a.z b.z k l _ (HA2.out.below Y2.out) (HB2.out.below Y2.out) HK.out.2.2 HL.out.2.2 (by omega)).mono ?_
         rw [HD2.out]
         rintro e u3 ⟨rfl,hb3⟩
         have L3:Hid (Below W.heap.size W u3):=below_call Y2.out hb3 (Nat.le_refl _)
         clear hb3))
  clear hf
  by_cases hz2:d2=0
  case neg =>
    have hzb:(d2 != 0)=true:=bne_iff_ne.mpr hz2
    have HZ:=Lib.hid hz2
    clear hz2
    go_wp2
    exact bodyPost_ret (results_tmp Tryz.results78 _ _ _) rfl ⟨by
      unfold cmpQ
      rw [if_neg (show ¬ cmpR a.x b.x≠0 from fun h=>h (HD0.out.trans HZ0.out))];rw [if_neg (show ¬ cmpR a.y b.y≠0 from fun h=>h (HD1.out.trans HZ1.out))];rw [HD2.out];rfl,below_call HBL.out L3.out (by have:=HSZ.out;omega)⟩
  case pos =>
  have hzb2:(d2 != 0)=false:=by rw [hz2];rfl
  have HZ2:=Lib.hid hz2
  clear hz2
  go_wp2_with fail
  clear hzb2
  refine Round.next (fun K hK=>?_)
  go_wp2
  exact bodyPost_ret (results_tmp Tryz.results78 _ _ _) rfl ⟨by
    rw [show cmpQ a b=0 from by
      unfold cmpQ
      rw [if_neg (show ¬ cmpR a.x b.x≠0 from fun h=>h (HD0.out.trans HZ0.out)),if_neg (show ¬ cmpR a.y b.y≠0 from fun h=>h (HD1.out.trans HZ1.out))]
      exact HD2.out.trans HZ2.out];rfl,below_call HBL.out L3.out (by have:=HSZ.out;omega)⟩
set_option maxRecDepth 20000 in
set_option maxHeartbeats 4000000 in
theorem VEqual_any (va vb:Value) (a b:Q3) (k l:Nat) (w:World) (ha:IsVec w va a) (hb:IsVec w vb b) (hk:BdV k a) (hl:BdV l b) (h1:k+l≤1000000) :
  Calls Tryz.prog 38 #[va,vb] w fun e w'=>RetIff e (a=b)∧Below w.heap.size w w':=by
 have hc:=fun w' h2 h3=>VCompare_any va vb a b k l w' h2 h3 hk hl h1
 obtain ⟨d,hd⟩:∃ d,cmpQ a b=d:=⟨_,rfl⟩
 have hda:d=0↔a=b:=by rw [← hd];exact cmpQ_zero
 rw [hd] at hc
 have HDA:=Lib.hid hda
 have HA:=Lib.hid ha
 have HB:=Lib.hid hb
 obtain ⟨a0,a1,a2,rfl,-⟩:=ha
 obtain ⟨b0,b1,b2,rfl,-⟩:=hb
 have HC:=Lib.hid hc
 obtain ⟨W,hW,c1,c2,hBl,hS⟩:=boxes2 w (cells3 a0 a1 a2) (cells3 b0 b1 b2) 58 58
 have HBL:=Lib.hid hBl
 have HSZ:=Lib.hid hS
 obtain ⟨⟨x0,x1,x2,x3⟩,-⟩:=c1.p0
 obtain ⟨⟨x4,x5,x6,x7⟩,-⟩:=c1.p1
 obtain ⟨⟨x8,x9,x10,x11⟩,-⟩:=c1.p2
 obtain ⟨⟨y0,y1,y2,y3⟩,-⟩:=c2.p0
 obtain ⟨⟨y4,y5,y6,y7⟩,-⟩:=c2.p1
 obtain ⟨⟨y8,y9,y10,y11⟩,-⟩:=c2.p2
 clear hc hk hl h1 c1 c2 hBl hS hd hda
 unfold cells3 at hW ⊢
 go_enter Tryz.func38,Tryz.ntmps38
 go_wp2_with fail
 refine (HC.out _ (HA.out.below HBL.out) (HB.out.below HBL.out)).mono ?_
 rintro e w1 ⟨rfl,hb1⟩
 have L:=Lib.hid (below_call HBL.out hb1 (by have:=HSZ.out;omega))
 clear hb1 x0 x1 x2 x3 x4 x5 x6 x7 x8 x9 x10 x11 y0 y1 y2 y3 y4 y5 y6 y7 y8 y9 y10 y11
 go_wp2
 refine bodyPost_ret (results_tmp Tryz.results38 _ _ _) rfl ⟨⟨d == 0,rfl,?_⟩,L.out⟩
 rw [beq_iff_eq];exact HDA.out
set_option maxRecDepth 20000 in
set_option maxHeartbeats 4000000 in
theorem VIsZero_any (va:Value) (a:Q3) (k:Nat) (w:World) (ha:IsVec w va a) (hk:BdV k a) (h1:k≤900000) :
  Calls Tryz.prog 89 #[va] w fun e w'=>RetIff e (a=⟨0,0,0⟩)∧Below w.heap.size w w':=by
 have hc:=fun w' h2 h3=>VCompare_any va (.agg (cells3 RC.zero RC.zero RC.zero)) a ⟨0,0,0⟩ k 1 w' h2 h3 hk ⟨Bd.zero,Bd.zero,Bd.zero⟩ (by omega)
 obtain ⟨d,hd⟩:∃ d,cmpQ a ⟨0,0,0⟩=d:=⟨_,rfl⟩
 have hda:d=0↔a=⟨0,0,0⟩:=by rw [← hd];exact cmpQ_zero
 rw [hd] at hc
 have HDA:=Lib.hid hda
 have HA:=Lib.hid ha
 obtain ⟨a0,a1,a2,rfl,-⟩:=ha
 have HC:=Lib.hid hc
 obtain ⟨W,hW,c1,hBl,hS⟩:=boxes1 w (cells3 a0 a1 a2) 58
 have HBL:=Lib.hid hBl
 have HSZ:=Lib.hid hS
 obtain ⟨⟨x0,x1,x2,x3⟩,-⟩:=c1.p0
 obtain ⟨⟨x4,x5,x6,x7⟩,-⟩:=c1.p1
 obtain ⟨⟨x8,x9,x10,x11⟩,-⟩:=c1.p2
 clear hc hk h1 c1 hBl hS hd hda
 unfold cells3 at hW ⊢
 go_enter Tryz.func89,Tryz.ntmps89
 go_wp2_with fail
 refine (HC.out _ (HA.out.below HBL.out) (IsVec.zero _)).mono ?_
 rintro e w1 ⟨rfl,hb1⟩
 have L:=Lib.hid (below_call HBL.out hb1 (by have:=HSZ.out;omega))
 clear hb1 x0 x1 x2 x3 x4 x5 x6 x7 x8 x9 x10 x11
 go_wp2
 refine bodyPost_ret (results_tmp Tryz.results89 _ _ _) rfl ⟨⟨d == 0,rfl,?_⟩,L.out⟩
 rw [beq_iff_eq];exact HDA.out
end Go.Proofs.YtaibkpbklfodiaaGreatDoor
end

/- Package vector: Cross, Det. Printed by gen/vec6.py. -/
section
namespace Dowel
open Go Go.RowKit
def qcross (a b:Q3):Q3:=⟨a.y*b.z - a.z*b.y,a.z*b.x - a.x*b.z,a.x*b.y - a.y*b.x⟩
theorem BdV.cross {k l:Nat} {a b:Q3} (ha:BdV k a) (hb:BdV l b):BdV (2*(k+l)+1) (qcross a b):=by
 refine ⟨?_,?_,?_⟩
 ·have:=(ha.2.1.mul hb.2.2).sub (ha.2.2.mul hb.2.1);rwa [show k+l+(k+l)+1=2*(k+l)+1 by omega] at this
 ·have:=(ha.2.2.mul hb.1).sub (ha.1.mul hb.2.2);rwa [show k+l+(k+l)+1=2*(k+l)+1 by omega] at this
 ·have:=(ha.1.mul hb.2.1).sub (ha.2.1.mul hb.1);rwa [show k+l+(k+l)+1=2*(k+l)+1 by omega] at this
end Dowel
namespace Go.Proofs.YtaibkpbklfodiaaGreatDoor
open Go.RowKit Dowel
set_option maxRecDepth 20000 in
set_option maxHeartbeats 4000000 in
theorem VCross_any (va vb:Value) (a b:Q3) (k l:Nat) (w:World) (ha:IsVec w va a) (hb:IsVec w vb b) (hk:BdV k a) (hl:BdV l b) (h1:k+l<200000) :
    Calls Tryz.prog 150 #[va,vb] w fun e w'=>RetVec w' e (qcross a b)∧Below w.heap.size w w':=by
  obtain ⟨a0,a1,a2,rfl,hax,hay,haz⟩:=ha
  obtain ⟨b0,b1,b2,rfl,hbx,hby,hbz⟩:=hb
  obtain ⟨W,hW,c1,c2,c3,c4,hB,hS⟩:=boxes4 w (cells3 a0 a1 a2) (cells3 b0 b1 b2) #[.bool false,.slice none 0 0,.bool false,.slice none 0 0,.bool false,.slice none 0 0,.bool false,.slice none 0 0,.bool false,.slice none 0 0,.bool false,.slice none 0 0] #[.bool false,.slice none 0 0,.bool false,.slice none 0 0,.bool false,.slice none 0 0,.bool false,.slice none 0 0,.bool false,.slice none 0 0,.bool false,.slice none 0 0] 58 58 58 58
  have A:=Lib.hid c1
  have Bb:=Lib.hid c2
  have C:Hid (Box W (w.heap.size+2) (cells3 RC.zero RC.zero RC.zero) 58):=c3
  have D:Hid (Box W (w.heap.size+3) (cells3 RC.zero RC.zero RC.zero) 58):=c4
  have RA0:=Lib.hid (hax.below hB)
  have RA1:=Lib.hid (hay.below hB)
  have RA2:=Lib.hid (haz.below hB)
  have RB0:=Lib.hid (hbx.below hB)
  have RB1:=Lib.hid (hby.below hB)
  have RB2:=Lib.hid (hbz.below hB)
  have HBL:=Lib.hid hB
  have HSZ:=Lib.hid hS
  have HKK:=Lib.hid hk
  have HLL:=Lib.hid hl
  have G3:Hid (w.heap.size+2≤w.heap.size+1+1+1):=by show _≤_;omega
  clear hax hay haz hbx hby hbz hk hl c1 c2 c3 c4 hB hS
  unfold cells3 at hW ⊢
  go_enter Tryz.func150,Tryz.ntmps150
  go_wp2_with fail
  refine Round.loop 4 ?_
  refine Round.next (fun K hK=>?_)
  have KP1:Hid (∀ w',Below (w.heap.size+2) W w'→w'.cell? ⟨w.heap.size,4,none⟩=some (.bool a1.s)∧w'.cell? ⟨w.heap.size,5,none⟩=some (.slice a1.a a1.n a1.c)∧w'.cell? ⟨w.heap.size,6,none⟩=some (.bool a1.t)∧w'.cell? ⟨w.heap.size,7,none⟩=some (.slice a1.b a1.m a1.d)∧w'.cell? ⟨w.heap.size+1,8,none⟩=some (.bool b2.s)∧w'.cell? ⟨w.heap.size+1,9,none⟩=some (.slice b2.a b2.n b2.c)∧w'.cell? ⟨w.heap.size+1,10,none⟩=some (.bool b2.t)∧w'.cell? ⟨w.heap.size+1,11,none⟩=some (.slice b2.b b2.m b2.d)∧w'.cell? ⟨w.heap.size,8,none⟩=some (.bool a2.s)∧w'.cell? ⟨w.heap.size,9,none⟩=some (.slice a2.a a2.n a2.c)∧w'.cell? ⟨w.heap.size,10,none⟩=some (.bool a2.t)∧w'.cell? ⟨w.heap.size,11,none⟩=some (.slice a2.b a2.m a2.d)∧w'.cell? ⟨w.heap.size+1,4,none⟩=some (.bool b1.s)∧w'.cell? ⟨w.heap.size+1,5,none⟩=some (.slice b1.a b1.n b1.c)∧w'.cell? ⟨w.heap.size+1,6,none⟩=some (.bool b1.t)∧w'.cell? ⟨w.heap.size+1,7,none⟩=some (.slice b1.b b1.m b1.d)):=fun w' h=>by
    obtain ⟨p0,p1,p2,p3⟩:=(A.out.below h (by omega)).p1.1
    obtain ⟨q0,q1,q2,q3⟩:=(Bb.out.below h (by omega)).p2.1
    obtain ⟨r0,r1,r2,r3⟩:=(A.out.below h (by omega)).p2.1
    obtain ⟨s0,s1,s2,s3⟩:=(Bb.out.below h (by omega)).p1.1
    exact ⟨p0,p1,p2,p3,q0,q1,q2,q3,r0,r1,r2,r3,s0,s1,s2,s3⟩
  have L00:Hid (Below W.heap.size W W.drew):=(Below.refl _ _).drew
  have N0:Hid (Below (w.heap.size+2) W W.drew):=(Below.refl _ _).drew
  have hf1:=KP1.out _ (Below.refl _ _)
  have hM1:=Lib.hid (fun v h2 h3=>RMul_any a1.agg b2.agg a.y b.z k l v h2 h3 HKK.out.2.1 HLL.out.2.2 (by omega))
  have hM2:=Lib.hid (fun v h2 h3=>RMul_any a2.agg b1.agg a.z b.y k l v h2 h3 HKK.out.2.2 HLL.out.2.1 (by omega))
  have hM3:=Lib.hid (fun v va vb h2 h3=>RSub_any va vb (a.y*b.z) (a.z*b.y) (k+l) (k+l) v h2 h3 (HKK.out.2.1.mul HLL.out.2.2) (HKK.out.2.2.mul HLL.out.2.1) (by omega))
  go_wp2_with fail
  go_region_held3 (fun w'=>w'.cell? ⟨w.heap.size,4,none⟩=some (.bool a1.s)∧w'.cell? ⟨w.heap.size,5,none⟩=some (.slice a1.a a1.n a1.c)∧w'.cell? ⟨w.heap.size,6,none⟩=some (.bool a1.t)∧w'.cell? ⟨w.heap.size,7,none⟩=some (.slice a1.b a1.m a1.d)∧w'.cell? ⟨w.heap.size+1,8,none⟩=some (.bool b2.s)∧w'.cell? ⟨w.heap.size+1,9,none⟩=some (.slice b2.a b2.n b2.c)∧w'.cell? ⟨w.heap.size+1,10,none⟩=some (.bool b2.t)∧w'.cell? ⟨w.heap.size+1,11,none⟩=some (.slice b2.b b2.m b2.d)∧w'.cell? ⟨w.heap.size,8,none⟩=some (.bool a2.s)∧w'.cell? ⟨w.heap.size,9,none⟩=some (.slice a2.a a2.n a2.c)∧w'.cell? ⟨w.heap.size,10,none⟩=some (.bool a2.t)∧w'.cell? ⟨w.heap.size,11,none⟩=some (.slice a2.b a2.m a2.d)∧w'.cell? ⟨w.heap.size+1,4,none⟩=some (.bool b1.s)∧w'.cell? ⟨w.heap.size+1,5,none⟩=some (.slice b1.a b1.n b1.c)∧w'.cell? ⟨w.heap.size+1,6,none⟩=some (.bool b1.t)∧w'.cell? ⟨w.heap.size+1,7,none⟩=some (.slice b1.b b1.m b1.d))
    (first | with_reducible exact (KP1.out _ (below_sets N1.out G3.out _ _ _ _ _ _ _ _)) | with_reducible exact (KP1.out _ N1.out) | with_reducible exact (KP1.out _ N21.out) | with_reducible exact (KP1.out _ N11.out) | with_reducible exact (KP1.out _ N0.out))
    (first
      | (have _g:=M21.out;clear _g;go_at_call 64;refine (hM3.out _ _ _ (P11.out.below X21.out) P21.out).mono ?_;rintro e z1 ⟨⟨v1,rfl,hv1⟩,hb1⟩
         obtain ⟨r0,rfl,hr0⟩:=hv1.rcv
         have M1:Hid (Below W.heap.size W z1):=below_call M21.out hb1 (Nat.le_refl _)
         have N1:Hid (Below (w.heap.size+2) W z1):=below_call N21.out hb1 (by have:=D.out.lt;omega)
         have S0:=Lib.hid hr0
         obtain ⟨⟨x0,x1,x2,x3⟩,x4,x5,x6,x7⟩:=(D.out.below M1.out D.out.lt).p0
         clear hv1 hr0 hb1)
      | (have _g:=M11.out;clear _g;go_at_call 67;refine (hM2.out _ (RA2.out.below M11.out) (RB1.out.below M11.out)).mono ?_;rintro e y1 ⟨⟨v1,rfl,hv1⟩,hb1⟩
         have M21:Hid (Below W.heap.size W y1):=below_call M11.out hb1 (Nat.le_refl _)
         have N21:Hid (Below (w.heap.size+2) W y1):=below_call N11.out hb1 (by have:=D.out.lt;omega)
         have P21:=Lib.hid hv1
         have X21:=Lib.hid hb1
         clear hv1 hb1)
      | (go_at_call 67;refine (hM1.out _ (RA1.out.below L00.out) (RB2.out.below L00.out)).mono ?_;rintro e x1 ⟨⟨v1,rfl,hv1⟩,hb1⟩
         have M11:Hid (Below W.heap.size W x1):=below_call L00.out hb1 (Nat.le_refl _)
         have N11:Hid (Below (w.heap.size+2) W x1):=below_call N0.out hb1 (by have:=D.out.lt;omega)
         have P11:=Lib.hid hv1
         clear hv1 hb1))
  clear hf1 x0 x1 x2 x3 x4 x5 x6 x7 hM1 hM2 hM3
  go_wp2_with fail
  change Round _ _ _ _ _ (put4 z1 (w.heap.size+3) 0 r0)
  have E1:=Lib.hid (D.out.below M1.out D.out.lt)
  have A1_:=Lib.hid ((A.out.below M1.out A.out.lt).oput4 (g':=w.heap.size+3) (by omega) 0 r0)
  have Bb1_:=Lib.hid ((Bb.out.below M1.out Bb.out.lt).oput4 (g':=w.heap.size+3) (by omega) 0 r0)
  have C1_:=Lib.hid ((C.out.below M1.out C.out.lt).oput4 (g':=w.heap.size+3) (by omega) 0 r0)
  have D1_:=Lib.hid (E1.out.s0 r0)
  have T0:=Lib.hid (S0.out.put4 E1.out.p0 r0)
  replace RA0:=Lib.hid ((RA0.out.below M1.out).put4 E1.out.p0 r0)
  replace RA1:=Lib.hid ((RA1.out.below M1.out).put4 E1.out.p0 r0)
  replace RA2:=Lib.hid ((RA2.out.below M1.out).put4 E1.out.p0 r0)
  replace RB0:=Lib.hid ((RB0.out.below M1.out).put4 E1.out.p0 r0)
  replace RB1:=Lib.hid ((RB1.out.below M1.out).put4 E1.out.p0 r0)
  replace RB2:=Lib.hid ((RB2.out.below M1.out).put4 E1.out.p0 r0)
  have K1:=Lib.hid (below_put4 (below_call HBL.out M1.out (by have:=D.out.lt;omega)) (Nat.le_add_right _ 3) 0 r0)
  clear KP1 L00 N0 N1 S0 N11 N21 M11 M21 P11 P21 X21
  clear M1 E1
  generalize put4 z1 (w.heap.size+3) 0 r0=U1 at *
  refine Round.next (fun K hK=>?_)
  have KP2:Hid (∀ w',Below (w.heap.size+2) U1 w'→w'.cell? ⟨w.heap.size,8,none⟩=some (.bool a2.s)∧w'.cell? ⟨w.heap.size,9,none⟩=some (.slice a2.a a2.n a2.c)∧w'.cell? ⟨w.heap.size,10,none⟩=some (.bool a2.t)∧w'.cell? ⟨w.heap.size,11,none⟩=some (.slice a2.b a2.m a2.d)∧w'.cell? ⟨w.heap.size+1,0,none⟩=some (.bool b0.s)∧w'.cell? ⟨w.heap.size+1,1,none⟩=some (.slice b0.a b0.n b0.c)∧w'.cell? ⟨w.heap.size+1,2,none⟩=some (.bool b0.t)∧w'.cell? ⟨w.heap.size+1,3,none⟩=some (.slice b0.b b0.m b0.d)∧w'.cell? ⟨w.heap.size,0,none⟩=some (.bool a0.s)∧w'.cell? ⟨w.heap.size,1,none⟩=some (.slice a0.a a0.n a0.c)∧w'.cell? ⟨w.heap.size,2,none⟩=some (.bool a0.t)∧w'.cell? ⟨w.heap.size,3,none⟩=some (.slice a0.b a0.m a0.d)∧w'.cell? ⟨w.heap.size+1,8,none⟩=some (.bool b2.s)∧w'.cell? ⟨w.heap.size+1,9,none⟩=some (.slice b2.a b2.n b2.c)∧w'.cell? ⟨w.heap.size+1,10,none⟩=some (.bool b2.t)∧w'.cell? ⟨w.heap.size+1,11,none⟩=some (.slice b2.b b2.m b2.d)):=fun w' h=>by
    obtain ⟨p0,p1,p2,p3⟩:=(A1_.out.below h (by omega)).p2.1
    obtain ⟨q0,q1,q2,q3⟩:=(Bb1_.out.below h (by omega)).p0.1
    obtain ⟨r0,r1,r2,r3⟩:=(A1_.out.below h (by omega)).p0.1
    obtain ⟨s0,s1,s2,s3⟩:=(Bb1_.out.below h (by omega)).p2.1
    exact ⟨p0,p1,p2,p3,q0,q1,q2,q3,r0,r1,r2,r3,s0,s1,s2,s3⟩
  have L00:Hid (Below U1.heap.size U1 U1.drew):=(Below.refl _ _).drew
  have N0:Hid (Below (w.heap.size+2) U1 U1.drew):=(Below.refl _ _).drew
  have hf1:=KP2.out _ (Below.refl _ _)
  have hM1:=Lib.hid (fun v h2 h3=>RMul_any a2.agg b0.agg a.z b.x k l v h2 h3 HKK.out.2.2 HLL.out.1 (by omega))
  have hM2:=Lib.hid (fun v h2 h3=>RMul_any a0.agg b2.agg a.x b.z k l v h2 h3 HKK.out.1 HLL.out.2.2 (by omega))
  have hM3:=Lib.hid (fun v va vb h2 h3=>RSub_any va vb (a.z*b.x) (a.x*b.z) (k+l) (k+l) v h2 h3 (HKK.out.2.2.mul HLL.out.1) (HKK.out.1.mul HLL.out.2.2) (by omega))
  go_wp2_with fail
  go_region_held3 (fun w'=>w'.cell? ⟨w.heap.size,8,none⟩=some (.bool a2.s)∧w'.cell? ⟨w.heap.size,9,none⟩=some (.slice a2.a a2.n a2.c)∧w'.cell? ⟨w.heap.size,10,none⟩=some (.bool a2.t)∧w'.cell? ⟨w.heap.size,11,none⟩=some (.slice a2.b a2.m a2.d)∧w'.cell? ⟨w.heap.size+1,0,none⟩=some (.bool b0.s)∧w'.cell? ⟨w.heap.size+1,1,none⟩=some (.slice b0.a b0.n b0.c)∧w'.cell? ⟨w.heap.size+1,2,none⟩=some (.bool b0.t)∧w'.cell? ⟨w.heap.size+1,3,none⟩=some (.slice b0.b b0.m b0.d)∧w'.cell? ⟨w.heap.size,0,none⟩=some (.bool a0.s)∧w'.cell? ⟨w.heap.size,1,none⟩=some (.slice a0.a a0.n a0.c)∧w'.cell? ⟨w.heap.size,2,none⟩=some (.bool a0.t)∧w'.cell? ⟨w.heap.size,3,none⟩=some (.slice a0.b a0.m a0.d)∧w'.cell? ⟨w.heap.size+1,8,none⟩=some (.bool b2.s)∧w'.cell? ⟨w.heap.size+1,9,none⟩=some (.slice b2.a b2.n b2.c)∧w'.cell? ⟨w.heap.size+1,10,none⟩=some (.bool b2.t)∧w'.cell? ⟨w.heap.size+1,11,none⟩=some (.slice b2.b b2.m b2.d))
    (first | with_reducible exact (KP2.out _ (below_sets N2.out G3.out _ _ _ _ _ _ _ _)) | with_reducible exact (KP2.out _ N2.out) | with_reducible exact (KP2.out _ N22.out) | with_reducible exact (KP2.out _ N12.out) | with_reducible exact (KP2.out _ N0.out))
    (first
      | (have _g:=M22.out;clear _g;go_at_call 64;refine (hM3.out _ _ _ (P12.out.below X22.out) P22.out).mono ?_;rintro e z2 ⟨⟨v2,rfl,hv2⟩,hb2⟩
         obtain ⟨r1,rfl,hr1⟩:=hv2.rcv
         have M2:Hid (Below U1.heap.size U1 z2):=below_call M22.out hb2 (Nat.le_refl _)
         have N2:Hid (Below (w.heap.size+2) U1 z2):=below_call N22.out hb2 (by have:=D1_.out.lt;omega)
         have S1:=Lib.hid hr1
         obtain ⟨⟨x0,x1,x2,x3⟩,x4,x5,x6,x7⟩:=(D1_.out.below M2.out D1_.out.lt).p1
         clear hv2 hr1 hb2)
      | (have _g:=M12.out;clear _g;go_at_call 67;refine (hM2.out _ (RA0.out.below M12.out) (RB2.out.below M12.out)).mono ?_;rintro e y2 ⟨⟨v2,rfl,hv2⟩,hb2⟩
         have M22:Hid (Below U1.heap.size U1 y2):=below_call M12.out hb2 (Nat.le_refl _)
         have N22:Hid (Below (w.heap.size+2) U1 y2):=below_call N12.out hb2 (by have:=D1_.out.lt;omega)
         have P22:=Lib.hid hv2
         have X22:=Lib.hid hb2
         clear hv2 hb2)
      | (go_at_call 67;refine (hM1.out _ (RA2.out.below L00.out) (RB0.out.below L00.out)).mono ?_;rintro e x2 ⟨⟨v2,rfl,hv2⟩,hb2⟩
         have M12:Hid (Below U1.heap.size U1 x2):=below_call L00.out hb2 (Nat.le_refl _)
         have N12:Hid (Below (w.heap.size+2) U1 x2):=below_call N0.out hb2 (by have:=D1_.out.lt;omega)
         have P12:=Lib.hid hv2
         clear hv2 hb2))
  clear hf1 x0 x1 x2 x3 x4 x5 x6 x7 hM1 hM2 hM3
  go_wp2_with fail
  change Round _ _ _ _ _ (put4 z2 (w.heap.size+3) 4 r1)
  have E2:=Lib.hid (D1_.out.below M2.out D1_.out.lt)
  have A2_:=Lib.hid ((A1_.out.below M2.out A1_.out.lt).oput4 (g':=w.heap.size+3) (by omega) 4 r1)
  have Bb2_:=Lib.hid ((Bb1_.out.below M2.out Bb1_.out.lt).oput4 (g':=w.heap.size+3) (by omega) 4 r1)
  have C2_:=Lib.hid ((C1_.out.below M2.out C1_.out.lt).oput4 (g':=w.heap.size+3) (by omega) 4 r1)
  have D2_:=Lib.hid (E2.out.s1 r1)
  have T1:=Lib.hid (S1.out.put4 E2.out.p1 r1)
  replace RA0:=Lib.hid ((RA0.out.below M2.out).put4 E2.out.p1 r1)
  replace RA1:=Lib.hid ((RA1.out.below M2.out).put4 E2.out.p1 r1)
  replace RA2:=Lib.hid ((RA2.out.below M2.out).put4 E2.out.p1 r1)
  replace RB0:=Lib.hid ((RB0.out.below M2.out).put4 E2.out.p1 r1)
  replace RB1:=Lib.hid ((RB1.out.below M2.out).put4 E2.out.p1 r1)
  replace RB2:=Lib.hid ((RB2.out.below M2.out).put4 E2.out.p1 r1)
  replace T0:=Lib.hid ((T0.out.below M2.out).put4 E2.out.p1 r1)
  have K2:=Lib.hid (below_put4 (below_call K1.out M2.out (by have:=D1_.out.lt;omega)) (Nat.le_add_right _ 3) 4 r1)
  clear KP2 L00 N0 N2 S1 N12 N22 M12 M22 P12 P22 X22
  clear M2 E2
  generalize put4 z2 (w.heap.size+3) 4 r1=U2 at *
  refine Round.next (fun K hK=>?_)
  have KP3:Hid (∀ w',Below (w.heap.size+2) U2 w'→w'.cell? ⟨w.heap.size,0,none⟩=some (.bool a0.s)∧w'.cell? ⟨w.heap.size,1,none⟩=some (.slice a0.a a0.n a0.c)∧w'.cell? ⟨w.heap.size,2,none⟩=some (.bool a0.t)∧w'.cell? ⟨w.heap.size,3,none⟩=some (.slice a0.b a0.m a0.d)∧w'.cell? ⟨w.heap.size+1,4,none⟩=some (.bool b1.s)∧w'.cell? ⟨w.heap.size+1,5,none⟩=some (.slice b1.a b1.n b1.c)∧w'.cell? ⟨w.heap.size+1,6,none⟩=some (.bool b1.t)∧w'.cell? ⟨w.heap.size+1,7,none⟩=some (.slice b1.b b1.m b1.d)∧w'.cell? ⟨w.heap.size,4,none⟩=some (.bool a1.s)∧w'.cell? ⟨w.heap.size,5,none⟩=some (.slice a1.a a1.n a1.c)∧w'.cell? ⟨w.heap.size,6,none⟩=some (.bool a1.t)∧w'.cell? ⟨w.heap.size,7,none⟩=some (.slice a1.b a1.m a1.d)∧w'.cell? ⟨w.heap.size+1,0,none⟩=some (.bool b0.s)∧w'.cell? ⟨w.heap.size+1,1,none⟩=some (.slice b0.a b0.n b0.c)∧w'.cell? ⟨w.heap.size+1,2,none⟩=some (.bool b0.t)∧w'.cell? ⟨w.heap.size+1,3,none⟩=some (.slice b0.b b0.m b0.d)):=fun w' h=>by
    obtain ⟨p0,p1,p2,p3⟩:=(A2_.out.below h (by omega)).p0.1
    obtain ⟨q0,q1,q2,q3⟩:=(Bb2_.out.below h (by omega)).p1.1
    obtain ⟨r0,r1,r2,r3⟩:=(A2_.out.below h (by omega)).p1.1
    obtain ⟨s0,s1,s2,s3⟩:=(Bb2_.out.below h (by omega)).p0.1
    exact ⟨p0,p1,p2,p3,q0,q1,q2,q3,r0,r1,r2,r3,s0,s1,s2,s3⟩
  have L00:Hid (Below U2.heap.size U2 U2.drew):=(Below.refl _ _).drew
  have N0:Hid (Below (w.heap.size+2) U2 U2.drew):=(Below.refl _ _).drew
  have hf1:=KP3.out _ (Below.refl _ _)
  have hM1:=Lib.hid (fun v h2 h3=>RMul_any a0.agg b1.agg a.x b.y k l v h2 h3 HKK.out.1 HLL.out.2.1 (by omega))
  have hM2:=Lib.hid (fun v h2 h3=>RMul_any a1.agg b0.agg a.y b.x k l v h2 h3 HKK.out.2.1 HLL.out.1 (by omega))
  have hM3:=Lib.hid (fun v va vb h2 h3=>RSub_any va vb (a.x*b.y) (a.y*b.x) (k+l) (k+l) v h2 h3 (HKK.out.1.mul HLL.out.2.1) (HKK.out.2.1.mul HLL.out.1) (by omega))
  go_wp2_with fail
  go_region_held3 (fun w'=>w'.cell? ⟨w.heap.size,0,none⟩=some (.bool a0.s)∧w'.cell? ⟨w.heap.size,1,none⟩=some (.slice a0.a a0.n a0.c)∧w'.cell? ⟨w.heap.size,2,none⟩=some (.bool a0.t)∧w'.cell? ⟨w.heap.size,3,none⟩=some (.slice a0.b a0.m a0.d)∧w'.cell? ⟨w.heap.size+1,4,none⟩=some (.bool b1.s)∧w'.cell? ⟨w.heap.size+1,5,none⟩=some (.slice b1.a b1.n b1.c)∧w'.cell? ⟨w.heap.size+1,6,none⟩=some (.bool b1.t)∧w'.cell? ⟨w.heap.size+1,7,none⟩=some (.slice b1.b b1.m b1.d)∧w'.cell? ⟨w.heap.size,4,none⟩=some (.bool a1.s)∧w'.cell? ⟨w.heap.size,5,none⟩=some (.slice a1.a a1.n a1.c)∧w'.cell? ⟨w.heap.size,6,none⟩=some (.bool a1.t)∧w'.cell? ⟨w.heap.size,7,none⟩=some (.slice a1.b a1.m a1.d)∧w'.cell? ⟨w.heap.size+1,0,none⟩=some (.bool b0.s)∧w'.cell? ⟨w.heap.size+1,1,none⟩=some (.slice b0.a b0.n b0.c)∧w'.cell? ⟨w.heap.size+1,2,none⟩=some (.bool b0.t)∧w'.cell? ⟨w.heap.size+1,3,none⟩=some (.slice b0.b b0.m b0.d))
    (first | with_reducible exact (KP3.out _ (below_sets N3.out G3.out _ _ _ _ _ _ _ _)) | with_reducible exact (KP3.out _ N3.out) | with_reducible exact (KP3.out _ N23.out) | with_reducible exact (KP3.out _ N13.out) | with_reducible exact (KP3.out _ N0.out))
    (first
      | (have _g:=M23.out;clear _g;go_at_call 64;refine (hM3.out _ _ _ (P13.out.below X23.out) P23.out).mono ?_;rintro e z3 ⟨⟨v3,rfl,hv3⟩,hb3⟩
         obtain ⟨r2,rfl,hr2⟩:=hv3.rcv
         have M3:Hid (Below U2.heap.size U2 z3):=below_call M23.out hb3 (Nat.le_refl _)
         have N3:Hid (Below (w.heap.size+2) U2 z3):=below_call N23.out hb3 (by have:=D2_.out.lt;omega)
         have S2:=Lib.hid hr2
         obtain ⟨⟨x0,x1,x2,x3⟩,x4,x5,x6,x7⟩:=(D2_.out.below M3.out D2_.out.lt).p2
         clear hv3 hr2 hb3)
      | (have _g:=M13.out;clear _g;go_at_call 67;refine (hM2.out _ (RA1.out.below M13.out) (RB0.out.below M13.out)).mono ?_;rintro e y3 ⟨⟨v3,rfl,hv3⟩,hb3⟩
         have M23:Hid (Below U2.heap.size U2 y3):=below_call M13.out hb3 (Nat.le_refl _)
         have N23:Hid (Below (w.heap.size+2) U2 y3):=below_call N13.out hb3 (by have:=D2_.out.lt;omega)
         have P23:=Lib.hid hv3
         have X23:=Lib.hid hb3
         clear hv3 hb3)
      | (go_at_call 67;refine (hM1.out _ (RA0.out.below L00.out) (RB1.out.below L00.out)).mono ?_;rintro e x3 ⟨⟨v3,rfl,hv3⟩,hb3⟩
         have M13:Hid (Below U2.heap.size U2 x3):=below_call L00.out hb3 (Nat.le_refl _)
         have N13:Hid (Below (w.heap.size+2) U2 x3):=below_call N0.out hb3 (by have:=D2_.out.lt;omega)
         have P13:=Lib.hid hv3
         clear hv3 hb3))
  clear hf1 x0 x1 x2 x3 x4 x5 x6 x7 hM1 hM2 hM3
  go_wp2_with fail
  change Round _ _ _ _ _ (put4 z3 (w.heap.size+3) 8 r2)
  have E3:=Lib.hid (D2_.out.below M3.out D2_.out.lt)
  have A3_:=Lib.hid ((A2_.out.below M3.out A2_.out.lt).oput4 (g':=w.heap.size+3) (by omega) 8 r2)
  have Bb3_:=Lib.hid ((Bb2_.out.below M3.out Bb2_.out.lt).oput4 (g':=w.heap.size+3) (by omega) 8 r2)
  have C3_:=Lib.hid ((C2_.out.below M3.out C2_.out.lt).oput4 (g':=w.heap.size+3) (by omega) 8 r2)
  have D3_:=Lib.hid (E3.out.s2 r2)
  have T2:=Lib.hid (S2.out.put4 E3.out.p2 r2)
  replace RA0:=Lib.hid ((RA0.out.below M3.out).put4 E3.out.p2 r2)
  replace RA1:=Lib.hid ((RA1.out.below M3.out).put4 E3.out.p2 r2)
  replace RA2:=Lib.hid ((RA2.out.below M3.out).put4 E3.out.p2 r2)
  replace RB0:=Lib.hid ((RB0.out.below M3.out).put4 E3.out.p2 r2)
  replace RB1:=Lib.hid ((RB1.out.below M3.out).put4 E3.out.p2 r2)
  replace RB2:=Lib.hid ((RB2.out.below M3.out).put4 E3.out.p2 r2)
  replace T0:=Lib.hid ((T0.out.below M3.out).put4 E3.out.p2 r2)
  replace T1:=Lib.hid ((T1.out.below M3.out).put4 E3.out.p2 r2)
  have K3:=Lib.hid (below_put4 (below_call K2.out M3.out (by have:=D2_.out.lt;omega)) (Nat.le_add_right _ 3) 8 r2)
  clear KP3 L00 N0 N3 S2 N13 N23 M13 M23 P13 P23 X23
  clear M3 E3
  generalize put4 z3 (w.heap.size+3) 8 r2=U3 at *
  refine Round.next (fun K hK=>?_)
  obtain ⟨⟨x0,x1,x2,x3⟩,-⟩:=D3_.out.p0
  obtain ⟨⟨x4,x5,x6,x7⟩,-⟩:=D3_.out.p1
  obtain ⟨⟨x8,x9,x10,x11⟩,-⟩:=D3_.out.p2
  obtain ⟨⟨y0,y1,y2,y3⟩,f0,f1,f2,f3⟩:=C3_.out.p0
  obtain ⟨⟨y4,y5,y6,y7⟩,f4,f5,f6,f7⟩:=C3_.out.p1
  obtain ⟨⟨y8,y9,y10,y11⟩,f8,f9,f10,f11⟩:=C3_.out.p2
  go_wp2
  exact ret_box Tryz.results150 (w.heap.size+2) (C3_.out.s12 r0 r1 r2) _ rfl Tryz.underlying58 rfl infoVec rfl
    ⟨⟨_,rfl,r0,r1,r2,rfl,T0.out.put12 C3_.out _ _ _,T1.out.put12 C3_.out _ _ _,T2.out.put12 C3_.out _ _ _⟩,below_put12 K3.out (by omega) _ _ _⟩
end Go.Proofs.YtaibkpbklfodiaaGreatDoor
end

/- Package vector: Det. Printed by gen/vec7.py. -/
section
namespace Go.Proofs.YtaibkpbklfodiaaGreatDoor
open Go.RowKit Dowel
set_option maxRecDepth 20000 in
set_option maxHeartbeats 4000000 in
theorem VDet_any (va vb vc:Value) (a b c:Q3) (k:Nat) (w:World) (ha:IsVec w va a) (hb:IsVec w vb b) (hc:IsVec w vc c) (hk:BdV k a) (hl:BdV k b) (hm:BdV k c) (h1:k<30000) :
    Calls Tryz.prog 119 #[va,vb,vc] w fun e w'=>RetRat w' e (qdot a (qcross b c))∧Below w.heap.size w w':=by
  have hD:=Lib.hid (fun v x y h2 h3=>VDot_any x y a (qcross b c) k (2*(k+k)+1) v h2 h3 hk (hl.cross hm) (by omega))
  have hX:=Lib.hid (fun v x y h2 h3=>VCross_any x y b c k k v h2 h3 hl hm (by omega))
  have HA:=Lib.hid ha
  have HBv:=Lib.hid hb
  have HCv:=Lib.hid hc
  obtain ⟨a0,a1,a2,rfl,-⟩:=ha
  obtain ⟨b0,b1,b2,rfl,-⟩:=hb
  obtain ⟨c0,c1,c2,rfl,-⟩:=hc
  obtain ⟨W,hW,d1,d2,d3,d4,hB,hS⟩:=boxes4 w (cells3 a0 a1 a2) (cells3 b0 b1 b2) (cells3 c0 c1 c2) #[.bool false,.slice none 0 0,.bool false,.slice none 0 0] 58 58 58 56
  have A:=Lib.hid d1
  have Bb:=Lib.hid d2
  have C:=Lib.hid d3
  have D:=Lib.hid d4
  have HBL:=Lib.hid hB
  have HSZ:=Lib.hid hS
  have G3:Hid (w.heap.size+3≤w.heap.size+1+1+1):=by show _≤_;omega
  clear hk hl hm h1 d1 d2 d3 d4 hB hS
  have KP:Hid (∀ w',Below (w.heap.size+3) W w'→w'.cell? ⟨w.heap.size,0,none⟩=some (.bool a0.s)∧w'.cell? ⟨w.heap.size,1,none⟩=some (.slice a0.a a0.n a0.c)∧w'.cell? ⟨w.heap.size,2,none⟩=some (.bool a0.t)∧w'.cell? ⟨w.heap.size,3,none⟩=some (.slice a0.b a0.m a0.d)∧w'.cell? ⟨w.heap.size,4,none⟩=some (.bool a1.s)∧w'.cell? ⟨w.heap.size,5,none⟩=some (.slice a1.a a1.n a1.c)∧w'.cell? ⟨w.heap.size,6,none⟩=some (.bool a1.t)∧w'.cell? ⟨w.heap.size,7,none⟩=some (.slice a1.b a1.m a1.d)∧w'.cell? ⟨w.heap.size,8,none⟩=some (.bool a2.s)∧w'.cell? ⟨w.heap.size,9,none⟩=some (.slice a2.a a2.n a2.c)∧w'.cell? ⟨w.heap.size,10,none⟩=some (.bool a2.t)∧w'.cell? ⟨w.heap.size,11,none⟩=some (.slice a2.b a2.m a2.d)∧w'.cell? ⟨w.heap.size+1,0,none⟩=some (.bool b0.s)∧w'.cell? ⟨w.heap.size+1,1,none⟩=some (.slice b0.a b0.n b0.c)∧w'.cell? ⟨w.heap.size+1,2,none⟩=some (.bool b0.t)∧w'.cell? ⟨w.heap.size+1,3,none⟩=some (.slice b0.b b0.m b0.d)∧w'.cell? ⟨w.heap.size+1,4,none⟩=some (.bool b1.s)∧w'.cell? ⟨w.heap.size+1,5,none⟩=some (.slice b1.a b1.n b1.c)∧w'.cell? ⟨w.heap.size+1,6,none⟩=some (.bool b1.t)∧w'.cell? ⟨w.heap.size+1,7,none⟩=some (.slice b1.b b1.m b1.d)∧w'.cell? ⟨w.heap.size+1,8,none⟩=some (.bool b2.s)∧w'.cell? ⟨w.heap.size+1,9,none⟩=some (.slice b2.a b2.n b2.c)∧w'.cell? ⟨w.heap.size+1,10,none⟩=some (.bool b2.t)∧w'.cell? ⟨w.heap.size+1,11,none⟩=some (.slice b2.b b2.m b2.d)∧w'.cell? ⟨w.heap.size+2,0,none⟩=some (.bool c0.s)∧w'.cell? ⟨w.heap.size+2,1,none⟩=some (.slice c0.a c0.n c0.c)∧w'.cell? ⟨w.heap.size+2,2,none⟩=some (.bool c0.t)∧w'.cell? ⟨w.heap.size+2,3,none⟩=some (.slice c0.b c0.m c0.d)∧w'.cell? ⟨w.heap.size+2,4,none⟩=some (.bool c1.s)∧w'.cell? ⟨w.heap.size+2,5,none⟩=some (.slice c1.a c1.n c1.c)∧w'.cell? ⟨w.heap.size+2,6,none⟩=some (.bool c1.t)∧w'.cell? ⟨w.heap.size+2,7,none⟩=some (.slice c1.b c1.m c1.d)∧w'.cell? ⟨w.heap.size+2,8,none⟩=some (.bool c2.s)∧w'.cell? ⟨w.heap.size+2,9,none⟩=some (.slice c2.a c2.n c2.c)∧w'.cell? ⟨w.heap.size+2,10,none⟩=some (.bool c2.t)∧w'.cell? ⟨w.heap.size+2,11,none⟩=some (.slice c2.b c2.m c2.d)):=fun w' h=>by
    have hA:=A.out.below h (by omega)
    have hBb:=Bb.out.below h (by omega)
    have hC:=C.out.below h (by omega)
    obtain ⟨p0,p1,p2,p3⟩:=hA.p0.1
    obtain ⟨p4,p5,p6,p7⟩:=hA.p1.1
    obtain ⟨p8,p9,p10,p11⟩:=hA.p2.1
    obtain ⟨q0,q1,q2,q3⟩:=hBb.p0.1
    obtain ⟨q4,q5,q6,q7⟩:=hBb.p1.1
    obtain ⟨q8,q9,q10,q11⟩:=hBb.p2.1
    obtain ⟨r0,r1,r2,r3⟩:=hC.p0.1
    obtain ⟨r4,r5,r6,r7⟩:=hC.p1.1
    obtain ⟨r8,r9,r10,r11⟩:=hC.p2.1
    exact ⟨p0,p1,p2,p3,p4,p5,p6,p7,p8,p9,p10,p11,q0,q1,q2,q3,q4,q5,q6,q7,q8,q9,q10,q11,r0,r1,r2,r3,r4,r5,r6,r7,r8,r9,r10,r11⟩
  have L00:Hid (Below W.heap.size W W.drew):=(Below.refl _ _).drew
  have N0:Hid (Below (w.heap.size+3) W W.drew):=(Below.refl _ _).drew
  have hf1:=KP.out _ (Below.refl _ _)
  unfold cells3 at hW ⊢
  go_enter Tryz.func119,Tryz.ntmps119
  go_wp2_with fail
  go_region_held3 (fun w'=>w'.cell? ⟨w.heap.size,0,none⟩=some (.bool a0.s)∧w'.cell? ⟨w.heap.size,1,none⟩=some (.slice a0.a a0.n a0.c)∧w'.cell? ⟨w.heap.size,2,none⟩=some (.bool a0.t)∧w'.cell? ⟨w.heap.size,3,none⟩=some (.slice a0.b a0.m a0.d)∧w'.cell? ⟨w.heap.size,4,none⟩=some (.bool a1.s)∧w'.cell? ⟨w.heap.size,5,none⟩=some (.slice a1.a a1.n a1.c)∧w'.cell? ⟨w.heap.size,6,none⟩=some (.bool a1.t)∧w'.cell? ⟨w.heap.size,7,none⟩=some (.slice a1.b a1.m a1.d)∧w'.cell? ⟨w.heap.size,8,none⟩=some (.bool a2.s)∧w'.cell? ⟨w.heap.size,9,none⟩=some (.slice a2.a a2.n a2.c)∧w'.cell? ⟨w.heap.size,10,none⟩=some (.bool a2.t)∧w'.cell? ⟨w.heap.size,11,none⟩=some (.slice a2.b a2.m a2.d)∧w'.cell? ⟨w.heap.size+1,0,none⟩=some (.bool b0.s)∧w'.cell? ⟨w.heap.size+1,1,none⟩=some (.slice b0.a b0.n b0.c)∧w'.cell? ⟨w.heap.size+1,2,none⟩=some (.bool b0.t)∧w'.cell? ⟨w.heap.size+1,3,none⟩=some (.slice b0.b b0.m b0.d)∧w'.cell? ⟨w.heap.size+1,4,none⟩=some (.bool b1.s)∧w'.cell? ⟨w.heap.size+1,5,none⟩=some (.slice b1.a b1.n b1.c)∧w'.cell? ⟨w.heap.size+1,6,none⟩=some (.bool b1.t)∧w'.cell? ⟨w.heap.size+1,7,none⟩=some (.slice b1.b b1.m b1.d)∧w'.cell? ⟨w.heap.size+1,8,none⟩=some (.bool b2.s)∧w'.cell? ⟨w.heap.size+1,9,none⟩=some (.slice b2.a b2.n b2.c)∧w'.cell? ⟨w.heap.size+1,10,none⟩=some (.bool b2.t)∧w'.cell? ⟨w.heap.size+1,11,none⟩=some (.slice b2.b b2.m b2.d)∧w'.cell? ⟨w.heap.size+2,0,none⟩=some (.bool c0.s)∧w'.cell? ⟨w.heap.size+2,1,none⟩=some (.slice c0.a c0.n c0.c)∧w'.cell? ⟨w.heap.size+2,2,none⟩=some (.bool c0.t)∧w'.cell? ⟨w.heap.size+2,3,none⟩=some (.slice c0.b c0.m c0.d)∧w'.cell? ⟨w.heap.size+2,4,none⟩=some (.bool c1.s)∧w'.cell? ⟨w.heap.size+2,5,none⟩=some (.slice c1.a c1.n c1.c)∧w'.cell? ⟨w.heap.size+2,6,none⟩=some (.bool c1.t)∧w'.cell? ⟨w.heap.size+2,7,none⟩=some (.slice c1.b c1.m c1.d)∧w'.cell? ⟨w.heap.size+2,8,none⟩=some (.bool c2.s)∧w'.cell? ⟨w.heap.size+2,9,none⟩=some (.slice c2.a c2.n c2.c)∧w'.cell? ⟨w.heap.size+2,10,none⟩=some (.bool c2.t)∧w'.cell? ⟨w.heap.size+2,11,none⟩=some (.slice c2.b c2.m c2.d))
    (first | with_reducible exact (KP.out _ (below_sets N2.out G3.out _ _ _ _ _ _ _ _)) | with_reducible exact (KP.out _ N2.out) | with_reducible exact (KP.out _ N1.out) | with_reducible exact (KP.out _ N0.out))
    (first
      | (have _g:=M1.out;clear _g;go_at_call 44;refine (hD.out _ _ _ (HA.out.below (below_call HBL.out M1.out (by have:=HSZ.out;omega))) P1.out).mono ?_;rintro e y1 ⟨⟨v1,rfl,hv1⟩,hb1⟩
         obtain ⟨r,rfl,hr⟩:=hv1.rcv
         have M2:Hid (Below W.heap.size W y1):=below_call M1.out hb1 (Nat.le_refl _)
         have N2:Hid (Below (w.heap.size+3) W y1):=below_call N1.out hb1 (by have:=HSZ.out;omega)
         have R:=Lib.hid hr
         obtain ⟨x0,x1,x2,x3,x4,x5,x6,x7⟩:=(D.out.below M2.out D.out.lt).four
         clear hv1 hr hb1)
      | (go_at_call 150;refine (hX.out _ _ _ (HBv.out.below (below_call HBL.out L00.out (by have:=HSZ.out;omega))) (HCv.out.below (below_call HBL.out L00.out (by have:=HSZ.out;omega)))).mono ?_;rintro e y0 ⟨⟨v0,rfl,hv0⟩,hb0⟩
         have M1:Hid (Below W.heap.size W y0):=below_call L00.out hb0 (Nat.le_refl _)
         have N1:Hid (Below (w.heap.size+3) W y0):=below_call N0.out hb0 (by have:=HSZ.out;omega)
         have P1:=Lib.hid hv0
         clear hv0 hb0))
  clear hf1
  have E:=Lib.hid (D.out.below M2.out D.out.lt)
  have hfin:=Lib.hid (below_call HBL.out M2.out (by have:=HSZ.out;omega))
  clear x0 x1 x2 x3 x4 x5 x6 x7
  go_wp2_with fail
  obtain ⟨x0,x1,x2,x3,-⟩:=(E.out.set4 (.bool r.s) (.slice r.a r.n r.c) (.bool r.t) (.slice r.b r.m r.d)).four
  go_wp2
  exact ret_box Tryz.results119 (w.heap.size+3) (E.out.set4 (.bool r.s) (.slice r.a r.n r.c) (.bool r.t) (.slice r.b r.m r.d)) _ rfl Tryz.underlying56 rfl infoRat rfl
    ⟨⟨_,rfl,R.out.store4 E.out _ _ _ _⟩,below_set4 hfin.out (by omega) _ _ _ _⟩
end Go.Proofs.YtaibkpbklfodiaaGreatDoor
end

/- Package vector: Primitive. Printed by gen/vec8.py. -/
section
namespace Dowel
open Go Go.RowKit
def lcmI (x:Int) (d:Nat):Int:=x / (Int.gcd x d:Nat)*d
def denQ (a:Q3):Nat→Int
 | 0=>1
 | i+1=>lcmI (denQ a i) (a.at i).den
theorem lcmI_pos {x:Int} {d:Nat} (hx:0<x) (hd:0<d):0<lcmI x d∧lcmI x d≤x*d:=by
 have hg:0<Int.gcd x d:=Int.gcd_pos_of_ne_zero_left _ (by omega)
 have hdv:((Int.gcd x d:Nat):Int) ∣ x:=Int.gcd_dvd_left ..
 have hle:x / (Int.gcd x d:Nat)≤x:=Int.ediv_le_self _ (by omega)
 have hp:0<x / (Int.gcd x d:Nat):=Int.ediv_pos_of_pos_of_dvd hx (by omega) hdv
 unfold lcmI
 exact ⟨Int.mul_pos hp (by omega),Int.mul_le_mul_of_nonneg_right hle (by omega)⟩
theorem denQ_spec {a:Q3} {k:Nat} (hk:BdV k a):∀ i,i≤3→0<denQ a i∧(denQ a i).natAbs<B ^ (i*k+1)
 | 0,_=>⟨by show (0:Int)<1;omega,by show 1<B ^ (0*k+1);unfold B;rw [Nat.zero_mul];omega⟩
 | i+1,h=>by
  have ih:=denQ_spec hk i (by omega)
  have hb:Bd k (a.at i):=by
   match i,h with
   | 0,_=>exact hk.1
   | 1,_=>exact hk.2.1
   | 2,_=>exact hk.2.2
  have hd:=(a.at i).den_pos
  have hl:=lcmI_pos ih.1 hd
  refine ⟨hl.1,?_⟩
  show (lcmI (denQ a i) (a.at i).den).natAbs<_
  have h1:(lcmI (denQ a i) (a.at i).den).natAbs≤(denQ a i).natAbs*(a.at i).den:=by
   have:(denQ a i*(a.at i).den:Int).natAbs=(denQ a i).natAbs*(a.at i).den:=by rw [Int.natAbs_mul];rfl
   omega
  have h2:=Nat.mul_lt_mul_of_lt_of_le ih.2 (Nat.le_of_lt hb.2) (Nat.pos_of_ne_zero (by unfold B;exact Nat.ne_of_gt (Nat.pow_pos (by omega))))
  rw [← Nat.pow_add,show i*k+1+k=(i+1)*k+1 by rw [Nat.add_mul];omega] at h2
  omega
theorem SD3b {a:Q3} {k:Nat} (D:Int) (hD:denQ a 3=D) (hk:BdV k a):D.natAbs<B ^ (3*k+1):=by rw [← hD];exact (denQ_spec hk 3 (by omega)).2
def gcdQ (a:Q3):Nat→Nat
 | 0=>0
 | i+1=>Int.gcd (gcdQ a i:Nat) (a.at i).num
theorem gcd_lt {x y b:Nat} (hx:x<b) (hy:y<b):Nat.gcd x y<b:=by
 by_cases h:x=0
 ·rw [h,Nat.gcd_zero_left];exact hy
 ·exact Nat.lt_of_le_of_lt (Nat.gcd_le_left _ (Nat.pos_of_ne_zero h)) hx
theorem gcdQ_lt {a:Q3} {k:Nat} (hk:BdV k a):∀ i,((gcdQ a i:Nat):Int).natAbs<B ^ k
 | 0=>by show 0<B ^ k;exact Nat.pow_pos (by unfold B;omega)
 | i+1=>by
  have hb:Bd k (a.at i):=by
   match i with
   | 0=>exact hk.1
   | 1=>exact hk.2.1
   | _+2=>exact hk.2.2
  exact gcd_lt (gcdQ_lt hk i) hb.1
theorem cells3_inj {r0 r1 r2 s0 s1 s2:RC} (h:Value.agg #[.bool r0.s,.slice r0.a r0.n r0.c,.bool r0.t,.slice r0.b r0.m r0.d,.bool r1.s,.slice r1.a r1.n r1.c,.bool r1.t,.slice r1.b r1.m r1.d,.bool r2.s,.slice r2.a r2.n r2.c,.bool r2.t,.slice r2.b r2.m r2.d]=.agg (cells3 s0 s1 s2)):r0.agg=s0.agg∧r1.agg=s1.agg∧r2.agg=s2.agg:=by
 unfold cells3 at h
 simp only [Value.agg.injEq,Array.mk.injEq,List.cons.injEq,Value.bool.injEq,Value.slice.injEq] at h
 unfold RC.agg
 simp only [Value.agg.injEq,Array.mk.injEq,List.cons.injEq,Value.bool.injEq,Value.slice.injEq,and_true]
 simp only [h,and_self]
theorem gcdQ_pos {b:Q3} (h:b≠⟨0,0,0⟩):0<gcdQ b 3:=by
 refine Nat.pos_of_ne_zero fun h0=>h ?_
 have e:Int.gcd (Int.gcd (Int.gcd (0:Nat) b.x.num:Nat) b.y.num:Nat) b.z.num=0:=h0
 obtain ⟨e1,e2⟩:=Int.gcd_eq_zero_iff.mp e
 obtain ⟨e3,e4⟩:=Int.gcd_eq_zero_iff.mp (show Int.gcd (Int.gcd (0:Nat) b.x.num:Nat) b.y.num=0 by omega)
 obtain ⟨-,e5⟩:=Int.gcd_eq_zero_iff.mp (show Int.gcd (0:Nat) b.x.num=0 by omega)
 obtain ⟨x,y,z⟩:=b
 rw [show x=0 from Rat.num_eq_zero.mp e5,show y=0 from Rat.num_eq_zero.mp e4,show z=0 from Rat.num_eq_zero.mp e2]
def primQ (a:Q3):Q3:=
 ⟨Rat.divInt 1 (gcdQ ⟨(denQ a 3:Rat)*a.x,(denQ a 3:Rat)*a.y,(denQ a 3:Rat)*a.z⟩ 3:Nat)*((denQ a 3:Rat)*a.x),Rat.divInt 1 (gcdQ ⟨(denQ a 3:Rat)*a.x,(denQ a 3:Rat)*a.y,(denQ a 3:Rat)*a.z⟩ 3:Nat)*((denQ a 3:Rat)*a.y),Rat.divInt 1 (gcdQ ⟨(denQ a 3:Rat)*a.x,(denQ a 3:Rat)*a.y,(denQ a 3:Rat)*a.z⟩ 3:Nat)*((denQ a 3:Rat)*a.z)⟩
def RetVecOK (w:World) (e:Ending) (q:Q3):Prop:=∃ v,e=.returned (.tuple #[v,.int .i64 0])∧IsVec w v q
theorem one_small:Small 1:=⟨1,by omega,by show 1<B ^ 1;unfold B;omega⟩
theorem Bd.at {k:Nat} {a:Q3} (hk:BdV k a):∀ i,Bd k (a.at i)
 | 0=>hk.1
 | 1=>hk.2.1
 | _+2=>hk.2.2
end Dowel
namespace Go.Proofs.YtaibkpbklfodiaaGreatDoor
open Go.RowKit Dowel
set_option maxRecDepth 20000 in
set_option maxHeartbeats 8000000 in
theorem VPrim_any (va:Value) (a:Q3) (k:Nat) (w:World) (ha:IsVec w va a) (hk:BdV k a) (hk2:k≤10000) (h0:a≠⟨0,0,0⟩) :
    Calls Tryz.prog 42 #[va] w fun e w'=>RetVecOK w' e (primQ a)∧Below w.heap.size w w':=by
  have HZ:=Lib.hid (fun v x h2=>VIsZero_any x a k v h2 hk (by omega))
  have HA:=Lib.hid ha
  have HK:=Lib.hid hk
  have H0:=Lib.hid h0
  obtain ⟨a0,a1,a2,rfl,hax,hay,haz⟩:=ha
  obtain ⟨W,hW,c1,c2,hBl,hS⟩:=boxes2 w (cells3 a0 a1 a2) (cells3 RC.zero RC.zero RC.zero) 58 58
  have HAX:=Lib.hid hax
  have HAY:=Lib.hid hay
  have HAZ:=Lib.hid haz
  have HBL:=Lib.hid hBl
  have HSZ:=Lib.hid hS
  have A:=Lib.hid c1
  have C:=Lib.hid c2
  obtain ⟨⟨x0,x1,x2,x3⟩,-⟩:=c1.p0
  obtain ⟨⟨x4,x5,x6,x7⟩,-⟩:=c1.p1
  obtain ⟨⟨x8,x9,x10,x11⟩,-⟩:=c1.p2
  clear c1 c2 hBl hS hk h0 hax hay haz
  rw [zero3] at hW
  have i0:∀ w,(Instr.index 58 (.agg #[.bool a0.s,.slice a0.a a0.n a0.c,.bool a0.t,.slice a0.b a0.m a0.d,.bool a1.s,.slice a1.a a1.n a1.c,.bool a1.t,.slice a1.b a1.m a1.d,.bool a2.s,.slice a2.a a2.n a2.c,.bool a2.t,.slice a2.b a2.m a2.d]) (.int .i64 0)).run Tryz.prog w=.ok (.agg #[.bool a0.s,.slice a0.a a0.n a0.c,.bool a0.t,.slice a0.b a0.m a0.d]) w:=fun _=>by kernel_rfl
  have i1:∀ w,(Instr.index 58 (.agg #[.bool a0.s,.slice a0.a a0.n a0.c,.bool a0.t,.slice a0.b a0.m a0.d,.bool a1.s,.slice a1.a a1.n a1.c,.bool a1.t,.slice a1.b a1.m a1.d,.bool a2.s,.slice a2.a a2.n a2.c,.bool a2.t,.slice a2.b a2.m a2.d]) (.int .i64 1)).run Tryz.prog w=.ok (.agg #[.bool a1.s,.slice a1.a a1.n a1.c,.bool a1.t,.slice a1.b a1.m a1.d]) w:=fun _=>by kernel_rfl
  have i2:∀ w,(Instr.index 58 (.agg #[.bool a0.s,.slice a0.a a0.n a0.c,.bool a0.t,.slice a0.b a0.m a0.d,.bool a1.s,.slice a1.a a1.n a1.c,.bool a1.t,.slice a1.b a1.m a1.d,.bool a2.s,.slice a2.a a2.n a2.c,.bool a2.t,.slice a2.b a2.m a2.d]) (.int .i64 2)).run Tryz.prog w=.ok (.agg #[.bool a2.s,.slice a2.a a2.n a2.c,.bool a2.t,.slice a2.b a2.m a2.d]) w:=fun _=>by kernel_rfl
  unfold cells3 at hW ⊢
  go_enter Tryz.func42,Tryz.ntmps42
  go_wp2_with fail
  refine (HZ.out _ _ (HA.out.below HBL.out)).mono ?_
  rintro e w1 ⟨⟨r,rfl,hr⟩,hb1⟩
  have hrf:r=false:=by
    cases r
    · rfl
    · exact absurd (hr.mp rfl) H0.out
  subst hrf
  have L1:=Lib.hid (below_call HBL.out hb1 (by have:=HSZ.out;omega))
  have B1:=Lib.hid (A.out.below hb1 A.out.lt)
  have C1:=Lib.hid (C.out.below hb1 C.out.lt)
  clear hr hb1 x0 x1 x2 x3 x4 x5 x6 x7 x8 x9 x10 x11
  go_wp2_with fail
  refine (From_any 1 _ (by omega) (by omega)).mono ?_
  rintro e w2 ⟨⟨v2,rfl,hv2⟩,hb2⟩
  have L2:=Lib.hid (below_call L1.out hb2 (by omega))
  have B2:=Lib.hid (B1.out.below hb2 B1.out.lt)
  have C2:=Lib.hid (C1.out.below hb2 C1.out.lt)
  have V2:=Lib.hid hv2
  obtain ⟨s2,e2,n2,m2,d2,rfl,-⟩:=hv2
  have E2:=B2.out.old (.cells #[.bool s2,.slice e2 n2 m2] 54)
  obtain ⟨⟨x0,x1,x2,x3⟩,-⟩:=E2.p0
  obtain ⟨⟨x4,x5,x6,x7⟩,-⟩:=E2.p1
  obtain ⟨⟨x8,x9,x10,x11⟩,-⟩:=E2.p2
  have G2:=Lib.hid B2.out.lt
  clear hb2
  go_wp2_with fail
  clear x0 x1 x2 x3 x4 x5 x6 x7 x8 x9 x10 x11 E2
  go_loopw [22] (fun iv wr=>∃ i:Nat,i≤3∧iv=.int .i64 (i:Nat)∧∃ s3 e3 n3 m3,Hid (Box wr w2.heap.size #[.bool s3,.slice e3 n3 m3] 54)∧Hid (IsInt wr (.agg #[.bool s3,.slice e3 n3 m3]) (denQ a i))∧Hid (Below w2.heap.size w2 wr)) (fun iv _=>3 - (intOf iv).toNat)
  case atStart=>exact ⟨0,by omega,rfl,s2,e2,n2,m2,Box.new _ _ _ _ rfl,V2.out.below ((Below.refl _ _).alloc (Nat.le_refl _) _),(Below.refl _ _).alloc (Nat.le_refl _) _⟩
  case round =>
    obtain ⟨i,hi,rfl,s3,e3,n3,m3,HDB,HDI,HR⟩:=hrel
    obtain ⟨w3,rfl⟩:∃ w3,w3=wr:=⟨_,rfl⟩
    by_cases h3:i=3
    · subst h3
      have HD3:=HDI
      have DB3:=HDB
      have SD3:Hid (Small (denQ a 3)):=⟨3*k+1,by omega,(denQ_spec HK.out 3 (by omega)).2⟩
      have DP3:=Lib.hid (denQ_spec HK.out 3 (by omega)).1
      obtain ⟨D,hD⟩:∃ D,denQ a 3=D:=⟨_,rfl⟩
      rw [hD] at HD3 SD3 DP3
      have HDEQ:=Lib.hid hD
      clear hD
      have KA:Hid (∀ w',Below w3.heap.size w3 w'→w'.cell? ⟨w2.heap.size,0,none⟩=some (.bool s3)∧w'.cell? ⟨w2.heap.size,1,none⟩=some (.slice e3 n3 m3)):=fun w' h=>by
        obtain ⟨p0,p1,-,-⟩:=(DB3.out.below h DB3.out.lt).two
        exact ⟨p0,p1⟩
      have P0:=Lib.hid (Below.refl w3.heap.size w3)
      have P00:Hid (Below w3.heap.size w3 w3.drew):=P0.out.drew
      have hf1:=KA.out _ P0.out
      have L3:=Lib.hid (below_call L2.out HR.out (by have:=G2.out;omega))
      have B3:=Lib.hid (B2.out.below HR.out G2.out)
      have C3:=Lib.hid (C2.out.below HR.out (by have:=C2.out.lt;exact this))
      go_upto_region 10 with fail
      go_cut [10] (fun pv wy=>∃ (gw:Nat) (rw_:RC),pv=.pointer (some ⟨gw,0,none⟩)∧Hid (Box wy gw #[.bool rw_.s,.slice rw_.a rw_.n rw_.c,.bool rw_.t,.slice rw_.b rw_.m rw_.d] 56)∧Hid (IsRat wy rw_.agg (Rat.divInt D 1))∧Hid (Below w3.heap.size w3 wy)∧Hid (w3.heap.size≤gw))
      case first =>
       go_wp2_with fail
       go_region_held3 (fun w'=>w'.cell? ⟨w2.heap.size,0,none⟩=some (.bool s3)∧w'.cell? ⟨w2.heap.size,1,none⟩=some (.slice e3 n3 m3))
        (first | with_reducible exact (KA.out _ P2.out) | with_reducible exact (KA.out _ (P2.out.alloc P2.out.size _)) | with_reducible exact (KA.out _ P1.out) | with_reducible exact (KA.out _ (P1.out.alloc P1.out.size _)) | with_reducible exact (KA.out _ P00.out) | with_reducible exact (KA.out _ (P0.out.alloc P0.out.size _).drew) | with_reducible exact (KA.out _ (below_sets P2.out PL.out _ _ _ _ _ _ _ _)) | with_reducible exact (KA.out _ (below_sets (P2.out.alloc P2.out.size _) P2.out.size _ _ _ _ _ _ _ _)))
        (first
       | (have _g:=P1.out;clear _g;go_at_call 92;refine (Make_any _ _ D 1 _ (HD3.out.below (by first | with_reducible exact P1.out | with_reducible exact (P1.out.alloc P1.out.size _))) (PV1.out.below (by first | with_reducible exact (Below.refl _ _) | with_reducible exact ((Below.refl _ _).alloc (Nat.le_refl _) _))) SD3.out one_small (by omega)).mono ?_;rintro e p2 ⟨⟨q2_,rfl,hq2⟩,hb2⟩
          have P2:=Lib.hid (show Below w3.heap.size w3 p2 from by first | with_reducible exact below_call P1.out hb2 (Nat.le_refl _) | with_reducible exact below_call (P1.out.alloc P1.out.size _) hb2 (Nat.le_refl _))
          have PX2:=Lib.hid (show Below p1.heap.size p1 p2 from by first | with_reducible exact below_call (Below.refl _ _) hb2 (Nat.le_refl _) | with_reducible exact below_call ((Below.refl _ _).alloc (Nat.le_refl _) _) hb2 (Nat.le_refl _))
          have PV2:=Lib.hid hq2
          obtain ⟨wh,rfl,hwh⟩:=hq2.rcv
          have PV:=Lib.hid hwh
          first
            | (have PB:=Lib.hid (show Box p2 _ _ _ from by with_reducible exact PB.out.below hb2 PB.out.lt))
            | (have PB:=Lib.hid (show Box p2 _ #[.bool false,.slice none 0 0,.bool false,.slice none 0 0] 56 from by with_reducible exact (Box.new _ _ _ _ rfl).below hb2 (Box.new _ _ _ _ rfl).lt)
               have PL:=Lib.hid P1.out.size)
            | skip
          try have ne1:=Nat.ne_of_lt PB.out.lt
          try have ne2:=ne1.symm
          try obtain ⟨n0,n1,n2,n3,n4,n5,n6,n7⟩:=PB.out.four
          clear hb2)
       | (go_at_call 72;refine (From_any 1 _ (by omega) (by omega)).mono ?_;rintro e p1 ⟨⟨q1_,rfl,hq1⟩,hb1⟩
          have P1:=Lib.hid (show Below w3.heap.size w3 p1 from by first | with_reducible exact below_call P00.out hb1 (Nat.le_refl _) | with_reducible exact below_call (P0.out.alloc P0.out.size _).drew hb1 (Nat.le_refl _))
          have PX1:=Lib.hid (show Below w3.heap.size w3 p1 from by first | with_reducible exact below_call (Below.refl _ _).drew hb1 (Nat.le_refl _) | with_reducible exact below_call ((Below.refl _ _).alloc (Nat.le_refl _) _).drew hb1 (Nat.le_refl _))
          have PV1:=Lib.hid hq1
          first
            | (have PB:=Lib.hid (show Box p1 _ #[.bool false,.slice none 0 0,.bool false,.slice none 0 0] 56 from by with_reducible exact (Box.new _ _ _ _ rfl).drew.below hb1 (Box.new _ _ _ _ rfl).drew.lt)
               have PL:=Lib.hid P0.out.size)
            | skip
          try have ne1:=Nat.ne_of_lt PB.out.lt
          try have ne2:=ne1.symm
          try obtain ⟨n0,n1,n2,n3,n4,n5,n6,n7⟩:=PB.out.four
          clear hb1))
       all_goals
        go_wp2_with fail
        go_meet
       all_goals first
        | (with_reducible exact ⟨_,wh,rfl,Lib.hid (Box.new _ _ _ _ rfl),Lib.hid (PV.out.below ((Below.refl _ _).alloc (Nat.le_refl _) _)),Lib.hid (P2.out.alloc P2.out.size _),Lib.hid P2.out.size⟩)
        | (with_reducible exact ⟨_,wh,rfl,Lib.hid (PB.out.set4 _ _ _ _),Lib.hid (PV.out.store4 PB.out _ _ _ _),Lib.hid (below_sets P2.out PL.out _ _ _ _ _ _ _ _),Lib.hid PL.out⟩)
      case rest =>
      obtain ⟨gw,rw_,rfl,hwb,hwi,hbw,hwl⟩:=hcut
      clear hf1 KA P0 P00
      have hwi2:IsRat wc rw_.agg (D:Rat):=by have:=hwi.out;rwa [divInt_one] at this
      have BD:Bd (3*k+1) (D:Rat):=⟨SD3b D HDEQ.out HK.out,by show 1<B ^ (3*k+1);exact Nat.lt_of_lt_of_le (by unfold B;omega:1<B ^ 1) (Nat.pow_le_pow_right (by unfold B;omega) (by omega))⟩
      have HSC:=Lib.hid (VScale_any (.agg (cells3 a0 a1 a2)) rw_.agg a (D:Rat) (3*k+1) k wc (HA.out.below (below_call L3.out hbw.out (by have:=L3.out.size;omega))) hwi2 BD HK.out (by omega))
      have HBAW:Hid (BdV (4*k+1) ⟨(D:Rat)*a.x,(D:Rat)*a.y,(D:Rat)*a.z⟩):=by
        have h1:=BD.mul HK.out.1;have h2:=BD.mul HK.out.2.1;have h3:=BD.mul HK.out.2.2
        rw [show 3*k+1+k=4*k+1 by omega] at h1 h2 h3
        exact ⟨h1,h2,h3⟩
      obtain ⟨aw,haw⟩:∃ aw:Q3,(⟨(D:Rat)*a.x,(D:Rat)*a.y,(D:Rat)*a.z⟩:Q3)=aw:=⟨_,rfl⟩
      rw [haw] at HSC HBAW
      have HAW:=Lib.hid haw
      have L4:=Lib.hid (below_call L3.out hbw.out (by have:=L3.out.size;omega))
      have gA:w.heap.size<w3.heap.size:=B3.out.lt
      have gC:w.heap.size+1<w3.heap.size:=C3.out.lt
      have B4:=Lib.hid (B3.out.below hbw.out gA)
      have C4:=Lib.hid (C3.out.below hbw.out gC)
      obtain ⟨⟨x0,x1,x2,x3⟩,-⟩:=B4.out.p0
      obtain ⟨⟨x4,x5,x6,x7⟩,-⟩:=B4.out.p1
      obtain ⟨⟨x8,x9,x10,x11⟩,-⟩:=B4.out.p2
      obtain ⟨y0,y1,y2,y3,-⟩:=hwb.out.four
      unfold cells3 RC.agg at HSC
      clear hwi2 BD haw
      go_wp2_with fail
      refine HSC.out.mono ?_
      rintro e w5 ⟨⟨v5,rfl,hv5⟩,hb5⟩
      obtain ⟨r0,r1,r2,rfl,hr⟩:=hv5.rcv
      have R5:=Lib.hid hr
      have L5:=Lib.hid (below_call L4.out hb5 (by have:=L4.out.size;omega))
      have gA4:=B4.out.lt
      have gC4:=C4.out.lt
      have B5:=Lib.hid (B4.out.below hb5 gA4)
      have C5:=Lib.hid (C4.out.below hb5 gC4)
      obtain ⟨⟨x0,x1,x2,x3⟩,f0,f1,f2,f3⟩:=B5.out.p0
      obtain ⟨⟨x4,x5,x6,x7⟩,f4,f5,f6,f7⟩:=B5.out.p1
      obtain ⟨⟨x8,x9,x10,x11⟩,f8,f9,f10,f11⟩:=B5.out.p2
      clear hv5 hr hb5 y0 y1 y2 y3
      have j0:∀ w,(Instr.index 58 (.agg #[.bool r0.s,.slice r0.a r0.n r0.c,.bool r0.t,.slice r0.b r0.m r0.d,.bool r1.s,.slice r1.a r1.n r1.c,.bool r1.t,.slice r1.b r1.m r1.d,.bool r2.s,.slice r2.a r2.n r2.c,.bool r2.t,.slice r2.b r2.m r2.d]) (.int .i64 0)).run Tryz.prog w=.ok (.agg #[.bool r0.s,.slice r0.a r0.n r0.c,.bool r0.t,.slice r0.b r0.m r0.d]) w:=fun _=>by kernel_rfl
      have j1:∀ w,(Instr.index 58 (.agg #[.bool r0.s,.slice r0.a r0.n r0.c,.bool r0.t,.slice r0.b r0.m r0.d,.bool r1.s,.slice r1.a r1.n r1.c,.bool r1.t,.slice r1.b r1.m r1.d,.bool r2.s,.slice r2.a r2.n r2.c,.bool r2.t,.slice r2.b r2.m r2.d]) (.int .i64 1)).run Tryz.prog w=.ok (.agg #[.bool r1.s,.slice r1.a r1.n r1.c,.bool r1.t,.slice r1.b r1.m r1.d]) w:=fun _=>by kernel_rfl
      have j2:∀ w,(Instr.index 58 (.agg #[.bool r0.s,.slice r0.a r0.n r0.c,.bool r0.t,.slice r0.b r0.m r0.d,.bool r1.s,.slice r1.a r1.n r1.c,.bool r1.t,.slice r1.b r1.m r1.d,.bool r2.s,.slice r2.a r2.n r2.c,.bool r2.t,.slice r2.b r2.m r2.d]) (.int .i64 2)).run Tryz.prog w=.ok (.agg #[.bool r2.s,.slice r2.a r2.n r2.c,.bool r2.t,.slice r2.b r2.m r2.d]) w:=fun _=>by kernel_rfl
      go_upto_region 12 with fail
      change Code.wp _ _ _ _ (put12 w5 w.heap.size r0 r1 r2)
      clear x0 x1 x2 x3 x4 x5 x6 x7 x8 x9 x10 x11 f0 f1 f2 f3 f4 f5 f6 f7 f8 f9 f10 f11
      have B6:=Lib.hid (B5.out.s12 r0 r1 r2)
      have C6:=Lib.hid (((C5.out.oput4 (g':=w.heap.size) (by omega) 0 r0).oput4 (g':=w.heap.size) (by omega) 4 r1).oput4 (g':=w.heap.size) (by omega) 8 r2)
      have R6:=Lib.hid (R5.out.put12 B5.out r0 r1 r2)
      have L6:=Lib.hid (below_put12 L5.out (Nat.le_refl w.heap.size) r0 r1 r2)
      change Hid (Box (put12 w5 w.heap.size r0 r1 r2) (w.heap.size+1) _ _) at C6
      generalize put12 w5 w.heap.size r0 r1 r2=U at *
      have E6:=B6.out.old (.cells #[.bool false,.slice none 0 0] 54)
      obtain ⟨⟨x0,x1,x2,x3⟩,-⟩:=E6.p0
      obtain ⟨⟨x4,x5,x6,x7⟩,-⟩:=E6.p1
      obtain ⟨⟨x8,x9,x10,x11⟩,-⟩:=E6.p2
      clear E6
      go_wp2_with fail
      clear x0 x1 x2 x3 x4 x5 x6 x7 x8 x9 x10 x11
      go_loopw [50] (fun iv wr=>∃ i:Nat,i≤3∧iv=.int .i64 (i:Nat)∧∃ gs ge gn gm,Hid (Box wr U.heap.size #[.bool gs,.slice ge gn gm] 54)∧Hid (IsInt wr (.agg #[.bool gs,.slice ge gn gm]) (gcdQ aw i:Nat))∧Hid (Below U.heap.size U wr)) (fun iv _=>3 - (intOf iv).toNat)
      case atStart=>exact ⟨0,by omega,rfl,false,none,0,0,Box.new _ _ _ _ rfl,isInt_zero _,(Below.refl _ _).alloc (Nat.le_refl _) _⟩
      case round =>
        obtain ⟨i,hi,rfl,gs,ge,gn,gm,HGB,HGI,HR6⟩:=hrel
        obtain ⟨w6,rfl⟩:∃ w6,w6=wr:=⟨_,rfl⟩
        by_cases h3:i=3
        · subst h3
          have GP:0<gcdQ aw 3:=gcdQ_pos fun e=>H0.out (by
            have hD0 : (D : Rat) ≠ 0 := fun h => by have := DP3.out; have h' : D = 0 := by exact_mod_cast h
                                                    omega
            rw [← HAW.out] at e
            have e1:=congrArg Q3.x e;have e2:=congrArg Q3.y e;have e3:=congrArg Q3.z e
            have z:∀ t:Rat,(D:Rat)*t=0→t=0:=fun t h=>(Rat.mul_eq_zero.mp h).resolve_left hD0
            obtain ⟨ax,ay,az⟩:=a
            rw [show ax=0 from z _ e1,show ay=0 from z _ e2,show az=0 from z _ e3])
          have hgl:=gcdQ_lt HBAW.out 3
          obtain ⟨G,hG⟩:∃ G,gcdQ aw 3=G:=⟨_,rfl⟩
          have HG6:=HGI
          rw [hG] at GP hgl HG6
          have HGEQ:=Lib.hid hG
          have SG6:Hid (Small ((G:Nat):Int)):=⟨4*k+1,by omega,hgl⟩
          have GP6:Hid (((G:Nat):Int)≠0):=by show ((G:Nat):Int)≠0;omega
          have BP:Hid (Bd (4*k+1) (Rat.divInt 1 (G:Nat))):=bd_reduced (by show 1<B ^ (4*k+1);exact Nat.lt_of_lt_of_le (by unfold B;omega:1<B ^ 1) (Nat.pow_le_pow_right (by unfold B;omega) (by omega))) hgl (by omega)
          clear hG GP hgl
          have KT:Hid (∀ w',Below w6.heap.size w6 w'→w'.cell? ⟨U.heap.size,0,none⟩=some (.bool gs)∧w'.cell? ⟨U.heap.size,1,none⟩=some (.slice ge gn gm)):=fun w' h=>by
            obtain ⟨p0,p1,-,-⟩:=(HGB.out.below h HGB.out.lt).two
            exact ⟨p0,p1⟩
          have T0:=Lib.hid (Below.refl w6.heap.size w6)
          have T00:Hid (Below w6.heap.size w6 w6.drew):=T0.out.drew
          have hf1:=KT.out _ T0.out
          have L7:=Lib.hid (below_call L6.out HR6.out (by have:=L6.out.size;omega))
          have B7:=Lib.hid (B6.out.below HR6.out B6.out.lt)
          have C7:=Lib.hid (C6.out.below HR6.out C6.out.lt)
          have R7:=Lib.hid (R6.out.below HR6.out)
          go_upto_region 18 with fail
          go_cut [15] (fun pv wy=>∃ (gp:Nat) (rp:RC),pv=.pointer (some ⟨gp,0,none⟩)∧Hid (Box wy gp #[.bool rp.s,.slice rp.a rp.n rp.c,.bool rp.t,.slice rp.b rp.m rp.d] 56)∧Hid (IsRat wy rp.agg (Rat.divInt 1 (G:Nat)))∧Hid (Below w6.heap.size w6 wy)∧Hid (w6.heap.size≤gp))
          case first =>
           go_wp2_with fail
           go_region_held3 (fun w'=>w'.cell? ⟨U.heap.size,0,none⟩=some (.bool gs)∧w'.cell? ⟨U.heap.size,1,none⟩=some (.slice ge gn gm))
             (first | with_reducible exact (KT.out _ T2.out) | with_reducible exact (KT.out _ (T2.out.alloc T2.out.size _)) | with_reducible exact (KT.out _ T1.out) | with_reducible exact (KT.out _ (T1.out.alloc T1.out.size _)) | with_reducible exact (KT.out _ T00.out) | with_reducible exact (KT.out _ (T0.out.alloc T0.out.size _).drew) | with_reducible exact (KT.out _ (below_sets T2.out TL.out _ _ _ _ _ _ _ _)) | with_reducible exact (KT.out _ (below_sets (T2.out.alloc T2.out.size _) T2.out.size _ _ _ _ _ _ _ _)))
             (first
         | (have _g:=T1.out;clear _g;go_at_call 92;refine (Make_any _ _ 1 (G:Nat) _ (TV1.out.below (by first | with_reducible exact (Below.refl _ _) | with_reducible exact ((Below.refl _ _).alloc (Nat.le_refl _) _))) (HG6.out.below (by first | with_reducible exact T1.out | with_reducible exact (T1.out.alloc T1.out.size _))) one_small SG6.out GP6.out).mono ?_;rintro e t2 ⟨⟨q2_,rfl,hq2⟩,hb2⟩
            have T2:=Lib.hid (show Below w6.heap.size w6 t2 from by first | with_reducible exact below_call T1.out hb2 (Nat.le_refl _) | with_reducible exact below_call (T1.out.alloc T1.out.size _) hb2 (Nat.le_refl _))
            have TX2:=Lib.hid (show Below t1.heap.size t1 t2 from by first | with_reducible exact below_call (Below.refl _ _) hb2 (Nat.le_refl _) | with_reducible exact below_call ((Below.refl _ _).alloc (Nat.le_refl _) _) hb2 (Nat.le_refl _))
            have TV2:=Lib.hid hq2
            obtain ⟨pt,rfl,hpt⟩:=hq2.rcv
            have TV:=Lib.hid hpt
            first
              | (have TB:=Lib.hid (show Box t2 _ _ _ from by with_reducible exact TB.out.below hb2 TB.out.lt))
              | (have TB:=Lib.hid (show Box t2 _ #[.bool false,.slice none 0 0,.bool false,.slice none 0 0] 56 from by with_reducible exact (Box.new _ _ _ _ rfl).below hb2 (Box.new _ _ _ _ rfl).lt)
                 have TL:=Lib.hid T1.out.size)
              | skip
            try have ne1:=Nat.ne_of_lt TB.out.lt
            try have ne2:=ne1.symm
            try obtain ⟨n0,n1,n2,n3,n4,n5,n6,n7⟩:=TB.out.four
            clear hb2)
         | (go_at_call 72;refine (From_any 1 _ (by omega) (by omega)).mono ?_;rintro e t1 ⟨⟨q1_,rfl,hq1⟩,hb1⟩
            have T1:=Lib.hid (show Below w6.heap.size w6 t1 from by first | with_reducible exact below_call T00.out hb1 (Nat.le_refl _) | with_reducible exact below_call (T0.out.alloc T0.out.size _).drew hb1 (Nat.le_refl _))
            have TX1:=Lib.hid (show Below w6.heap.size w6 t1 from by first | with_reducible exact below_call (Below.refl _ _).drew hb1 (Nat.le_refl _) | with_reducible exact below_call ((Below.refl _ _).alloc (Nat.le_refl _) _).drew hb1 (Nat.le_refl _))
            have TV1:=Lib.hid hq1
            first
              | (have TB:=Lib.hid (show Box t1 _ #[.bool false,.slice none 0 0,.bool false,.slice none 0 0] 56 from by with_reducible exact (Box.new _ _ _ _ rfl).drew.below hb1 (Box.new _ _ _ _ rfl).drew.lt)
                 have TL:=Lib.hid T0.out.size)
              | skip
            try have ne1:=Nat.ne_of_lt TB.out.lt
            try have ne2:=ne1.symm
            try obtain ⟨n0,n1,n2,n3,n4,n5,n6,n7⟩:=TB.out.four
            clear hb1))
           all_goals
            go_wp2_with fail
            go_meet
           all_goals first
            | (with_reducible exact ⟨_,pt,rfl,Lib.hid (Box.new _ _ _ _ rfl),Lib.hid (TV.out.below ((Below.refl _ _).alloc (Nat.le_refl _) _)),Lib.hid (T2.out.alloc T2.out.size _),Lib.hid T2.out.size⟩)
            | (with_reducible exact ⟨_,pt,rfl,Lib.hid (TB.out.set4 _ _ _ _),Lib.hid (TV.out.store4 TB.out _ _ _ _),Lib.hid (below_sets T2.out TL.out _ _ _ _ _ _ _ _),Lib.hid TL.out⟩)
          case rest =>
          obtain ⟨gp,rp,rfl,hpb,hpi,hbp,hpl⟩:=hcut
          clear hf1 KT T0 T00
          have L8:=Lib.hid (below_call L7.out hbp.out (by have:=L7.out.size;omega))
          have gB7:=B7.out.lt
          have gC7:=C7.out.lt
          have B8:=Lib.hid (B7.out.below hbp.out gB7)
          have C8:=Lib.hid (C7.out.below hbp.out gC7)
          have HSC:=Lib.hid (VScale_any _ rp.agg aw (Rat.divInt 1 (G:Nat)) (4*k+1) (4*k+1) wc (R7.out.below hbp.out) hpi.out BP.out HBAW.out (by omega))
          obtain ⟨⟨x0,x1,x2,x3⟩,-⟩:=B8.out.p0
          obtain ⟨⟨x4,x5,x6,x7⟩,-⟩:=B8.out.p1
          obtain ⟨⟨x8,x9,x10,x11⟩,-⟩:=B8.out.p2
          obtain ⟨y0,y1,y2,y3,-⟩:=hpb.out.four
          unfold RC.agg at HSC
          go_wp2_with fail
          refine HSC.out.mono ?_
          rintro e w9 ⟨⟨v9,rfl,hv9⟩,hb9⟩
          obtain ⟨t0,t1,t2,rfl,ht⟩:=hv9.rcv
          have T9:=Lib.hid ht
          have gC8:=C8.out.lt
          have L9:=Lib.hid (below_call L8.out hb9 (by have:=L8.out.size;omega))
          have C9:=Lib.hid (C8.out.below hb9 gC8)
          obtain ⟨⟨x0,x1,x2,x3⟩,f0,f1,f2,f3⟩:=C9.out.p0
          obtain ⟨⟨x4,x5,x6,x7⟩,f4,f5,f6,f7⟩:=C9.out.p1
          obtain ⟨⟨x8,x9,x10,x11⟩,f8,f9,f10,f11⟩:=C9.out.p2
          clear hv9 ht hb9
          go_wp2
          refine ret_box1 Tryz.results42 (w.heap.size+1) (C9.out.s12 t0 t1 t2) _ rfl Tryz.underlying58 rfl infoVec rfl
            ⟨⟨_,rfl,?_⟩,below_put12 L9.out (by omega) _ _ _⟩
          have e:primQ a=⟨Rat.divInt 1 (G:Nat)*aw.x,Rat.divInt 1 (G:Nat)*aw.y,Rat.divInt 1 (G:Nat)*aw.z⟩:=by
            unfold primQ
            rw [HDEQ.out,HAW.out,HGEQ.out,← HAW.out]
          rw [e]
          exact T9.out.put12 C9.out _ _ _
        have hi3:i<3:=by omega
        have hlt:(i:Int)<3:=by omega
        have HI3:=Lib.hid hi3
        clear h3
        go_upto_region 15 with fail
        go_cut [14,50] (fun pv iv wx=>iv=.int .i64 (i:Nat)∧∃ (gx2:Nat) (rr:RC),pv=.pointer (some ⟨gx2,0,none⟩)∧Hid (Box wx gx2 #[.bool rr.s,.slice rr.a rr.n rr.c,.bool rr.t,.slice rr.b rr.m rr.d] 56)∧Hid (IsRat wx rr.agg (aw.at i))∧Hid (Below w6.heap.size w6 wx)∧Hid (w6.heap.size≤gx2))
        case first =>
          have hwx:∀ o,Below U.heap.size U (w6.alloc o):=fun o=>below_call HR6.out ((Below.refl w6.heap.size w6).alloc (Nat.le_refl _) o) (by omega)
          have HWX:=Lib.hid hwx
          obtain ⟨t0,t1,t2,te,hT0,hT1,hT2⟩:=R6.out
          have HT:=Lib.hid (cells3_inj te)
          have HT0:=Lib.hid (show IsRat U r0.agg aw.x from by rw [HT.out.1];exact hT0)
          have HT1:=Lib.hid (show IsRat U r1.agg aw.y from by rw [HT.out.2.1];exact hT1)
          have HT2:=Lib.hid (show IsRat U r2.agg aw.z from by rw [HT.out.2.2];exact hT2)
          clear hwx te hT0 hT1 hT2
          obtain rfl | rfl | rfl:i=0∨i=1∨i=2:=by omega
          · go_wp2_with fail
            go_meet
            exact ⟨rfl,_,r0,rfl,Box.new _ _ _ _ rfl,HT0.out.below (HWX.out _),(Below.refl _ _).alloc (Nat.le_refl _) _,Nat.le_refl _⟩
          · go_wp2_with fail
            go_meet
            exact ⟨rfl,_,r1,rfl,Box.new _ _ _ _ rfl,HT1.out.below (HWX.out _),(Below.refl _ _).alloc (Nat.le_refl _) _,Nat.le_refl _⟩
          · go_wp2_with fail
            go_meet
            exact ⟨rfl,_,r2,rfl,Box.new _ _ _ _ rfl,HT2.out.below (HWX.out _),(Below.refl _ _).alloc (Nat.le_refl _) _,Nat.le_refl _⟩
        case rest =>
        obtain ⟨rfl,gx2,rr,rfl,hxb,hxi,hbx,hxl⟩:=hcut
        have GB:=Lib.hid (HGB.out.below hbx.out HGB.out.lt)
        have GI:=Lib.hid (HGI.out.below hbx.out)
        have HX:=Lib.hid hxi.out
        have SN:Hid (Small (aw.at i).num):=⟨4*k+1,by omega,(Bd.at HBAW.out i).1⟩
        have SG:Hid (Small ((gcdQ aw i:Nat):Int)):=⟨4*k+1,by omega,gcdQ_lt HBAW.out i⟩
        have M0:=Lib.hid (Below.refl wc.heap.size wc)
        have M00:Hid (Below wc.heap.size wc wc.drew):=M0.out.drew
        obtain ⟨z0,z1,z2,z3⟩:=GB.out.two
        obtain ⟨x0,x1,x2,x3,-⟩:=hxb.out.four
        unfold RC.agg at HX
        go_upto_region 16 with fail
        go_wp2_with fail
        go_region_with (first
          | (have _g:=M1.out;clear _g;go_at_call 91;refine (Gcd_any _ _ (gcdQ aw i:Nat) (aw.at i).num _ (GI.out.below M1.out) U1.out SG.out SN.out).mono ?_;rintro e y6 ⟨⟨u6,rfl,hu6⟩,hb6⟩
             have M2:Hid (Below wc.heap.size wc y6):=below_call M1.out hb6 (Nat.le_refl _)
             have U2:=Lib.hid hu6
             obtain ⟨ts,te,tn,tm,td,rfl,-⟩:=hu6
             obtain ⟨z0,z1,z2,z3⟩:=(GB.out.below M2.out GB.out.lt).two
             clear hb6)
          | (go_at_call 93;refine (Num_any _ (aw.at i) _ (HX.out.below M00.out)).mono ?_;rintro e y5 ⟨⟨u5,rfl,hu5⟩,hb5⟩
             have M1:Hid (Below wc.heap.size wc y5):=below_call M00.out hb5 (Nat.le_refl _)
             have U1:=Lib.hid hu5
             obtain ⟨z0,z1,z2,z3⟩:=(GB.out.below M1.out GB.out.lt).two
             clear hb5))
        all_goals
          have GB3:=Lib.hid (GB.out.below M2.out GB.out.lt)
          have hbe:Below U.heap.size U y6:=below_call (below_call HR6.out hbx.out (by omega)) M2.out (by omega)
          have HBE:=Lib.hid hbe
          clear hbe
          go_wp2
          go_round
          case rel=>exact ⟨i+1,by have:=HI3.out;omega,rfl,ts,te,tn,tm,GB3.out.set2 _ _,U2.out.store2 GB3.out _ _,below_set2 HBE.out (Nat.le_refl _) _ _⟩
          case measure=>show 3 - ((i:Int)+1).toNat<3 - (i:Int).toNat;have:=HI3.out;omega
    have hi3:i<3:=by omega
    have hlt:(i:Int)<3:=by omega
    have HI3:=Lib.hid hi3
    clear h3
    go_upto_region 6 with fail
    go_cut [6,22] (fun pv iv wx=>iv=.int .i64 (i:Nat)∧∃ (gx:Nat) (r:RC),pv=.pointer (some ⟨gx,0,none⟩)∧Hid (Box wx gx #[.bool r.s,.slice r.a r.n r.c,.bool r.t,.slice r.b r.m r.d] 56)∧Hid (IsRat wx r.agg (a.at i))∧Hid (Below w3.heap.size w3 wx)∧Hid (w3.heap.size≤gx))
    case first =>
      have hb:=Lib.hid (below_call (below_call L2.out HR.out (by have:=G2.out;omega)) ((Below.refl w3.heap.size w3).alloc (Nat.le_refl _) (.cells #[] 0)) (by have:=L2.out.size;omega))
      have hwx:∀ o,Below w.heap.size w (w3.alloc o):=fun o=>below_call (below_call L2.out HR.out (by have:=G2.out;omega)) ((Below.refl w3.heap.size w3).alloc (Nat.le_refl _) o) (by have:=L2.out.size;omega)
      have HWX:=Lib.hid hwx
      clear hwx hb
      obtain rfl | rfl | rfl:i=0∨i=1∨i=2:=by omega
      · go_wp2_with fail
        go_meet
        exact ⟨rfl,_,a0,rfl,Box.new _ _ _ _ rfl,HAX.out.below (HWX.out _),(Below.refl _ _).alloc (Nat.le_refl _) _,Nat.le_refl _⟩
      · go_wp2_with fail
        go_meet
        exact ⟨rfl,_,a1,rfl,Box.new _ _ _ _ rfl,HAY.out.below (HWX.out _),(Below.refl _ _).alloc (Nat.le_refl _) _,Nat.le_refl _⟩
      · go_wp2_with fail
        go_meet
        exact ⟨rfl,_,a2,rfl,Box.new _ _ _ _ rfl,HAZ.out.below (HWX.out _),(Below.refl _ _).alloc (Nat.le_refl _) _,Nat.le_refl _⟩
    case rest =>
    obtain ⟨rfl,gx,r,rfl,hxb,hxi,hbx,hxl⟩:=hcut
    obtain ⟨hDp,hDs⟩:=denQ_spec HK.out i (by omega)
    obtain ⟨D,hD⟩:∃ D,denQ a i=D:=⟨_,rfl⟩
    rw [hD] at hDp hDs
    have HDEQ:=Lib.hid hD
    have BX:=Lib.hid (Bd.at HK.out i)
    obtain ⟨x,hx⟩:∃ x,a.at i=x:=⟨_,rfl⟩
    rw [hx] at BX
    have HXEQ:=Lib.hid hx
    obtain ⟨d,hd⟩:∃ d:Nat,x.den=d:=⟨_,rfl⟩
    have HDE:=Lib.hid hd
    have hdp:0<d:=by rw [← hd];exact x.den_pos
    have hik:i*k≤3*10000:=Nat.mul_le_mul (by omega) hk2
    have SD:Hid (Small D):=⟨i*k+1,by omega,hDs⟩
    have SDD:Hid (Small (d:Int)):=⟨k,by omega,by rw [← hd];exact BX.out.2⟩
    have hgp:0<Int.gcd D d:=Int.gcd_pos_of_ne_zero_left _ (by omega)
    have hgle:Int.gcd D d≤D.natAbs:=Nat.le_of_dvd (by omega) (Int.gcd_dvd_natAbs_left ..)
    have SG:Hid (Small ((Int.gcd D d:Nat):Int)):=⟨i*k+1,by omega,by show Int.gcd D d<_;omega⟩
    have GP:Hid (0<((Int.gcd D d:Nat):Int)):=by show (0:Int)<_;omega
    have GD:Hid (((Int.gcd D d:Nat):Int) ∣ D):=Int.gcd_dvd_left ..
    have HD:=Lib.hid (show IsInt wc (.agg #[.bool s3,.slice e3 n3 m3]) D from by rw [← hD];exact HDI.out.below hbx.out)
    have HX:=Lib.hid (show IsRat wc r.agg x from by rw [← hx];exact hxi.out)
    have DB:=Lib.hid (HDB.out.below hbx.out HDB.out.lt)
    clear hD hx hDp hDs hd hik hgp hgle hdp
    have KP:Hid (∀ w',Below wc.heap.size wc w'→w'.cell? ⟨w2.heap.size,0,none⟩=some (.bool s3)∧w'.cell? ⟨w2.heap.size,1,none⟩=some (.slice e3 n3 m3)∧w'.cell? ⟨gx,0,none⟩=some (.bool r.s)∧w'.cell? ⟨gx,1,none⟩=some (.slice r.a r.n r.c)∧w'.cell? ⟨gx,2,none⟩=some (.bool r.t)∧w'.cell? ⟨gx,3,none⟩=some (.slice r.b r.m r.d)):=fun w' h=>by
      obtain ⟨p0,p1,-,-⟩:=(DB.out.below h DB.out.lt).two
      obtain ⟨q0,q1,q2,q3,-⟩:=(hxb.out.below h hxb.out.lt).four
      exact ⟨p0,p1,q0,q1,q2,q3⟩
    have M0:=Lib.hid (Below.refl wc.heap.size wc)
    have M00:Hid (Below wc.heap.size wc wc.drew):=M0.out.drew
    have hf1:=KP.out _ M0.out
    unfold RC.agg at HX
    go_upto_region 7 with fail
    go_cut [6,7,22] (fun xv pv iv wy=>iv=.int .i64 (i:Nat)∧xv=.pointer (some ⟨gx,0,none⟩)∧∃ gq s e n m,pv=.pointer (some ⟨gq,0,none⟩)∧Hid (Box wy gq #[.bool s,.slice e n m] 54)∧Hid (IsInt wy (.agg #[.bool s,.slice e n m]) (D / (Int.gcd D d:Nat)))∧Hid (Below wc.heap.size wc wy)∧Hid (wc.heap.size≤gq))
    case first =>
      go_wp2_with fail
      go_region_held3 (fun w'=>w'.cell? ⟨w2.heap.size,0,none⟩=some (.bool s3)∧w'.cell? ⟨w2.heap.size,1,none⟩=some (.slice e3 n3 m3)∧w'.cell? ⟨gx,0,none⟩=some (.bool r.s)∧w'.cell? ⟨gx,1,none⟩=some (.slice r.a r.n r.c)∧w'.cell? ⟨gx,2,none⟩=some (.bool r.t)∧w'.cell? ⟨gx,3,none⟩=some (.slice r.b r.m r.d))
        (first | with_reducible exact (KP.out _ M3.out) | with_reducible exact (KP.out _ (M3.out.alloc M3.out.size _)) | with_reducible exact (KP.out _ ((M3.out.alloc M3.out.size _).alloc (M3.out.alloc M3.out.size _).size _)) | with_reducible exact (KP.out _ M2.out) | with_reducible exact (KP.out _ (M2.out.alloc M2.out.size _)) | with_reducible exact (KP.out _ ((M2.out.alloc M2.out.size _).alloc (M2.out.alloc M2.out.size _).size _)) | with_reducible exact (KP.out _ M1.out) | with_reducible exact (KP.out _ (M1.out.alloc M1.out.size _)) | with_reducible exact (KP.out _ ((M1.out.alloc M1.out.size _).alloc (M1.out.alloc M1.out.size _).size _)) | with_reducible exact (KP.out _ M00.out) | with_reducible exact (KP.out _ (M0.out.alloc M0.out.size _).drew) | with_reducible exact (KP.out _ ((M0.out.alloc M0.out.size _).alloc (M0.out.alloc M0.out.size _).size _).drew) | with_reducible exact (KP.out _ (((M3.out).setCell NL1.out _).setCell NL1.out _)) | with_reducible exact (KP.out _ ((((M3.out).setCell NL1.out _).setCell NL1.out _).alloc (((M3.out).setCell NL1.out _).setCell NL1.out _).size _)) | with_reducible exact (KP.out _ (((M3.out).setCell NL2.out _).setCell NL2.out _)) | with_reducible exact (KP.out _ ((((M3.out).setCell NL2.out _).setCell NL2.out _).alloc (((M3.out).setCell NL2.out _).setCell NL2.out _).size _)) | with_reducible exact (KP.out _ (((M3.out).setCell M3.out.size _).setCell M3.out.size _)) | with_reducible exact (KP.out _ ((((M3.out).setCell M3.out.size _).setCell M3.out.size _).alloc (((M3.out).setCell M3.out.size _).setCell M3.out.size _).size _)) | with_reducible exact (KP.out _ (((M3.out).setCell (M3.out.alloc M3.out.size (.cells #[.bool false,.slice none 0 0] 54)).size _).setCell (M3.out.alloc M3.out.size (.cells #[.bool false,.slice none 0 0] 54)).size _)) | with_reducible exact (KP.out _ ((((M3.out).setCell (M3.out.alloc M3.out.size (.cells #[.bool false,.slice none 0 0] 54)).size _).setCell (M3.out.alloc M3.out.size (.cells #[.bool false,.slice none 0 0] 54)).size _).alloc (((M3.out).setCell (M3.out.alloc M3.out.size (.cells #[.bool false,.slice none 0 0] 54)).size _).setCell (M3.out.alloc M3.out.size (.cells #[.bool false,.slice none 0 0] 54)).size _).size _)) | with_reducible exact (KP.out _ (((M3.out.alloc M3.out.size _).setCell NL1.out _).setCell NL1.out _)) | with_reducible exact (KP.out _ ((((M3.out.alloc M3.out.size _).setCell NL1.out _).setCell NL1.out _).alloc (((M3.out.alloc M3.out.size _).setCell NL1.out _).setCell NL1.out _).size _)) | with_reducible exact (KP.out _ (((M3.out.alloc M3.out.size _).setCell NL2.out _).setCell NL2.out _)) | with_reducible exact (KP.out _ ((((M3.out.alloc M3.out.size _).setCell NL2.out _).setCell NL2.out _).alloc (((M3.out.alloc M3.out.size _).setCell NL2.out _).setCell NL2.out _).size _)) | with_reducible exact (KP.out _ (((M3.out.alloc M3.out.size _).setCell M3.out.size _).setCell M3.out.size _)) | with_reducible exact (KP.out _ ((((M3.out.alloc M3.out.size _).setCell M3.out.size _).setCell M3.out.size _).alloc (((M3.out.alloc M3.out.size _).setCell M3.out.size _).setCell M3.out.size _).size _)) | with_reducible exact (KP.out _ (((M3.out.alloc M3.out.size _).setCell (M3.out.alloc M3.out.size (.cells #[.bool false,.slice none 0 0] 54)).size _).setCell (M3.out.alloc M3.out.size (.cells #[.bool false,.slice none 0 0] 54)).size _)) | with_reducible exact (KP.out _ ((((M3.out.alloc M3.out.size _).setCell (M3.out.alloc M3.out.size (.cells #[.bool false,.slice none 0 0] 54)).size _).setCell (M3.out.alloc M3.out.size (.cells #[.bool false,.slice none 0 0] 54)).size _).alloc (((M3.out.alloc M3.out.size _).setCell (M3.out.alloc M3.out.size (.cells #[.bool false,.slice none 0 0] 54)).size _).setCell (M3.out.alloc M3.out.size (.cells #[.bool false,.slice none 0 0] 54)).size _).size _)) | with_reducible exact (KP.out _ ((((M3.out.alloc M3.out.size _).alloc (M3.out.alloc M3.out.size _).size _).setCell NL1.out _).setCell NL1.out _)) | with_reducible exact (KP.out _ (((((M3.out.alloc M3.out.size _).alloc (M3.out.alloc M3.out.size _).size _).setCell NL1.out _).setCell NL1.out _).alloc ((((M3.out.alloc M3.out.size _).alloc (M3.out.alloc M3.out.size _).size _).setCell NL1.out _).setCell NL1.out _).size _)) | with_reducible exact (KP.out _ ((((M3.out.alloc M3.out.size _).alloc (M3.out.alloc M3.out.size _).size _).setCell NL2.out _).setCell NL2.out _)) | with_reducible exact (KP.out _ (((((M3.out.alloc M3.out.size _).alloc (M3.out.alloc M3.out.size _).size _).setCell NL2.out _).setCell NL2.out _).alloc ((((M3.out.alloc M3.out.size _).alloc (M3.out.alloc M3.out.size _).size _).setCell NL2.out _).setCell NL2.out _).size _)) | with_reducible exact (KP.out _ ((((M3.out.alloc M3.out.size _).alloc (M3.out.alloc M3.out.size _).size _).setCell M3.out.size _).setCell M3.out.size _)) | with_reducible exact (KP.out _ (((((M3.out.alloc M3.out.size _).alloc (M3.out.alloc M3.out.size _).size _).setCell M3.out.size _).setCell M3.out.size _).alloc ((((M3.out.alloc M3.out.size _).alloc (M3.out.alloc M3.out.size _).size _).setCell M3.out.size _).setCell M3.out.size _).size _)) | with_reducible exact (KP.out _ ((((M3.out.alloc M3.out.size _).alloc (M3.out.alloc M3.out.size _).size _).setCell (M3.out.alloc M3.out.size (.cells #[.bool false,.slice none 0 0] 54)).size _).setCell (M3.out.alloc M3.out.size (.cells #[.bool false,.slice none 0 0] 54)).size _)) | with_reducible exact (KP.out _ (((((M3.out.alloc M3.out.size _).alloc (M3.out.alloc M3.out.size _).size _).setCell (M3.out.alloc M3.out.size (.cells #[.bool false,.slice none 0 0] 54)).size _).setCell (M3.out.alloc M3.out.size (.cells #[.bool false,.slice none 0 0] 54)).size _).alloc ((((M3.out.alloc M3.out.size _).alloc (M3.out.alloc M3.out.size _).size _).setCell (M3.out.alloc M3.out.size (.cells #[.bool false,.slice none 0 0] 54)).size _).setCell (M3.out.alloc M3.out.size (.cells #[.bool false,.slice none 0 0] 54)).size _).size _)) | with_reducible exact (KP.out _ (((((M3.out).setCell NL1.out _).setCell NL1.out _).setCell NL2.out _).setCell NL2.out _)) | with_reducible exact (KP.out _ (((((M3.out).setCell NL2.out _).setCell NL2.out _).setCell NL1.out _).setCell NL1.out _)) | with_reducible exact (KP.out _ (((((M3.out.alloc M3.out.size _).setCell NL1.out _).setCell NL1.out _).setCell M3.out.size _).setCell M3.out.size _)) | with_reducible exact (KP.out _ (((((M3.out.alloc M3.out.size _).setCell M3.out.size _).setCell M3.out.size _).setCell NL1.out _).setCell NL1.out _)) | with_reducible exact (KP.out _ (((((M3.out.alloc M3.out.size _).setCell NL1.out _).setCell NL1.out _).setCell NL2.out _).setCell NL2.out _)) | with_reducible exact (KP.out _ (((((M3.out.alloc M3.out.size _).setCell NL2.out _).setCell NL2.out _).setCell NL1.out _).setCell NL1.out _)) | with_reducible exact (KP.out _ ((((((M3.out.alloc M3.out.size _).alloc (M3.out.alloc M3.out.size _).size _).setCell NL1.out _).setCell NL1.out _).setCell M3.out.size _).setCell M3.out.size _)) | with_reducible exact (KP.out _ ((((((M3.out.alloc M3.out.size _).alloc (M3.out.alloc M3.out.size _).size _).setCell M3.out.size _).setCell M3.out.size _).setCell NL1.out _).setCell NL1.out _)) | with_reducible exact (KP.out _ ((((((M3.out.alloc M3.out.size _).alloc (M3.out.alloc M3.out.size _).size _).setCell NL1.out _).setCell NL1.out _).setCell NL2.out _).setCell NL2.out _)) | with_reducible exact (KP.out _ ((((((M3.out.alloc M3.out.size _).alloc (M3.out.alloc M3.out.size _).size _).setCell NL2.out _).setCell NL2.out _).setCell NL1.out _).setCell NL1.out _)))
        (first
        | (have _g:=M2.out;clear _g;go_at_call 90;refine (DivMod_full _ _ D (Int.gcd D d:Nat) _ (HD.out.below (by first | with_reducible exact M2.out | with_reducible exact (M2.out.alloc M2.out.size _) | with_reducible exact ((M2.out.alloc M2.out.size _).alloc (M2.out.alloc M2.out.size _).size _))) (V2.out.below (by first | with_reducible exact (Below.refl _ _) | with_reducible exact ((Below.refl _ _).alloc (Nat.le_refl _) _) | with_reducible exact (((Below.refl _ _).alloc (Nat.le_refl _) _).alloc ((Below.refl _ _).alloc (Nat.le_refl _) _).size _))) SD.out SG.out GP.out GD.out).mono ?_;rintro e v3_ ⟨⟨v3,q1,q2,q3,q4,rfl,hv3⟩,hb3⟩
           have M3:=Lib.hid (show Below wc.heap.size wc v3_ from by first | with_reducible exact below_call M2.out hb3 (Nat.le_refl _) | with_reducible exact below_call (M2.out.alloc M2.out.size _) hb3 (Nat.le_refl _) | with_reducible exact below_call ((M2.out.alloc M2.out.size _).alloc (M2.out.alloc M2.out.size _).size _) hb3 (Nat.le_refl _))
           have X3:=Lib.hid (show Below v2.heap.size v2 v3_ from by first | with_reducible exact below_call (Below.refl _ _) hb3 (Nat.le_refl _) | with_reducible exact below_call ((Below.refl _ _).alloc (Nat.le_refl _) _) hb3 (Nat.le_refl _) | with_reducible exact below_call (((Below.refl _ _).alloc (Nat.le_refl _) _).alloc ((Below.refl _ _).alloc (Nat.le_refl _) _).size _) hb3 (Nat.le_refl _))
           have V3:=Lib.hid hv3
           obtain ⟨qs,qe,qn,qm,qd,rfl,-⟩:=hv3
           first
             | (have NB1:=Lib.hid (show Box v3_ _ _ _ from by with_reducible exact NB1.out.below hb3 NB1.out.lt)
                have NB2:=Lib.hid (show Box v3_ _ _ _ from by with_reducible exact NB2.out.below hb3 NB2.out.lt))
             | (have ne3:=Nat.ne_of_lt NB1.out.lt
                have ne4:=ne3.symm
                have NB2:=Lib.hid (show Box v3_ _ #[.bool false,.slice none 0 0] 54 from by with_reducible exact (Box.new _ _ _ _ rfl).below hb3 (Box.new _ _ _ _ rfl).lt)
                have NB1:=Lib.hid (show Box v3_ _ _ _ from by with_reducible exact (NB1.out.old _).below hb3 (NB1.out.old _).lt)
                have NL2:=Lib.hid M2.out.size)
             | (have NB1:=Lib.hid (show Box v3_ _ _ _ from by with_reducible exact NB1.out.below hb3 NB1.out.lt))
             | (have NB2:=Lib.hid (show Box v3_ (v2.heap.size+1) #[.bool false,.slice none 0 0] 54 from by with_reducible exact (Box.new _ _ _ (v2.heap.size+1) (by simp)).below hb3 (Box.new _ _ _ (v2.heap.size+1) (by simp)).lt)
                have NB1:=Lib.hid (show Box v3_ _ #[.bool false,.slice none 0 0] 54 from by with_reducible exact ((Box.new _ _ _ _ rfl).old _).below hb3 ((Box.new _ _ _ _ rfl).old _).lt)
                have NL1:=Lib.hid M2.out.size
                have NL2:=Lib.hid (show wc.heap.size≤v2.heap.size+1 from by have:=M2.out.size;omega))
             | (have NB1:=Lib.hid (show Box v3_ _ #[.bool false,.slice none 0 0] 54 from by with_reducible exact (Box.new _ _ _ _ rfl).below hb3 (Box.new _ _ _ _ rfl).lt)
                have NL1:=Lib.hid M2.out.size)
             | skip
           try have ne1:=Nat.ne_of_lt NB1.out.lt
           try have ne2:=ne1.symm
           try obtain ⟨n0,n1,n2,n3⟩:=NB1.out.two
           try have nold:=fun o=>(NB1.out.old o).two
           try obtain ⟨m0,m1,m2,m3⟩:=NB2.out.two
           clear hb3)
        | (have _g:=M1.out;clear _g;go_at_call 91;refine (Gcd_any _ _ D d _ (HD.out.below (by first | with_reducible exact M1.out | with_reducible exact (M1.out.alloc M1.out.size _) | with_reducible exact ((M1.out.alloc M1.out.size _).alloc (M1.out.alloc M1.out.size _).size _))) (V1.out.below (by first | with_reducible exact (Below.refl _ _) | with_reducible exact ((Below.refl _ _).alloc (Nat.le_refl _) _) | with_reducible exact (((Below.refl _ _).alloc (Nat.le_refl _) _).alloc ((Below.refl _ _).alloc (Nat.le_refl _) _).size _))) SD.out SDD.out).mono ?_;rintro e v2 ⟨⟨v2_,rfl,hv2⟩,hb2⟩
           have M2:=Lib.hid (show Below wc.heap.size wc v2 from by first | with_reducible exact below_call M1.out hb2 (Nat.le_refl _) | with_reducible exact below_call (M1.out.alloc M1.out.size _) hb2 (Nat.le_refl _) | with_reducible exact below_call ((M1.out.alloc M1.out.size _).alloc (M1.out.alloc M1.out.size _).size _) hb2 (Nat.le_refl _))
           have X2:=Lib.hid (show Below v1.heap.size v1 v2 from by first | with_reducible exact below_call (Below.refl _ _) hb2 (Nat.le_refl _) | with_reducible exact below_call ((Below.refl _ _).alloc (Nat.le_refl _) _) hb2 (Nat.le_refl _) | with_reducible exact below_call (((Below.refl _ _).alloc (Nat.le_refl _) _).alloc ((Below.refl _ _).alloc (Nat.le_refl _) _).size _) hb2 (Nat.le_refl _))
           have V2:=Lib.hid hv2
           first
             | (have NB1:=Lib.hid (show Box v2 _ _ _ from by with_reducible exact NB1.out.below hb2 NB1.out.lt)
                have NB2:=Lib.hid (show Box v2 _ _ _ from by with_reducible exact NB2.out.below hb2 NB2.out.lt))
             | (have ne3:=Nat.ne_of_lt NB1.out.lt
                have ne4:=ne3.symm
                have NB2:=Lib.hid (show Box v2 _ #[.bool false,.slice none 0 0] 54 from by with_reducible exact (Box.new _ _ _ _ rfl).below hb2 (Box.new _ _ _ _ rfl).lt)
                have NB1:=Lib.hid (show Box v2 _ _ _ from by with_reducible exact (NB1.out.old _).below hb2 (NB1.out.old _).lt)
                have NL2:=Lib.hid M1.out.size)
             | (have NB1:=Lib.hid (show Box v2 _ _ _ from by with_reducible exact NB1.out.below hb2 NB1.out.lt))
             | (have NB2:=Lib.hid (show Box v2 (v1.heap.size+1) #[.bool false,.slice none 0 0] 54 from by with_reducible exact (Box.new _ _ _ (v1.heap.size+1) (by simp)).below hb2 (Box.new _ _ _ (v1.heap.size+1) (by simp)).lt)
                have NB1:=Lib.hid (show Box v2 _ #[.bool false,.slice none 0 0] 54 from by with_reducible exact ((Box.new _ _ _ _ rfl).old _).below hb2 ((Box.new _ _ _ _ rfl).old _).lt)
                have NL1:=Lib.hid M1.out.size
                have NL2:=Lib.hid (show wc.heap.size≤v1.heap.size+1 from by have:=M1.out.size;omega))
             | (have NB1:=Lib.hid (show Box v2 _ #[.bool false,.slice none 0 0] 54 from by with_reducible exact (Box.new _ _ _ _ rfl).below hb2 (Box.new _ _ _ _ rfl).lt)
                have NL1:=Lib.hid M1.out.size)
             | skip
           try have ne1:=Nat.ne_of_lt NB1.out.lt
           try have ne2:=ne1.symm
           try obtain ⟨n0,n1,n2,n3⟩:=NB1.out.two
           try have nold:=fun o=>(NB1.out.old o).two
           try obtain ⟨m0,m1,m2,m3⟩:=NB2.out.two
           clear hb2)
        | (go_at_call 71;refine (Den_any r.agg _ k _ (HX.out.below (by first | with_reducible exact M00.out | with_reducible exact (M0.out.alloc M0.out.size _).drew | with_reducible exact ((M0.out.alloc M0.out.size _).alloc (M0.out.alloc M0.out.size _).size _).drew)) BX.out (by omega)).mono ?_;rw [HDE.out];rintro e v1 ⟨⟨v1_,rfl,hv1⟩,hb1⟩
           have M1:=Lib.hid (show Below wc.heap.size wc v1 from by first | with_reducible exact below_call M00.out hb1 (Nat.le_refl _) | with_reducible exact below_call (M0.out.alloc M0.out.size _).drew hb1 (Nat.le_refl _) | with_reducible exact below_call ((M0.out.alloc M0.out.size _).alloc (M0.out.alloc M0.out.size _).size _).drew hb1 (Nat.le_refl _))
           have X1:=Lib.hid (show Below wc.heap.size wc v1 from by first | with_reducible exact below_call (Below.refl _ _).drew hb1 (Nat.le_refl _) | with_reducible exact below_call ((Below.refl _ _).alloc (Nat.le_refl _) _).drew hb1 (Nat.le_refl _) | with_reducible exact below_call (((Below.refl _ _).alloc (Nat.le_refl _) _).alloc ((Below.refl _ _).alloc (Nat.le_refl _) _).size _).drew hb1 (Nat.le_refl _))
           have V1:=Lib.hid hv1
           first
             | (have NB2:=Lib.hid (show Box v1 (wc.heap.size+1) #[.bool false,.slice none 0 0] 54 from by with_reducible exact (Box.new _ _ _ (wc.heap.size+1) (by simp)).drew.below hb1 (Box.new _ _ _ (wc.heap.size+1) (by simp)).drew.lt)
                have NB1:=Lib.hid (show Box v1 _ #[.bool false,.slice none 0 0] 54 from by with_reducible exact ((Box.new _ _ _ _ rfl).old _).drew.below hb1 ((Box.new _ _ _ _ rfl).old _).drew.lt)
                have NL1:=Lib.hid M0.out.size
                have NL2:=Lib.hid (show wc.heap.size≤wc.heap.size+1 from by have:=M0.out.size;omega))
             | (have NB1:=Lib.hid (show Box v1 _ #[.bool false,.slice none 0 0] 54 from by with_reducible exact (Box.new _ _ _ _ rfl).drew.below hb1 (Box.new _ _ _ _ rfl).drew.lt)
                have NL1:=Lib.hid M0.out.size)
             | skip
           try have ne1:=Nat.ne_of_lt NB1.out.lt
           try have ne2:=ne1.symm
           try obtain ⟨n0,n1,n2,n3⟩:=NB1.out.two
           try have nold:=fun o=>(NB1.out.old o).two
           try obtain ⟨m0,m1,m2,m3⟩:=NB2.out.two
           clear hb1))
      all_goals
        go_wp2_with fail
        go_meet
      all_goals first
        | (with_reducible exact ⟨rfl,rfl,_,_,_,_,_,rfl,Lib.hid ((Box.new _ _ _ _ rfl).old _),Lib.hid (V3.out.below (((Below.refl _ _).alloc (Nat.le_refl _) _).alloc ((Below.refl _ _).alloc (Nat.le_refl _) _).size _)),Lib.hid ((M3.out.alloc M3.out.size _).alloc (M3.out.alloc M3.out.size _).size _),Lib.hid M3.out.size⟩)
        | (with_reducible exact ⟨rfl,rfl,_,_,_,_,_,rfl,Lib.hid (Box.new _ _ _ _ (by simp)),Lib.hid (V3.out.below (((Below.refl _ _).alloc (Nat.le_refl _) _).alloc ((Below.refl _ _).alloc (Nat.le_refl _) _).size _)),Lib.hid ((M3.out.alloc M3.out.size _).alloc (M3.out.alloc M3.out.size _).size _),Lib.hid (Nat.le_succ_of_le M3.out.size)⟩)
        | (with_reducible exact ⟨rfl,rfl,_,_,_,_,_,rfl,Lib.hid (((NB1.out.old _).set2 _ _).other2 (by first | assumption | (apply Ne.symm;assumption) | omega) _ _),Lib.hid (((V3.out.below ((Below.refl _ _).alloc (Nat.le_refl _) _)).store2 (NB1.out.old _) _ _).store2 ((Box.new _ _ _ _ rfl).other2 (by first | assumption | (apply Ne.symm;assumption) | omega) _ _) _ _),Lib.hid (below_set2 (below_set2 (M3.out.alloc M3.out.size _) NL1.out _ _) M3.out.size _ _),Lib.hid NL1.out⟩)
        | (with_reducible exact ⟨rfl,rfl,_,_,_,_,_,rfl,Lib.hid ((NB1.out.set2 _ _).other2 (by first | assumption | (apply Ne.symm;assumption) | omega) _ _),Lib.hid ((V3.out.store2 NB1.out _ _).store2 (NB2.out.other2 (by first | assumption | (apply Ne.symm;assumption) | omega) _ _) _ _),Lib.hid (below_set2 (below_set2 M3.out NL1.out _ _) NL2.out _ _),Lib.hid NL1.out⟩)
        | (with_reducible exact ⟨rfl,rfl,_,_,_,_,_,rfl,Lib.hid ((NB2.out.set2 _ _).other2 (by first | assumption | (apply Ne.symm;assumption) | omega) _ _),Lib.hid ((V3.out.store2 NB2.out _ _).store2 (NB1.out.other2 (by first | assumption | (apply Ne.symm;assumption) | omega) _ _) _ _),Lib.hid (below_set2 (below_set2 M3.out NL2.out _ _) NL1.out _ _),Lib.hid NL2.out⟩)
        | (with_reducible exact ⟨rfl,rfl,_,_,_,_,_,rfl,Lib.hid ((Box.new _ _ _ _ rfl).other2 (by first | assumption | (apply Ne.symm;assumption) | omega) _ _),Lib.hid ((V3.out.below ((Below.refl _ _).alloc (Nat.le_refl _) _)).store2 (NB1.out.old _) _ _),Lib.hid (below_set2 (M3.out.alloc M3.out.size _) NL1.out _ _),Lib.hid M3.out.size⟩)
    case rest =>
    clear hf1 KP M0 M00
    obtain ⟨rfl,rfl,gq,qs,qe,qn,qm,rfl,hqb,hqi,hbq,hql⟩:=hcut
    have XB:=Lib.hid (hxb.out.below hbq.out hxb.out.lt)
    have DB2:=Lib.hid (DB.out.below hbq.out DB.out.lt)
    have HX2:=Lib.hid (HX.out.below hbq.out)
    have G3:Hid (w2.heap.size<w3.heap.size):=HDB.out.lt
    have nq:gq≠w2.heap.size:=by have:=hql.out;have:=hbx.out.size;have:=G3.out;omega
    have nx:gx≠w2.heap.size:=by have:=hxl.out;have:=G3.out;omega
    have NQ:=Lib.hid nq
    have NX:=Lib.hid nx
    clear nq nx
    have KQ:Hid (∀ w',Below wc.heap.size wc w'→w'.cell? ⟨gq,0,none⟩=some (.bool qs)∧w'.cell? ⟨gq,1,none⟩=some (.slice qe qn qm)∧w'.cell? ⟨gx,0,none⟩=some (.bool r.s)∧w'.cell? ⟨gx,1,none⟩=some (.slice r.a r.n r.c)∧w'.cell? ⟨gx,2,none⟩=some (.bool r.t)∧w'.cell? ⟨gx,3,none⟩=some (.slice r.b r.m r.d)):=fun w' h=>by
      obtain ⟨p0,p1,-,-⟩:=(hqb.out.below h hqb.out.lt).two
      obtain ⟨q0,q1,q2,q3,-⟩:=(XB.out.below h XB.out.lt).four
      exact ⟨p0,p1,q0,q1,q2,q3⟩
    have N0:Hid (Below wc.heap.size wc wc.drew):=(Below.refl _ _).drew
    have hf2:=KQ.out _ (Below.refl _ _)
    have SQ:Hid (Small (D / (Int.gcd D d:Nat))):=by
      obtain ⟨t,ht,hs⟩:=SD.out
      have hg:=GP.out
      refine ⟨t,ht,Nat.lt_of_le_of_lt ?_ hs⟩
      have hDp:0<D:=by rw [← HDEQ.out];exact (denQ_spec HK.out i (by have:=HI3.out;omega)).1
      have h1:=Int.ediv_le_self ((Int.gcd D d:Nat):Int) (a:=D) (by omega)
      have h2:=Int.ediv_nonneg (a:=D) (b:=((Int.gcd D d:Nat):Int)) (by omega) (by omega)
      omega
    go_upto_region 8 with fail
    go_wp2_with fail
    go_region_held3 (fun w'=>w'.cell? ⟨gq,0,none⟩=some (.bool qs)∧w'.cell? ⟨gq,1,none⟩=some (.slice qe qn qm)∧w'.cell? ⟨gx,0,none⟩=some (.bool r.s)∧w'.cell? ⟨gx,1,none⟩=some (.slice r.a r.n r.c)∧w'.cell? ⟨gx,2,none⟩=some (.bool r.t)∧w'.cell? ⟨gx,3,none⟩=some (.slice r.b r.m r.d))
      (first | with_reducible exact (KS.out) | with_reducible exact (KQ.out _ N2.out) | with_reducible exact (KQ.out _ N1.out) | with_reducible exact (KQ.out _ N0.out))
      (first
        | (have _g:=N1.out;clear _g;go_at_call 70;refine (Mul_any _ _ (D / (Int.gcd D d:Nat)) d _ (hqi.out.below N1.out) U1.out SQ.out SDD.out).mono ?_;rintro e y2 ⟨⟨u2,rfl,hu2⟩,hb2⟩
           have N2:Hid (Below wc.heap.size wc y2):=below_call N1.out hb2 (Nat.le_refl _)
           have U2:=Lib.hid hu2
           obtain ⟨ts,te,tn,tm,td,rfl,-⟩:=hu2
           have KS:Hid (((y2.setCell ⟨w2.heap.size,0,none⟩ (.bool ts)).setCell ⟨w2.heap.size,1,none⟩ (.slice te tn tm)).cell? ⟨gq,0,none⟩=some (.bool qs)∧((y2.setCell ⟨w2.heap.size,0,none⟩ (.bool ts)).setCell ⟨w2.heap.size,1,none⟩ (.slice te tn tm)).cell? ⟨gq,1,none⟩=some (.slice qe qn qm)∧((y2.setCell ⟨w2.heap.size,0,none⟩ (.bool ts)).setCell ⟨w2.heap.size,1,none⟩ (.slice te tn tm)).cell? ⟨gx,0,none⟩=some (.bool r.s)∧((y2.setCell ⟨w2.heap.size,0,none⟩ (.bool ts)).setCell ⟨w2.heap.size,1,none⟩ (.slice te tn tm)).cell? ⟨gx,1,none⟩=some (.slice r.a r.n r.c)∧((y2.setCell ⟨w2.heap.size,0,none⟩ (.bool ts)).setCell ⟨w2.heap.size,1,none⟩ (.slice te tn tm)).cell? ⟨gx,2,none⟩=some (.bool r.t)∧((y2.setCell ⟨w2.heap.size,0,none⟩ (.bool ts)).setCell ⟨w2.heap.size,1,none⟩ (.slice te tn tm)).cell? ⟨gx,3,none⟩=some (.slice r.b r.m r.d)):=by
             obtain ⟨p0,p1,-,-⟩:=((hqb.out.below N2.out hqb.out.lt).other2 (g':=w2.heap.size) (i:=0) (j:=1) NQ.out (.bool ts) (.slice te tn tm)).two
             obtain ⟨q0,q1,q2,q3,-⟩:=((XB.out.below N2.out XB.out.lt).other2 (g':=w2.heap.size) (i:=0) (j:=1) NX.out (.bool ts) (.slice te tn tm)).four
             exact ⟨p0,p1,q0,q1,q2,q3⟩
           obtain ⟨z0,z1,z2,z3⟩:=(DB2.out.below N2.out DB2.out.lt).two
           clear hb2)
        | (go_at_call 71;refine (Den_any _ _ k _ (HX2.out.below N0.out) BX.out (by omega)).mono ?_;rw [HDE.out];rintro e y1 ⟨⟨u1,rfl,hu1⟩,hb1⟩
           have N1:Hid (Below wc.heap.size wc y1):=below_call N0.out hb1 (Nat.le_refl _)
           have U1:=Lib.hid hu1
           clear hb1))
    clear hf2
    have DB3:=Lib.hid (DB2.out.below N2.out DB2.out.lt)
    have hbe:Below w2.heap.size w2 y2:=below_call (below_call (below_call HR.out hbx.out (by omega)) hbq.out (by omega)) N2.out (by omega)
    have HBE:=Lib.hid hbe
    clear hbe
    go_wp2
    go_round
    case rel=>exact ⟨i+1,by have:=HI3.out;omega,rfl,ts,te,tn,tm,DB3.out.set2 _ _,by
      show IsInt _ _ (lcmI (denQ a i) (a.at i).den)
      rw [HDEQ.out,HXEQ.out,HDE.out]
      exact U2.out.store2 DB3.out _ _,below_set2 HBE.out (Nat.le_refl _) _ _⟩
    case measure=>show 3 - ((i:Int)+1).toNat<3 - (i:Int).toNat;have:=HI3.out;omega
end Go.Proofs.YtaibkpbklfodiaaGreatDoor
end

/- Rationals with one denominator. -/
section
namespace Dowel
def Frac (d M:Nat) (q:Rat):Prop:=∃ z:Int,q*(d:Rat)=(z:Rat)∧z.natAbs≤M
theorem Frac.mono {d M M':Nat} {q:Rat} (h:Frac d M q) (hm:M≤M'):Frac d M' q:=by
 obtain ⟨z,h1,h2⟩:=h
 exact ⟨z,h1,Nat.le_trans h2 hm⟩
theorem Frac.zero (d:Nat):Frac d 0 0:=⟨0,by simp,by simp⟩
theorem Frac.add {d M M':Nat} {q r:Rat} (h:Frac d M q) (h':Frac d M' r):Frac d (M+M') (q+r):=by
 obtain ⟨z,h1,h2⟩:=h
 obtain ⟨y,h3,h4⟩:=h'
 exact ⟨z+y,by rw [Rat.add_mul,h1,h3,Rat.intCast_add],by omega⟩
theorem Frac.neg {d M:Nat} {q:Rat} (h:Frac d M q):Frac d M (-q):=by
 obtain ⟨z,h1,h2⟩:=h
 exact ⟨-z,by rw [Rat.neg_mul,h1,Rat.intCast_neg],by omega⟩
theorem Frac.sub {d M M':Nat} {q r:Rat} (h:Frac d M q) (h':Frac d M' r):Frac d (M+M') (q - r):=by
 rw [Rat.sub_eq_add_neg];exact h.add h'.neg
theorem Frac.mul {d d' M M':Nat} {q r:Rat} (h:Frac d M q) (h':Frac d' M' r):Frac (d*d') (M*M') (q*r):=by
 obtain ⟨z,h1,h2⟩:=h
 obtain ⟨y,h3,h4⟩:=h'
 refine ⟨z*y,?_,?_⟩
 ·rw [Rat.natCast_mul,Rat.intCast_mul,← h1,← h3]
  grind
 ·rw [Int.natAbs_mul];exact Nat.mul_le_mul h2 h4
theorem Frac.int (z:Int) (M:Nat) (h:z.natAbs≤M):Frac 1 M (z:Rat):=⟨z,by simp,h⟩
theorem Frac.bd {d M k:Nat} {q:Rat} (h:Frac d M q) (hd:0<d) (h1:M<B ^ k) (h2:d<B ^ k):Bd k q:=by
 obtain ⟨z,h3,h4⟩:=h
 have h0:(d:Rat)≠0:=fun e=>by
  have:d=0:=by exact_mod_cast e
  omega
 have e:q=Rat.divInt z (d:Int):=by
  rw [Rat.divInt_eq_div,← h3,Rat.div_def,Rat.mul_assoc,show ((d:Int):Rat)=(d:Rat) from rfl,Rat.mul_inv_cancel _ h0,Rat.mul_one]
 rw [e]
 exact bd_reduced (by omega) (by omega) (by omega)
def qsub (a b:Q3):Q3:=⟨a.x - b.x,a.y - b.y,a.z - b.z⟩
def qadd (a b:Q3):Q3:=⟨a.x+b.x,a.y+b.y,a.z+b.z⟩
def qscale (k:Rat) (a:Q3):Q3:=⟨k*a.x,k*a.y,k*a.z⟩
theorem BdV.qsub {k l:Nat} {a b:Q3} (h:BdV k a) (h':BdV l b):BdV (k+l+1) (qsub a b):=⟨h.1.sub h'.1,h.2.1.sub h'.2.1,h.2.2.sub h'.2.2⟩
theorem BdV.qadd {k l:Nat} {a b:Q3} (h:BdV k a) (h':BdV l b):BdV (k+l+1) (qadd a b):=⟨h.1.add h'.1,h.2.1.add h'.2.1,h.2.2.add h'.2.2⟩
theorem BdV.qscale {k l:Nat} {q:Rat} {a:Q3} (h:Bd k q) (h':BdV l a):BdV (k+l) (qscale q a):=⟨h.mul h'.1,h.mul h'.2.1,h.mul h'.2.2⟩
theorem BdV.mono {k l:Nat} {a:Q3} (h:BdV k a) (hl:k≤l):BdV l a:=⟨h.1.mono hl,h.2.1.mono hl,h.2.2.mono hl⟩
def FracV (d M:Nat) (q:Q3):Prop:=Frac d M q.x∧Frac d M q.y∧Frac d M q.z
theorem FracV.mono {d M M':Nat} {q:Q3} (h:FracV d M q) (hm:M≤M'):FracV d M' q:=⟨h.1.mono hm,h.2.1.mono hm,h.2.2.mono hm⟩
theorem FracV.qadd {d M M':Nat} {q r:Q3} (h:FracV d M q) (h':FracV d M' r):FracV d (M+M') (qadd q r):=⟨h.1.add h'.1,h.2.1.add h'.2.1,h.2.2.add h'.2.2⟩
theorem FracV.qsub {d M M':Nat} {q r:Q3} (h:FracV d M q) (h':FracV d M' r):FracV d (M+M') (qsub q r):=⟨h.1.sub h'.1,h.2.1.sub h'.2.1,h.2.2.sub h'.2.2⟩
theorem FracV.qscale {d d' M M':Nat} {k:Rat} {q:Q3} (h:Frac d M k) (h':FracV d' M' q):FracV (d*d') (M*M') (qscale k q):=⟨h.mul h'.1,h.mul h'.2.1,h.mul h'.2.2⟩
theorem FracV.cross {d d' M M':Nat} {q r:Q3} (h:FracV d M q) (h':FracV d' M' r):FracV (d*d') (2*(M*M')) (qcross q r):=by
 rw [Nat.two_mul]
 exact ⟨(h.2.1.mul h'.2.2).sub (h.2.2.mul h'.2.1),(h.2.2.mul h'.1).sub (h.1.mul h'.2.2),(h.1.mul h'.2.1).sub (h.2.1.mul h'.1)⟩
theorem FracV.dot {d d' M M':Nat} {q r:Q3} (h:FracV d M q) (h':FracV d' M' r):Frac (d*d') (3*(M*M')) (qdot q r):=by
 have:=((h.1.mul h'.1).add (h.2.1.mul h'.2.1)).add (h.2.2.mul h'.2.2)
 rw [show M*M'+M*M'+M*M'=3*(M*M') by omega] at this
 exact this
theorem FracV.bd {d M k:Nat} {q:Q3} (h:FracV d M q) (hd:0<d) (h1:M<B ^ k) (h2:d<B ^ k):BdV k q:=⟨h.1.bd hd h1 h2,h.2.1.bd hd h1 h2,h.2.2.bd hd h1 h2⟩
def pieceD (t a b c:Q3):Rat:=qdot (qsub a t) (qcross (qsub b t) (qsub c t))
def pieceC (t a b c:Q3):Q3:=qadd (qadd a b) (qadd c t)
theorem pieceD_frac {d M:Nat} {t a b c:Q3} (ht:FracV d M t) (ha:FracV d M a) (hb:FracV d M b) (hc:FracV d M c):Frac (d*(d*d)) (3*((M+M)*(2*((M+M)*(M+M))))) (pieceD t a b c):=
 (ha.qsub ht).dot ((hb.qsub ht).cross (hc.qsub ht))
theorem pieceC_frac {d M:Nat} {t a b c:Q3} (ht:FracV d M t) (ha:FracV d M a) (hb:FracV d M b) (hc:FracV d M c):FracV d (M+M+(M+M)) (pieceC t a b c):=
 (ha.qadd hb).qadd (hc.qadd ht)
def pieceOf (q:Nat→Q3) (r:List Nat) (k:Nat):Rat × Q3:=(pieceD (q 0) (q (r.getD 0 0)) (q (r.getD (k+1) 0)) (q (r.getD (k+2) 0)),pieceC (q 0) (q (r.getD 0 0)) (q (r.getD (k+1) 0)) (q (r.getD (k+2) 0)))
def fanQ (q:Nat→Q3) (r:List Nat) (n:Nat):List (Rat × Q3):=(List.range n).map (pieceOf q r)
def piecesQ (q:Nat→Q3) (rs:List (List Nat)):List (Rat × Q3):=rs.flatMap fun r=>fanQ q r (r.length - 2)
theorem fanQ_succ (q:Nat→Q3) (r:List Nat) (n:Nat):fanQ q r (n+1)=fanQ q r n ++ [pieceOf q r n]:=by
 unfold fanQ;rw [List.range_succ,List.map_append];rfl
theorem fanQ_len (q:Nat→Q3) (r:List Nat) (n:Nat):(fanQ q r n).length=n:=by unfold fanQ;simp
theorem piecesQ_snoc (q:Nat→Q3) (rs:List (List Nat)) (r:List Nat):piecesQ q (rs ++ [r])=piecesQ q rs ++ fanQ q r (r.length - 2):=by
 unfold piecesQ
 rw [List.flatMap_append]
 simp
theorem piecesQ_len (q:Nat→Q3) (rs:List (List Nat)) (h:∀ r ∈ rs,r.length≤64):(piecesQ q rs).length≤rs.length*62:=by
 induction rs with
 | nil=>exact Nat.zero_le _
 | cons r rs ih =>
  have h1:=ih fun r hr=>h r (by simp [hr])
  have h2:=h r (by simp)
  unfold piecesQ at *
  rw [List.flatMap_cons,List.length_append,fanQ_len,List.length_cons,Nat.add_mul]
  omega
theorem piecesQ_lt {q:Nat→Q3} {rs:List (List Nat)} {i j:Nat} {r:List Nat} (h:rs[i]?=some r) (hj:j<r.length - 2):(piecesQ q (rs.take i)).length+j<(piecesQ q rs).length:=by
 have hi:=(List.getElem?_eq_some_iff.1 h).1
 have e:rs=rs.take i ++ r :: rs.drop (i+1):=by
  conv=>lhs;rw [← List.take_append_drop i rs]
  rw [List.drop_eq_getElem_cons hi]
  rw [List.getElem?_eq_getElem hi] at h
  rw [Option.some.inj h]
 have e2:(piecesQ q rs).length=(piecesQ q (rs.take i)).length+((r.length - 2)+(piecesQ q (rs.drop (i+1))).length):=by
  conv=>lhs;rw [e]
  unfold piecesQ
  rw [List.flatMap_append,List.flatMap_cons,List.length_append,List.length_append,fanQ_len]
 omega
theorem piecesQ_mem {q:Nat→Q3} {rs:List (List Nat)} {i j:Nat} {r:List Nat} (h:rs[i]?=some r) (hj:j<r.length - 2):pieceOf q r j ∈ piecesQ q rs:=
 List.mem_flatMap.mpr ⟨r,List.mem_of_getElem? h,List.mem_map.mpr ⟨j,List.mem_range.mpr hj,rfl⟩⟩
def sumD (l:List (Rat × Q3)):Rat:=l.foldl (fun s x=>s+x.1) 0
def sumC (l:List (Rat × Q3)):Q3:=l.foldl (fun s x=>qadd s (qscale x.1 x.2)) ⟨0,0,0⟩
theorem sumD_snoc (l:List (Rat × Q3)) (x:Rat × Q3):sumD (l ++ [x])=sumD l+x.1:=by simp [sumD]
theorem sumC_snoc (l:List (Rat × Q3)) (x:Rat × Q3):sumC (l ++ [x])=qadd (sumC l) (qscale x.1 x.2):=by simp [sumC]
theorem snoc_ind {α:Type} {p:List α→Prop} (h0:p []) (h1:∀ l x,p l→p (l ++ [x])):∀ l,p l:=by
 intro l
 have:∀ m:List α,p m.reverse:=fun m=>by
  induction m with
  | nil=>exact h0
  | cons x m ih=>rw [List.reverse_cons];exact h1 _ x ih
 have h:=this l.reverse
 rwa [List.reverse_reverse] at h
theorem sumD_frac {d M:Nat}:∀ l:List (Rat × Q3),(∀ x ∈ l,Frac d M x.1)→Frac d (l.length*M) (sumD l):=by
 refine snoc_ind ?_ ?_
 ·intro _;exact (Frac.zero d).mono (by simp)
 ·intro l x ih h
  rw [sumD_snoc,List.length_append,List.length_singleton,Nat.add_mul,Nat.one_mul]
  exact (ih fun y hy=>h y (List.mem_append_left _ hy)).add (h x (by simp))
theorem sumC_frac {d M e L:Nat}:∀ l:List (Rat × Q3),(∀ x ∈ l,Frac d M x.1∧FracV e L x.2)→FracV (d*e) (l.length*(M*L)) (sumC l):=by
 refine snoc_ind ?_ ?_
 ·intro _
  have z:Frac (d*e) (([]:List (Rat × Q3)).length*(M*L)) 0:=(Frac.zero _).mono (by simp)
  exact ⟨z,z,z⟩
 ·intro l x ih h
  rw [sumC_snoc,List.length_append,List.length_singleton,Nat.add_mul,Nat.one_mul]
  have h2:=h x (by simp)
  exact (ih fun y hy=>h y (List.mem_append_left _ hy)).qadd (FracV.qscale h2.1 h2.2)
theorem pieces_frac {q:Nat→Q3} {d M:Nat} (hq:∀ i,FracV d M (q i)) (rs:List (List Nat)):∀ x ∈ piecesQ q rs,Frac (d*(d*d)) (3*((M+M)*(2*((M+M)*(M+M))))) x.1∧FracV d (M+M+(M+M)) x.2:=by
 intro x hx
 obtain ⟨r,_,hr⟩:=List.mem_flatMap.mp hx
 obtain ⟨j,_,rfl⟩:=List.mem_map.mp hr
 exact ⟨pieceD_frac (hq _) (hq _) (hq _) (hq _),pieceC_frac (hq _) (hq _) (hq _) (hq _)⟩
end Dowel
end
