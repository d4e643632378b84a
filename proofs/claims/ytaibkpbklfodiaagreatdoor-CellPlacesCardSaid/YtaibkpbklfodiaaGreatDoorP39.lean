/- The texts of small positive rationals. Printed by gen/number.py. -/
import Derived.Test.YtaibkpbklfodiaaGreatDoorP10
import Derived.Test.YtaibkpbklfodiaaGreatDoorP38
import Derived.Test.YtaibkpbklfodiaaGreatDoorP24
set_option linter.all false
set_option maxHeartbeats 100000000
section
namespace Dowel
open Go Go.RowKit
theorem il (a b:List UInt8):(⟨a.toArray⟩:ByteArray) ++ ⟨b.toArray⟩=⟨(a ++ b).toArray⟩:=by
 apply ByteArray.ext;simp
theorem oU {z:Nat} (h:z<100):(⟨(Lib.decDigits z).toArray⟩:ByteArray).size≤2:=by
 by_cases h1:z<10
 ·rw [Lib.decDigits_one h1];exact Nat.le_succ 1
 ·rw [Lib.decDigits_two h1 h];exact Nat.le_refl 2
def dF (x:Rat):List UInt8:=if x.den=1 then Lib.decDigits x.num.toNat else Lib.decDigits x.num.toNat ++ [47] ++ Lib.decDigits x.den
end Dowel
namespace Go.Proofs.Υ
open Go.RowKit Dowel
set_option maxRecDepth 20000 in
theorem fY (va:Value) (x:Rat) (w:World) (ha:am w va x) (h0:0<x.num) (h1:x.num<100) (h2:x.den<100) :
  Calls Tryz.prog 46 #[va] w fun e w'=>e=.returned (.string ⟨(dF x).toArray⟩)∧Below w.heap.size w w':=by
 obtain ⟨s1,a1,n1,c1,s2,a2,n2,c2,d,rfl,i1,i2,hd⟩:=ha.open;have HA:=η ha;obtain ⟨nu,hnu⟩:∃ nu:Nat,(nu:Int)=x.num:=⟨x.num.toNat,by omega⟩;have hn0:0<nu:=ω;have hn1:nu<100:=ω;have hbd:Bd 1 x:=⟨by unfold B;omega,by unfold B;omega⟩;rw [← hnu] at i1;have I1:=η i1;have I2:=η i2;obtain ⟨W,hW,b1,hB,hS⟩:=aG w #[.bool s1,.slice a1 n1 c1,.bool s2,.slice a2 n2 c2] 56;have B1:=η b1;have L0:=η hB;have HSZ:=η hS;have HBD:=η hbd;obtain ⟨x0,x1,x2,x3,x4⟩:=b1.four;clear b1 hB hS ha i1 i2 hbd
 go_enter Tryz.func46,Tryz.ntmps46
 go_wp2_with fail
 refine (bW _ x 1 _ (HA.out.below L0.out) HBD.out ω).mono ?_;rintro e w1 ⟨rfl,hb1⟩;have L1:=η (ae L0.out hb1 (ψ HSZ.out));have B2:=η (B1.out.below hb1 B1.out.lt);obtain ⟨x0,x1,x2,x3,x4⟩:=B2.out.four;have hsz1:=hb1.size;have SZ1:=η (show w.heap.size≤w1.heap.size by have:=HSZ.out;omega);have HNU:=η hnu;have HD:=η hd;clear hb1 hsz1 hnu hd;by_cases hden:x.den=1
 ·rw [decide_eq_true hden]
  go_wp2_with fail
  refine (my _ nu _ (I1.out.below L1.out) hn0 hn1).mono ?_;rintro e w2 ⟨rfl,hb2⟩;have L2:=η (ae L1.out hb2 ρ);clear hb2
  go_wp2_with fail
  go_ret;refine ⟨?_,L2.out⟩
  unfold dF;rw [if_pos hden,← HNU.out]
  rfl
 ·rw [decide_eq_false hden]
  obtain ⟨de,hde⟩:∃ de:Nat,de=x.den:=⟨_,rfl⟩;have hd0:0<de:=by have:=x.den_pos;omega
  have hd1:de<100:=ω;have hdd:d=(de:Int):=HD.out.elim (fun h=>by rw [h,hde]) (fun h=>absurd h.2 hden);have I3:=η (hdd ▸ I2.out);have HDE:=η hde;have HDN:=η hden;clear hde hdd hden;have KB:Hid (∀ w',Below w1.heap.size w1 w'→w'.cell? ⟨w.heap.size,0,none⟩=some (.bool s1)∧w'.cell? ⟨w.heap.size,1,none⟩=some (.slice a1 n1 c1)∧w'.cell? ⟨w.heap.size,2,none⟩=some (.bool s2)∧w'.cell? ⟨w.heap.size,3,none⟩=some (.slice a2 n2 c2)):=fun w' h=>by
   obtain ⟨x0,x1,x2,x3,-⟩:=(B2.out.below h B2.out.lt).four;exact ⟨x0,x1,x2,x3⟩
  obtain ⟨TN,hTN⟩:∃ T:ByteArray,T=⟨(Lib.decDigits nu).toArray⟩:=⟨_,rfl⟩;obtain ⟨TD,hTD⟩:∃ T:ByteArray,T=⟨(Lib.decDigits de).toArray⟩:=⟨_,rfl⟩;obtain ⟨TS,hTS⟩:∃ T:ByteArray,TN ++ ⟨#[47]⟩=T:=⟨_,rfl⟩;obtain ⟨TA,hTA⟩:∃ T:ByteArray,TS ++ TD=T:=⟨_,rfl⟩;have XN:Hid (∀ w',Below w1.heap.size w1 w'→Calls Tryz.prog 97 #[.agg #[.bool s1,.slice a1 n1 c1]] w' fun e w''=>e=.returned (.string TN)∧Below w'.heap.size w' w''):=fun w' hS=>by
   rw [hTN];exact my _ nu w' (I1.out.below (L1.out.trans (hS.mono SZ1.out))) hn0 hn1
  have XD:Hid (∀ w',Below w1.heap.size w1 w'→Calls Tryz.prog 97 #[.agg #[.bool s2,.slice a2 n2 c2]] w' fun e w''=>e=.returned (.string TD)∧Below w'.heap.size w' w''):=fun w' hS=>by
   rw [hTD];exact my _ de w' (I3.out.below (L1.out.trans (hS.mono SZ1.out))) hd0 hd1
  have HTS:=η hTS;have HTA:=η hTA;have HFIN:Hid (TA=⟨(dF x).toArray⟩):=by
   show TA=_;unfold dF;rw [if_neg HDN.out,← hTA,← hTS,hTN,hTD,← HDE.out,show x.num.toNat=nu by have:=HNU.out;omega];rw [show (⟨#[47]⟩:ByteArray)=⟨[47].toArray⟩ from rfl,il,il]
  have hZ1:TN.size≤2:=by rw [hTN];exact oU hn1
  have hZ2:TD.size≤2:=by rw [hTD];exact oU hd1
  have hZ3:TS.size=TN.size+1:=by rw [← hTS,ByteArray.size_append];rfl
  have HTSZ:¬ 9223372036854775807<TN.size+1:=ω;have HTAZ:¬ 9223372036854775807<TN.size+1+TD.size:=ω;clear hTN hTD hTS hTA
  go_upto_region 3 with fail
  refine bK (rest:=1) [isV 0 (.pointer (some ⟨w.heap.size,0,none⟩)),isV 1 (.agg #[.bool s1,.slice a1 n1 c1]),isV 2 (.string TN),isV 3 (.string TS),isV 4 (.pointer (some ⟨w.heap.size,2,none⟩)),isV 5 (.agg #[.bool s2,.slice a2 n2 c2]),isV 6 (.string TD),isV 7 (.string TA)] [] ?A3 #[true,true,true,true,true,true,true,true,false] κ [0,1,2,3,4,5,6,7] κ κ κ κ κ κ ?st ?hA ?hop ?hend
  case hA =>
   intro y;simp only [bj,cU,List.getElem?_toArray,List.getElem?_cons_zero,List.getElem?_cons_succ,Option.bind_some,Act.put,List.setIfInBounds_toArray,List.set_cons_zero,List.set_cons_succ];exact rfl
  case st=>exact aj.cons isV.stab (aj.cons isV.stab (aj.cons isV.stab (aj.cons isV.stab (aj.cons isV.stab (aj.cons isV.stab (aj.cons isV.stab (aj.cons isV.stab (aj.nil))))))))
  case hop =>
   refine ai.cons (i:=0) rfl (fun y w' hS hD K hK=>?_) ?_
   ·obtain ⟨c0,c1,c2,c3⟩:=KB.out w' hS
    go_simp;exact hK.out _ w' hS β isV.put δ
   refine ai.cons (i:=1) rfl (fun y w' hS hD K hK=>?_) ?_
   ·have e0:=isV.get (i:=0) (c:=.pointer (some ⟨w.heap.size,0,none⟩)) (hD 0 κ)
    obtain ⟨c0,c1,c2,c3⟩:=KB.out w' hS;simp only [e0] at hK ⊢;go_simp;exact hK.out _ w' hS β isV.put δ
   refine ai.cons (i:=2) rfl (fun y w' hS hD K hK=>?_) ?_
   ·have e1:=isV.get (i:=1) (c:=.agg #[.bool s1,.slice a1 n1 c1]) (hD 1 κ)
    simp only [e1] at hK ⊢;go_simp;refine (XN.out w' hS).mono ?_;rintro e w'' ⟨rfl,hb⟩;exact hK.out _ w'' (ae hS hb ρ) hb isV.put δ
   refine ai.cons (i:=3) rfl (fun y w' hS hD K hK=>?_) ?_
   ·have e2:=isV.get (i:=2) (c:=.string TN) (hD 2 κ)
    simp only [e2] at hK ⊢;go_simp;simp only [HTS.out,HTSZ];exact hK.out _ w' hS β isV.put δ
   refine ai.cons (i:=4) rfl (fun y w' hS hD K hK=>?_) ?_
   ·obtain ⟨c0,c1,c2,c3⟩:=KB.out w' hS
    go_simp;exact hK.out _ w' hS β isV.put δ
   refine ai.cons (i:=5) rfl (fun y w' hS hD K hK=>?_) ?_
   ·have e4:=isV.get (i:=4) (c:=.pointer (some ⟨w.heap.size,2,none⟩)) (hD 4 κ)
    obtain ⟨c0,c1,c2,c3⟩:=KB.out w' hS;simp only [e4] at hK ⊢;go_simp;exact hK.out _ w' hS β isV.put δ
   refine ai.cons (i:=6) rfl (fun y w' hS hD K hK=>?_) ?_
   ·have e2:=isV.get (i:=2) (c:=.string TN) (hD 2 κ)
    have e5:=isV.get (i:=5) (c:=.agg #[.bool s2,.slice a2 n2 c2]) (hD 5 κ);simp only [e2,e5] at hK ⊢;go_simp;refine (XD.out w' hS).mono ?_;rintro e w'' ⟨rfl,hb⟩;exact hK.out _ w'' (ae hS hb ρ) hb isV.put δ
   refine ai.cons (i:=7) rfl (fun y w' hS hD K hK=>?_) ?_
   ·have e3:=isV.get (i:=3) (c:=.string TS) (hD 3 κ)
    have e6:=isV.get (i:=6) (c:=.string TD) (hD 6 κ);simp only [e3,e6] at hK ⊢;go_simp;simp only [HTA.out,HTAZ];exact hK.out _ w' hS β isV.put δ
   exact ai.nil
  case hend =>
   intro y w' hS hR hF;have e7:=isV.get (i:=7) (c:=.string TA) (hR 7 κ);simp only [e7];refine bM (i:=8) (listed2:=#[true,true,true,true,true,true,true,true,true]) κ rfl κ (fun K hK=>?_);go_simp;refine hK.out _ _ ?_;clear hK K;refine bq κ ?_
   go_wp2_with fail
   go_ret;exact ⟨by rw [HFIN.out];rfl,L1.out.trans (hS.mono SZ1.out)⟩
end Go.Proofs.Υ
end
