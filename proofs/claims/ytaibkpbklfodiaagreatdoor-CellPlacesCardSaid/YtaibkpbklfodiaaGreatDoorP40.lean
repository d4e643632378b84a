/- The texts of small integers, and of halves of small integers. -/
import Derived.Test.YtaibkpbklfodiaaGreatDoorP39
import Derived.Lib.LaidTab
set_option linter.all false
set_option maxHeartbeats 100000000
section
namespace Dowel
open Go Go.RowKit Go.Proofs Go.Proofs.Υ
def dn (n:Nat):List UInt8:=if n<10 then [UInt8.ofNat (48+n)] else if n<100 then [UInt8.ofNat (48+n / 10),UInt8.ofNat (48+n % 10)] else [UInt8.ofNat (48+n / 100),UInt8.ofNat (48+n / 10 % 10),UInt8.ofNat (48+n % 10)]
theorem dec3_eq {n:Nat} (h:n<1000):Lib.decDigits n=dn n:=by
 unfold dn;by_cases h1:n<10
 ·rw [if_pos h1,Lib.decDigits_one h1]
 ·rw [if_neg h1]
  by_cases h2:n<100
  ·rw [if_pos h2,Lib.decDigits_two h1 h2]
  ·rw [if_neg h2,Lib.decDigits,dif_neg h1,Lib.decDigits_two ω ω,Nat.div_div_eq_div_mul]
   rfl
def gW (z:Int):List UInt8:=if z<0 then 45 :: dn z.natAbs else dn z.natAbs
def jX (x:Rat):List UInt8:=if x.den=1 then gW x.num else gW x.num ++ [47,50]
def jA (x:Rat):Prop:=(x.den=1∨x.den=2)∧x.num.natAbs<256
def Pow (w : World) : Prop := Lib.TabIs Tryz.prog w "internal/strconv.uint64pow10" .u64 Lib.pow10Tab
theorem jD (z:Int):(⟨(gW z).toArray⟩:ByteArray).size≤4:=by
 show (gW z).toArray.size≤4;unfold gW dn
 repeat' split
 all_goals simp
theorem var_low {w:World} {n:String} {cs:Array Value} (h:w.var? Tryz.prog n=some cs):∃ g,Tryz.prog.globalNamed n=some g∧∃ t r,w.heap[g]?=some (.cells cs t r):=by
 unfold World.var? at h;rw [Option.bind_eq_some_iff] at h;obtain ⟨g,hg,h⟩:=h;refine ⟨g,hg,?_⟩
 split at h
 ·rename_i hq
  exact ⟨_,_,by rw [hq];injection h with h;rw [h]⟩
 ·cases h
theorem Pow.below {w w':World} (h:Pow w) (hb:Below w.heap.size w w'):Pow w':=by
 have h0:=h;unfold Pow Lib.TabIs at h0 ⊢;obtain ⟨g,hg,t,r,hq⟩:=var_low h0;unfold World.var?;rw [hg,Option.bind_some,hb.block g (Array.getElem?_eq_some_iff.1 hq).1,hq]
theorem grow_below (w:World) (k:Nat) (os:Array Obj):Below w.heap.size w (Sort.grow (w.drewN k) os):=
 ⟨rfl,rfl,rfl,by simp [Sort.grow,World.drewN],fun i hi=>Array.getElem?_append_left hi⟩
end Dowel
namespace Go.Proofs.Υ
open Go.RowKit Dowel
set_option maxRecDepth 20000
theorem kH (va:Value) (z:Int) (w:World) (hP:Pow w) (ha:aN w va z) (h1:z.natAbs<1000) :
  Calls Tryz.prog 97 #[va] w fun e w'=>e=.returned (.string ⟨(gW z).toArray⟩)∧Below w.heap.size w w':=by
 obtain ⟨s,a,n,cap,ds,rfl,hs,hm,hn,hv,hl⟩:=ha.open ⟨1,by omega,by show z.natAbs<B ^ 1;unfold B;omega⟩;obtain ⟨W,hW,b1,hB,hS⟩:=aG w #[.bool s,.slice a n cap] 54;obtain ⟨x0,x1,-⟩:=b1.two;have HB:=η hB;have HM:=η (hm.below hB);have HP:=η (hP.below hB);have HSG:=η hs;have HSZ:=η hS;clear hP hs hB;by_cases hz:z=0
 ·have hn0:n=0:=by
   have:ds=[]:=hn.zero (by rw [hv];omega);have h:=hm.len;rw [this] at h;simpa using h.symm
  subst hn0;clear hm hn hv hS;subst hz
  go_enter Tryz.func97,Tryz.ntmps97
  go_wp2_with fail
  go_ret;exact ⟨rfl,HB.out⟩
 have hn1:0<n:=by
  rcases Nat.eq_zero_or_pos n with e | e
  ·have:=hm.len
   rw [e] at this;have:=List.length_eq_zero_iff.1 this;subst this;rw [val] at hv;omega
  ·exact e
 obtain ⟨u,hu⟩:∃ u,z.natAbs=u:=⟨_,rfl⟩;have HU:=η hu;have HV:=η (show val ds=u by rw [hv,hu]);rw [hu] at h1;clear hm hn hv hS hu hz
 go_enter Tryz.func97,Tryz.ntmps97
 go_wp2_with fail
 refine aP.loop 3 ?_;refine aP.next (fun K hK=>?_)
 go_wp2_with fail
 refine (kM a n cap 1000000000 ds W HM.out ω ω ω).mono ?_;rw [HV.out];rintro e w1 ⟨⟨a2,n2,c2,d2,rfl,hm2,hn2,hv2,hl2⟩,hb1⟩;have hd2:d2=[]:=hn2.zero (by rw [hv2];omega);subst hd2;have e2:n2=0:=by have:=hm2.len;simpa using this.symm
 subst e2;have hmod:u % 1000000000=u:=ω;rw [hmod];have B1:=η (b1.below hb1 b1.lt);obtain ⟨y0,y1,-⟩:=B1.out.two;have HB1:=η (ae HB.out hb1 (ψ HSZ.out));have HP1:=η (HP.out.below hb1);clear hm2 hn2 hv2 hl2 hb1 hmod b1
 go_wp2_with fail
 refine (Tryz.strconv_Itoa u ω ω _ HP1.out).mono ?_;rintro e w2 ⟨rfl,k,os,hw2⟩;have hg2:Below w1.heap.size w1 w2:=by rw [hw2];exact grow_below _ _ _
 have hI:Lib.itoa (u:Int)=dn u:=by unfold Lib.itoa;rw [if_neg ω];exact dec3_eq h1
 rw [hI];have B2:=η (B1.out.below hg2 B1.out.lt);have HB2:=η (ae HB1.out hg2 (by have:=HB1.out.size;have:=HSZ.out;omega));clear hw2 hg2 hI y0 y1
 go_wp2_with fail
 obtain ⟨cc,hcc⟩:∃ cc,(Question.appendCap 1 0 9).cut (w2.tape w2.drawn (Question.appendCap 1 0 9))=cc:=⟨_,rfl⟩;rw [hcc];obtain ⟨W3,hW3⟩:∃ W3,((w2.alloc (Obj.cells #[Value.string { data:=(dn u).toArray }] 9)).alloc (Obj.cells (#[Value.string { data:=(dn u).toArray }] ++ Builtin.zeroCells #[Value.string { data:=#[] }] (cc - 1)) 9)).drew=W3:=⟨_,rfl⟩;rw [hW3];have hb3:Below w2.heap.size w2 W3:=by rw [← hW3];exact (((Below.refl _ w2).alloc ρ _).alloc (by simp) _).drew
 have hc3:W3.cell? ⟨w2.heap.size+1,0,none⟩=some (.string { data:=(dn u).toArray }):=by
  rw [← hW3];exact ((Box.new (w2.alloc (Obj.cells #[Value.string { data:=(dn u).toArray }] 9)) (#[Value.string { data:=(dn u).toArray }] ++ Builtin.zeroCells #[Value.string { data:=#[] }] (cc - 1)) 9 (w2.heap.size+1) (by simp)).cell 0).trans (by rw [Array.getElem?_append_left (by simp)];rfl)
 have HB3:=η (ae HB2.out hb3 (ψ HB2.out.size));obtain ⟨z0,z1,-⟩:=(B2.out.below hb3 B2.out.lt).two;clear hW3 hb3 hcc;refine aP.next (fun K hK=>?_)
 go_wp2_with fail
 refine (lF _ _ _ _).mono ?_;rintro e w4 ⟨rfl,rfl⟩
 go_wp2_with fail
 refine (join_one _ _ _ _ _ _ hc3).mono ?_;rintro e w4 ⟨rfl,rfl⟩;cases s
 ·have hneg:¬ z<0:=of_decide_eq_false HSG.out.symm
  go_wp2_with fail
  go_ret;exact ⟨by unfold gW;rw [if_neg ω,HU.out];rfl,HB3.out⟩
 ·have hneg:z<0:=of_decide_eq_true HSG.out.symm
  have hsz:¬ 9223372036854775807<1+(⟨(dn u).toArray⟩:ByteArray).size:=by
   have:(⟨(dn u).toArray⟩:ByteArray).size≤3:=by
    show (dn u).toArray.size≤3;unfold dn
    repeat' split
    all_goals simp
   omega
  go_wp2_with fail
  go_ret;exact ⟨by unfold gW;rw [if_pos ω,HU.out];rfl,HB3.out⟩
set_option maxRecDepth 20000 in
theorem numberZ_any (va:Value) (x:Rat) (w:World) (ha:am w va x) (hP:Pow w) (hx:jA x) :
  Calls Tryz.prog 46 #[va] w fun e w'=>e=.returned (.string ⟨(jX x).toArray⟩)∧Below w.heap.size w w':=by
 obtain ⟨s1,a1,n1,c1,s2,a2,n2,c2,d,rfl,i1,i2,hd⟩:=ha.open;have HA:=η ha;obtain ⟨nu,hnu⟩:∃ nu:Int,nu=x.num:=⟨_,rfl⟩;obtain ⟨hx2,hn1⟩:=hx;have h2:x.den≤2:=ω;rw [← hnu] at hn1;have HP:=η hP;have hbd:Bd 1 x:=⟨by unfold B;omega,by unfold B;omega⟩;rw [← hnu] at i1;have I1:=η i1;have I2:=η i2;obtain ⟨W,hW,b1,hB,hS⟩:=aG w #[.bool s1,.slice a1 n1 c1,.bool s2,.slice a2 n2 c2] 56;have B1:=η b1;have L0:=η hB;have HSZ:=η hS;have HBD:=η hbd;obtain ⟨x0,x1,x2,x3,x4⟩:=b1.four;clear b1 hB hS ha i1 i2 hbd hP
 go_enter Tryz.func46,Tryz.ntmps46
 go_wp2_with fail
 refine (bW _ x 1 _ (HA.out.below L0.out) HBD.out ω).mono ?_;rintro e w1 ⟨rfl,hb1⟩;have L1:=η (ae L0.out hb1 (ψ HSZ.out));have B2:=η (B1.out.below hb1 B1.out.lt);obtain ⟨x0,x1,x2,x3,x4⟩:=B2.out.four;have hsz1:=hb1.size;have SZ1:=η (show w.heap.size≤w1.heap.size by have:=HSZ.out;omega);have HNU:=η hnu;have HD:=η hd;clear hb1 hsz1 hnu hd;by_cases hden:x.den=1
 ·rw [decide_eq_true hden]
  go_wp2_with fail
  refine (kH _ nu _ (HP.out.below L1.out) (I1.out.below L1.out) ω).mono ?_;rintro e w2 ⟨rfl,hb2⟩;have L2:=η (ae L1.out hb2 ρ);clear hb2
  go_wp2_with fail
  go_ret;refine ⟨?_,L2.out⟩
  unfold jX;rw [if_pos hden,← HNU.out]
  rfl
 ·rw [decide_eq_false hden]
  obtain ⟨de,hde⟩:∃ de:Nat,de=x.den:=⟨_,rfl⟩;have hd2:de=2:=ω;have hdd:d=(de:Int):=HD.out.elim (fun h=>by rw [h,hde]) (fun h=>absurd h.2 hden);have I3:=η (hdd ▸ I2.out);have HDE:=η hde;have HDN:=η hden;clear hde hdd hden;have KB:Hid (∀ w',Below w1.heap.size w1 w'→w'.cell? ⟨w.heap.size,0,none⟩=some (.bool s1)∧w'.cell? ⟨w.heap.size,1,none⟩=some (.slice a1 n1 c1)∧w'.cell? ⟨w.heap.size,2,none⟩=some (.bool s2)∧w'.cell? ⟨w.heap.size,3,none⟩=some (.slice a2 n2 c2)):=fun w' h=>by
   obtain ⟨x0,x1,x2,x3,-⟩:=(B2.out.below h B2.out.lt).four;exact ⟨x0,x1,x2,x3⟩
  obtain ⟨TN,hTN⟩:∃ T:ByteArray,T=⟨(gW nu).toArray⟩:=⟨_,rfl⟩;obtain ⟨TD,hTD⟩:∃ T:ByteArray,T=⟨[50].toArray⟩:=⟨_,rfl⟩;obtain ⟨TS,hTS⟩:∃ T:ByteArray,TN ++ ⟨#[47]⟩=T:=⟨_,rfl⟩;obtain ⟨TA,hTA⟩:∃ T:ByteArray,TS ++ TD=T:=⟨_,rfl⟩;have XN:Hid (∀ w',Below w1.heap.size w1 w'→Calls Tryz.prog 97 #[.agg #[.bool s1,.slice a1 n1 c1]] w' fun e w''=>e=.returned (.string TN)∧Below w'.heap.size w' w''):=fun w' hS=>by
   rw [hTN];exact kH _ nu w' (HP.out.below (L1.out.trans (hS.mono SZ1.out))) (I1.out.below (L1.out.trans (hS.mono SZ1.out))) ω
  have XD:Hid (∀ w',Below w1.heap.size w1 w'→Calls Tryz.prog 97 #[.agg #[.bool s2,.slice a2 n2 c2]] w' fun e w''=>e=.returned (.string TD)∧Below w'.heap.size w' w''):=fun w' hS=>by
   rw [hTD];have h:=kH _ de w' (HP.out.below (L1.out.trans (hS.mono SZ1.out))) (I3.out.below (L1.out.trans (hS.mono SZ1.out))) ω;rw [hd2] at h;exact h
  have HTS:=η hTS;have HTA:=η hTA;have HFIN:Hid (TA=⟨(jX x).toArray⟩):=by
   show TA=_;unfold jX;rw [if_neg HDN.out,← hTA,← hTS,hTN,hTD,← HNU.out];rw [show (⟨#[47]⟩:ByteArray)=⟨[47].toArray⟩ from rfl,il,il,List.append_assoc];rfl
  have hZ1:TN.size≤4:=by rw [hTN];exact jD nu
  have hZ2:TD.size≤2:=by rw [hTD];decide
  have hZ3:TS.size=TN.size+1:=by rw [← hTS,ByteArray.size_append];rfl
  have HTSZ:¬ 9223372036854775807<TN.size+1:=ω;have HTAZ:¬ 9223372036854775807<TN.size+1+TD.size:=ω;clear hTN hTD hTS hTA
  go_upto_region 3 with fail
  refine bK (rest:=1) [isV 0 (.pointer (some ⟨w.heap.size,0,none⟩)),isV 1 (.agg #[.bool s1,.slice a1 n1 c1]),isV 2 (.string TN),isV 3 (.string TS),isV 4 (.pointer (some ⟨w.heap.size,2,none⟩)),isV 5 (.agg #[.bool s2,.slice a2 n2 c2]),isV 6 (.string TD),isV 7 (.string TA)] [] ?A3 #[true,true,true,true,true,true,true,true,false] κ [0,1,2,3,4,5,6,7] κ κ κ κ κ κ ?st ?hA ?hop ?hend
  case hA =>
   intro y;simp only [bj,cU,List.getElem?_toArray,List.getElem?_cons_zero,List.getElem?_cons_succ,Option.bind_some,Act.put,List.setIfInBounds_toArray,List.set_cons_zero,List.set_cons_succ];exact rfl
  case st=>exact aj.cons isV.stab (aj.cons isV.stab (aj.cons isV.stab (aj.cons isV.stab (aj.cons isV.stab (aj.cons isV.stab (aj.cons isV.stab (aj.cons isV.stab (aj.nil))))))))
  case hop =>
   refine ai.cons (i:=0) rfl (fun y w' hS hD K hK=>?_) ?_
   ·obtain ⟨c0,c1,c2,c3⟩:=KB.out w' hS
    go_simp;exact hK.out _ w' hS β isV.put δ
   refine ai.cons (i:=1) rfl (fun y w' hS hD K hK=>?_) ?_
   ·have e0:=isV.get (i:=0) (c:=.pointer (some ⟨w.heap.size,0,none⟩)) (hD 0 κ)
    obtain ⟨c0,c1,c2,c3⟩:=KB.out w' hS;simp only [e0] at hK ⊢;go_simp;exact hK.out _ w' hS β isV.put δ
   refine ai.cons (i:=2) rfl (fun y w' hS hD K hK=>?_) ?_
   ·have e1:=isV.get (i:=1) (c:=.agg #[.bool s1,.slice a1 n1 c1]) (hD 1 κ)
    simp only [e1] at hK ⊢;go_simp;refine (XN.out w' hS).mono ?_;rintro e w'' ⟨rfl,hb⟩;exact hK.out _ w'' (ae hS hb ρ) hb isV.put δ
   refine ai.cons (i:=3) rfl (fun y w' hS hD K hK=>?_) ?_
   ·have e2:=isV.get (i:=2) (c:=.string TN) (hD 2 κ)
    simp only [e2] at hK ⊢;go_simp;simp only [HTS.out,HTSZ];exact hK.out _ w' hS β isV.put δ
   refine ai.cons (i:=4) rfl (fun y w' hS hD K hK=>?_) ?_
   ·obtain ⟨c0,c1,c2,c3⟩:=KB.out w' hS
    go_simp;exact hK.out _ w' hS β isV.put δ
   refine ai.cons (i:=5) rfl (fun y w' hS hD K hK=>?_) ?_
   ·have e4:=isV.get (i:=4) (c:=.pointer (some ⟨w.heap.size,2,none⟩)) (hD 4 κ)
    obtain ⟨c0,c1,c2,c3⟩:=KB.out w' hS;simp only [e4] at hK ⊢;go_simp;exact hK.out _ w' hS β isV.put δ
   refine ai.cons (i:=6) rfl (fun y w' hS hD K hK=>?_) ?_
   ·have e2:=isV.get (i:=2) (c:=.string TN) (hD 2 κ)
    have e5:=isV.get (i:=5) (c:=.agg #[.bool s2,.slice a2 n2 c2]) (hD 5 κ);simp only [e2,e5] at hK ⊢;go_simp;refine (XD.out w' hS).mono ?_;rintro e w'' ⟨rfl,hb⟩;exact hK.out _ w'' (ae hS hb ρ) hb isV.put δ
   refine ai.cons (i:=7) rfl (fun y w' hS hD K hK=>?_) ?_
   ·have e3:=isV.get (i:=3) (c:=.string TS) (hD 3 κ)
    have e6:=isV.get (i:=6) (c:=.string TD) (hD 6 κ);simp only [e3,e6] at hK ⊢;go_simp;simp only [HTA.out,HTAZ];exact hK.out _ w' hS β isV.put δ
   exact ai.nil
  case hend =>
   intro y w' hS hR hF;have e7:=isV.get (i:=7) (c:=.string TA) (hR 7 κ);simp only [e7];refine bM (i:=8) (listed2:=#[true,true,true,true,true,true,true,true,true]) κ rfl κ (fun K hK=>?_);go_simp;refine hK.out _ _ ?_;clear hK K;refine bq κ ?_
   go_wp2_with fail
   go_ret;exact ⟨by rw [HFIN.out];rfl,L1.out.trans (hS.mono SZ1.out)⟩
end Go.Proofs.Υ
end
