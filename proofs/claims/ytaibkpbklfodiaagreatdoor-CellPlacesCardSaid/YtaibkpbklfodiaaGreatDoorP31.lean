/- The tetrahedra of a shape, as an iterator. Printed by gen/pieces.py. Sums over the tetrahedra of a shape. -/
import Derived.Test.YtaibkpbklfodiaaGreatDoorP28
import Derived.Test.YtaibkpbklfodiaaGreatDoorP29
import Derived.Test.YtaibkpbklfodiaaGreatDoorP11
import Derived.Test.YtaibkpbklfodiaaGreatDoorP30
import Derived.TacticsInMore
set_option linter.all false
set_option maxHeartbeats 100000000
section
namespace Dowel
open Go Go.RowKit
structure PV where
 d:Value
 c:Value
 p:Rat × Q3
def PV.enc (x:PV):Array Value:=#[x.d,x.c]
def PV.ok (L:List (Rat × Q3)) (x:PV) (W:World):Prop:=x.p ∈ L∧am W x.d x.p.1∧aA W x.c x.p.2
structure Solid (w:World) (v0 v1:Value) (qs:List Q3) (frs:List FR) (rs:List (List Nat)) (k:Nat):Prop where
 vs:∃ base vrs,VRow w base v0 qs vrs
 fs:∃ base fqs,FRow w base v1 fqs frs
 rows:∀ (i:Nat) (f:FR) (r:List Nat),frs[i]?=some f→rs[i]?=some r→∃ base,dr w base f.v r
 len:rs.length=frs.length
 max:frs.length≤262144
 vmax:0<qs.length∧qs.length≤64
 ring:∀ r ∈ rs,r.length≤64∧r≠[]∧∀ i ∈ r,i<qs.length
 bd:∀ q ∈ qs,BdV k q
def qAt (qs:List Q3) (i:Nat):Q3:=qs.getD i ⟨0,0,0⟩
end Dowel
namespace Go.Proofs.Υ
open Go.RowKit Dowel
set_option maxRecDepth 100000 in
theorem lM (n:Nat) (w0 w:World) (v0 v1 v2:Value) (qs:List Q3) (frs:List FR) (rs:List (List Nat)) (kq:Nat) (hk:kq<1000) (hS:Solid w0 v0 v1 qs frs rs kq) (Bs:Nat) (X:Nat→Prop)
  (hB:Box w Bs #[v0,v1,v2] 32) (hb0:Below w0.heap.size w0 w) (hX:∀ k,X k→k<w.heap.size∧k≠Bs) :
  SeqV Fence.wide n Tryz.prog 118 #[.pointer (some ⟨Bs,0,none⟩)] PV.enc (PV.ok (ak (qAt qs) rs)) w0.heap.size X (fun xs=>xs.map PV.p=ak (qAt qs) rs) (ak (qAt qs) rs).length w:=by
 intro l J W hbW hJ hY h0;refine callsIn_wide.2 ?_;obtain ⟨bv,vrs,hV⟩:=hS.vs;obtain ⟨bf,fqs,hF⟩:=hS.fs;have hsz:=hbW.size;have hsz0:=hb0.size;have HS:=η hS;have HV:=η hV;have HF:=η hF;have HBW:=η (hB.below hbW hB.lt);have H0:=η (show Below w0.heap.size w0 W from hb0.trans (hbW.mono hsz0));have HX:=η hX;have HY:=η hY;have HJ:=η hJ;have HJ0:=η h0;obtain ⟨bV,cV,ev0⟩:∃ b cap,v0=.slice (some ⟨b,0,none⟩) qs.length cap:=by
  obtain ⟨b,cap,r,e,-⟩:=hV.at_ 0 (qAt qs 0) (by unfold qAt;rw [List.getD_eq_getElem?_getD,List.getElem?_eq_getElem hS.vmax.1];rfl);exact ⟨b,cap,e⟩
 have hat:∀ i,i<qs.length→∃ r:RC × RC × RC,∀ W',Below w0.heap.size w0 W'→aA W' (.agg (ah r.1 r.2.1 r.2.2)) (qAt qs i)∧∀ j,j<12→W'.cell? ⟨bV,i*12+j,none⟩=(bO r)[j]? := by
  intro i hi;obtain ⟨b,cap,r,e,hb,-,-,-,hv,hc⟩:=hV.at_ i (qAt qs i) (by unfold qAt;rw [List.getD_eq_getElem?_getD,List.getElem?_eq_getElem hi];rfl);have e1:bV=b:=by rw [ev0] at e;cases e;rfl
  subst e1;exact ⟨r,fun W' h=>⟨hv.below h,fun j hj=>(h.cell (p:=⟨bV,i*12+j,none⟩) hb).trans (hc j hj)⟩⟩
 have HAT:=η hat;obtain ⟨t0,ht0⟩:=hat 0 hS.vmax.1;obtain ⟨htv,htc⟩:=ht0 W H0.out;have HT0:=η ht0;obtain ⟨pa,cF,ev1⟩:∃ pa cap,v1=.slice pa frs.length cap:=by
  obtain ⟨_,⟨rfl,h0⟩ | ⟨g,c,_,rfl,_⟩⟩:=hF.own
  ·exact ⟨none,0,by rw [h0]⟩
  ·exact ⟨_,_,rfl⟩
 have hq0:=hS.vmax.1;have hfm:=hS.max;subst ev0 ev1;obtain ⟨T0,T1,T2⟩:=t0;have HTV:=η htv;obtain ⟨x0,x1,x2,-⟩:=(hB.below hbW hB.lt).three;have d:=fun j hj=>htc j hj
 have d0:=d 0 ω;have d1:=d 1 ω;have d2:=d 2 ω;have d3:=d 3 ω;have d4:=d 4 ω;have d5:=d 5 ω;have d6:=d 6 ω;have d7:=d 7 ω;have d8:=d 8 ω;have d9:=d 9 ω;have d10:=d 10 ω;have d11:=d 11 ω;simp only [bO,ah,List.getElem?_cons_zero,List.getElem?_cons_succ,Nat.add_zero,Nat.zero_mul,Nat.zero_add] at d0 d1 d2 d3 d4 d5 d6 d7 d8 d9 d10 d11;clear hS hV hF hB hbW hb0 hX hY hJ h0 hat htv htc d ht0
 go_enter Tryz.func118,Tryz.ntmps118
 go_upto_region 1 with fail
 obtain ⟨W1,hW1,b1,hB1,hS1⟩:=aG W (ah T0 T1 T2) 58;unfold ah at hW1;rw [hW1];have BT:=η b1;have SW1:=η hS1;have H1:=η (show Below W.heap.size W W1 from hB1);have HBS:=η (HBW.out.below hB1 HBW.out.lt);have HJ1:=η (HJ.out.below HJ0.out hB1 ρ);have KC1:=η (show KeepC w0.heap.size X W W1 from KeepC.below hB1 (ψ H0.out.size));obtain ⟨x0,x1,x2,-⟩:=HBS.out.three;clear d0 d1 d2 d3 d4 d5 d6 d7 d8 d9 d10 d11 hW1 b1 hB1 hS1
 go_wp2_with fail
 go_loopw [18] (fun iv wr=>∃ i pre,i≤frs.length∧iv=.int .i64 (i:Nat)∧Hid (pre.map PV.p=ak (qAt qs) (rs.take i))∧Hid (J pre wr)∧Hid (KeepC w0.heap.size X W1 wr)) (fun iv _=>frs.length - (intOf iv).toNat)
 case atStart=>exact ⟨0,[],Nat.zero_le _,rfl,rfl,HJ1.out,KeepC.refl _ _ _⟩
 case round =>
  obtain ⟨i,pre,hi,rfl,HPRE,HJR,HKR⟩:=hrel;obtain ⟨w2,rfl⟩:∃ w2,w2=wr:=⟨_,rfl⟩;by_cases h0:i=frs.length
  ·have hn:¬ (i:Int)<(frs.length:Int):=ω
   have HI0:=η h0;clear h0
   go_wp2_with fail
   exact ⟨rfl,_,results_none rfl _ _ _,⟨_,rfl⟩,pre,by rw [HPRE.out,List.take_of_length_le (by rw [HS.out.len,HI0.out];exact Nat.le_refl _)],HJR.out⟩
  have hlt:(i:Int)<(frs.length:Int):=ω;have hil:i<frs.length:=ω;have HIL:=η hil;have HBW2:=η (show Below w0.heap.size w0 w2 from H0.out.trans (KC1.out.bel.trans HKR.out.bel));have nBs:¬ X Bs:=fun h=>(HX.out Bs h).2 rfl
  have nT:¬ X W.heap.size:=fun h=>by have:=(HX.out _ h).1;omega
  have BS2:=η (HBS.out.keepC HKR.out nBs);have BT2:=η (BT.out.keepC HKR.out nT);obtain ⟨b,cap',fr,e,hb,hfr,hc⟩:=HF.out.nth i hil;cases e;obtain ⟨r,hr⟩:∃ r,rs[i]?=some r:=⟨_,List.getElem?_eq_getElem (ψ HS.out.len)⟩;obtain ⟨bI,hown⟩:=HS.out.rows i fr r hfr hr;obtain ⟨⟨n0,n1,n2⟩,ro,fvv⟩:=fr;simp only [] at hown;obtain ⟨q1,q2,rfl,hints⟩:=dr.ints hown;have hrr:=HS.out.ring r (List.mem_of_getElem? hr);obtain ⟨g,og,rfl,hg,hgc,hgd⟩:=hints.cells (by have:=List.length_pos_iff.mpr hrr.2.1;omega);obtain ⟨N,hN⟩:∃ N,r.length=N:=⟨_,rfl⟩;have hN0:0<N:=by have:=List.length_pos_iff.mpr hrr.2.1;omega
  have hN64:N≤64:=by have:=hrr.1;omega
  rw [hN] at hc hgd hgc;have HRI:=η hr;have HRR:=η hrr;have HNN:=η hN;have hrg:∀ W',Below w0.heap.size w0 W'→∀ j,j<N→W'.cell? ⟨g,og+j,none⟩=some (.int .i64 (r.getD j 0:Nat)):=fun W' h j hj=>by
   rw [h.cell (p:=⟨g,og+j,none⟩) hg,hgd j hj]
   congr 2
   rw [List.getD_eq_getElem?_getD,List.getD_eq_getElem?_getD,List.getElem?_map];cases r[j]? <;> rfl
  have hrlt:∀ j,r.getD j 0<qs.length:=fun j=>by
   rw [List.getD_eq_getElem?_getD]
   cases hj:r[j]? with
   | none=>exact HS.out.vmax.1
   | some x=>exact hrr.2.2 x (List.mem_of_getElem? hj)
  have HRG:=η hrg;have HRL:=η hrlt;obtain ⟨O,hO⟩:∃ O,i*17=O:=⟨_,rfl⟩;have DD:=η (show ∀ j,j<17→w2.cell? ⟨b,O+j,none⟩=(aL n0 n1 n2 ro (some ⟨g,og,none⟩) N q2)[j]? from fun j hj=>by
   rw [← hO];exact ((HBW2.out.cell (p:=⟨b,i*17+j,none⟩) hb).trans (hc j hj)).trans (Array.getElem?_toList (xs:=aL n0 n1 n2 ro (some ⟨g,og,none⟩) N q2)))
  clear h0 hc hr hrr hgd hown hints hfr hN hrg hrlt x0 x1 x2 nBs nT
  go_upto_region 4 with (first | refine aq rfl _ _ rfl b O rfl (aL n0 n1 n2 ro (some ⟨g,og,none⟩) N q2) _ (fun j hj=>DD.out j hj) Tryz.underlying98 rfl fu ?_ | refine aB rfl _ _ _ rfl _ (aL n0 n1 n2 ro (some ⟨g,og,none⟩) N q2) rfl rfl fu rfl (eH ..) ?_)
  obtain ⟨w3,hW3,b3,hB3,hS3⟩:=aG w2 (aL n0 n1 n2 ro (some ⟨g,og,none⟩) N q2) 98;rw [hW3];have BF3:=η b3;have BS3:=η (BS2.out.below hB3 BS2.out.lt);have BT3:=η (BT2.out.below hB3 BT2.out.lt);have HBW3:=η (show Below w0.heap.size w0 w3 from HBW2.out.trans (hB3.mono HBW2.out.size));have HB23:=η hB3;have SW3:=η hS3;clear hW3 b3 hB3 hS3;obtain ⟨hd,hhd⟩:∃ hd,r.getD 0 0=hd:=⟨_,rfl⟩;have hhl:hd<qs.length:=by rw [← hhd];exact HRL.out 0
  obtain ⟨⟨A0,A1,A2⟩,hA⟩:=HAT.out hd hhl;have KA:Hid (∀ w',Below w3.heap.size w3 w'→w'.cell? ⟨Bs,0,none⟩=some (.slice (some ⟨bV,0,none⟩) qs.length cV)∧w'.cell? ⟨w2.heap.size,16,none⟩=some (.slice (some ⟨g,og,none⟩) N q2)∧w'.cell? ⟨g,og,none⟩=some (.int .i64 (hd:Nat))∧Λ w' bV (hd*12) A0 A1 A2):=fun w' h=>by
   have hw:=HBW3.out.trans (h.mono HBW3.out.size);have hc:=(hA w' hw).2;have h16:=HRG.out w' hw 0 hN0;rw [hhd] at h16;refine ⟨(BS3.out.below h BS3.out.lt).three.1,((BF3.out.below h BF3.out.lt).cell 16).trans rfl,h16,(hc 0 ω).trans rfl,(hc 1 ω).trans rfl,(hc 2 ω).trans rfl,(hc 3 ω).trans rfl,(hc 4 ω).trans rfl,(hc 5 ω).trans rfl,(hc 6 ω).trans rfl,(hc 7 ω).trans rfl,(hc 8 ω).trans rfl,(hc 9 ω).trans rfl,(hc 10 ω).trans rfl,(hc 11 ω).trans rfl⟩
  have hi1':(hd:Int)<(qs.length:Int):=ω;have hi2':(0:Int)<(N:Int):=ω;have HAH:=η hA;have HHD:=η hhd;clear hA hhd;refine bK (rest:=1) [isV 0 (.pointer (some ⟨Bs,0,none⟩)),isV 1 (.slice (some ⟨bV,0,none⟩) qs.length cV),isV 2 (.pointer (some ⟨w2.heap.size,16,none⟩)),isV 3 (.slice (some ⟨g,og,none⟩) N q2),isV 4 (.pointer (some ⟨g,og,none⟩)),isV 5 (.int .i64 (hd:Nat)),isV 6 (.pointer (some ⟨bV,hd*12,none⟩)),isV 7 (.agg #[.bool A0.s,.slice A0.a A0.n A0.c,.bool A0.t,.slice A0.b A0.m A0.d,.bool A1.s,.slice A1.a A1.n A1.c,.bool A1.t,.slice A1.b A1.m A1.d,.bool A2.s,.slice A2.a A2.n A2.c,.bool A2.t,.slice A2.b A2.m A2.d]),isP 8 (fun v w=>∃ g,v=.pointer (some ⟨g,0,none⟩)∧w3.heap.size≤g∧Box w g (ah RC.zero RC.zero RC.zero) 58)] [8] ?A4 #[true,true,true,true,true,true,true,true,true,false] κ [0,1,2,3,4,5,6,7,8] κ κ κ κ κ κ ?st ?hA ?hop ?hend
  case hA =>
   intro y;simp only [bj,cU,List.getElem?_toArray,List.getElem?_cons_zero,List.getElem?_cons_succ,Option.bind_some,Act.put,List.setIfInBounds_toArray,List.set_cons_zero,List.set_cons_succ];exact rfl
  case st=>exact aj.cons isV.stab (aj.cons isV.stab (aj.cons isV.stab (aj.cons isV.stab (aj.cons isV.stab (aj.cons isV.stab (aj.cons isV.stab (aj.cons isV.stab (aj.cons (isP.stab (fun v w w' h ⟨g,e,h1,h2⟩=>⟨g,e,h1,h2.below h h2.lt⟩)) (aj.nil)))))))))
  case hop =>
   refine ai.cons (i:=0) rfl (fun y w' hS hD K hK=>?_) ?_
   ·obtain ⟨c0,c1,c2,c3,c4,c5,c6,c7,c8,c9,c10,c11,c12,c13,c14⟩:=KA.out w' hS
    go_simp;exact hK.out _ w' hS β isV.put δ
   refine ai.cons (i:=1) rfl (fun y w' hS hD K hK=>?_) ?_
   ·have e0:=isV.get (i:=0) (c:=.pointer (some ⟨Bs,0,none⟩)) (hD 0 κ)
    obtain ⟨c0,c1,c2,c3,c4,c5,c6,c7,c8,c9,c10,c11,c12,c13,c14⟩:=KA.out w' hS;simp only [e0] at hK ⊢;go_simp;exact hK.out _ w' hS β isV.put δ
   refine ai.cons (i:=2) rfl (fun y w' hS hD K hK=>?_) ?_
   ·obtain ⟨c0,c1,c2,c3,c4,c5,c6,c7,c8,c9,c10,c11,c12,c13,c14⟩:=KA.out w' hS
    go_simp;exact hK.out _ w' hS β isV.put δ
   refine ai.cons (i:=3) rfl (fun y w' hS hD K hK=>?_) ?_
   ·have e2:=isV.get (i:=2) (c:=.pointer (some ⟨w2.heap.size,16,none⟩)) (hD 2 κ)
    obtain ⟨c0,c1,c2,c3,c4,c5,c6,c7,c8,c9,c10,c11,c12,c13,c14⟩:=KA.out w' hS;simp only [e2] at hK ⊢;go_simp;exact hK.out _ w' hS β isV.put δ
   refine ai.cons (i:=4) rfl (fun y w' hS hD K hK=>?_) ?_
   ·have e3:=isV.get (i:=3) (c:=.slice (some ⟨g,og,none⟩) N q2) (hD 3 κ)
    obtain ⟨c0,c1,c2,c3,c4,c5,c6,c7,c8,c9,c10,c11,c12,c13,c14⟩:=KA.out w' hS;simp only [e3] at hK ⊢;go_simp;exact hK.out _ w' hS β isV.put δ
   refine ai.cons (i:=5) rfl (fun y w' hS hD K hK=>?_) ?_
   ·have e4:=isV.get (i:=4) (c:=.pointer (some ⟨g,og,none⟩)) (hD 4 κ)
    obtain ⟨c0,c1,c2,c3,c4,c5,c6,c7,c8,c9,c10,c11,c12,c13,c14⟩:=KA.out w' hS;simp only [e4] at hK ⊢;go_simp;exact hK.out _ w' hS β isV.put δ
   refine ai.cons (i:=6) rfl (fun y w' hS hD K hK=>?_) ?_
   ·have e1:=isV.get (i:=1) (c:=.slice (some ⟨bV,0,none⟩) qs.length cV) (hD 1 κ)
    have e5:=isV.get (i:=5) (c:=.int .i64 (hd:Nat)) (hD 5 κ);obtain ⟨c0,c1,c2,c3,c4,c5,c6,c7,c8,c9,c10,c11,c12,c13,c14⟩:=KA.out w' hS;simp only [e1,e5] at hK ⊢;go_simp;exact hK.out _ w' hS β isV.put δ
   refine ai.cons (i:=7) rfl (fun y w' hS hD K hK=>?_) ?_
   ·have e6:=isV.get (i:=6) (c:=.pointer (some ⟨bV,hd*12,none⟩)) (hD 6 κ)
    obtain ⟨c0,c1,c2,c3,c4,c5,c6,c7,c8,c9,c10,c11,c12,c13,c14⟩:=KA.out w' hS;simp only [e6] at hK ⊢;go_simp;exact hK.out _ w' hS β isV.put δ
   refine ai.cons (i:=8) rfl (fun y w' hS hD K hK=>?_) ?_
   ·go_simp
    exact hK.out _ _ (hS.alloc hS.size _) (β.alloc ρ _) (isP.put ⟨_,rfl,hS.size,Box.new _ _ _ _ rfl⟩) (fun _ j hj hne _=>absurd (List.mem_singleton.1 hj) hne)
   exact ai.nil
  case hend =>
   intro y w' hS hR hF;have e7:=isV.get (i:=7) (c:=.agg #[.bool A0.s,.slice A0.a A0.n A0.c,.bool A0.t,.slice A0.b A0.m A0.d,.bool A1.s,.slice A1.a A1.n A1.c,.bool A1.t,.slice A1.b A1.m A1.d,.bool A2.s,.slice A2.a A2.n A2.c,.bool A2.t,.slice A2.b A2.m A2.d]) (hR 7 κ);simp only [e7];have e8:=isP.get (i:=8) (p:=fun v w=>∃ g,v=.pointer (some ⟨g,0,none⟩)∧w3.heap.size≤g∧Box w g (ah RC.zero RC.zero RC.zero) 58) (hR 8 κ);obtain ⟨ga,ea,hga,bga⟩:=e8;simp only [ea];obtain ⟨-,f0,f1,f2,f3⟩:=bga.p0;obtain ⟨-,f4,f5,f6,f7⟩:=bga.p1;obtain ⟨-,f8,f9,f10,f11⟩:=bga.p2;obtain ⟨c0,c1,c2,c3⟩:=bga.p0.1;obtain ⟨c4,c5,c6,c7⟩:=bga.p1.1;obtain ⟨c8,c9,c10,c11⟩:=bga.p2.1;refine bM (i:=9) (listed2:=#[true,true,true,true,true,true,true,true,true,true]) κ rfl κ (fun K hK=>?_);go_simp;refine hK.out _ _ ?_;clear hK K;refine bq κ ?_;clear f0 f1 f2 f3 f4 f5 f6 f7 f8 f9 f10 f11 c0 c1 c2 c3 c4 c5 c6 c7 c8 c9 c10 c11 hR;obtain ⟨w4,hw4⟩:∃ w4,put12 w' ga A0 A1 A2=w4:=⟨_,rfl⟩;have HB34:=η (show Below w3.heap.size w3 w4 from by rw [← hw4];exact bw hS hga A0 A1 A2);have BA4:=η (show Box w4 ga (ah A0 A1 A2) 58 from by rw [← hw4];exact bga.s12 A0 A1 A2);change Exit.then _ _ _ _ (put12 w' ga A0 A1 A2);rw [hw4];have LA4:=η hga;clear hw4 bga hS ea e7 hga;have J4:=η (HJ.out.below HJR.out (ae HB23.out HB34.out (ψ HB23.out.size)) (by have:=HKR.out.size;have:=H1.out.size;omega))
   go_wp2_with fail
   have szA:w2.heap.size<ga:=by have:=SW3.out;have:=LA4.out;omega
   have szB:w.heap.size≤W.heap.size:=hsz;have szC:W.heap.size<w2.heap.size:=by have:=BT2.out.lt;exact this
   have HB24:=η (ae HB23.out HB34.out (ψ HB23.out.size));have KC4:=η (show KeepC w0.heap.size X W1 w4 from HKR.out.trans (KeepC.below HB24.out (ψ HBW2.out.size)))
   go_loopw [7] (fun jv wr=>∃ k pre2,2≤k∧(k≤N∨k=2)∧jv=.int .i64 (k:Nat)∧Hid (pre2.map PV.p=ak (qAt qs) (rs.take i) ++ lX (qAt qs) r (k - 2))∧Hid (J pre2 wr)∧Hid (KeepC w0.heap.size X w4 wr)) (fun jv _=>N+2 - (intOf jv).toNat)
   case atStart=>exact ⟨2,pre,Nat.le_refl _,.inr rfl,rfl,η (show pre.map PV.p=_ from by rw [HPRE.out];simp [lX]),J4.out,KeepC.refl _ _ _⟩
   case round =>
    obtain ⟨k,pre2,hk2,hkN,rfl,HP2,HJ5,HK5⟩:=hrel;obtain ⟨w5,rfl⟩:∃ w5,w5=wr:=⟨_,rfl⟩;have nX:∀ k,W.heap.size≤k→¬ X k:=fun k hk h=>by have:=(HX.out k h).1;omega
    have BS5:=η ((BS3.out.below HB34.out BS3.out.lt).keepC HK5.out (fun h=>(HX.out Bs h).2 rfl));have BT5:=η ((BT3.out.below HB34.out BT3.out.lt).keepC HK5.out (nX _ ρ));have BF5:=η ((BF3.out.below HB34.out BF3.out.lt).keepC HK5.out (nX _ ω));have BA5:=η (BA4.out.keepC HK5.out (nX _ ω));have HBW5:=η (show Below w0.heap.size w0 w5 from (HBW3.out.trans (HB34.out.mono HBW3.out.size)).trans HK5.out.bel);have f16:w5.cell? ⟨w2.heap.size,16,none⟩=some (.slice (some ⟨g,og,none⟩) N q2):=(BF5.out.cell 16).trans rfl;by_cases h1:k<N
    ·have hlt2:(k:Int)<(N:Int):=ω
     go_wp2_with fail
     obtain ⟨m,hm⟩:∃ m,k=m+1:=⟨k - 1,by omega⟩;have hmN:m<N:=ω;obtain ⟨xb,hxb⟩:∃ xb,r.getD m 0=xb:=⟨_,rfl⟩;obtain ⟨xc,hxc⟩:∃ xc,r.getD k 0=xc:=⟨_,rfl⟩;have hbl:xb<qs.length:=by rw [← hxb];exact HRL.out _
     have hcl:xc<qs.length:=by rw [← hxc];exact HRL.out _
     obtain ⟨⟨B0,B1,B2⟩,hB⟩:=HAT.out xb hbl;obtain ⟨⟨C0,C1,C2⟩,hC⟩:=HAT.out xc hcl;have KB:Hid (∀ w',Below w5.heap.size w5 w'→w'.cell? ⟨Bs,0,none⟩=some (.slice (some ⟨bV,0,none⟩) qs.length cV)∧w'.cell? ⟨w2.heap.size,16,none⟩=some (.slice (some ⟨g,og,none⟩) N q2)∧w'.cell? ⟨g,og+m,none⟩=some (.int .i64 (xb:Nat))∧w'.cell? ⟨g,og+k,none⟩=some (.int .i64 (xc:Nat))∧w'.cell? ⟨bV,xb*12,none⟩=some (.bool B0.s)∧w'.cell? ⟨bV,xb*12+1,none⟩=some (.slice B0.a B0.n B0.c)∧w'.cell? ⟨bV,xb*12+2,none⟩=some (.bool B0.t)∧w'.cell? ⟨bV,xb*12+3,none⟩=some (.slice B0.b B0.m B0.d)∧w'.cell? ⟨bV,xb*12+4,none⟩=some (.bool B1.s)∧w'.cell? ⟨bV,xb*12+5,none⟩=some (.slice B1.a B1.n B1.c)∧w'.cell? ⟨bV,xb*12+6,none⟩=some (.bool B1.t)∧w'.cell? ⟨bV,xb*12+7,none⟩=some (.slice B1.b B1.m B1.d)∧w'.cell? ⟨bV,xb*12+8,none⟩=some (.bool B2.s)∧w'.cell? ⟨bV,xb*12+9,none⟩=some (.slice B2.a B2.n B2.c)∧w'.cell? ⟨bV,xb*12+10,none⟩=some (.bool B2.t)∧w'.cell? ⟨bV,xb*12+11,none⟩=some (.slice B2.b B2.m B2.d)∧Λ w' bV (xc*12) C0 C1 C2):=fun w' h=>by
      have hw:=HBW5.out.trans (h.mono HBW5.out.size);have hb:=(hB w' hw).2;have hc:=(hC w' hw).2;have g1:=HRG.out w' hw m hmN;have g2:=HRG.out w' hw k h1;rw [hxb] at g1;rw [hxc] at g2;exact ⟨(BS5.out.below h BS5.out.lt).three.1,((BF5.out.below h BF5.out.lt).cell 16).trans rfl,g1,g2,(hb 0 ω).trans rfl,(hb 1 ω).trans rfl,(hb 2 ω).trans rfl,(hb 3 ω).trans rfl,(hb 4 ω).trans rfl,(hb 5 ω).trans rfl,(hb 6 ω).trans rfl,(hb 7 ω).trans rfl,(hb 8 ω).trans rfl,(hb 9 ω).trans rfl,(hb 10 ω).trans rfl,(hb 11 ω).trans rfl,(hc 0 ω).trans rfl,(hc 1 ω).trans rfl,(hc 2 ω).trans rfl,(hc 3 ω).trans rfl,(hc 4 ω).trans rfl,(hc 5 ω).trans rfl,(hc 6 ω).trans rfl,(hc 7 ω).trans rfl,(hc 8 ω).trans rfl,(hc 9 ω).trans rfl,(hc 10 ω).trans rfl,(hc 11 ω).trans rfl⟩
     have hi1':(xb:Int)<(qs.length:Int):=ω;have hi2':(xc:Int)<(qs.length:Int):=ω;have hi3':(m:Int)<(N:Int):=ω;have hi4':(k:Int) - 1=(m:Int):=ω;have hi5':IntKind.i64.wrap ((k:Int) - 1)=(m:Int):=by rw [hi4'];exact IntWalk.i64_in _ ⟨by omega,by omega⟩
     have hi6':IntKind.i64.wrap (m:Int)=(m:Int):=IntWalk.i64_in _ ⟨by omega,by omega⟩;have HM:=η hm;have HK2:=η hk2;have HKN:=η h1;clear hm hk2 hkN;have HBH:=η hB;have HCH:=η hC;have HXB:=η hxb;have HXC:=η hxc;clear hB hC hxb hxc f16;refine gH qo 21 58 (rest:=1) [isV 0 (.pointer (some ⟨Bs,0,none⟩)),isV 1 (.slice (some ⟨bV,0,none⟩) qs.length cV),isV 2 (.pointer (some ⟨w2.heap.size,16,none⟩)),isV 3 (.slice (some ⟨g,og,none⟩) N q2),isV 4 (.int .i64 (k:Nat)),isV 5 (.int .i64 (m:Nat)),isV 6 (.pointer (some ⟨g,og+m,none⟩)),isV 7 (.int .i64 (xb:Nat)),isV 8 (.pointer (some ⟨bV,xb*12,none⟩)),isV 9 (.agg #[.bool B0.s,.slice B0.a B0.n B0.c,.bool B0.t,.slice B0.b B0.m B0.d,.bool B1.s,.slice B1.a B1.n B1.c,.bool B1.t,.slice B1.b B1.m B1.d,.bool B2.s,.slice B2.a B2.n B2.c,.bool B2.t,.slice B2.b B2.m B2.d]),isV 10 (.pointer (some ⟨Bs,0,none⟩)),isV 11 (.slice (some ⟨bV,0,none⟩) qs.length cV),isV 12 (.pointer (some ⟨w2.heap.size,16,none⟩)),isV 13 (.slice (some ⟨g,og,none⟩) N q2),isV 14 (.int .i64 (k:Nat)),isV 15 (.pointer (some ⟨g,og+k,none⟩)),isV 16 (.int .i64 (xc:Nat)),isV 17 (.pointer (some ⟨bV,xc*12,none⟩)),isV 18 (.agg #[.bool C0.s,.slice C0.a C0.n C0.c,.bool C0.t,.slice C0.b C0.m C0.d,.bool C1.s,.slice C1.a C1.n C1.c,.bool C1.t,.slice C1.b C1.m C1.d,.bool C2.s,.slice C2.a C2.n C2.c,.bool C2.t,.slice C2.b C2.m C2.d]),isP 19 (dS qo w5.heap.size 58),isP 20 (dS qo w5.heap.size 58),isS 19 w5.heap.size 58 (fun cs _=>cs=ah B0 B1 B2)] [19,20] ?A8 #[true,true,true,true,true,true,true,true,true,true,true,true,true,true,true,true,true,true,true,true,true,true,false] κ [0,1,2,3,4,5,6,7,8,9,10,11,12,13,14,15,16,17,18,19,20,21] κ κ κ κ κ κ ?st ?st2 ?hA ?hop ?hend
     case hA =>
      intro y;simp only [bj,cU,List.getElem?_toArray,List.getElem?_cons_zero,List.getElem?_cons_succ,Option.bind_some,Act.put,List.setIfInBounds_toArray,List.set_cons_zero,List.set_cons_succ];exact rfl
     case st=>exact aj.cons isV.stab (aj.cons isV.stab (aj.cons isV.stab (aj.cons isV.stab (aj.cons isV.stab (aj.cons isV.stab (aj.cons isV.stab (aj.cons isV.stab (aj.cons isV.stab (aj.cons isV.stab (aj.cons isV.stab (aj.cons isV.stab (aj.cons isV.stab (aj.cons isV.stab (aj.cons isV.stab (aj.cons isV.stab (aj.cons isV.stab (aj.cons isV.stab (aj.cons isV.stab (aj.cons (isP.stab dS.stab) (aj.cons (isP.stab dS.stab) (aj.cons (isS.stab (fun _ _ _ _ h=>h)) (aj.nil))))))))))))))))))))))
     case st2=>exact aI.cons isV.stabW (aI.cons isV.stabW (aI.cons isV.stabW (aI.cons isV.stabW (aI.cons isV.stabW (aI.cons isV.stabW (aI.cons isV.stabW (aI.cons isV.stabW (aI.cons isV.stabW (aI.cons isV.stabW (aI.cons isV.stabW (aI.cons isV.stabW (aI.cons isV.stabW (aI.cons isV.stabW (aI.cons isV.stabW (aI.cons isV.stabW (aI.cons isV.stabW (aI.cons isV.stabW (aI.cons isV.stabW (aI.cons (isP.stabW dS.stabW) (aI.cons (isP.stabW dS.stabW) (aI.cons (isN.stabW (i:=0)) (aI.nil))))))))))))))))))))))
     case hop =>
      refine ai.cons (i:=0) rfl (fun y w' hS hD K hK=>?_) ?_
      ·obtain ⟨z0,z1,z2,z3,b0,b1,b2,b3,b4,b5,b6,b7,b8,b9,b10,b11,c0,c1,c2,c3,c4,c5,c6,c7,c8,c9,c10,c11⟩:=KB.out w' hS
       go_simp;exact hK.out _ w' hS (bn.old β) isV.put δ
      refine ai.cons (i:=1) rfl (fun y w' hS hD K hK=>?_) ?_
      ·have e0:=isV.get (i:=0) (c:=.pointer (some ⟨Bs,0,none⟩)) (hD 0 κ)
       obtain ⟨z0,z1,z2,z3,b0,b1,b2,b3,b4,b5,b6,b7,b8,b9,b10,b11,c0,c1,c2,c3,c4,c5,c6,c7,c8,c9,c10,c11⟩:=KB.out w' hS;simp only [e0] at hK ⊢;go_simp;exact hK.out _ w' hS (bn.old β) isV.put δ
      refine ai.cons (i:=2) rfl (fun y w' hS hD K hK=>?_) ?_
      ·obtain ⟨z0,z1,z2,z3,b0,b1,b2,b3,b4,b5,b6,b7,b8,b9,b10,b11,c0,c1,c2,c3,c4,c5,c6,c7,c8,c9,c10,c11⟩:=KB.out w' hS
       go_simp;exact hK.out _ w' hS (bn.old β) isV.put δ
      refine ai.cons (i:=3) rfl (fun y w' hS hD K hK=>?_) ?_
      ·have e2:=isV.get (i:=2) (c:=.pointer (some ⟨w2.heap.size,16,none⟩)) (hD 2 κ)
       obtain ⟨z0,z1,z2,z3,b0,b1,b2,b3,b4,b5,b6,b7,b8,b9,b10,b11,c0,c1,c2,c3,c4,c5,c6,c7,c8,c9,c10,c11⟩:=KB.out w' hS;simp only [e2] at hK ⊢;go_simp;exact hK.out _ w' hS (bn.old β) isV.put δ
      refine ai.cons (i:=4) rfl (fun y w' hS hD K hK=>?_) ?_
      ·obtain ⟨z0,z1,z2,z3,b0,b1,b2,b3,b4,b5,b6,b7,b8,b9,b10,b11,c0,c1,c2,c3,c4,c5,c6,c7,c8,c9,c10,c11⟩:=KB.out w' hS
       go_simp;exact hK.out _ w' hS (bn.old β) isV.put δ
      refine ai.cons (i:=5) rfl (fun y w' hS hD K hK=>?_) ?_
      ·have e4:=isV.get (i:=4) (c:=.int .i64 (k:Nat)) (hD 4 κ)
       obtain ⟨z0,z1,z2,z3,b0,b1,b2,b3,b4,b5,b6,b7,b8,b9,b10,b11,c0,c1,c2,c3,c4,c5,c6,c7,c8,c9,c10,c11⟩:=KB.out w' hS;simp only [e4] at hK ⊢;go_simp
       (try rw [hi6'])
       exact hK.out _ w' hS (bn.old β) isV.put δ
      refine ai.cons (i:=6) rfl (fun y w' hS hD K hK=>?_) ?_
      ·have e3:=isV.get (i:=3) (c:=.slice (some ⟨g,og,none⟩) N q2) (hD 3 κ)
       have e5:=isV.get (i:=5) (c:=.int .i64 (m:Nat)) (hD 5 κ);obtain ⟨z0,z1,z2,z3,b0,b1,b2,b3,b4,b5,b6,b7,b8,b9,b10,b11,c0,c1,c2,c3,c4,c5,c6,c7,c8,c9,c10,c11⟩:=KB.out w' hS;simp only [e3,e5] at hK ⊢;go_simp;exact hK.out _ w' hS (bn.old β) isV.put δ
      refine ai.cons (i:=7) rfl (fun y w' hS hD K hK=>?_) ?_
      ·have e6:=isV.get (i:=6) (c:=.pointer (some ⟨g,og+m,none⟩)) (hD 6 κ)
       obtain ⟨z0,z1,z2,z3,b0,b1,b2,b3,b4,b5,b6,b7,b8,b9,b10,b11,c0,c1,c2,c3,c4,c5,c6,c7,c8,c9,c10,c11⟩:=KB.out w' hS;simp only [e6] at hK ⊢;go_simp;exact hK.out _ w' hS (bn.old β) isV.put δ
      refine ai.cons (i:=8) rfl (fun y w' hS hD K hK=>?_) ?_
      ·have e1:=isV.get (i:=1) (c:=.slice (some ⟨bV,0,none⟩) qs.length cV) (hD 1 κ)
       have e7:=isV.get (i:=7) (c:=.int .i64 (xb:Nat)) (hD 7 κ);obtain ⟨z0,z1,z2,z3,b0,b1,b2,b3,b4,b5,b6,b7,b8,b9,b10,b11,c0,c1,c2,c3,c4,c5,c6,c7,c8,c9,c10,c11⟩:=KB.out w' hS;simp only [e1,e7] at hK ⊢;go_simp;exact hK.out _ w' hS (bn.old β) isV.put δ
      refine ai.cons (i:=9) rfl (fun y w' hS hD K hK=>?_) ?_
      ·have e8:=isV.get (i:=8) (c:=.pointer (some ⟨bV,xb*12,none⟩)) (hD 8 κ)
       obtain ⟨z0,z1,z2,z3,b0,b1,b2,b3,b4,b5,b6,b7,b8,b9,b10,b11,c0,c1,c2,c3,c4,c5,c6,c7,c8,c9,c10,c11⟩:=KB.out w' hS;simp only [e8] at hK ⊢;go_simp;exact hK.out _ w' hS (bn.old β) isV.put δ
      refine ai.cons (i:=10) rfl (fun y w' hS hD K hK=>?_) ?_
      ·obtain ⟨z0,z1,z2,z3,b0,b1,b2,b3,b4,b5,b6,b7,b8,b9,b10,b11,c0,c1,c2,c3,c4,c5,c6,c7,c8,c9,c10,c11⟩:=KB.out w' hS
       go_simp;exact hK.out _ w' hS (bn.old β) isV.put δ
      refine ai.cons (i:=11) rfl (fun y w' hS hD K hK=>?_) ?_
      ·have e10:=isV.get (i:=10) (c:=.pointer (some ⟨Bs,0,none⟩)) (hD 10 κ)
       obtain ⟨z0,z1,z2,z3,b0,b1,b2,b3,b4,b5,b6,b7,b8,b9,b10,b11,c0,c1,c2,c3,c4,c5,c6,c7,c8,c9,c10,c11⟩:=KB.out w' hS;simp only [e10] at hK ⊢;go_simp;exact hK.out _ w' hS (bn.old β) isV.put δ
      refine ai.cons (i:=12) rfl (fun y w' hS hD K hK=>?_) ?_
      ·obtain ⟨z0,z1,z2,z3,b0,b1,b2,b3,b4,b5,b6,b7,b8,b9,b10,b11,c0,c1,c2,c3,c4,c5,c6,c7,c8,c9,c10,c11⟩:=KB.out w' hS
       go_simp;exact hK.out _ w' hS (bn.old β) isV.put δ
      refine ai.cons (i:=13) rfl (fun y w' hS hD K hK=>?_) ?_
      ·have e12:=isV.get (i:=12) (c:=.pointer (some ⟨w2.heap.size,16,none⟩)) (hD 12 κ)
       obtain ⟨z0,z1,z2,z3,b0,b1,b2,b3,b4,b5,b6,b7,b8,b9,b10,b11,c0,c1,c2,c3,c4,c5,c6,c7,c8,c9,c10,c11⟩:=KB.out w' hS;simp only [e12] at hK ⊢;go_simp;exact hK.out _ w' hS (bn.old β) isV.put δ
      refine ai.cons (i:=14) rfl (fun y w' hS hD K hK=>?_) ?_
      ·obtain ⟨z0,z1,z2,z3,b0,b1,b2,b3,b4,b5,b6,b7,b8,b9,b10,b11,c0,c1,c2,c3,c4,c5,c6,c7,c8,c9,c10,c11⟩:=KB.out w' hS
       go_simp;exact hK.out _ w' hS (bn.old β) isV.put δ
      refine ai.cons (i:=15) rfl (fun y w' hS hD K hK=>?_) ?_
      ·have e13:=isV.get (i:=13) (c:=.slice (some ⟨g,og,none⟩) N q2) (hD 13 κ)
       have e14:=isV.get (i:=14) (c:=.int .i64 (k:Nat)) (hD 14 κ);obtain ⟨z0,z1,z2,z3,b0,b1,b2,b3,b4,b5,b6,b7,b8,b9,b10,b11,c0,c1,c2,c3,c4,c5,c6,c7,c8,c9,c10,c11⟩:=KB.out w' hS;simp only [e13,e14] at hK ⊢;go_simp;exact hK.out _ w' hS (bn.old β) isV.put δ
      refine ai.cons (i:=16) rfl (fun y w' hS hD K hK=>?_) ?_
      ·have e15:=isV.get (i:=15) (c:=.pointer (some ⟨g,og+k,none⟩)) (hD 15 κ)
       obtain ⟨z0,z1,z2,z3,b0,b1,b2,b3,b4,b5,b6,b7,b8,b9,b10,b11,c0,c1,c2,c3,c4,c5,c6,c7,c8,c9,c10,c11⟩:=KB.out w' hS;simp only [e15] at hK ⊢;go_simp;exact hK.out _ w' hS (bn.old β) isV.put δ
      refine ai.cons (i:=17) rfl (fun y w' hS hD K hK=>?_) ?_
      ·have e11:=isV.get (i:=11) (c:=.slice (some ⟨bV,0,none⟩) qs.length cV) (hD 11 κ)
       have e16:=isV.get (i:=16) (c:=.int .i64 (xc:Nat)) (hD 16 κ);obtain ⟨z0,z1,z2,z3,b0,b1,b2,b3,b4,b5,b6,b7,b8,b9,b10,b11,c0,c1,c2,c3,c4,c5,c6,c7,c8,c9,c10,c11⟩:=KB.out w' hS;simp only [e11,e16] at hK ⊢;go_simp;exact hK.out _ w' hS (bn.old β) isV.put δ
      refine ai.cons (i:=18) rfl (fun y w' hS hD K hK=>?_) ?_
      ·have e17:=isV.get (i:=17) (c:=.pointer (some ⟨bV,xc*12,none⟩)) (hD 17 κ)
       obtain ⟨z0,z1,z2,z3,b0,b1,b2,b3,b4,b5,b6,b7,b8,b9,b10,b11,c0,c1,c2,c3,c4,c5,c6,c7,c8,c9,c10,c11⟩:=KB.out w' hS;simp only [e17] at hK ⊢;go_simp;exact hK.out _ w' hS (bn.old β) isV.put δ
      refine ai.cons (i:=19) rfl (fun y w' hS hD K hK=>?_) ?_
      ·go_simp
       exact hK.out _ _ (hS.alloc hS.size _) (bn.old (β.alloc ρ _)) (isP.put ⟨_,_,rfl,hS.size,sh12 RC.zero RC.zero RC.zero,Box.new _ _ _ _ rfl⟩) (fun _ j hj hne hr=>by
    have hj':j=19∨j=20:=by simpa using hj
    rcases hj' with rfl | rfl
    ·exact absurd rfl hne
    ·obtain ⟨g,_,e,h1,_,h2⟩:=isP.get (i:=20) (p:=dS qo w5.heap.size 58) hr
     rw [e];intro h;cases h;exact absurd h2.lt (Nat.lt_irrefl _))
      refine ai.cons (i:=20) rfl (fun y w' hS hD K hK=>?_) ?_
      ·go_simp
       exact hK.out _ _ (hS.alloc hS.size _) (bn.old (β.alloc ρ _)) (isP.put ⟨_,_,rfl,hS.size,sh12 RC.zero RC.zero RC.zero,Box.new _ _ _ _ rfl⟩) (fun _ j hj hne hr=>by
    have hj':j=19∨j=20:=by simpa using hj
    rcases hj' with rfl | rfl
    ·obtain ⟨g,_,e,h1,_,h2⟩:=isP.get (i:=19) (p:=dS qo w5.heap.size 58) hr
     rw [e];intro h;cases h;exact absurd h2.lt (Nat.lt_irrefl _)
    ·exact absurd rfl hne)
      refine ai.cons (i:=21) rfl (fun y w' hS hD K hK=>?_) ?_
      ·have e9:=isV.get (i:=9) (c:=.agg #[.bool B0.s,.slice B0.a B0.n B0.c,.bool B0.t,.slice B0.b B0.m B0.d,.bool B1.s,.slice B1.a B1.n B1.c,.bool B1.t,.slice B1.b B1.m B1.d,.bool B2.s,.slice B2.a B2.n B2.c,.bool B2.t,.slice B2.b B2.m B2.d]) (hD 9 κ)
       have eb:=isP.get (i:=19) (p:=dS qo w5.heap.size 58) (hD 19 κ);obtain ⟨ga,_,ea,hga,⟨s0,s1,s2,rfl⟩,bga⟩:=eb;simp only [e9,ea] at hK ⊢;obtain ⟨-,f0,f1,f2,f3⟩:=bga.p0;obtain ⟨c0,c1,c2,c3⟩:=bga.p0.1;obtain ⟨-,f4,f5,f6,f7⟩:=bga.p1;obtain ⟨c4,c5,c6,c7⟩:=bga.p1.1;obtain ⟨-,f8,f9,f10,f11⟩:=bga.p2;obtain ⟨c8,c9,c10,c11⟩:=bga.p2.1;go_simp;exact hK.out undef (put12 w' ga B0 B1 B2) (bw hS hga _ _ _) (bn.new (Wr.put12 hga bga _ _ _)) (isS.put ν ea hga (bga.s12 _ _ _) rfl) δ
      exact ai.nil
     case hend =>
      intro y w' hS hR hF;have e18:=isV.get (i:=18) (c:=.agg #[.bool C0.s,.slice C0.a C0.n C0.c,.bool C0.t,.slice C0.b C0.m C0.d,.bool C1.s,.slice C1.a C1.n C1.c,.bool C1.t,.slice C1.b C1.m C1.d,.bool C2.s,.slice C2.a C2.n C2.c,.bool C2.t,.slice C2.b C2.m C2.d]) (hR 18 κ);simp only [e18];obtain ⟨gb,_,eb,hgb,bgb,rfl⟩:=isS.get (i:=19) (n:=w5.heap.size) (t:=58) (p:=fun cs _=>cs=ah B0 B1 B2) (hR 21 κ);obtain ⟨gc,_,ec,hgc2,⟨s0,s1,s2,rfl⟩,bgc⟩:=isP.get (i:=20) (p:=dS qo w5.heap.size 58) (hR 20 κ);have hne:gb≠gc:=fun h=>hF 19 (by simp) 20 (by simp) κ κ ν (by rw [eb,ec,h])
      simp only [eb,ec];obtain ⟨-,f0,f1,f2,f3⟩:=bgc.p0;obtain ⟨c0,c1,c2,c3⟩:=bgc.p0.1;obtain ⟨-,f4,f5,f6,f7⟩:=bgc.p1;obtain ⟨c4,c5,c6,c7⟩:=bgc.p1.1;obtain ⟨-,f8,f9,f10,f11⟩:=bgc.p2;obtain ⟨c8,c9,c10,c11⟩:=bgc.p2.1;refine bM (i:=22) (listed2:=#[true,true,true,true,true,true,true,true,true,true,true,true,true,true,true,true,true,true,true,true,true,true,true]) κ rfl κ (fun K hK=>?_);go_simp;refine hK.out _ _ ?_;clear hK K;refine bq κ ?_;clear f0 c0 f1 c1 f2 c2 f3 c3 f4 c4 f5 c5 f6 c6 f7 c7 f8 c8 f9 c9 f10 c10 f11 c11;obtain ⟨w7,hw7⟩:∃ w7,put12 w' gc C0 C1 C2=w7:=⟨_,rfl⟩;have HB57:=η (show Below w5.heap.size w5 w7 from by rw [← hw7];exact bw hS hgc2 C0 C1 C2);have BB7:=η (show Box w7 gb (ah B0 B1 B2) 58 from by rw [← hw7];exact bgb.o12 hne C0 C1 C2);have BC7:=η (show Box w7 gc (ah C0 C1 C2) 58 from by rw [← hw7];exact bgc.s12 C0 C1 C2);change Exit.then _ _ _ _ (put12 w' gc C0 C1 C2);rw [hw7];have J7:=η (HJ.out.below HJ5.out HB57.out (by have:=HK5.out.size;have:=HB34.out.size;have:=HB23.out.size;omega));have BT7:=η (BT5.out.below HB57.out BT5.out.lt);have BA7:=η (BA5.out.below HB57.out BA5.out.lt);have HBW7:=η (show Below w0.heap.size w0 w7 from HBW5.out.trans (HB57.out.mono HBW5.out.size));clear hw7 bgb bgc hS hR hF eb ec e18
      go_upto_region 9 with fail
      have HQ:Hid (∀ i,i<qs.length→BdV kq (qAt qs i)):=fun i hi=>HS.out.bd _ (by unfold qAt;rw [List.getD_eq_getElem?_getD,List.getElem?_eq_getElem hi];exact List.getElem_mem hi)
      have VT:Hid (∀ w',Below w7.heap.size w7 w'→aA w' (.agg (ah T0 T1 T2)) (qAt qs 0)):=fun w' h=>(HT0.out w' (HBW7.out.trans (h.mono HBW7.out.size))).1
      have VA:Hid (∀ w',Below w7.heap.size w7 w'→aA w' (.agg (ah A0 A1 A2)) (qAt qs hd)):=fun w' h=>(HAH.out w' (HBW7.out.trans (h.mono HBW7.out.size))).1
      have VB:Hid (∀ w',Below w7.heap.size w7 w'→aA w' (.agg (ah B0 B1 B2)) (qAt qs xb)):=fun w' h=>(HBH.out w' (HBW7.out.trans (h.mono HBW7.out.size))).1
      have VC:Hid (∀ w',Below w7.heap.size w7 w'→aA w' (.agg (ah C0 C1 C2)) (qAt qs xc)):=fun w' h=>(HCH.out w' (HBW7.out.trans (h.mono HBW7.out.size))).1
      refine bK (rest:=1) [isV 0 (.agg #[.bool A0.s,.slice A0.a A0.n A0.c,.bool A0.t,.slice A0.b A0.m A0.d,.bool A1.s,.slice A1.a A1.n A1.c,.bool A1.t,.slice A1.b A1.m A1.d,.bool A2.s,.slice A2.a A2.n A2.c,.bool A2.t,.slice A2.b A2.m A2.d]),isV 1 (.agg #[.bool T0.s,.slice T0.a T0.n T0.c,.bool T0.t,.slice T0.b T0.m T0.d,.bool T1.s,.slice T1.a T1.n T1.c,.bool T1.t,.slice T1.b T1.m T1.d,.bool T2.s,.slice T2.a T2.n T2.c,.bool T2.t,.slice T2.b T2.m T2.d]),isP 2 (fun v w=>aA w v (qsub (qAt qs hd) (qAt qs 0))),isV 3 (.agg #[.bool B0.s,.slice B0.a B0.n B0.c,.bool B0.t,.slice B0.b B0.m B0.d,.bool B1.s,.slice B1.a B1.n B1.c,.bool B1.t,.slice B1.b B1.m B1.d,.bool B2.s,.slice B2.a B2.n B2.c,.bool B2.t,.slice B2.b B2.m B2.d]),isV 4 (.agg #[.bool T0.s,.slice T0.a T0.n T0.c,.bool T0.t,.slice T0.b T0.m T0.d,.bool T1.s,.slice T1.a T1.n T1.c,.bool T1.t,.slice T1.b T1.m T1.d,.bool T2.s,.slice T2.a T2.n T2.c,.bool T2.t,.slice T2.b T2.m T2.d]),isP 5 (fun v w=>aA w v (qsub (qAt qs xb) (qAt qs 0))),isV 6 (.agg #[.bool C0.s,.slice C0.a C0.n C0.c,.bool C0.t,.slice C0.b C0.m C0.d,.bool C1.s,.slice C1.a C1.n C1.c,.bool C1.t,.slice C1.b C1.m C1.d,.bool C2.s,.slice C2.a C2.n C2.c,.bool C2.t,.slice C2.b C2.m C2.d]),isV 7 (.agg #[.bool T0.s,.slice T0.a T0.n T0.c,.bool T0.t,.slice T0.b T0.m T0.d,.bool T1.s,.slice T1.a T1.n T1.c,.bool T1.t,.slice T1.b T1.m T1.d,.bool T2.s,.slice T2.a T2.n T2.c,.bool T2.t,.slice T2.b T2.m T2.d]),isP 8 (fun v w=>aA w v (qsub (qAt qs xc) (qAt qs 0))),isP 9 (fun v w=>am w v (fJ (qAt qs 0) (qAt qs hd) (qAt qs xb) (qAt qs xc))),isP 10 (fun v w=>∃ g,v=.pointer (some ⟨g,0,none⟩)∧w7.heap.size≤g∧Box w g (#[.bool false,.slice none 0 0,.bool false,.slice none 0 0]) 56)] [10] ?A9 #[true,true,true,true,true,true,true,true,true,true,true,false] κ [0,1,2,3,4,5,6,7,8,9,10] κ κ κ κ κ κ ?st ?hA ?hop ?hend
      case hA =>
       intro y;simp only [bj,cU,List.getElem?_toArray,List.getElem?_cons_zero,List.getElem?_cons_succ,Option.bind_some,Act.put,List.setIfInBounds_toArray,List.set_cons_zero,List.set_cons_succ];exact rfl
      case st=>exact aj.cons isV.stab (aj.cons isV.stab (aj.cons (isP.stab (fun _ _ _ h hv=>hv.below h)) (aj.cons isV.stab (aj.cons isV.stab (aj.cons (isP.stab (fun _ _ _ h hv=>hv.below h)) (aj.cons isV.stab (aj.cons isV.stab (aj.cons (isP.stab (fun _ _ _ h hv=>hv.below h)) (aj.cons (isP.stab (fun _ _ _ h hv=>hv.below h)) (aj.cons (isP.stab (fun v w w' h ⟨g,e,h1,h2⟩=>⟨g,e,h1,h2.below h h2.lt⟩)) (aj.nil)))))))))))
      case hop =>
       refine ai.cons (i:=0) rfl (fun y w' hS hD K hK=>?_) ?_
       ·have bx:=BA7.out.below hS BA7.out.lt
        obtain ⟨c0,c1,c2,c3⟩:=bx.p0.1;obtain ⟨c4,c5,c6,c7⟩:=bx.p1.1;obtain ⟨c8,c9,c10,c11⟩:=bx.p2.1;go_simp;exact hK.out _ w' hS β isV.put δ
       refine ai.cons (i:=1) rfl (fun y w' hS hD K hK=>?_) ?_
       ·have bx:=BT7.out.below hS BT7.out.lt
        obtain ⟨c0,c1,c2,c3⟩:=bx.p0.1;obtain ⟨c4,c5,c6,c7⟩:=bx.p1.1;obtain ⟨c8,c9,c10,c11⟩:=bx.p2.1;go_simp;exact hK.out _ w' hS β isV.put δ
       refine ai.cons (i:=2) rfl (fun y w' hS hD K hK=>?_) ?_
       ·have e0:=isV.get (i:=0) (c:=.agg #[.bool A0.s,.slice A0.a A0.n A0.c,.bool A0.t,.slice A0.b A0.m A0.d,.bool A1.s,.slice A1.a A1.n A1.c,.bool A1.t,.slice A1.b A1.m A1.d,.bool A2.s,.slice A2.a A2.n A2.c,.bool A2.t,.slice A2.b A2.m A2.d]) (hD 0 κ)
        have e1:=isV.get (i:=1) (c:=.agg #[.bool T0.s,.slice T0.a T0.n T0.c,.bool T0.t,.slice T0.b T0.m T0.d,.bool T1.s,.slice T1.a T1.n T1.c,.bool T1.t,.slice T1.b T1.m T1.d,.bool T2.s,.slice T2.a T2.n T2.c,.bool T2.t,.slice T2.b T2.m T2.d]) (hD 1 κ);simp only [e0,e1] at hK ⊢;go_simp;refine (nL _ _ (qAt qs hd) (qAt qs 0) kq kq w' (VA.out w' hS) (VT.out w' hS) (HQ.out _ hhl) (HQ.out _ hq0) ω).mono ?_;rintro e w'' ⟨⟨v,rfl,hv⟩,hb⟩;exact hK.out v w'' (ae hS hb ρ) hb (isP.put hv) δ
       refine ai.cons (i:=3) rfl (fun y w' hS hD K hK=>?_) ?_
       ·have bx:=BB7.out.below hS BB7.out.lt
        obtain ⟨c0,c1,c2,c3⟩:=bx.p0.1;obtain ⟨c4,c5,c6,c7⟩:=bx.p1.1;obtain ⟨c8,c9,c10,c11⟩:=bx.p2.1;go_simp;exact hK.out _ w' hS β isV.put δ
       refine ai.cons (i:=4) rfl (fun y w' hS hD K hK=>?_) ?_
       ·have bx:=BT7.out.below hS BT7.out.lt
        obtain ⟨c0,c1,c2,c3⟩:=bx.p0.1;obtain ⟨c4,c5,c6,c7⟩:=bx.p1.1;obtain ⟨c8,c9,c10,c11⟩:=bx.p2.1;go_simp;exact hK.out _ w' hS β isV.put δ
       refine ai.cons (i:=5) rfl (fun y w' hS hD K hK=>?_) ?_
       ·have e3:=isV.get (i:=3) (c:=.agg #[.bool B0.s,.slice B0.a B0.n B0.c,.bool B0.t,.slice B0.b B0.m B0.d,.bool B1.s,.slice B1.a B1.n B1.c,.bool B1.t,.slice B1.b B1.m B1.d,.bool B2.s,.slice B2.a B2.n B2.c,.bool B2.t,.slice B2.b B2.m B2.d]) (hD 3 κ)
        have e4:=isV.get (i:=4) (c:=.agg #[.bool T0.s,.slice T0.a T0.n T0.c,.bool T0.t,.slice T0.b T0.m T0.d,.bool T1.s,.slice T1.a T1.n T1.c,.bool T1.t,.slice T1.b T1.m T1.d,.bool T2.s,.slice T2.a T2.n T2.c,.bool T2.t,.slice T2.b T2.m T2.d]) (hD 4 κ);simp only [e3,e4] at hK ⊢;go_simp;refine (nL _ _ (qAt qs xb) (qAt qs 0) kq kq w' (VB.out w' hS) (VT.out w' hS) (HQ.out _ hbl) (HQ.out _ hq0) ω).mono ?_;rintro e w'' ⟨⟨v,rfl,hv⟩,hb⟩;exact hK.out v w'' (ae hS hb ρ) hb (isP.put hv) δ
       refine ai.cons (i:=6) rfl (fun y w' hS hD K hK=>?_) ?_
       ·have bx:=BC7.out.below hS BC7.out.lt
        obtain ⟨c0,c1,c2,c3⟩:=bx.p0.1;obtain ⟨c4,c5,c6,c7⟩:=bx.p1.1;obtain ⟨c8,c9,c10,c11⟩:=bx.p2.1;go_simp;exact hK.out _ w' hS β isV.put δ
       refine ai.cons (i:=7) rfl (fun y w' hS hD K hK=>?_) ?_
       ·have bx:=BT7.out.below hS BT7.out.lt
        obtain ⟨c0,c1,c2,c3⟩:=bx.p0.1;obtain ⟨c4,c5,c6,c7⟩:=bx.p1.1;obtain ⟨c8,c9,c10,c11⟩:=bx.p2.1;go_simp;exact hK.out _ w' hS β isV.put δ
       refine ai.cons (i:=8) rfl (fun y w' hS hD K hK=>?_) ?_
       ·have e6:=isV.get (i:=6) (c:=.agg #[.bool C0.s,.slice C0.a C0.n C0.c,.bool C0.t,.slice C0.b C0.m C0.d,.bool C1.s,.slice C1.a C1.n C1.c,.bool C1.t,.slice C1.b C1.m C1.d,.bool C2.s,.slice C2.a C2.n C2.c,.bool C2.t,.slice C2.b C2.m C2.d]) (hD 6 κ)
        have e7:=isV.get (i:=7) (c:=.agg #[.bool T0.s,.slice T0.a T0.n T0.c,.bool T0.t,.slice T0.b T0.m T0.d,.bool T1.s,.slice T1.a T1.n T1.c,.bool T1.t,.slice T1.b T1.m T1.d,.bool T2.s,.slice T2.a T2.n T2.c,.bool T2.t,.slice T2.b T2.m T2.d]) (hD 7 κ);simp only [e6,e7] at hK ⊢;go_simp;refine (nL _ _ (qAt qs xc) (qAt qs 0) kq kq w' (VC.out w' hS) (VT.out w' hS) (HQ.out _ hcl) (HQ.out _ hq0) ω).mono ?_;rintro e w'' ⟨⟨v,rfl,hv⟩,hb⟩;exact hK.out v w'' (ae hS hb ρ) hb (isP.put hv) δ
       refine ai.cons (i:=9) rfl (fun y w' hS hD K hK=>?_) ?_
       ·have e2:=isP.get (i:=2) (p:=fun v w=>aA w v (qsub (qAt qs hd) (qAt qs 0))) (hD 2 κ)
        have e5:=isP.get (i:=5) (p:=fun v w=>aA w v (qsub (qAt qs xb) (qAt qs 0))) (hD 5 κ);have e8:=isP.get (i:=8) (p:=fun v w=>aA w v (qsub (qAt qs xc) (qAt qs 0))) (hD 8 κ);go_simp;refine (VDet_any _ _ _ _ _ _ (kq+kq+1) w' e2 e5 e8 ((HQ.out _ hhl).qsub (HQ.out _ hq0)) ((HQ.out _ hbl).qsub (HQ.out _ hq0)) ((HQ.out _ hcl).qsub (HQ.out _ hq0)) ω).mono ?_;rintro e w'' ⟨⟨v,rfl,hv⟩,hb⟩;exact hK.out v w'' (ae hS hb ρ) hb (isP.put hv) δ
       refine ai.cons (i:=10) rfl (fun y w' hS hD K hK=>?_) ?_
       ·go_simp
        exact hK.out _ _ (hS.alloc hS.size _) (β.alloc ρ _) (isP.put ⟨_,rfl,hS.size,Box.new _ _ _ _ rfl⟩) (fun _ j hj hne _=>absurd (List.mem_singleton.1 hj) hne)
       exact ai.nil
      case hend =>
       intro y w' hS hR hF;have e9:=isP.get (i:=9) (p:=fun v w=>am w v (fJ (qAt qs 0) (qAt qs hd) (qAt qs xb) (qAt qs xc))) (hR 9 κ);obtain ⟨gd,ed,hgd,bgd⟩:=isP.get (i:=10) (p:=fun v w=>∃ g,v=.pointer (some ⟨g,0,none⟩)∧w7.heap.size≤g∧Box w g (#[.bool false,.slice none 0 0,.bool false,.slice none 0 0]) 56) (hR 10 κ);obtain ⟨rd,erd,hrd⟩:=e9.rcv;simp only [ed,erd];obtain ⟨n0',n1',n2',n3',m0',m1',m2',m3'⟩:=bgd.four;refine bM (i:=11) (listed2:=#[true,true,true,true,true,true,true,true,true,true,true,true]) κ rfl κ (fun K hK=>?_);go_simp;refine hK.out _ _ ?_;clear hK K;refine bq κ ?_;obtain ⟨w8,hw8⟩:∃ w8,(((w'.setCell ⟨gd,0,none⟩ (.bool rd.s)).setCell ⟨gd,1,none⟩ (.slice rd.a rd.n rd.c)).setCell ⟨gd,2,none⟩ (.bool rd.t)).setCell ⟨gd,3,none⟩ (.slice rd.b rd.m rd.d)=w8:=⟨_,rfl⟩;have HB78:=η (show Below w7.heap.size w7 w8 from by rw [← hw8];exact cw hS hgd _ _ _ _ _ _ _ _);have BD8:=η (show Box w8 gd #[.bool rd.s,.slice rd.a rd.n rd.c,.bool rd.t,.slice rd.b rd.m rd.d] 56 from by rw [← hw8];exact bgd.set4 _ _ _ _);have VD8:=η (show am w8 rd.agg (fJ (qAt qs 0) (qAt qs hd) (qAt qs xb) (qAt qs xc)) from by rw [← hw8];exact hrd.store4 bgd _ _ _ _);change Exit.then _ _ _ _ ((((w'.setCell ⟨gd,0,none⟩ (.bool rd.s)).setCell ⟨gd,1,none⟩ (.slice rd.a rd.n rd.c)).setCell ⟨gd,2,none⟩ (.bool rd.t)).setCell ⟨gd,3,none⟩ (.slice rd.b rd.m rd.d));rw [hw8];have J8:=η (HJ.out.below J7.out HB78.out (by have:=HK5.out.size;have:=HB34.out.size;have:=HB23.out.size;have:=HB57.out.size;omega));have BT8:=η (BT7.out.below HB78.out BT7.out.lt);have BA8:=η (BA7.out.below HB78.out BA7.out.lt);have BB8:=η (BB7.out.below HB78.out BB7.out.lt);have BC8:=η (BC7.out.below HB78.out BC7.out.lt);have HBW8:=η (show Below w0.heap.size w0 w8 from HBW7.out.trans (HB78.out.mono HBW7.out.size));clear hw8 bgd hrd hS hR hF ed erd e9 n0' n1' n2' n3' m0' m1' m2' m3' VT VA VB VC
       go_upto_region 10 with fail
       have VT:Hid (∀ w',Below w8.heap.size w8 w'→aA w' (.agg (ah T0 T1 T2)) (qAt qs 0)):=fun w' h=>(HT0.out w' (HBW8.out.trans (h.mono HBW8.out.size))).1
       have VA:Hid (∀ w',Below w8.heap.size w8 w'→aA w' (.agg (ah A0 A1 A2)) (qAt qs hd)):=fun w' h=>(HAH.out w' (HBW8.out.trans (h.mono HBW8.out.size))).1
       have VB:Hid (∀ w',Below w8.heap.size w8 w'→aA w' (.agg (ah B0 B1 B2)) (qAt qs xb)):=fun w' h=>(HBH.out w' (HBW8.out.trans (h.mono HBW8.out.size))).1
       have VC:Hid (∀ w',Below w8.heap.size w8 w'→aA w' (.agg (ah C0 C1 C2)) (qAt qs xc)):=fun w' h=>(HCH.out w' (HBW8.out.trans (h.mono HBW8.out.size))).1
       refine (wpIn_wide (n:=n)).1 ?_;refine jt (rest:=2) [isV 0 (.func (.yield l) #[] #[]),isV 1 (.agg #[.bool rd.s,.slice rd.a rd.n rd.c,.bool rd.t,.slice rd.b rd.m rd.d]),isV 2 (.agg #[.bool A0.s,.slice A0.a A0.n A0.c,.bool A0.t,.slice A0.b A0.m A0.d,.bool A1.s,.slice A1.a A1.n A1.c,.bool A1.t,.slice A1.b A1.m A1.d,.bool A2.s,.slice A2.a A2.n A2.c,.bool A2.t,.slice A2.b A2.m A2.d]),isV 3 (.agg #[.bool B0.s,.slice B0.a B0.n B0.c,.bool B0.t,.slice B0.b B0.m B0.d,.bool B1.s,.slice B1.a B1.n B1.c,.bool B1.t,.slice B1.b B1.m B1.d,.bool B2.s,.slice B2.a B2.n B2.c,.bool B2.t,.slice B2.b B2.m B2.d]),isP 4 (fun v w=>aA w v (qadd (qAt qs hd) (qAt qs xb))),isV 5 (.agg #[.bool C0.s,.slice C0.a C0.n C0.c,.bool C0.t,.slice C0.b C0.m C0.d,.bool C1.s,.slice C1.a C1.n C1.c,.bool C1.t,.slice C1.b C1.m C1.d,.bool C2.s,.slice C2.a C2.n C2.c,.bool C2.t,.slice C2.b C2.m C2.d]),isV 6 (.agg #[.bool T0.s,.slice T0.a T0.n T0.c,.bool T0.t,.slice T0.b T0.m T0.d,.bool T1.s,.slice T1.a T1.n T1.c,.bool T1.t,.slice T1.b T1.m T1.d,.bool T2.s,.slice T2.a T2.n T2.c,.bool T2.t,.slice T2.b T2.m T2.d]),isP 7 (fun v w=>aA w v (qadd (qAt qs xc) (qAt qs 0))),isP 8 (fun v w=>aA w v (fX (qAt qs 0) (qAt qs hd) (qAt qs xb) (qAt qs xc)))] [] ?A10 #[true,true,true,true,true,true,true,true,true,false,false] κ [0,1,2,3,4,5,6,7,8] κ κ κ κ κ κ ?st ?hA ?hop ?hend
       case hA =>
        intro y;simp only [bj,cU,List.getElem?_toArray,List.getElem?_cons_zero,List.getElem?_cons_succ,Option.bind_some,Act.put,List.setIfInBounds_toArray,List.set_cons_zero,List.set_cons_succ];exact rfl
       case st=>exact aj.cons isV.stab (aj.cons isV.stab (aj.cons isV.stab (aj.cons isV.stab (aj.cons (isP.stab (fun _ _ _ h hv=>hv.below h)) (aj.cons isV.stab (aj.cons isV.stab (aj.cons (isP.stab (fun _ _ _ h hv=>hv.below h)) (aj.cons (isP.stab (fun _ _ _ h hv=>hv.below h)) (aj.nil)))))))))
       case hop =>
        refine ai.consIn (i:=0) rfl (fun y w' hS hD K hK=>?_) ?_
        ·go_simp
         exact hK.out _ w' hS β isV.put δ
        refine ai.consIn (i:=1) rfl (fun y w' hS hD K hK=>?_) ?_
        ·have bx:=BD8.out.below hS BD8.out.lt
         obtain ⟨c0,c1,c2,c3,-⟩:=bx.four;go_simp;exact hK.out _ w' hS β isV.put δ
        refine ai.consIn (i:=2) rfl (fun y w' hS hD K hK=>?_) ?_
        ·have bx:=BA8.out.below hS BA8.out.lt
         obtain ⟨c0,c1,c2,c3⟩:=bx.p0.1;obtain ⟨c4,c5,c6,c7⟩:=bx.p1.1;obtain ⟨c8,c9,c10,c11⟩:=bx.p2.1;go_simp;exact hK.out _ w' hS β isV.put δ
        refine ai.consIn (i:=3) rfl (fun y w' hS hD K hK=>?_) ?_
        ·have bx:=BB8.out.below hS BB8.out.lt
         obtain ⟨c0,c1,c2,c3⟩:=bx.p0.1;obtain ⟨c4,c5,c6,c7⟩:=bx.p1.1;obtain ⟨c8,c9,c10,c11⟩:=bx.p2.1;go_simp;exact hK.out _ w' hS β isV.put δ
        refine ai.consIn (i:=4) rfl (fun y w' hS hD K hK=>?_) ?_
        ·have e2:=isV.get (i:=2) (c:=.agg #[.bool A0.s,.slice A0.a A0.n A0.c,.bool A0.t,.slice A0.b A0.m A0.d,.bool A1.s,.slice A1.a A1.n A1.c,.bool A1.t,.slice A1.b A1.m A1.d,.bool A2.s,.slice A2.a A2.n A2.c,.bool A2.t,.slice A2.b A2.m A2.d]) (hD 2 κ)
         have e3:=isV.get (i:=3) (c:=.agg #[.bool B0.s,.slice B0.a B0.n B0.c,.bool B0.t,.slice B0.b B0.m B0.d,.bool B1.s,.slice B1.a B1.n B1.c,.bool B1.t,.slice B1.b B1.m B1.d,.bool B2.s,.slice B2.a B2.n B2.c,.bool B2.t,.slice B2.b B2.m B2.d]) (hD 3 κ);simp only [e2,e3] at hK ⊢;go_simp;refine ⟨trivial,(fun h=>by cases h),?_⟩;refine (callsIn_wide.2 (jb _ _ (qAt qs hd) (qAt qs xb) kq kq w' (VA.out w' hS) (VB.out w' hS) (HQ.out _ hhl) (HQ.out _ hbl) ω)).mono ?_;rintro e w'' ⟨⟨v,rfl,hv⟩,hb⟩;exact hK.out v w'' (ae hS hb ρ) hb (isP.put hv) δ
        refine ai.consIn (i:=5) rfl (fun y w' hS hD K hK=>?_) ?_
        ·have bx:=BC8.out.below hS BC8.out.lt
         obtain ⟨c0,c1,c2,c3⟩:=bx.p0.1;obtain ⟨c4,c5,c6,c7⟩:=bx.p1.1;obtain ⟨c8,c9,c10,c11⟩:=bx.p2.1;go_simp;exact hK.out _ w' hS β isV.put δ
        refine ai.consIn (i:=6) rfl (fun y w' hS hD K hK=>?_) ?_
        ·have bx:=BT8.out.below hS BT8.out.lt
         obtain ⟨c0,c1,c2,c3⟩:=bx.p0.1;obtain ⟨c4,c5,c6,c7⟩:=bx.p1.1;obtain ⟨c8,c9,c10,c11⟩:=bx.p2.1;go_simp;exact hK.out _ w' hS β isV.put δ
        refine ai.consIn (i:=7) rfl (fun y w' hS hD K hK=>?_) ?_
        ·have e5:=isV.get (i:=5) (c:=.agg #[.bool C0.s,.slice C0.a C0.n C0.c,.bool C0.t,.slice C0.b C0.m C0.d,.bool C1.s,.slice C1.a C1.n C1.c,.bool C1.t,.slice C1.b C1.m C1.d,.bool C2.s,.slice C2.a C2.n C2.c,.bool C2.t,.slice C2.b C2.m C2.d]) (hD 5 κ)
         have e6:=isV.get (i:=6) (c:=.agg #[.bool T0.s,.slice T0.a T0.n T0.c,.bool T0.t,.slice T0.b T0.m T0.d,.bool T1.s,.slice T1.a T1.n T1.c,.bool T1.t,.slice T1.b T1.m T1.d,.bool T2.s,.slice T2.a T2.n T2.c,.bool T2.t,.slice T2.b T2.m T2.d]) (hD 6 κ);simp only [e5,e6] at hK ⊢;go_simp;refine ⟨trivial,(fun h=>by cases h),?_⟩;refine (callsIn_wide.2 (jb _ _ (qAt qs xc) (qAt qs 0) kq kq w' (VC.out w' hS) (VT.out w' hS) (HQ.out _ hcl) (HQ.out _ hq0) ω)).mono ?_;rintro e w'' ⟨⟨v,rfl,hv⟩,hb⟩;exact hK.out v w'' (ae hS hb ρ) hb (isP.put hv) δ
        refine ai.consIn (i:=8) rfl (fun y w' hS hD K hK=>?_) ?_
        ·have e4:=isP.get (i:=4) (p:=fun v w=>aA w v (qadd (qAt qs hd) (qAt qs xb))) (hD 4 κ)
         have e7:=isP.get (i:=7) (p:=fun v w=>aA w v (qadd (qAt qs xc) (qAt qs 0))) (hD 7 κ);go_simp;refine ⟨trivial,(fun h=>by cases h),?_⟩;refine (callsIn_wide.2 (jb _ _ _ _ (kq+kq+1) (kq+kq+1) w' e4 e7 ((HQ.out _ hhl).qadd (HQ.out _ hbl)) ((HQ.out _ hcl).qadd (HQ.out _ hq0)) ω)).mono ?_;rintro e w'' ⟨⟨v,rfl,hv⟩,hb⟩;exact hK.out v w'' (ae hS hb ρ) hb (isP.put hv) δ
        exact ai.nil
       case hend =>
        intro y w' hS hR hF;have e0:=isV.get (i:=0) (c:=.func (.yield l) #[] #[]) (hR 0 κ);have e1:=isV.get (i:=1) (c:=.agg #[.bool rd.s,.slice rd.a rd.n rd.c,.bool rd.t,.slice rd.b rd.m rd.d]) (hR 1 κ);simp only [e0,e1];have e8:aA w' (y 8) (fX (qAt qs 0) (qAt qs hd) (qAt qs xb) (qAt qs xc)):=isP.get (i:=8) (p:=fun v w=>aA w v (fX (qAt qs 0) (qAt qs hd) (qAt qs xb) (qAt qs xc))) (hR 8 κ);obtain ⟨v8,hv8⟩:∃ v8,y 8=v8:=⟨_,rfl⟩;rw [hv8] at e8;simp only [hv8];have hlen:pre2.length<(ak (qAt qs) rs).length:=by
         have h1:=congrArg List.length HP2.out;rw [List.length_map,List.length_append,nc] at h1;rw [h1];exact piecesQ_lt HRI.out (by have:=HNN.out;have:=HK2.out;have:=HKN.out;omega)
        obtain ⟨x,hx⟩:∃ x:PV,x=⟨rd.agg,v8,(fJ (qAt qs 0) (qAt qs hd) (qAt qs xb) (qAt qs xc),fX (qAt qs 0) (qAt qs hd) (qAt qs xb) (qAt qs xc))⟩:=⟨_,rfl⟩;have hmem:(fJ (qAt qs 0) (qAt qs hd) (qAt qs xb) (qAt qs xc),fX (qAt qs 0) (qAt qs hd) (qAt qs xb) (qAt qs xc)) ∈ ak (qAt qs) rs:=by
         have h1:=piecesQ_mem (q:=qAt qs) (j:=k - 2) HRI.out (by have:=HNN.out;have:=HK2.out;have:=HKN.out;omega);have e2:k - 2+1=m:=by have:=HK2.out;have:=HM.out;omega
         have e3:k - 2+2=k:=by have:=HK2.out;omega
         unfold gK at h1;rw [e2,e3,HHD.out,HXB.out,HXC.out] at h1;exact h1
        have hok:PV.ok (ak (qAt qs) rs) x w':=by rw [hx];exact ⟨hmem,VD8.out.below hS,e8⟩
        have henc:x.enc=#[.agg #[.bool rd.s,.slice rd.a rd.n rd.c,.bool rd.t,.slice rd.b rd.m rd.d],v8]:=by rw [hx];rfl
        have hyld:=HY.out pre2 x w' (HJ.out.below J8.out hS (by have:=HK5.out.size;have:=HB34.out.size;have:=HB23.out.size;have:=HB57.out.size;have:=HB78.out.size;omega)) hok hlen;rw [henc] at hyld;obtain ⟨fn,tmps,assign,body,hy,hR2⟩:=hyld;have HX2:=η hx;have HSW:=η hS;clear hx hok henc hlen hmem e0 e1 e8 hR hF hS;refine iG (i:=9) (listed2:=#[true,true,true,true,true,true,true,true,true,true,false]) κ rfl κ (fun K hK=>?_);go_simp;refine ⟨(fun h=>by cases h),?_⟩;refine hR2.mono ?_;rintro e W9 ⟨rfl,hJ9,hK9⟩;clear hy hR2;refine hK.out _ _ ?_;clear hK K;refine iG (i:=10) (listed2:=#[true,true,true,true,true,true,true,true,true,true,true]) κ rfl κ (fun K hK=>?_);go_simp;refine hK.out _ _ ?_;clear hK K;refine jV κ ?_;have HPN:=η (show (pre2 ++ [x]).map PV.p=ak (qAt qs) (rs.take i) ++ lX (qAt qs) r (k+1 - 2) from by
         have e1:k+1 - 2=k - 2+1:=by have:=HK2.out;omega
         have e2:k - 2+1=m:=by have:=HK2.out;have:=HM.out;omega
         have e3:k - 2+2=k:=by have:=HK2.out;omega
         rw [e1,fanQ_succ,List.map_append,HP2.out,List.append_assoc]
         congr 2
         show [x.p]=_;rw [HX2.out];unfold gK;rw [e2,e3,HHD.out,HXB.out,HXC.out])
        have KCN:=η (show KeepC w0.heap.size X w4 W9 from (HK5.out.trans (KeepC.below (ae HB57.out (ae HB78.out HSW.out ρ) ρ) (ψ HBW5.out.size))).trans hK9);have JN:=η hJ9;clear hJ9 hK9
        go_wp2_with fail
        go_round
        case rel=>exact ⟨k+1,pre2 ++ [x],by have:=HK2.out;omega,.inl (ψ HKN.out),rfl,HPN.out,JN.out,KCN.out⟩
        case measure=>show N+2 - ((k:Int)+1).toNat<N+2 - (k:Int).toNat;have:=HKN.out;omega
    ·have hge2:¬ (k:Int)<(N:Int):=ω
     have hmN:k - 2=N - 2:=ω;have HMN:=η hmN;clear hmN
     go_wp2_with fail
     go_round
     case rel=>exact ⟨i+1,pre2,by have:=HIL.out;omega,rfl,η (show pre2.map PV.p=_ from by rw [fR HRI.out,pL,HP2.out,HMN.out,HNN.out]),HJ5.out,KC4.out.trans HK5.out⟩
     case measure=>show frs.length - ((i:Int)+1).toNat<frs.length - (i:Int).toNat;have:=HIL.out;omega
end Go.Proofs.Υ
end

section
namespace Dowel
open Go Go.RowKit
structure SolidF (w:World) (v0 v1:Value) (qs:List Q3) (frs:List FR) (rs:List (List Nat)) (d M:Nat):Prop where
 sol:Solid w v0 v1 qs frs rs 8
 dpos:0<d
 dmax:d≤65536
 mmax:M≤1099511627776
 frac:∀ i,bN d M (qAt qs i)
theorem pA {qs:List Q3} {rs:List (List Nat)} {d M:Nat} (hd:0<d) (hd2:d≤65536) (hm:M≤1099511627776) (hq:∀ i,bN d M (qAt qs i)) (hn:rs.length≤262144) (h64:∀ r ∈ rs,r.length≤64) (l:List (Rat × Q3)) (hl:l.length≤(ak (qAt qs) rs).length) (hmem:∀ x ∈ l,x ∈ ak (qAt qs) rs) :
  Bd 8 (bB l)∧BdV 8 (dW l)∧∀ x ∈ l,Bd 8 x.1∧BdV 8 x.2:=by
 have hlen:l.length≤16777216:=by
  have h2:=piecesQ_len (qAt qs) rs h64;omega
 have hf:=pieces_frac hq rs;have d3:d*(d*d)≤281474976710656:=Nat.mul_le_mul hd2 (Nat.mul_le_mul hd2 hd2);have hM1:3*((M+M)*(2*((M+M)*(M+M))))≤3*((1099511627776+1099511627776)*(2*((1099511627776+1099511627776)*(1099511627776+1099511627776)))):=
  Nat.mul_le_mul_left _ (Nat.mul_le_mul ω (Nat.mul_le_mul_left _ (Nat.mul_le_mul ω ω)))
 have B8:B ^ 8=115792089237316195423570985008687907853269984665640564039457584007913129639936:=by unfold B;decide
 have hd0:0<d*(d*d):=Nat.mul_pos hd (Nat.mul_pos hd hd);refine ⟨?_,?_,fun x hx=>?_⟩
 ·have h1:=sumD_frac l fun x hx=>(hf x (hmem x hx)).1
  refine h1.bd hd0 ?_ (by rw [B8];omega);rw [B8];exact Nat.lt_of_le_of_lt (Nat.mul_le_mul hlen hM1) ν
 ·have h1:=sumC_frac l fun x hx=>hf x (hmem x hx)
  refine h1.bd (Nat.mul_pos hd0 hd) ?_ ?_
  ·rw [B8]
   exact Nat.lt_of_le_of_lt (Nat.mul_le_mul hlen (Nat.mul_le_mul hM1 (show M+M+(M+M)≤4398046511104 by omega))) ν
  ·rw [B8]
   exact Nat.lt_of_le_of_lt (Nat.mul_le_mul d3 hd2) ν
 ·obtain ⟨h1,h2⟩:=hf x (hmem x hx)
  refine ⟨h1.bd hd0 ?_ (by rw [B8];omega),h2.bd hd ?_ ?_⟩
  ·rw [B8];exact Nat.lt_of_le_of_lt hM1 ν
  ·rw [B8];omega
  ·rw [B8];omega
theorem dw {B:Nat} {W W':World} (h:Below W.heap.size W W'):KeepsFrom B W W':=⟨h.size,fun k _ _ hk _=>(h.block k (Array.getElem?_eq_some_iff.1 hk).1).trans hk⟩
theorem gZ {B:Nat} {W W':World} {g:Nat} {cs:Array Value} {t:TypeId} (hb:Box W g cs t) (hg:W.grownBy W' (some g)):KeepsFrom B W W':=
 ⟨hg.size,fun k o _ hk hc=>(hg.block k (Array.getElem?_eq_some_iff.1 hk).1 (fun e=>by
  cases e;have h1:W.heap[g]?=some (.cells cs t (0,0)):=hb;rw [hk] at h1;cases h1;cases hc)).trans hk⟩
theorem kU {n0:Nat} {X:Nat→Prop} {W W':World} {g:Nat} (hX:X g) (hn:n0≤g) (hs:n0≤W.heap.size) (hg:W.grownBy W' (some g)):KeepC n0 X W W':=KeepC.grown hg hs (fun r e=>by cases e;exact ⟨hn,.inl hX⟩)
theorem PV.ok_keep {L:List (Rat × Q3)} {x:PV} {n0:Nat} {W W':World} (h:PV.ok L x W) (hk:KeepC n0 (fun _=>False) W W'):PV.ok L x W':=⟨h.1,h.2.1.keepC hk (dL.none W),h.2.2.keepC hk (dL.none W)⟩
theorem zip2 (i j:Tmp) (x:PV) (t:Array Value):Array.foldl (fun t (p,v)=>t.setIfInBounds p v) t ((#[i,j]:Array Tmp).zip (PV.enc x))=(t.setIfInBounds i x.d).setIfInBounds j x.c:=by
 simp [PV.enc]
end Dowel
namespace Go.Proofs.Υ
open Go.RowKit Dowel
theorem mU (v0 v1 v2:Value) (w:World) :
  Calls Tryz.prog 65 #[.agg #[v0,v1,v2]] w fun e w'=>e=.returned (.func (.func 118) #[] #[.pointer (some ⟨w.heap.size,0,none⟩)])∧w'=w.alloc (.cells #[v0,v1,v2] 32):=by
 go_enter Tryz.func65,Tryz.ntmps65
 go_wp2_with fail
 go_ret;exact ⟨rfl,rfl⟩
end Go.Proofs.Υ
end
