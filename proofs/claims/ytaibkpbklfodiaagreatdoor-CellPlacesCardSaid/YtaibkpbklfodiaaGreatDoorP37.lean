/- The volume of a shape. Printed by gen/volume.py. The centre of mass of a shape. Printed by gen/centre.py. The law's quotient of two ints, as a rational. -/
import Derived.Test.YtaibkpbklfodiaaGreatDoorP31
import Derived.RangeFuncNested
import Derived.RangeFuncBound
import Derived.RangeFuncCalls
import Derived.RangeFuncLeaves
import Derived.Shelf.Abstract
import Derived.Shelf.RegionOpen
import Derived.OwnWalkIn
import Derived.LoopNIn
import Derived.LoopIn
set_option linter.all false
set_option maxHeartbeats 100000000
section
namespace Dowel
theorem bd6:Bd 2 (6:Rat):=Bd.int 6 (by show 6<B ^ 2;unfold B;omega)
end Dowel
namespace Go.Proofs.Υ
open Go.RowKit Dowel
attribute [local go_sem] Oper.semAt_some
set_option maxRecDepth 100000 in
theorem jB (v0 v1 v2:Value) (qs:List Q3) (frs:List FR) (rs:List (List Nat)) (d M:Nat) (w:World) (hS:SolidF w v0 v1 qs frs rs d M) :
  Calls Tryz.prog 37 #[.agg #[v0,v1,v2]] w fun e w'=>dJ w' e (bB (ak (qAt qs) rs) / 6)∧Below w.heap.size w w':=by
 have hbd:=pA hS.dpos hS.dmax hS.mmax hS.frac (by rw [hS.sol.len];exact hS.sol.max) (fun r hr=>(hS.sol.ring r hr).1);have HBD:=η hbd;have HS:=η hS;clear hS hbd;obtain ⟨W,hW,b1,b2,b3,hB,hSz⟩:=cW w #[v0,v1,v2] (aT RC.zero) (aT RC.zero) 32 56 56;obtain ⟨w1,hw1,c1,hc1,hz1⟩:=aG W #[v0,v1,v2] 32;have HBW:=η (ae hB hc1 ρ);have BR1:=η (b2.below hc1 b2.lt);have BS1:=η (b3.below hc1 b3.lt);have C1:=η c1;have HSZ:=η hSz;have HZ1:=η hz1;have HW1:=η hw1;obtain ⟨x0,x1,x2,-⟩:=b1.three;clear b1 b2 b3 hB hSz c1 hc1 hz1 hw1;refine (callsIn_wide (n:=9)).1 ?_;refine callsIn_of_wp_marks Tryz.func37 rfl trivial ?_ rfl;simp only [Tryz.ntmps37,List.size_toArray,List.length_cons,List.length_nil,Nat.reduceAdd,Nat.reduceSub,Array.replicate_succ,Array.replicate_zero,List.push_toArray,List.append_toArray,List.nil_append,List.cons_append]
 gi_wp2_with fail
 refine ⟨trivial,?_⟩;simp only [aT,RC.zero] at hW;rw [hW];refine (callsIn_wide.2 (mU v0 v1 v2 W)).mono ?_;rintro e w' ⟨rfl,rfl⟩;rw [HW1.out];clear x0 x1 x2
 gi_wp2_with fail
 have hL1:=(HS.out.sol);have hszW:=HSZ.out;have hsz1:=HZ1.out;refine iF rfl ω (gf:=118) (lb:=#[.pointer (some ⟨W.heap.size,0,none⟩)]) rfl trivial (enters_of Tryz.func118 κ rfl) (n0:=w.heap.size) (X:=fun k=>k=w.heap.size+2)
  (lM _ w w1 v0 v1 v2 qs frs rs 8 ω HS.out.sol W.heap.size _ C1.out HBW.out (fun k hk=>⟨by omega,by omega⟩)) ω β (fun _=>rfl)
  (fun pre W'=>∃ r,Box W' (w.heap.size+2) (aT r) 56∧am W' r.agg (bB (pre.map PV.p))∧(∀ y ∈ pre,y.p ∈ ak (qAt qs) rs)∧Box W' (w.heap.size+1) (aT RC.zero) 56∧Below w.heap.size w W')
  (fun pre W1 W2 ⟨r,h1,h2,h3,h4,h5⟩ hk=>⟨r,h1.keepC hk (fun h=>h),h2.keepC hk (dL.none _),h3,h4.keepC hk (fun h=>h),h5.trans (hk.bel.mono ω)⟩)
  (fun x _ W1 W2 h hk=>PV.ok_keep (x:=x) h hk)
  ⟨RC.zero,BS1.out,am.zero _,(fun y hy=>by cases hy),BR1.out,HBW.out⟩
  (fun x a' W'=>∃ g r,x.d=RC.agg r∧a'={ tmps:=#[.agg #[v0,v1,v2],.pointer (some ⟨w.heap.size,0,none⟩),.pointer (some ⟨w.heap.size+1,0,none⟩),.pointer (some ⟨w.heap.size+1+1,0,none⟩),.pointer (some ⟨g,0,none⟩),undef,undef,.agg #[v0,v1,v2],.func (.func 118) #[] #[.pointer (some ⟨W.heap.size,0,none⟩)],x.d,x.c,undef,undef,undef,undef,undef,undef,undef,undef,undef,undef],defers:=[] }∧Box W' g (aT r) 56∧w.heap.size+2<g)
  (fun x a' _ W1 W2 ⟨g,r,h1,h2,h3,h4⟩ hk=>⟨g,r,h1,h2,h3.keepC hk (fun h=>h),h4⟩) ?assign ?body ?done
 case assign =>
  rintro l pre ⟨d,c,p⟩ W' K hI ⟨hm,hd,hc⟩ hK;clear hszW hsz1;obtain ⟨r,rfl,hr⟩:=hd.rcv;rw [zip2];have HK:=η hK;clear hK
  gi_wp2_with fail
  obtain ⟨w2,hw2,b2,hb2,hz2⟩:=aG W' #[.bool r.s,.slice r.a r.n r.c,.bool r.t,.slice r.b r.m r.d] 56;rw [hw2];obtain ⟨r0,hb0,hr0,hmem,hres,hbel⟩:=hI;exact HK.out _ _ (dw hb2) (KeepC.below hb2 hbel.size) ⟨r0,hb0.below hb2 hb0.lt,hr0.below hb2,hmem,hres.below hb2 hres.lt,hbel.trans (hb2.mono hbel.size)⟩ ⟨hm,hr.below hb2,hc.below hb2⟩ ⟨W'.heap.size,r,rfl,rfl,b2,hb0.lt⟩
 case body =>
  rintro l pre ⟨d,c,p⟩ a' W' ⟨r0,hb0,hr0,hmem,hres,hbel⟩ ⟨hm,hd,hc⟩ ⟨g,r,hx,rfl,hg,hlt⟩ hlen;clear hszW hsz1;have hd1:1≤9 - 1 - 1:=ω
  have hbd:=HBD.out (pre.map PV.p) (by rw [List.length_map];omega) (fun x hx=>by
   obtain ⟨y,hy,rfl⟩:=List.mem_map.mp hx;exact hmem y hy)
  have hbp:=HBD.out [p] (by show 1≤_;omega) (fun x hx=>by rw [List.mem_singleton.mp hx];exact hm);have HBS:=η hbd.1;have HBP:=η (hbp.2.2 p (List.mem_singleton.mpr rfl)).1;clear hbd hbp;obtain ⟨y0,y1,y2,y3⟩:=hb0.at1.1;obtain ⟨z0,z1,z2,z3⟩:=hg.at1.1;have hd2:am W' (.agg #[.bool r.s,.slice r.a r.n r.c,.bool r.t,.slice r.b r.m r.d]) p.1:=by rw [show d=RC.agg r from hx] at hd;exact hd
  have HD:=η hd2;have HR0:=η hr0;have HB0:=η hb0;have HRES:=η hres;have HBEL:=η hbel;clear hd hd2 hr0 hb0 hres hbel hc
  gi_wp2_with fail
  refine ⟨trivial,?_⟩;refine (CallsIn.inRound l (callsIn_wide.2 (eU _ _ _ _ 8 8 W' HR0.out HD.out HBS.out HBP.out ω))).mono ?_;rintro e w2 ⟨⟨v,rfl,hv⟩,hb2⟩;obtain ⟨r2,rfl,hr2⟩:=hv.rcv;have B2:=η (HB0.out.below hb2 HB0.out.lt);have RS2:=η (HRES.out.below hb2 HRES.out.lt);have BL2:=η (HBEL.out.trans (hb2.mono HBEL.out.size));have HB2:=η hb2;have HR2:=η hr2;obtain ⟨y0,y1,y2,y3⟩:=B2.out.at1.1;obtain ⟨-,f0,f1,f2,f3⟩:=B2.out.at1;clear hv hr2 hb2
  gi_wp2_with fail
  change KeepsFrom _ _ (put4 w2 (w.heap.size+2) 0 r2)∧KeepC _ _ _ (put4 w2 (w.heap.size+2) 0 r2)∧_;have hgr:=dI w2 (w.heap.size+2) 0 r2;refine ⟨(dw HB2.out).trans (gZ B2.out hgr),(KeepC.below HB2.out HBEL.out.size).trans (kU rfl (Nat.le_add_right _ 2) BL2.out.size hgr),r2,B2.out.s4 r2,?_,?_,RS2.out.oput4 ω 0 r2,aX BL2.out (Nat.le_add_right _ 2) 0 r2⟩
  ·rw [List.map_append,List.map_singleton,dN]
   exact HR2.out.put4 B2.out.at1 r2
  ·intro y hy
   rcases List.mem_append.mp hy with hy | hy
   ·exact hmem y hy
   ·rw [List.mem_singleton.mp hy];exact hm
 case done =>
  rintro D xs w5 hD hS ⟨r5,hb5,hr5,-,hres,hbel⟩ hK;rw [hS] at hr5;have HB:=η (HBD.out (ak (qAt qs) rs) ρ (fun x hx=>hx)).1;have BS5:=η hb5;have VS5:=η (show am w5 (.agg #[.bool r5.s,.slice r5.a r5.n r5.c,.bool r5.t,.slice r5.b r5.m r5.d]) (bB (ak (qAt qs) rs)) from hr5);have BR5:=η hres;have BL5:=η hbel;have HKD:=η hK;clear hszW hsz1 hb5 hr5 hres hbel hK hS;have h1:1≤9:=ω
  gi_wp2_with fail
  refine (wpIn_wide (n:=9)).2 ?_;refine gH Sh4 7 56 (rest:=1) [isV 0 (.agg #[.bool r5.s,.slice r5.a r5.n r5.c,.bool r5.t,.slice r5.b r5.m r5.d]),isP 1 (fun v w=>am w v (6:Rat)),isP 2 (fun v w=>∃ r:RC,v=.tuple #[.agg #[.bool r.s,.slice r.a r.n r.c,.bool r.t,.slice r.b r.m r.d],.int .i64 0]∧am w r.agg (bB (ak (qAt qs) rs) / 6)),isP 3 (fun v w=>∃ r:RC,v=.tuple #[.agg #[.bool r.s,.slice r.a r.n r.c,.bool r.t,.slice r.b r.m r.d],.int .i64 0]∧am w r.agg (bB (ak (qAt qs) rs) / 6)),isP 4 (fun v w=>∃ r:RC,v=.agg #[.bool r.s,.slice r.a r.n r.c,.bool r.t,.slice r.b r.m r.d]∧am w r.agg (bB (ak (qAt qs) rs) / 6)),isV 5 (.int .i64 0),isP 6 (dS Sh4 w5.heap.size 56),isS 6 w5.heap.size 56 (fun cs w=>∃ r,cs=aT r∧am w r.agg (bB (ak (qAt qs) rs) / 6))] [6] ?A5 #[true,true,true,true,true,true,true,true,false] κ [0,1,2,3,4,5,6,7] κ κ κ κ κ κ ?st ?st2 ?hA ?hop ?hend
  case hA =>
   intro y;simp only [bj,cU,List.getElem?_toArray,List.getElem?_cons_zero,List.getElem?_cons_succ,Option.bind_some,Act.put,List.setIfInBounds_toArray,List.set_cons_zero,List.set_cons_succ];exact rfl
  case st=>exact aj.cons isV.stab (aj.cons (isP.stab (fun _ _ _ h hv=>hv.below h)) (aj.cons (isP.stab (fun _ _ _ h ⟨r,e,hr⟩=>⟨r,e,hr.below h⟩)) (aj.cons (isP.stab (fun _ _ _ h ⟨r,e,hr⟩=>⟨r,e,hr.below h⟩)) (aj.cons (isP.stab (fun _ _ _ h ⟨r,e,hr⟩=>⟨r,e,hr.below h⟩)) (aj.cons isV.stab (aj.cons (isP.stab dS.stab) (aj.cons (isS.stab (fun _ _ _ h ⟨r,e,hr⟩=>⟨r,e,hr.below h⟩)) (aj.nil))))))))
  case st2=>exact aI.cons isV.stabW (aI.cons (isP.stabW (cT ν)) (aI.cons (isP.stabW (fun _ _ _ h ⟨r,e,hr⟩=>⟨r,e,cT ν _ _ _ h hr⟩)) (aI.cons (isP.stabW (fun _ _ _ h ⟨r,e,hr⟩=>⟨r,e,cT ν _ _ _ h hr⟩)) (aI.cons (isP.stabW (fun _ _ _ h ⟨r,e,hr⟩=>⟨r,e,cT ν _ _ _ h hr⟩)) (aI.cons isV.stabW (aI.cons (isP.stabW dS.stabW) (aI.cons (isN.stabW (i:=0)) (aI.nil))))))))
  case hop =>
   refine ai.cons (i:=0) rfl (fun y w' hS hD K hK=>?_) ?_
   ·as_aux_lemma =>
    obtain ⟨c0,c1,c2,c3⟩:=(BS5.out.below hS BS5.out.lt).at1.1;go_simp;exact hK.out _ w' hS (bn.old β) isV.put δ
   refine ai.cons (i:=1) rfl (fun y w' hS hD K hK=>?_) ?_
   ·as_aux_lemma =>
    go_simp;refine (eI 6 w' ω ω).mono ?_
    rintro e w'' ⟨⟨v,rfl,hv⟩,hb⟩;exact hK.out v w'' (ae hS hb ρ) (bn.old hb) (isP.put hv) δ
   refine ai.cons (i:=2) rfl (fun y w' hS hD K hK=>?_) ?_
   ·as_aux_lemma =>
    have e0:=isV.get (i:=0) (c:=.agg #[.bool r5.s,.slice r5.a r5.n r5.c,.bool r5.t,.slice r5.b r5.m r5.d]) (hD 0 κ);have e1:=isP.get (i:=1) (p:=fun v w=>am w v (6:Rat)) (hD 1 κ);simp only [e0] at hK ⊢;go_simp;refine (kC _ _ (bB (ak (qAt qs) rs)) 6 8 2 w' (VS5.out.below hS) e1 HB.out bd6 ω ν).mono ?_;rintro e w'' ⟨⟨v,rfl,hv⟩,hb⟩;obtain ⟨r,rfl,hr⟩:=hv.rcv;exact hK.out _ w'' (ae hS hb ρ) (bn.old hb) (isP.put ⟨r,rfl,hr⟩) δ
   refine ai.cons (i:=3) rfl (fun y w' hS hD K hK=>?_) ?_
   ·as_aux_lemma =>
    have e2:=isP.get (i:=2) (p:=fun v w=>∃ r:RC,v=.tuple #[.agg #[.bool r.s,.slice r.a r.n r.c,.bool r.t,.slice r.b r.m r.d],.int .i64 0]∧am w r.agg (bB (ak (qAt qs) rs) / 6)) (hD 2 κ);obtain ⟨r,eq,hr⟩:=e2;simp only [eq] at hK ⊢;go_simp;exact hK.out _ w' hS (bn.old β) (isP.put ⟨r,rfl,hr⟩) δ
   refine ai.cons (i:=4) rfl (fun y w' hS hD K hK=>?_) ?_
   ·as_aux_lemma =>
    have e3:=isP.get (i:=3) (p:=fun v w=>∃ r:RC,v=.tuple #[.agg #[.bool r.s,.slice r.a r.n r.c,.bool r.t,.slice r.b r.m r.d],.int .i64 0]∧am w r.agg (bB (ak (qAt qs) rs) / 6)) (hD 3 κ);obtain ⟨r,eq,hr⟩:=e3;simp only [eq] at hK ⊢;go_simp;exact hK.out _ w' hS (bn.old β) (isP.put ⟨r,rfl,hr⟩) δ
   refine ai.cons (i:=5) rfl (fun y w' hS hD K hK=>?_) ?_
   ·as_aux_lemma =>
    have e3:=isP.get (i:=3) (p:=fun v w=>∃ r:RC,v=.tuple #[.agg #[.bool r.s,.slice r.a r.n r.c,.bool r.t,.slice r.b r.m r.d],.int .i64 0]∧am w r.agg (bB (ak (qAt qs) rs) / 6)) (hD 3 κ);obtain ⟨r,eq,hr⟩:=e3;simp only [eq] at hK ⊢;go_simp;exact hK.out _ w' hS (bn.old β) isV.put δ
   refine ai.cons (i:=6) rfl (fun y w' hS hD K hK=>?_) ?_
   ·as_aux_lemma =>
    go_simp;exact hK.out _ _ (hS.alloc hS.size _) (bn.old (β.alloc ρ _)) (isP.put ⟨_,_,rfl,hS.size,sh4 RC.zero,Box.new _ _ _ _ rfl⟩) (fun _ j hj hne _=>absurd (List.mem_singleton.1 hj) hne)
   refine ai.cons (i:=7) rfl (fun y w' hS hD K hK=>?_) ?_
   ·as_aux_lemma =>
    have e4:=isP.get (i:=4) (p:=fun v w=>∃ r:RC,v=.agg #[.bool r.s,.slice r.a r.n r.c,.bool r.t,.slice r.b r.m r.d]∧am w r.agg (bB (ak (qAt qs) rs) / 6)) (hD 4 κ);have eb:=isP.get (i:=6) (p:=dS Sh4 w5.heap.size 56) (hD 6 κ);obtain ⟨ga,_,ea,hga,⟨s0,rfl⟩,bga⟩:=eb;obtain ⟨r,er,hr⟩:=e4;simp only [er,ea] at hK ⊢;obtain ⟨-,f0,f1,f2,f3⟩:=bga.at1;obtain ⟨c0,c1,c2,c3⟩:=bga.at1.1;go_simp;exact hK.out undef (put4 w' ga 0 r) (aX hS hga _ _) (bn.new (Wr.put4 hga bga _)) (isS.put ν ea hga (bga.s4 _) ⟨r,rfl,hr.put4 bga.at1 r⟩) δ
   exact ai.nil
  case hend=>as_aux_lemma =>
   intro y w' hS hR hF;have e5:=isV.get (i:=5) (c:=.int .i64 0) (hR 5 κ);simp only [e5];obtain ⟨go,_,ego,hgo,bgo,ro,rfl,hro⟩:=isS.get (i:=6) (n:=w5.heap.size) (t:=56) (p:=fun cs w=>∃ r,cs=aT r∧am w r.agg (bB (ak (qAt qs) rs) / 6)) (hR 7 κ);simp only [ego];refine bM (i:=8) (listed2:=#[true,true,true,true,true,true,true,true,true]) κ rfl κ (fun K hK=>?_);go_simp;refine hK.out _ _ ?_;clear hK K;refine bq κ ?_;have BR8:=BR5.out.below hS BR5.out.lt;have SZ8:=hS.size;obtain ⟨c0,c1,c2,c3⟩:=bgo.at1.1;obtain ⟨y0,y1,y2,y3⟩:=BR8.at1.1;obtain ⟨-,f0,f1,f2,f3⟩:=BR8.at1;have hKD:(put4 w' (w.heap.size+1) 0 ro).heap[D]?=some (.deferred (some [])):=((dw (B:=0) hS).trans (gZ BR8 (dI w' (w.heap.size+1) 0 ro))).same D _ (Nat.zero_le _) HKD.out rfl
   go_wp2_with fail
   gi_wp2_with fail
   change bodyPostM _ _ _ _ _ _ _ (put4 w' (w.heap.size+1) 0 ro);have hDn:w.heap.size≤D:=by have:=HZ1.out;have:=HSZ.out;omega
   have hKC:KeepC w.heap.size (fun _=>False) (put4 w' (w.heap.size+1) 0 ro) ((put4 w' (w.heap.size+1) 0 ro).putObj D (.deferred none)):=KeepC.putObj _ _ hDn hKD rfl;have hBX:=(BR8.s4 ro).keepC hKC (fun h=>h);refine ⟨by simp,.inl ⟨_,_,rfl,run_takeDeferred hKD,?_⟩⟩;refine ⟨_,results_cell_row Tryz.results37 _ _ (w.heap.size+1) _ _ _ _ rfl hBX Tryz.underlying56 rfl bL,?_,?_⟩
   ·exact ⟨_,rfl,(hro.put4 BR8.at1 ro).keepC hKC (dL.none _)⟩
   ·exact (aX (BL5.out.trans (hS.mono BL5.out.size)) (Nat.le_add_right _ 1) 0 ro).trans hKC.bel
end Go.Proofs.Υ
end

section
namespace Dowel
theorem bd4:Bd 2 (4:Rat):=Bd.int 4 (by show 4<B ^ 2;unfold B;omega)
theorem bd1:Bd 2 (1:Rat):=Bd.int 1 (by show 1<B ^ 2;unfold B;omega)
theorem Bd.qscV {k l:Nat} {q:Rat} {a:Q3} (h:Bd k q) (h':BdV l a):BdV (k+l) (qscale q a):=BdV.qscale h h'
theorem Bd.inv {k:Nat} {q:Rat} (h:Bd k q):Bd k (1 / q):=by
 rw [Rat.div_def,Rat.one_mul,Rat.inv_def];by_cases h0:q.num=0
 ·rw [h0,Rat.divInt_zero]
  exact ⟨by show 0<B ^ k;exact Nat.pow_pos (by unfold B;omega),by show 1<B ^ k;exact Nat.lt_of_le_of_lt q.den_pos h.2⟩
 ·exact eA (by rw [Int.natAbs_natCast];exact h.2) h.1 h0
end Dowel
namespace Go.Proofs.Υ
open Go.RowKit Dowel
attribute [local go_sem] Oper.semAt_some
set_option maxRecDepth 100000 in
theorem jN (v0 v1 v2:Value) (qs:List Q3) (frs:List FR) (rs:List (List Nat)) (d M:Nat) (w:World) (hS:SolidF w v0 v1 qs frs rs d M) (hnz:bB (ak (qAt qs) rs)≠0) :
  Calls Tryz.prog 25 #[.agg #[v0,v1,v2]] w fun e w'=>gV w' e (qscale (1 / (4*bB (ak (qAt qs) rs))) (dW (ak (qAt qs) rs)))∧Below w.heap.size w w':=by
 have hbd:=pA hS.dpos hS.dmax hS.mmax hS.frac (by rw [hS.sol.len];exact hS.sol.max) (fun r hr=>(hS.sol.ring r hr).1);have HBD:=η hbd;have HS:=η hS;have HNZ:Hid (4*bB (ak (qAt qs) rs)≠0):=fun h=>by
  rcases Rat.mul_eq_zero.mp h with h | h
  ·exact absurd h ν
  ·exact hnz h
 clear hS hbd hnz;obtain ⟨W,hW,b1,b2,b3,b4,hB,hSz⟩:∃ W,(((w.alloc (.cells #[v0,v1,v2] 32)).alloc (.cells (ah RC.zero RC.zero RC.zero) 58)).alloc (.cells (aT RC.zero) 56)).alloc (.cells (ah RC.zero RC.zero RC.zero) 58)=W∧Box W w.heap.size #[v0,v1,v2] 32∧Box W (w.heap.size+1) (ah RC.zero RC.zero RC.zero) 58∧Box W (w.heap.size+2) (aT RC.zero) 56∧Box W (w.heap.size+3) (ah RC.zero RC.zero RC.zero) 58∧Below w.heap.size w W∧W.heap.size=w.heap.size+4:=by
  obtain ⟨W3,h3,b1,b2,b3,hB3,hS3⟩:=cW w #[v0,v1,v2] (ah RC.zero RC.zero RC.zero) (aT RC.zero) 32 58 56;obtain ⟨W4,h4,b4,hB4,hS4⟩:=aG W3 (ah RC.zero RC.zero RC.zero) 58;exact ⟨W4,by rw [h3,h4],b1.below hB4 b1.lt,b2.below hB4 b2.lt,b3.below hB4 b3.lt,by rw [hS3] at b4;exact b4,ae hB3 hB4 ρ,by omega⟩
 obtain ⟨w1,hw1,c1,hc1,hz1⟩:=aG W #[v0,v1,v2] 32;have HBW:=η (ae hB hc1 ρ);have BR1:=η (b2.below hc1 b2.lt);have BS1:=η (b3.below hc1 b3.lt);have BA1:=η (b4.below hc1 b4.lt);have C1:=η c1;have HSZ:=η hSz;have HZ1:=η hz1;have HW1:=η hw1;obtain ⟨x0,x1,x2,-⟩:=b1.three;clear b1 b2 b3 b4 hB hSz c1 hc1 hz1 hw1;refine (callsIn_wide (n:=9)).1 ?_;refine callsIn_of_wp_marks Tryz.func25 rfl trivial ?_ rfl;simp only [Tryz.ntmps25,List.size_toArray,List.length_cons,List.length_nil,Nat.reduceAdd,Nat.reduceSub,Array.replicate_succ,Array.replicate_zero,List.push_toArray,List.append_toArray,List.nil_append,List.cons_append]
 gi_wp2_with fail
 refine ⟨trivial,?_⟩;simp only [aT,ah,RC.zero] at hW;rw [hW];refine (callsIn_wide.2 (mU v0 v1 v2 W)).mono ?_;rintro e w' ⟨rfl,rfl⟩;rw [HW1.out];clear x0 x1 x2
 gi_wp2_with fail
 have hszW:=HSZ.out;have hsz1:=HZ1.out;refine iF rfl ω (gf:=118) (lb:=#[.pointer (some ⟨W.heap.size,0,none⟩)]) rfl trivial (enters_of Tryz.func118 κ rfl) (n0:=w.heap.size) (X:=fun k=>k=w.heap.size+2∨k=w.heap.size+3)
  (lM _ w w1 v0 v1 v2 qs frs rs 8 ω HS.out.sol W.heap.size _ C1.out HBW.out (fun k hk=>⟨by omega,by omega⟩)) ω β (fun _=>rfl)
  (fun pre W'=>∃ r a0 a1 a2,Box W' (w.heap.size+2) (aT r) 56∧am W' r.agg (bB (pre.map PV.p))∧Box W' (w.heap.size+3) (ah a0 a1 a2) 58∧aA W' (.agg (ah a0 a1 a2)) (dW (pre.map PV.p))∧(∀ y ∈ pre,y.p ∈ ak (qAt qs) rs)∧Box W' (w.heap.size+1) (ah RC.zero RC.zero RC.zero) 58∧Below w.heap.size w W')
  (fun pre W1 W2 ⟨r,a0,a1,a2,h1,h2,h6,h7,h3,h4,h5⟩ hk=>⟨r,a0,a1,a2,h1.keepC hk (fun h=>h),h2.keepC hk (dL.none _),h6.keepC hk (fun h=>h),h7.keepC hk (dL.none _),h3,h4.keepC hk (fun h=>h),h5.trans (hk.bel.mono ω)⟩)
  (fun x _ W1 W2 h hk=>PV.ok_keep (x:=x) h hk)
  ⟨RC.zero,RC.zero,RC.zero,RC.zero,BS1.out,am.zero _,BA1.out,⟨_,_,_,rfl,am.zero _,am.zero _,am.zero _⟩,(fun y hy=>by cases hy),BR1.out,HBW.out⟩
  (fun x a' W'=>∃ g g2 r c0 c1 c2,x.d=RC.agg r∧x.c=.agg (ah c0 c1 c2)∧a'={ tmps:=#[.agg #[v0,v1,v2],.pointer (some ⟨w.heap.size,0,none⟩),.pointer (some ⟨w.heap.size+1,0,none⟩),.pointer (some ⟨w.heap.size+1+1,0,none⟩),.pointer (some ⟨w.heap.size+1+1+1,0,none⟩),.pointer (some ⟨g,0,none⟩),.pointer (some ⟨g2,0,none⟩),undef,undef,.agg #[v0,v1,v2],.func (.func 118) #[] #[.pointer (some ⟨W.heap.size,0,none⟩)],x.d,x.c,undef,undef,undef,undef,undef,undef,undef,undef,undef,undef,undef,undef,undef,undef,undef,undef,undef,undef,undef],defers:=[] }∧Box W' g (aT r) 56∧Box W' g2 (ah c0 c1 c2) 58∧w.heap.size+3<g∧w.heap.size+3<g2)
  (fun x a' _ W1 W2 ⟨g,g2,r,c0,c1,c2,h1,h1',h2,h3,h3',h4,h5⟩ hk=>⟨g,g2,r,c0,c1,c2,h1,h1',h2,h3.keepC hk (fun h=>h),h3'.keepC hk (fun h=>h),h4,h5⟩) ?assign ?body ?done
 case assign =>
  rintro l pre ⟨d,c,p⟩ W' K hI ⟨hm,hd,hc⟩ hK;clear hszW hsz1;obtain ⟨r,rfl,hr⟩:=hd.rcv;obtain ⟨c0,c1,c2,rfl,hc0,hc1,hc2⟩:=hc;unfold ah at hK;rw [zip2];unfold ah;have HK:=η hK;clear hK
  gi_wp2_with fail
  obtain ⟨w2,hw2,b2,b3,hb2,hz2⟩:=da W' #[.bool r.s,.slice r.a r.n r.c,.bool r.t,.slice r.b r.m r.d] #[.bool c0.s,.slice c0.a c0.n c0.c,.bool c0.t,.slice c0.b c0.m c0.d,.bool c1.s,.slice c1.a c1.n c1.c,.bool c1.t,.slice c1.b c1.m c1.d,.bool c2.s,.slice c2.a c2.n c2.c,.bool c2.t,.slice c2.b c2.m c2.d] 56 58;rw [hw2];obtain ⟨r0,a0,a1,a2,hb0,hr0,hba,hva,hmem,hres,hbel⟩:=hI;exact HK.out _ _ (dw hb2) (KeepC.below hb2 hbel.size) ⟨r0,a0,a1,a2,hb0.below hb2 hb0.lt,hr0.below hb2,hba.below hb2 hba.lt,hva.below hb2,hmem,hres.below hb2 hres.lt,hbel.trans (hb2.mono hbel.size)⟩ ⟨hm,hr.below hb2,⟨c0,c1,c2,rfl,hc0.below hb2,hc1.below hb2,hc2.below hb2⟩⟩ ⟨W'.heap.size,W'.heap.size+1,r,c0,c1,c2,rfl,rfl,rfl,b2,b3,hba.lt,Nat.lt_succ_of_lt hba.lt⟩
 case body =>
  rintro l pre ⟨d,c,p⟩ a' W' ⟨r0,a0,a1,a2,hb0,hr0,hba,hva,hmem,hres,hbel⟩ ⟨hm,hd,hc⟩ ⟨g,g2,r,c0,c1,c2,hx,hx2,rfl,hg,hg2,hlt,hlt2⟩ hlen;clear hszW hsz1;have hd1:1≤9 - 1 - 1:=ω
  have hbd:=HBD.out (pre.map PV.p) (by rw [List.length_map];omega) (fun x hx=>by
   obtain ⟨y,hy,rfl⟩:=List.mem_map.mp hx;exact hmem y hy)
  have hbp:=HBD.out [p] (by show 1≤_;omega) (fun x hx=>by rw [List.mem_singleton.mp hx];exact hm);have HBS:=η hbd.1;have BA:=η hbd.2.1;have BP:=η (hbp.2.2 p (List.mem_singleton.mpr rfl)).1;have BPC:=η (hbp.2.2 p (List.mem_singleton.mpr rfl)).2;clear hbd hbp;obtain ⟨y0,y1,y2,y3⟩:=hb0.at1.1;obtain ⟨z0,z1,z2,z3⟩:=hg.at1.1;have hd2:am W' (.agg #[.bool r.s,.slice r.a r.n r.c,.bool r.t,.slice r.b r.m r.d]) p.1:=by rw [show d=RC.agg r from hx] at hd;exact hd
  have hc2:aA W' (.agg (ah c0 c1 c2)) p.2:=by rw [show c=.agg (ah c0 c1 c2) from hx2] at hc;exact hc
  have HD:=η hd2;have HC:=η hc2;have HR0:=η hr0;have HB0:=η hb0;have HBA:=η hba;have HVA:=η hva;have HG:=η hg;have HG2:=η hg2;have HRES:=η hres;have HBEL:=η hbel;clear hd hd2 hr0 hb0 hres hbel hc hc2 hba hva hg hg2
  gi_wp2_with fail
  refine ⟨trivial,?_⟩;refine (CallsIn.inRound l (callsIn_wide.2 (eU _ _ _ _ 8 8 W' HR0.out HD.out HBS.out BP.out ω))).mono ?_;rintro e w2 ⟨⟨v,rfl,hv⟩,hb2⟩;obtain ⟨r2,rfl,hr2⟩:=hv.rcv;have B2:=η (HB0.out.below hb2 HB0.out.lt);have HB2:=η hb2;have BL2:=η (HBEL.out.trans (hb2.mono HBEL.out.size));obtain ⟨y0,y1,y2,y3⟩:=B2.out.at1.1;obtain ⟨-,f0,f1,f2,f3⟩:=B2.out.at1;clear hb2 hv;have HR2':=η hr2;clear hr2
  gi_wp2_with fail
  clear y0 y1 y2 y3 f0 f1 f2 f3 z0 z1 z2 z3;change Code.wpIn _ _ _ _ _ _ (put4 w2 (w.heap.size+2) 0 r2);obtain ⟨w3,hw3⟩:∃ w3,put4 w2 (w.heap.size+2) 0 r2=w3:=⟨_,rfl⟩;have hgr:=dI w2 (w.heap.size+2) 0 r2;have KF3:Hid (KeepsFrom w1.heap.size W' w3):=by rw [← hw3];exact (dw HB2.out).trans (gZ B2.out hgr)
  have KC3:Hid (KeepC w.heap.size (fun k=>k=w.heap.size+2∨k=w.heap.size+3) W' w3):=by rw [← hw3];exact (KeepC.below HB2.out HBEL.out.size).trans (kU (.inl rfl) (Nat.le_add_right _ 2) BL2.out.size hgr)
  have HR2:Hid (am w3 r2.agg (bB (pre.map PV.p)+p.1)):=by rw [← hw3];exact HR2'.out.put4 B2.out.at1 r2
  have BS3:Hid (Box w3 (w.heap.size+2) (aT r2) 56):=by rw [← hw3];exact B2.out.s4 r2
  have BL3:Hid (Below w.heap.size w w3):=by rw [← hw3];exact aX BL2.out (Nat.le_add_right _ 2) 0 r2
  have BR3:Hid (Box w3 (w.heap.size+1) (ah RC.zero RC.zero RC.zero) 58):=by rw [← hw3];exact (HRES.out.below HB2.out HRES.out.lt).oput4 ω 0 r2
  have BA3:Hid (Box w3 (w.heap.size+3) (ah a0 a1 a2) 58):=by rw [← hw3];exact (HBA.out.below HB2.out HBA.out.lt).oput4 ω 0 r2
  have BC3:Hid (Box w3 g2 (ah c0 c1 c2) 58):=by rw [← hw3];exact (HG2.out.below HB2.out HG2.out.lt).oput4 ω 0 r2
  have BD3:Hid (Box w3 g (aT r) 56):=by rw [← hw3];exact (HG.out.below HB2.out HG.out.lt).oput4 ω 0 r2
  have VA3:Hid (aA w3 (.agg (ah a0 a1 a2)) (dW (pre.map PV.p))):=by rw [← hw3];exact (HVA.out.below HB2.out).put4 B2.out.at1 r2
  have VC3:Hid (aA w3 (.agg (ah c0 c1 c2)) p.2):=by rw [← hw3];exact (HC.out.below HB2.out).put4 B2.out.at1 r2
  have VD3:Hid (am w3 (.agg #[.bool r.s,.slice r.a r.n r.c,.bool r.t,.slice r.b r.m r.d]) p.1):=by rw [← hw3];exact (HD.out.below HB2.out).put4 B2.out.at1 r2
  rw [hw3];clear hw3 hgr;refine jt (rest:=1) [isV 0 (.agg #[.bool a0.s,.slice a0.a a0.n a0.c,.bool a0.t,.slice a0.b a0.m a0.d,.bool a1.s,.slice a1.a a1.n a1.c,.bool a1.t,.slice a1.b a1.m a1.d,.bool a2.s,.slice a2.a a2.n a2.c,.bool a2.t,.slice a2.b a2.m a2.d]),isV 1 (.agg #[.bool c0.s,.slice c0.a c0.n c0.c,.bool c0.t,.slice c0.b c0.m c0.d,.bool c1.s,.slice c1.a c1.n c1.c,.bool c1.t,.slice c1.b c1.m c1.d,.bool c2.s,.slice c2.a c2.n c2.c,.bool c2.t,.slice c2.b c2.m c2.d]),isV 2 (.agg #[.bool r.s,.slice r.a r.n r.c,.bool r.t,.slice r.b r.m r.d]),isP 3 (fun v w=>aA w v (qscale p.1 p.2)),isP 4 (fun v w=>aA w v (qadd (dW (pre.map PV.p)) (qscale p.1 p.2)))] [] ?A7 #[true,true,true,true,true,false] κ [0,1,2,3,4] κ κ κ κ κ κ ?st ?hA ?hop ?hend
  case hA =>
   intro y;simp only [bj,cU,List.getElem?_toArray,List.getElem?_cons_zero,List.getElem?_cons_succ,Option.bind_some,Act.put,List.setIfInBounds_toArray,List.set_cons_zero,List.set_cons_succ];exact rfl
  case st=>exact aj.cons isV.stab (aj.cons isV.stab (aj.cons isV.stab (aj.cons (isP.stab (fun _ _ _ h hv=>hv.below h)) (aj.cons (isP.stab (fun _ _ _ h hv=>hv.below h)) (aj.nil)))))
  case hop =>
   refine ai.consIn (i:=0) rfl (fun y w' hS hD K hK=>?_) ?_
   ·as_aux_lemma =>
    have bx:=BA3.out.below hS BA3.out.lt;obtain ⟨c0,c1,c2,c3⟩:=bx.p0.1;obtain ⟨c4,c5,c6,c7⟩:=bx.p1.1;obtain ⟨c8,c9,c10,c11⟩:=bx.p2.1;go_simp;exact hK.out _ w' hS β isV.put δ
   refine ai.consIn (i:=1) rfl (fun y w' hS hD K hK=>?_) ?_
   ·as_aux_lemma =>
    have bx:=BC3.out.below hS BC3.out.lt;obtain ⟨c0,c1,c2,c3⟩:=bx.p0.1;obtain ⟨c4,c5,c6,c7⟩:=bx.p1.1;obtain ⟨c8,c9,c10,c11⟩:=bx.p2.1;go_simp;exact hK.out _ w' hS β isV.put δ
   refine ai.consIn (i:=2) rfl (fun y w' hS hD K hK=>?_) ?_
   ·as_aux_lemma =>
    obtain ⟨c0,c1,c2,c3⟩:=(BD3.out.below hS BD3.out.lt).at1.1;go_simp;exact hK.out _ w' hS β isV.put δ
   refine ai.consIn (i:=3) rfl (fun y w' hS hD K hK=>?_) ?_
   ·as_aux_lemma =>
    have e1:=isV.get (i:=1) (c:=.agg #[.bool c0.s,.slice c0.a c0.n c0.c,.bool c0.t,.slice c0.b c0.m c0.d,.bool c1.s,.slice c1.a c1.n c1.c,.bool c1.t,.slice c1.b c1.m c1.d,.bool c2.s,.slice c2.a c2.n c2.c,.bool c2.t,.slice c2.b c2.m c2.d]) (hD 1 κ);have e2:=isV.get (i:=2) (c:=.agg #[.bool r.s,.slice r.a r.n r.c,.bool r.t,.slice r.b r.m r.d]) (hD 2 κ);simp only [e1,e2] at hK ⊢;go_simp;refine ⟨trivial,?_⟩;refine (CallsIn.inRound l (callsIn_wide.2 (gk _ _ p.2 p.1 8 8 w' (VC3.out.below hS) (VD3.out.below hS) BP.out BPC.out ω))).mono ?_;rintro e w'' ⟨⟨v,rfl,hv⟩,hb⟩;exact hK.out v w'' (ae hS hb ρ) hb (isP.put hv) δ
   refine ai.consIn (i:=4) rfl (fun y w' hS hD K hK=>?_) ?_
   ·as_aux_lemma =>
    have e0:=isV.get (i:=0) (c:=.agg #[.bool a0.s,.slice a0.a a0.n a0.c,.bool a0.t,.slice a0.b a0.m a0.d,.bool a1.s,.slice a1.a a1.n a1.c,.bool a1.t,.slice a1.b a1.m a1.d,.bool a2.s,.slice a2.a a2.n a2.c,.bool a2.t,.slice a2.b a2.m a2.d]) (hD 0 κ);have e3:=isP.get (i:=3) (p:=fun v w=>aA w v (qscale p.1 p.2)) (hD 3 κ);simp only [e0] at hK ⊢;go_simp;refine ⟨trivial,?_⟩;refine (CallsIn.inRound l (callsIn_wide.2 (jb _ _ _ _ 8 16 w' (VA3.out.below hS) e3 BA.out (BP.out.qscV BPC.out) ω))).mono ?_;rintro e w'' ⟨⟨v,rfl,hv⟩,hb⟩;exact hK.out v w'' (ae hS hb ρ) hb (isP.put hv) δ
   exact ai.nil
  case hend =>
   intro y w' hS hR hF;have e4:=isP.get (i:=4) (p:=fun v w=>aA w v (qadd (dW (pre.map PV.p)) (qscale p.1 p.2))) (hR 4 κ);obtain ⟨a0',a1',a2',ea,ha0,ha1,ha2⟩:=e4;have HVA9:=η (show aA w' (.agg (ah a0' a1' a2')) (qadd (dW (pre.map PV.p)) (qscale p.1 p.2)) from ⟨a0',a1',a2',rfl,ha0,ha1,ha2⟩);have BA9:=BA3.out.below hS BA3.out.lt;simp only [ea,ah];have HS9:=η hS;have HMEM:=η hmem;have HM:=η hm;have HLT:=η hlt;have HLT2:=η hlt2;clear hR hF hS hx hx2 hmem hm hlen hlt hlt2 ha0 ha1 ha2 ea hd1;obtain ⟨ga,hga⟩:∃ ga,w.heap.size+3=ga:=⟨_,rfl⟩;rw [hga] at BA9;simp only [show w.heap.size+1+1+1=ga from hga];have HGA:=η hga;clear hga;obtain ⟨-,f0,f1,f2,f3⟩:=BA9.p0;obtain ⟨c0,c1,c2,c3⟩:=BA9.p0.1;obtain ⟨-,f4,f5,f6,f7⟩:=BA9.p1;obtain ⟨c4,c5,c6,c7⟩:=BA9.p1.1;obtain ⟨-,f8,f9,f10,f11⟩:=BA9.p2;obtain ⟨c8,c9,c10,c11⟩:=BA9.p2.1;have BA9:=η BA9;refine iG (i:=5) (listed2:=#[true,true,true,true,true,true]) κ rfl κ (fun K hK=>?_);go_simp;refine hK.out _ _ ?_;clear hK K;refine jV κ ?_;clear f0 f1 f2 f3 f4 f5 f6 f7 f8 f9 f10 f11 c0 c1 c2 c3 c4 c5 c6 c7 c8 c9 c10 c11;obtain rfl:=HGA.out;change KeepsFrom _ _ (put12 w' (w.heap.size+3) a0' a1' a2')∧KeepC _ _ _ (put12 w' (w.heap.size+3) a0' a1' a2')∧_;have hgr:=iY w' (w.heap.size+3) a0' a1' a2';have hn3:=BL3.out.size;refine ⟨(KF3.out.trans (dw HS9.out)).trans (gZ BA9.out hgr),(KC3.out.trans (KeepC.below HS9.out hn3)).trans (kU (.inr rfl) (Nat.le_add_right _ 3) (BL3.out.trans (HS9.out.mono hn3)).size hgr),r2,a0',a1',a2',((BS3.out.below HS9.out BS3.out.lt).o12 ω _ _ _),?_,BA9.out.s12 _ _ _,?_,?_,(BR3.out.below HS9.out BR3.out.lt).o12 ω _ _ _,bw (BL3.out.trans (HS9.out.mono hn3)) (Nat.le_add_right _ 3) _ _ _⟩
   ·rw [List.map_append,List.map_singleton,dN]
    exact (HR2.out.below HS9.out).put12 BA9.out _ _ _
   ·rw [List.map_append,List.map_singleton,je]
    exact HVA9.out.put12 BA9.out _ _ _
   ·intro y hy
    rcases List.mem_append.mp hy with hy | hy
    ·exact HMEM.out y hy
    ·rw [List.mem_singleton.mp hy];exact HM.out
 case done =>
  rintro D xs w5 hD hS ⟨r5,a0,a1,a2,hb5,hr5,hba,hva,-,hres,hbel⟩ hK;rw [hS] at hr5 hva;have HB:=η (HBD.out (ak (qAt qs) rs) ρ (fun x hx=>hx)).1;have HBC:=η (HBD.out (ak (qAt qs) rs) ρ (fun x hx=>hx)).2.1;have HB12:=η ((bd4.mul HB.out).inv.mono (show 10≤12 by omega));have BS5:=η hb5;have VS5:=η (show am w5 (.agg #[.bool r5.s,.slice r5.a r5.n r5.c,.bool r5.t,.slice r5.b r5.m r5.d]) (bB (ak (qAt qs) rs)) from hr5);have BA5:=η hba;have VA5:=η hva;have BR5:=η hres;have BL5:=η hbel;have HKD:=η hK;clear hszW hsz1 hb5 hr5 hres hbel hK hS hba hva
  gi_wp2_with fail
  refine (wpIn_wide (n:=9)).2 ?_;refine gH Sh4 9 56 (rest:=1) [isP 0 (fun v w=>am w v (1:Rat)),isP 1 (fun v w=>am w v (4:Rat)),isV 2 (.agg #[.bool r5.s,.slice r5.a r5.n r5.c,.bool r5.t,.slice r5.b r5.m r5.d]),isP 3 (fun v w=>am w v (4*bB (ak (qAt qs) rs))),isP 4 (fun v w=>∃ r:RC,v=.tuple #[.agg #[.bool r.s,.slice r.a r.n r.c,.bool r.t,.slice r.b r.m r.d],.int .i64 0]∧am w r.agg (1 / (4*bB (ak (qAt qs) rs)))),isP 5 (fun v w=>∃ r:RC,v=.tuple #[.agg #[.bool r.s,.slice r.a r.n r.c,.bool r.t,.slice r.b r.m r.d],.int .i64 0]∧am w r.agg (1 / (4*bB (ak (qAt qs) rs)))),isP 6 (fun v w=>∃ r:RC,v=.agg #[.bool r.s,.slice r.a r.n r.c,.bool r.t,.slice r.b r.m r.d]∧am w r.agg (1 / (4*bB (ak (qAt qs) rs)))),isV 7 (.int .i64 0),isP 8 (dS Sh4 w5.heap.size 56),isS 8 w5.heap.size 56 (fun cs w=>∃ r,cs=aT r∧am w r.agg (1 / (4*bB (ak (qAt qs) rs))))] [8] ?A8 #[true,true,true,true,true,true,true,true,true,true,false] κ [0,1,2,3,4,5,6,7,8,9] κ κ κ κ κ κ ?st ?st2 ?hA ?hop ?hend
  case hA =>
   intro y;simp only [bj,cU,List.getElem?_toArray,List.getElem?_cons_zero,List.getElem?_cons_succ,Option.bind_some,Act.put,List.setIfInBounds_toArray,List.set_cons_zero,List.set_cons_succ];exact rfl
  case st=>exact aj.cons (isP.stab (fun _ _ _ h hv=>hv.below h)) (aj.cons (isP.stab (fun _ _ _ h hv=>hv.below h)) (aj.cons isV.stab (aj.cons (isP.stab (fun _ _ _ h hv=>hv.below h)) (aj.cons (isP.stab (fun _ _ _ h ⟨r,e,hr⟩=>⟨r,e,hr.below h⟩)) (aj.cons (isP.stab (fun _ _ _ h ⟨r,e,hr⟩=>⟨r,e,hr.below h⟩)) (aj.cons (isP.stab (fun _ _ _ h ⟨r,e,hr⟩=>⟨r,e,hr.below h⟩)) (aj.cons isV.stab (aj.cons (isP.stab dS.stab) (aj.cons (isS.stab (fun _ _ _ h ⟨r,e,hr⟩=>⟨r,e,hr.below h⟩)) (aj.nil))))))))))
  case st2=>exact aI.cons (isP.stabW (cT ν)) (aI.cons (isP.stabW (cT ν)) (aI.cons isV.stabW (aI.cons (isP.stabW (cT ν)) (aI.cons (isP.stabW (fun _ _ _ h ⟨r,e,hr⟩=>⟨r,e,cT ν _ _ _ h hr⟩)) (aI.cons (isP.stabW (fun _ _ _ h ⟨r,e,hr⟩=>⟨r,e,cT ν _ _ _ h hr⟩)) (aI.cons (isP.stabW (fun _ _ _ h ⟨r,e,hr⟩=>⟨r,e,cT ν _ _ _ h hr⟩)) (aI.cons isV.stabW (aI.cons (isP.stabW dS.stabW) (aI.cons (isN.stabW (i:=0)) (aI.nil))))))))))
  case hop =>
   refine ai.cons (i:=0) rfl (fun y w' hS hD K hK=>?_) ?_
   ·as_aux_lemma =>
    go_simp;refine (eI 1 w' ω ω).mono ?_
    rintro e w'' ⟨⟨v,rfl,hv⟩,hb⟩;exact hK.out v w'' (ae hS hb ρ) (bn.old hb) (isP.put hv) δ
   refine ai.cons (i:=1) rfl (fun y w' hS hD K hK=>?_) ?_
   ·as_aux_lemma =>
    go_simp;refine (eI 4 w' ω ω).mono ?_
    rintro e w'' ⟨⟨v,rfl,hv⟩,hb⟩;exact hK.out v w'' (ae hS hb ρ) (bn.old hb) (isP.put hv) δ
   refine ai.cons (i:=2) rfl (fun y w' hS hD K hK=>?_) ?_
   ·as_aux_lemma =>
    obtain ⟨c0,c1,c2,c3⟩:=(BS5.out.below hS BS5.out.lt).at1.1;go_simp;exact hK.out _ w' hS (bn.old β) isV.put δ
   refine ai.cons (i:=3) rfl (fun y w' hS hD K hK=>?_) ?_
   ·as_aux_lemma =>
    have e1:=isP.get (i:=1) (p:=fun v w=>am w v (4:Rat)) (hD 1 κ);have e2:=isV.get (i:=2) (c:=.agg #[.bool r5.s,.slice r5.a r5.n r5.c,.bool r5.t,.slice r5.b r5.m r5.d]) (hD 2 κ);simp only [e2] at hK ⊢;go_simp;refine (dK _ _ 4 (bB (ak (qAt qs) rs)) 2 8 w' e1 (VS5.out.below hS) bd4 HB.out ω).mono ?_;rintro e w'' ⟨⟨v,rfl,hv⟩,hb⟩;exact hK.out v w'' (ae hS hb ρ) (bn.old hb) (isP.put hv) δ
   refine ai.cons (i:=4) rfl (fun y w' hS hD K hK=>?_) ?_
   ·as_aux_lemma =>
    have e0:=isP.get (i:=0) (p:=fun v w=>am w v (1:Rat)) (hD 0 κ);have e3:=isP.get (i:=3) (p:=fun v w=>am w v (4*bB (ak (qAt qs) rs))) (hD 3 κ);go_simp;refine (kC _ _ 1 (4*bB (ak (qAt qs) rs)) 2 10 w' e0 e3 bd1 (bd4.mul HB.out) ω HNZ.out).mono ?_;rintro e w'' ⟨⟨v,rfl,hv⟩,hb⟩;obtain ⟨r,rfl,hr⟩:=hv.rcv;exact hK.out _ w'' (ae hS hb ρ) (bn.old hb) (isP.put ⟨r,rfl,hr⟩) δ
   refine ai.cons (i:=5) rfl (fun y w' hS hD K hK=>?_) ?_
   ·as_aux_lemma =>
    have e4:=isP.get (i:=4) (p:=fun v w=>∃ r:RC,v=.tuple #[.agg #[.bool r.s,.slice r.a r.n r.c,.bool r.t,.slice r.b r.m r.d],.int .i64 0]∧am w r.agg (1 / (4*bB (ak (qAt qs) rs)))) (hD 4 κ);obtain ⟨r,eq,hr⟩:=e4;simp only [eq] at hK ⊢;go_simp;exact hK.out _ w' hS (bn.old β) (isP.put ⟨r,rfl,hr⟩) δ
   refine ai.cons (i:=6) rfl (fun y w' hS hD K hK=>?_) ?_
   ·as_aux_lemma =>
    have e5:=isP.get (i:=5) (p:=fun v w=>∃ r:RC,v=.tuple #[.agg #[.bool r.s,.slice r.a r.n r.c,.bool r.t,.slice r.b r.m r.d],.int .i64 0]∧am w r.agg (1 / (4*bB (ak (qAt qs) rs)))) (hD 5 κ);obtain ⟨r,eq,hr⟩:=e5;simp only [eq] at hK ⊢;go_simp;exact hK.out _ w' hS (bn.old β) (isP.put ⟨r,rfl,hr⟩) δ
   refine ai.cons (i:=7) rfl (fun y w' hS hD K hK=>?_) ?_
   ·as_aux_lemma =>
    have e5:=isP.get (i:=5) (p:=fun v w=>∃ r:RC,v=.tuple #[.agg #[.bool r.s,.slice r.a r.n r.c,.bool r.t,.slice r.b r.m r.d],.int .i64 0]∧am w r.agg (1 / (4*bB (ak (qAt qs) rs)))) (hD 5 κ);obtain ⟨r,eq,hr⟩:=e5;simp only [eq] at hK ⊢;go_simp;exact hK.out _ w' hS (bn.old β) isV.put δ
   refine ai.cons (i:=8) rfl (fun y w' hS hD K hK=>?_) ?_
   ·as_aux_lemma =>
    go_simp;exact hK.out _ _ (hS.alloc hS.size _) (bn.old (β.alloc ρ _)) (isP.put ⟨_,_,rfl,hS.size,sh4 RC.zero,Box.new _ _ _ _ rfl⟩) (fun _ j hj hne _=>absurd (List.mem_singleton.1 hj) hne)
   refine ai.cons (i:=9) rfl (fun y w' hS hD K hK=>?_) ?_
   ·as_aux_lemma =>
    have e6:=isP.get (i:=6) (p:=fun v w=>∃ r:RC,v=.agg #[.bool r.s,.slice r.a r.n r.c,.bool r.t,.slice r.b r.m r.d]∧am w r.agg (1 / (4*bB (ak (qAt qs) rs)))) (hD 6 κ);have eb:=isP.get (i:=8) (p:=dS Sh4 w5.heap.size 56) (hD 8 κ);obtain ⟨ga,_,ea,hga,⟨s0,rfl⟩,bga⟩:=eb;obtain ⟨r,er,hr⟩:=e6;simp only [er,ea] at hK ⊢;obtain ⟨-,f0,f1,f2,f3⟩:=bga.at1;obtain ⟨c0,c1,c2,c3⟩:=bga.at1.1;go_simp;exact hK.out undef (put4 w' ga 0 r) (aX hS hga _ _) (bn.new (Wr.put4 hga bga _)) (isS.put ν ea hga (bga.s4 _) ⟨r,rfl,hr.put4 bga.at1 r⟩) δ
   exact ai.nil
  case hend =>
   intro y w' hS hR hF;have e7:=isV.get (i:=7) (c:=.int .i64 0) (hR 7 κ);simp only [e7];obtain ⟨go,_,ego,hgo,bgo,ro,rfl,hro⟩:=isS.get (i:=8) (n:=w5.heap.size) (t:=56) (p:=fun cs w=>∃ r,cs=aT r∧am w r.agg (1 / (4*bB (ak (qAt qs) rs)))) (hR 9 κ);simp only [ego];refine bM (i:=10) (listed2:=#[true,true,true,true,true,true,true,true,true,true,true]) κ rfl κ (fun K hK=>?_);go_simp;refine hK.out _ _ ?_;clear hK K;refine bq κ ?_;have BR8:=η (BR5.out.below hS BR5.out.lt);have BA8:=η (BA5.out.below hS BA5.out.lt);have VA8:=η (VA5.out.below hS);have HRO:=η hro;have BL8:=η (BL5.out.trans (hS.mono BL5.out.size));have hDn:w.heap.size≤D:=by have:=HZ1.out;have:=HSZ.out;omega
   have HDN:=η hDn;have KD8:=η ((dw (B:=0) hS).same D _ (Nat.zero_le _) HKD.out rfl);obtain ⟨c0,c1,c2,c3⟩:=bgo.at1.1;obtain ⟨⟨x0,x1,x2,x3⟩,-⟩:=BA8.out.p0;obtain ⟨⟨x4,x5,x6,x7⟩,-⟩:=BA8.out.p1;obtain ⟨⟨x8,x9,x10,x11⟩,-⟩:=BA8.out.p2;clear hS hR hF hDn
   go_wp2_with fail
   gi_wp2_with fail
   refine ⟨trivial,?_⟩;refine (callsIn_wide.2 (gk _ _ _ _ 12 8 w' VA8.out HRO.out HB12.out HBC.out ω)).mono ?_;rintro e w9 ⟨⟨v9,rfl,a0,a1,a2,rfl,ha0,ha1,ha2⟩,hb9⟩;have BR9:=η (BR8.out.below hb9 BR8.out.lt);have VA9:=η (show aA w9 (.agg (ah a0 a1 a2)) (qscale (1 / (4*bB (ak (qAt qs) rs))) (dW (ak (qAt qs) rs))) from ⟨a0,a1,a2,rfl,ha0,ha1,ha2⟩);have BL9:=η (BL8.out.trans (hb9.mono BL8.out.size));have KD9:=η ((dw (B:=0) hb9).same D _ (Nat.zero_le _) KD8.out rfl);clear hb9 ha0 ha1 ha2;clear x0 x1 x2 x3 x4 x5 x6 x7 x8 x9 x10 x11;unfold ah;obtain ⟨-,f0,f1,f2,f3⟩:=BR9.out.p0;obtain ⟨c0,c1,c2,c3⟩:=BR9.out.p0.1;obtain ⟨-,f4,f5,f6,f7⟩:=BR9.out.p1;obtain ⟨c4,c5,c6,c7⟩:=BR9.out.p1.1;obtain ⟨-,f8,f9,f10,f11⟩:=BR9.out.p2;obtain ⟨c8,c9,c10,c11⟩:=BR9.out.p2.1
   gi_wp2_with fail
   change bodyPostM _ _ _ _ _ _ _ (put12 w9 (w.heap.size+1) a0 a1 a2);have hKD:(put12 w9 (w.heap.size+1) a0 a1 a2).heap[D]?=some (.deferred (some [])):=(gZ BR9.out (iY w9 (w.heap.size+1) a0 a1 a2)).same (B:=0) D _ (Nat.zero_le _) KD9.out rfl;have hKC:KeepC w.heap.size (fun _=>False) (put12 w9 (w.heap.size+1) a0 a1 a2) ((put12 w9 (w.heap.size+1) a0 a1 a2).putObj D (.deferred none)):=KeepC.putObj _ _ HDN.out hKD rfl;have hBX:=(BR9.out.s12 a0 a1 a2).keepC hKC (fun h=>h);refine ⟨by simp,.inl ⟨_,_,rfl,run_takeDeferred hKD,?_⟩⟩;refine ⟨_,results_cell_row Tryz.results25 _ _ (w.heap.size+1) _ _ _ _ rfl hBX Tryz.underlying58 rfl aK,?_,?_⟩
   ·exact ⟨_,rfl,(VA9.out.put12 BR9.out a0 a1 a2).keepC hKC (dL.none _)⟩
   ·exact (bw BL9.out (Nat.le_add_right _ 1) a0 a1 a2).trans hKC.bel
end Go.Proofs.Υ
end

section
namespace Dowel
theorem bd64 {n:Int} (h:-9223372036854775808≤n∧n≤9223372036854775807):Bd 2 (n:Rat):=Bd.int n (by unfold B;omega)
end Dowel
namespace Go.Proofs.Υ
open Go.RowKit Dowel
theorem pD (a b:Int) (w:World) (ha:-9223372036854775808≤a∧a≤9223372036854775807) (hb:-9223372036854775808≤b∧b≤9223372036854775807) (hn:b≠0) :
  Calls Tryz.prog 21 #[.int .i64 a,.int .i64 b] w fun e w'=>dJ w' e ((a:Rat) / (b:Rat))∧Below w.heap.size w w':=by
 have HA:=η ha;have HB:=η hb;have HN:=η hn;clear ha hb hn
 go_enter Tryz.func21,Tryz.ntmps21
 obtain ⟨W,hW,b1,hB,hS⟩:=aG w #[.bool false,.slice none 0 0,.bool false,.slice none 0 0] 56
 go_wp2_with fail
 refine (eI a _ HA.out.1 HA.out.2).mono ?_;rintro e w1 ⟨⟨v1,rfl,hv1⟩,hb1⟩;have V1:=η hv1;have B1:=η (b1.below hb1 ω);have L1:=η (ae hB hb1 ρ);clear hv1 hb1 b1 hB hW
 go_wp2_with fail
 refine (eI b _ HB.out.1 HB.out.2).mono ?_;rintro e w2 ⟨⟨v2,rfl,hv2⟩,hb2⟩;have V1:=η (V1.out.below hb2);have V2:=η hv2;have B1:=η (B1.out.below hb2 B1.out.lt);have L1:=η (ae L1.out hb2 ρ);clear hv2 hb2
 go_wp2_with fail
 refine (kC _ _ (a:Rat) (b:Rat) 2 2 w2 V1.out V2.out (bd64 HA.out) (bd64 HB.out) ω (by have:=HN.out;exact_mod_cast this)).mono ?_;rintro e w3 ⟨⟨v3,rfl,hv3⟩,hb3⟩;obtain ⟨r,rfl,hr⟩:=hv3.rcv;have V3:=η hr;have B1:=η (B1.out.below hb3 B1.out.lt);have L1:=η (ae L1.out hb3 ρ);clear hv3 hr hb3;have hlt:=B1.out.lt;have hne:w.heap.size≠w3.heap.size:=ω;obtain ⟨w5,hw5,b5,hb5,hz5⟩:=aG w3 #[.bool false,.slice none 0 0,.bool false,.slice none 0 0] 56;have B1:=η (B1.out.below hb5 B1.out.lt);have V3:=η (V3.out.below hb5);have L1:=η (ae L1.out hb5 ρ);have B5:=η b5;obtain ⟨x0,x1,x2,x3,x4⟩:=B1.out.four;obtain ⟨y0,y1,y2,y3,y4⟩:=b5.four;clear hb5
 go_wp2_with fail
 have B6:=(show Box w5 w.heap.size (aT RC.zero) 56 from B1.out).oput4 hne 0 r;have R6:=V3.out.put4 (show Box w5 w3.heap.size (aT RC.zero) 56 from B5.out).at1 r;exact aS Tryz.results21 w.heap.size (B6.s4 r) _ rfl Tryz.underlying56 rfl bL rfl
  ⟨⟨_,rfl,R6.put4 B6.at1 r⟩,aX (aX L1.out ω 0 r) ρ 0 r⟩
end Go.Proofs.Υ
end
