/- Lemmas. -/
import Derived.Test.YtodehkjinmgflaaGreatDoorV21
import Derived.Test.YtodehkjinmgflaaGreatDoorV22
set_option linter.all false
set_option maxHeartbeats 0
set_option maxRecDepth 99999
namespace Go.Proofs.Υ
open Go Go.RowKit Tryz
structure PV where
 d:Value
 c:Value
 p:Rat × Q3
def PV.enc(x:PV):Array Value:=#[x.d,x.c]
def PV.ok(L:List (Rat×Q3))(x:PV)(W:World):Prop:=x.p∈L/\ak W x.d x.p.1/\am W x.c x.p.2
structure Solid (w:World) (v0 v1:Value) (qs:List Q3) (frs:List FR) (rs:List (List Nat)) (k:Nat):Prop where
 vs:∃ base vrs,VRow w base v0 qs vrs
 fs:∃ base fqs,FRow w base v1 fqs frs
 rows:∀ (i:Nat) (f:FR) (r:List Nat),frs[i]?=some f→rs[i]?=some r→∃ base,bo w base f.v r
 len:rs.length=frs.length
 max:frs.length<=262144
 vmax:0<qs.length/\qs.length<=64
 ring:∀ r ∈ rs,r.length<=64/\r≠[]/\∀ i ∈ r,i<qs.length
 bd:∀ q ∈ qs,BdV k q
def qAt(qs:List Q3)(i:Nat):Q3:=qs.getD i ⟨0,0,0⟩
theorem oe(n:Nat)(w0 w:World)(v0 v1 v2:Value)(qs:List Q3)(ar:List FR)(rs:List (List Nat))(kq:Nat)(hk:kq<1000)(hS:Solid w0 v0 v1 qs ar rs kq)(Bs:Nat)(X:Nat->Prop)(hB:Box w Bs #[v0,v1,v2] 86)(dl:Bl w0 w)(hX:∀k,X k->k<w.heap.size/\k≠Bs):
 SeqV Fence.wide n prog 106 #[.pointer (some ⟨Bs,0,none⟩)] PV.enc (PV.ok (aD (qAt qs) rs)) w0.heap.size X (fun xs=>xs.map PV.p=aD (qAt qs) rs) (aD (qAt qs) rs).length w:=by
 intro l J W ba hJ hY h0;refine callsIn_wide.2 ?_;obtain⟨bv,i1,hV⟩:=hS.vs;obtain⟨bf,fqs,hF⟩:=hS.fs;have hs:=ba.size;have gv:=dl.size;obtain⟨HS,HV,HF,em,H0,HX,HY,HJ,gC⟩:=η9 hS hV hF (hB.to ba) (show Bl w0 W from dl.trans (ba.mono gv)) hX hY hJ h0;obtain⟨bV,cV,fa⟩:∃b a4,v0=.slice (some ⟨b,0,none⟩) qs.length a4:=by
  obtain⟨b,a4,r,e,-⟩:=hV.at_ 0 (qAt qs 0) (by unfold qAt;rw[List.getD_eq_getElem?_getD,List.getElem?_eq_getElem hS.vmax.1];rfl);exact⟨b,a4,e⟩
 have dk:∀i,i<qs.length->∃r:RC×RC×RC,∀W',Bl w0 W'->am W' (.agg (ah r.1 r.2.1 r.2.2)) (qAt qs i)/\∀j,j<12->W'.cell? ⟨bV,i*12+j,none⟩=(bQ r)[j]? := by
  intro i hi;obtain⟨b,a4,r,e,hb,-,-,-,hv,hc⟩:=hV.at_ i (qAt qs i) (by unfold qAt;rw[List.getD_eq_getElem?_getD,List.getElem?_eq_getElem hi];rfl);have e1:bV=b:=by rw[fa]at e;cases e;rfl
  subst e1;exact⟨r,fun W' h=>⟨hv.below h,fun j hj=>(h.cell (p:=⟨bV,i*12+j,none⟩) hb).trans (hc j hj)⟩⟩
 have cB:=O dk;obtain⟨t0,ds⟩:=dk 0 hS.vmax.1;obtain⟨gx,gw⟩:=ds W H0.o;have et:=O ds;obtain⟨pa,cF,hh⟩:∃pa a4,v1=.slice pa ar.length a4:=by
  obtain⟨_,⟨rfl,h0⟩|⟨g,c,_,rfl,_⟩⟩:=hF.own
  ·exact⟨none,0,by rw[h0]⟩
  ·exact⟨_,_,rfl⟩
 have a0:=hS.vmax.1;have ia:=hS.max;subst fa hh;obtain⟨H,L,Q⟩:=t0;have h4:=O gx;obtain⟨x0,x1,x2,-⟩:=(hB.to ba).three;have d:=fun j hj=>gw j hj
 have d0:=d 0 I;have d1:=d 1 I;have d2:=d 2 I;have d3:=d 3 I;have d4:=d 4 I;have d5:=d 5 I;have d6:=d 6 I;have d7:=d 7 I;have d8:=d 8 I;have d9:=d 9 I;have eB:=d 10 I;have eD:=d 11 I;simp only[bQ,ah,List.getElem?_cons_zero,List.getElem?_cons_succ,Nat.add_zero,Nat.zero_mul,Nat.zero_add]at d0 d1 d2 d3 d4 d5 d6 d7 d8 d9 eB eD;clear hS hV hF hB ba dl hX hY hJ h0 dk gx gw d ds
 go_enter func106,ntmps106
 go_upto_region 1 with fail
 obtain⟨W1,de,b1,a8,fq⟩:=aB W (ah H L Q) 57;unfold ah at de;rw[de];obtain⟨BT,h5,H1,el,gD,g5⟩:=η6 b1 fq (show Bl W W1 from a8) (em.o.to a8) (HJ.o.below gC.o a8 ρ) (show KeepC w0.heap.size X W W1 from KeepC.below a8 (ψ H0.o.size));obtain⟨x0,x1,x2,-⟩:=el.o.three;clear d0 d1 d2 d3 d4 d5 d6 d7 d8 d9 eB eD de b1 a8 fq
 go_wp2_with fail
 go_loopw [18] (fun iv wr=>∃i a6,i<=ar.length/\iv=.int .i64 (i:Nat)/\Hid (a6.map PV.p=aD (qAt qs) (rs.take i))/\Hid (J a6 wr)/\Hid (KeepC w0.heap.size X W1 wr)) (fun iv _=>ar.length-(intOf iv).toNat)
 case atStart=>exact⟨0,[],Nat.zero_le _,rfl,rfl,gD.o,KeepC.refl _ _ _⟩
 case round =>
  obtain⟨i,a6,hi,rfl,cm,er,a7⟩:=hrel;obtain⟨w2,rfl⟩:=φ wr;by_cases h0:i=ar.length
  ·have hn:¬ (i:Int)<(ar.length:Int):=I
   have gB:=O h0;clear h0
   go_wp2_with fail
   exact⟨rfl,_,results_none rfl _ _ _,⟨_,rfl⟩,a6,by rw[cm.o,List.take_of_length_le (by rw[HS.o.len,gB.o];exact Nat.le_refl _)],er.o⟩
  have ih:(i:Int)<(ar.length:Int):=I;have gp:i<ar.length:=I;obtain⟨ep,a2⟩:=η2 gp (show Bl w0 w2 from H0.o.trans (g5.o.bel.trans a7.o.bel));have gz:¬ X Bs:=fun h=>(HX.o Bs h).2 rfl
  have nT:¬ X W.heap.size:=fun h=>by have:=(HX.o _ h).1;omega
  obtain⟨dA,cy⟩:=η2 (el.o.keepC a7.o gz) (BT.o.keepC a7.o nT);obtain⟨b,hM,fr,e,hb,gf,hc⟩:=HF.o.nth i gp;cases e;obtain⟨r,hr⟩:∃r,rs[i]?=some r:=⟨_,List.getElem?_eq_getElem (ψ HS.o.len)⟩;obtain⟨bI,bl⟩:=HS.o.rows i fr r gf hr;obtain⟨⟨n0,n1,n2⟩,ro,h9⟩:=fr;simp only[]at bl;obtain⟨q1,q2,rfl,bk⟩:=bo.ints bl;have a5:=HS.o.ring r (List.mem_of_getElem? hr);obtain⟨g,og,rfl,hg,hp,bg⟩:=bk.cells (by have:=List.length_pos_iff.mpr a5.2.1;omega);obtain⟨N,hN⟩:=χ r.length;have ho:0<N:=by have:=List.length_pos_iff.mpr a5.2.1;omega
  have hP:N<=64:=by have:=a5.1;omega
  rw[hN]at hc bg hp;obtain⟨db,h3,cD⟩:=η3 hr a5 hN;have gu:∀W',Bl w0 W'->∀j,j<N->W'.cell? ⟨g,og+j,none⟩=some (.int .i64 (r.getD j 0:Nat)):=fun W' h j hj=>by
   rw[h.cell (p:=⟨g,og+j,none⟩) hg,bg j hj]
   congr 2
   rw[List.getD_eq_getElem?_getD,List.getD_eq_getElem?_getD,List.getElem?_map];cases r[j]?<;>rfl
  have cr:∀j,r.getD j 0<qs.length:=fun j=>by
   rw[List.getD_eq_getElem?_getD]
   cases hj:r[j]? with
   | none=>exact HS.o.vmax.1
   | some x=>exact a5.2.2 x (List.mem_of_getElem? hj)
  obtain⟨da,dd⟩:=η2 gu cr;obtain⟨i2,hO⟩:=χ (i*17);have DD:=O (show ∀j,j<17->w2.cell? ⟨b,i2+j,none⟩=(aS n0 n1 n2 ro (some ⟨g,og,none⟩) N q2)[j]? from fun j hj=>by
   rw[<-hO];exact((a2.o.cell (p:=⟨b,i*17+j,none⟩) hb).trans (hc j hj)).trans (Array.getElem?_toList (xs:=aS n0 n1 n2 ro (some ⟨g,og,none⟩) N q2)))
  clear h0 hc hr a5 bg bl bk gf hN gu cr x0 x1 x2 gz nT
  go_upto_region 4 with(first|refine aj rfl _ _ rfl b i2 rfl (aS n0 n1 n2 ro (some ⟨g,og,none⟩) N q2) _ (fun j hj=>DD.o j hj) underlying155 rfl iG ?_|refine aA rfl _ _ _ rfl _ (aS n0 n1 n2 ro (some ⟨g,og,none⟩) N q2) rfl rfl iG rfl (dK ..) ?_)
  obtain⟨w3,ge,b3,a9,fv⟩:=aB w2 (aS n0 n1 n2 ro (some ⟨g,og,none⟩) N q2) 155;rw[ge];obtain⟨bu,bz,ee,a3,an,he⟩:=η6 b3 (dA.o.to a9) (cy.o.to a9) (show Bl w0 w3 from a2.o.trans (a9.mono a2.o.size)) a9 fv;clear ge b3 a9 fv;obtain⟨hd,ce⟩:=χ (r.getD 0 0);have bi:hd<qs.length:=by rw[<-ce];exact dd.o 0
  obtain⟨⟨A0,A1,A2⟩,hA⟩:=cB.o hd bi;have KA:Hid (∀w',Bl w3 w'->w'.cell? ⟨Bs,0,none⟩=some (.slice (some ⟨bV,0,none⟩) qs.length cV)/\w'.cell? ⟨w2.heap.size,16,none⟩=some (.slice (some ⟨g,og,none⟩) N q2)/\w'.cell? ⟨g,og,none⟩=some (.int .i64 (hd:Nat))/\Λ w' bV (hd*12) A0 A1 A2):=fun w' h=>by
   have hw:=a3.o.trans (h.mono a3.o.size);have hc:=(hA w' hw).2;have fb:=da.o w' hw 0 ho;rw[ce]at fb;refine⟨(bz.o.to h).three.1,((bu.o.to h).cell 16).trans rfl,fb,(hc 0 I).trans rfl,(hc 1 I).trans rfl,(hc 2 I).trans rfl,(hc 3 I).trans rfl,(hc 4 I).trans rfl,(hc 5 I).trans rfl,(hc 6 I).trans rfl,(hc 7 I).trans rfl,(hc 8 I).trans rfl,(hc 9 I).trans rfl,(hc 10 I).trans rfl,(hc 11 I).trans rfl⟩
  have gl:(hd:Int)<(qs.length:Int):=I;have gm:(0:Int)<(N:Int):=I;obtain⟨ei,eo⟩:=η2 hA ce;clear hA ce;refine aU (rest:=1) [isV 0 (.pointer (some ⟨Bs,0,none⟩)),isV 1 (.slice (some ⟨bV,0,none⟩) qs.length cV),isV 2 (.pointer (some ⟨w2.heap.size,16,none⟩)),isV 3 (.slice (some ⟨g,og,none⟩) N q2),isV 4 (.pointer (some ⟨g,og,none⟩)),isV 5 (.int .i64 (hd:Nat)),isV 6 (.pointer (some ⟨bV,hd*12,none⟩)),isV 7 (.agg #[.bool A0.s,.slice A0.a A0.n A0.c,.bool A0.t,.slice A0.b A0.m A0.d,.bool A1.s,.slice A1.a A1.n A1.c,.bool A1.t,.slice A1.b A1.m A1.d,.bool A2.s,.slice A2.a A2.n A2.c,.bool A2.t,.slice A2.b A2.m A2.d]),isP 8 (fun v w=>∃g,v=.pointer (some ⟨g,0,none⟩)/\w3.heap.size<=g/\Box w g (ah RC.zero RC.zero RC.zero) 57)] [8] ?A4 (τ 9 1) Z [0,1,2,3,4,5,6,7,8] Z Z Z Z Z Z ?st ?hA ?hop ?hend
  case hA=>exact cZ
  case st=>(iterate 8 refine aq.cons isV.stab ?_);refine aq.cons (isP.stab (fun v w w' h ⟨g,e,h1,h2⟩=>⟨g,e,h1,h2.to h⟩)) ?_;exact aq.nil
  case hop =>
   iterate 8
    refine ai.cons rfl (fun y w' hS hD K hK=>?_) ?_
    ·try simp only[isV.get (hD 0 (by decide +kernel))]at hK⊢
     try simp only[isV.get (hD 1 (by decide +kernel))]at hK⊢
     try simp only[isV.get (hD 2 (by decide +kernel))]at hK⊢
     try simp only[isV.get (hD 3 (by decide +kernel))]at hK⊢
     try simp only[isV.get (hD 4 (by decide +kernel))]at hK⊢
     try simp only[isV.get (hD 5 (by decide +kernel))]at hK⊢
     try simp only[isV.get (hD 6 (by decide +kernel))]at hK⊢
     obtain⟨c0,c1,c2,c3,c4,c5,c6,c7,c8,c9,F,G,h6,h7,h8⟩:=KA.o w' hS;go_simp;exact hK.out _ w' hS β isV.put δ
   refine ai.cons rfl (fun y w' hS hD K hK=>?_) ?_
   ·go_simp
    exact hK.out _ _ (hS.alloc hS.size _) (β.alloc ρ _) (isP.put ⟨_,rfl,hS.size,Box.new _ _ _ _ rfl⟩) (fun _ j hj au _=>absurd (List.mem_singleton.1 hj) au)
   exact ai.nil
  case hend =>
   intro y w' hS hR hF;have e7:=isV.get (hR 7 Z);simp only[e7];have e8:=isP.get (hR 8 Z);obtain⟨ga,ea,a1,R⟩:=e8;simp only[ea];obtain⟨-,f0,f1,f2,f3⟩:=R.p0;obtain⟨-,f4,f5,f6,f7⟩:=R.p1;obtain⟨-,f8,f9,cc,cd⟩:=R.p2;obtain⟨c0,c1,c2,c3⟩:=R.p0.1;obtain⟨c4,c5,c6,c7⟩:=R.p1.1;obtain⟨c8,c9,F,G⟩:=R.p2.1;refine aL (i:=9) (listed2:=τ 10 0) Z rfl Z (fun K hK=>?_);go_simp;refine hK.out _ _ ?_;clear hK K;refine aP Z ?_;clear f0 f1 f2 f3 f4 f5 f6 f7 f8 f9 cc cd c0 c1 c2 c3 c4 c5 c6 c7 c8 c9 F G hR;obtain⟨w4,ch⟩:=χ (put12 w' ga A0 A1 A2);have ab:=O (show Bl w3 w4 from by rw[<-ch];exact aX hS a1 A0 A1 A2);have gA:=O (show Box w4 ga (ah A0 A1 A2) 57 from by rw[<-ch];exact R.s12 A0 A1 A2);change Exit.then _ _ _ _ (put12 w' ga A0 A1 A2);rw[ch];have g8:=O a1;clear ch R hS ea e7 a1;have J4:=O (HJ.o.below er.o (ae an.o ab.o (ψ an.o.size)) (by have:=a7.o.size;have:=H1.o.size;omega))
   go_wp2_with fail
   have it:w2.heap.size<ga:=by have:=he.o;have:=g8.o;omega
   have ix:w.heap.size<=W.heap.size:=hs;have i0:W.heap.size<w2.heap.size:=by have:=cy.o.lt;exact this
   have ej:=O (ae an.o ab.o (ψ an.o.size));have g6:=O (show KeepC w0.heap.size X W1 w4 from a7.o.trans (KeepC.below ej.o (ψ a2.o.size)))
   go_loopw [7] (fun jv wr=>∃k ac,2<=k/\(k<=N\/k=2)/\jv=.int .i64 (k:Nat)/\Hid (ac.map PV.p=aD (qAt qs) (rs.take i)++oH (qAt qs) r (k-2))/\Hid (J ac wr)/\Hid (KeepC w0.heap.size X w4 wr)) (fun jv _=>N+2-(intOf jv).toNat)
   case atStart=>exact⟨2,a6,Nat.le_refl _,.inr rfl,rfl,O (show a6.map PV.p=_ from by rw[cm.o];simp[oH]),J4.o,KeepC.refl _ _ _⟩
   case round =>
    obtain⟨k,ac,gq,hq,rfl,cU,eq,ap⟩:=hrel;obtain⟨w5,rfl⟩:=φ wr;have nX:∀k,W.heap.size<=k->¬ X k:=fun k hk h=>by have:=(HX.o k h).1;omega
    obtain⟨dB,ef,cv,du,aw⟩:=η5 ((bz.o.to ab.o).keepC ap.o (fun h=>(HX.o Bs h).2 rfl)) ((ee.o.to ab.o).keepC ap.o (nX _ ρ)) ((bu.o.to ab.o).keepC ap.o (nX _ I)) (gA.o.keepC ap.o (nX _ I)) (show Bl w0 w5 from(a3.o.trans (ab.o.mono a3.o.size)).trans ap.o.bel);have hl:w5.cell? ⟨w2.heap.size,16,none⟩=some (.slice (some ⟨g,og,none⟩) N q2):=(cv.o.cell 16).trans rfl;by_cases h1:k<N
    ·have hW:(k:Int)<(N:Int):=I
     go_wp2_with fail
     obtain⟨m,hm⟩:∃m,k=m+1:=⟨k-1,by omega⟩;have cg:m<N:=I;obtain⟨xb,ci⟩:=χ (r.getD m 0);obtain⟨xc,cl⟩:=χ (r.getD k 0);have bc:xb<qs.length:=by rw[<-ci];exact dd.o _
     have be:xc<qs.length:=by rw[<-cl];exact dd.o _
     obtain⟨⟨A,C,E⟩,hB⟩:=cB.o xb bc;obtain⟨⟨U,Y,C2⟩,hC⟩:=cB.o xc be;have KB:Hid (∀w',Bl w5 w'->w'.cell? ⟨Bs,0,none⟩=some (.slice (some ⟨bV,0,none⟩) qs.length cV)/\w'.cell? ⟨w2.heap.size,16,none⟩=some (.slice (some ⟨g,og,none⟩) N q2)/\w'.cell? ⟨g,og+m,none⟩=some (.int .i64 (xb:Nat))/\w'.cell? ⟨g,og+k,none⟩=some (.int .i64 (xc:Nat))/\w'.cell? ⟨bV,xb*12,none⟩=some (.bool A.s)/\w'.cell? ⟨bV,xb*12+1,none⟩=some (.slice A.a A.n A.c)/\w'.cell? ⟨bV,xb*12+2,none⟩=some (.bool A.t)/\w'.cell? ⟨bV,xb*12+3,none⟩=some (.slice A.b A.m A.d)/\w'.cell? ⟨bV,xb*12+4,none⟩=some (.bool C.s)/\w'.cell? ⟨bV,xb*12+5,none⟩=some (.slice C.a C.n C.c)/\w'.cell? ⟨bV,xb*12+6,none⟩=some (.bool C.t)/\w'.cell? ⟨bV,xb*12+7,none⟩=some (.slice C.b C.m C.d)/\w'.cell? ⟨bV,xb*12+8,none⟩=some (.bool E.s)/\w'.cell? ⟨bV,xb*12+9,none⟩=some (.slice E.a E.n E.c)/\w'.cell? ⟨bV,xb*12+10,none⟩=some (.bool E.t)/\w'.cell? ⟨bV,xb*12+11,none⟩=some (.slice E.b E.m E.d)/\Λ w' bV (xc*12) U Y C2):=fun w' h=>by
      have hw:=aw.o.trans (h.mono aw.o.size);have hb:=(hB w' hw).2;have hc:=(hC w' hw).2;have g1:=da.o w' hw m cg;have g2:=da.o w' hw k h1;rw[ci]at g1;rw[cl]at g2;exact⟨(dB.o.to h).three.1,((cv.o.to h).cell 16).trans rfl,g1,g2,(hb 0 I).trans rfl,(hb 1 I).trans rfl,(hb 2 I).trans rfl,(hb 3 I).trans rfl,(hb 4 I).trans rfl,(hb 5 I).trans rfl,(hb 6 I).trans rfl,(hb 7 I).trans rfl,(hb 8 I).trans rfl,(hb 9 I).trans rfl,(hb 10 I).trans rfl,(hb 11 I).trans rfl,(hc 0 I).trans rfl,(hc 1 I).trans rfl,(hc 2 I).trans rfl,(hc 3 I).trans rfl,(hc 4 I).trans rfl,(hc 5 I).trans rfl,(hc 6 I).trans rfl,(hc 7 I).trans rfl,(hc 8 I).trans rfl,(hc 9 I).trans rfl,(hc 10 I).trans rfl,(hc 11 I).trans rfl⟩
     have gl:(xb:Int)<(qs.length:Int):=I;have gm:(xc:Int)<(qs.length:Int):=I;have hT:(m:Int)<(N:Int):=I;have gn:(k:Int)-1=(m:Int):=I;have hU:IntKind.i64.wrap ((k:Int)-1)=(m:Int):=by rw[gn];exact IntWalk.i64_in _ ⟨by omega,by omega⟩
     have go:IntKind.i64.wrap (m:Int)=(m:Int):=IntWalk.i64_in _ ⟨by omega,by omega⟩;obtain⟨HM,ay,bF⟩:=η3 hm gq h1;clear hm gq hq;obtain⟨ek,en,eu,ev⟩:=η4 hB hC ci cl;clear hB hC ci cl hl;refine eZ Sh12 21 57 (rest:=1) [isV 0 (.pointer (some ⟨Bs,0,none⟩)),isV 1 (.slice (some ⟨bV,0,none⟩) qs.length cV),isV 2 (.pointer (some ⟨w2.heap.size,16,none⟩)),isV 3 (.slice (some ⟨g,og,none⟩) N q2),isV 4 (.int .i64 (k:Nat)),isV 5 (.int .i64 (m:Nat)),isV 6 (.pointer (some ⟨g,og+m,none⟩)),isV 7 (.int .i64 (xb:Nat)),isV 8 (.pointer (some ⟨bV,xb*12,none⟩)),isV 9 (.agg #[.bool A.s,.slice A.a A.n A.c,.bool A.t,.slice A.b A.m A.d,.bool C.s,.slice C.a C.n C.c,.bool C.t,.slice C.b C.m C.d,.bool E.s,.slice E.a E.n E.c,.bool E.t,.slice E.b E.m E.d]),isV 10 (.pointer (some ⟨Bs,0,none⟩)),isV 11 (.slice (some ⟨bV,0,none⟩) qs.length cV),isV 12 (.pointer (some ⟨w2.heap.size,16,none⟩)),isV 13 (.slice (some ⟨g,og,none⟩) N q2),isV 14 (.int .i64 (k:Nat)),isV 15 (.pointer (some ⟨g,og+k,none⟩)),isV 16 (.int .i64 (xc:Nat)),isV 17 (.pointer (some ⟨bV,xc*12,none⟩)),isV 18 (.agg #[.bool U.s,.slice U.a U.n U.c,.bool U.t,.slice U.b U.m U.d,.bool Y.s,.slice Y.a Y.n Y.c,.bool Y.t,.slice Y.b Y.m Y.d,.bool C2.s,.slice C2.a C2.n C2.c,.bool C2.t,.slice C2.b C2.m C2.d]),isP 19 (eY Sh12 w5.heap.size 57),isP 20 (eY Sh12 w5.heap.size 57),isS 19 w5.heap.size 57 (fun cs _=>cs=ah A C E)] [19,20] ?A8 (τ 22 1) Z [0,1,2,3,4,5,6,7,8,9,10,11,12,13,14,15,16,17,18,19,20,21] Z Z Z Z Z Z ?st ?st2 ?hA ?hop ?hend
     case hA=>exact cZ
     case st=>(iterate 19 refine aq.cons isV.stab ?_);(iterate 2 refine aq.cons (isP.stab eY.stab) ?_);refine aq.cons (isS.stab (fun _ _ _ _ h=>h)) ?_;exact aq.nil
     case st2=>(iterate 19 refine aY.cons isV.stabW ?_);(iterate 2 refine aY.cons (isP.stabW eY.stabW) ?_);refine aY.cons (isN.stabW (i:=0)) ?_;exact aY.nil
     case hop =>
      iterate 5
       refine ai.cons rfl (fun y w' hS hD K hK=>?_) ?_
       ·try simp only[isV.get (hD 0 (by decide +kernel))]at hK⊢
        try simp only[isV.get (hD 2 (by decide +kernel))]at hK⊢
        obtain⟨z0,z1,z2,z3,b0,b1,b2,b3,b4,b5,b6,b7,b8,b9,ex,ey,c0,c1,c2,c3,c4,c5,c6,c7,c8,c9,F,G⟩:=KB.o w' hS;go_simp;exact hK.out _ w' hS (bB.old β) isV.put δ
      refine ai.cons rfl (fun y w' hS hD K hK=>?_) ?_
      ·simp only[isV.get (hD 4 Z)]at hK⊢
       obtain⟨z0,z1,z2,z3,b0,b1,b2,b3,b4,b5,b6,b7,b8,b9,ex,ey,c0,c1,c2,c3,c4,c5,c6,c7,c8,c9,F,G⟩:=KB.o w' hS;go_simp
       (try rw[go])
       exact hK.out _ w' hS (bB.old β) isV.put δ
      iterate 13
       refine ai.cons rfl (fun y w' hS hD K hK=>?_) ?_
       ·try simp only[isV.get (hD 1 (by decide +kernel))]at hK⊢
        try simp only[isV.get (hD 3 (by decide +kernel))]at hK⊢
        try simp only[isV.get (hD 5 (by decide +kernel))]at hK⊢
        try simp only[isV.get (hD 6 (by decide +kernel))]at hK⊢
        try simp only[isV.get (hD 7 (by decide +kernel))]at hK⊢
        try simp only[isV.get (hD 8 (by decide +kernel))]at hK⊢
        try simp only[isV.get (hD 10 (by decide +kernel))]at hK⊢
        try simp only[isV.get (hD 11 (by decide +kernel))]at hK⊢
        try simp only[isV.get (hD 12 (by decide +kernel))]at hK⊢
        try simp only[isV.get (hD 13 (by decide +kernel))]at hK⊢
        try simp only[isV.get (hD 14 (by decide +kernel))]at hK⊢
        try simp only[isV.get (hD 15 (by decide +kernel))]at hK⊢
        try simp only[isV.get (hD 16 (by decide +kernel))]at hK⊢
        try simp only[isV.get (hD 17 (by decide +kernel))]at hK⊢
        obtain⟨z0,z1,z2,z3,b0,b1,b2,b3,b4,b5,b6,b7,b8,b9,ex,ey,c0,c1,c2,c3,c4,c5,c6,c7,c8,c9,F,G⟩:=KB.o w' hS;go_simp;exact hK.out _ w' hS (bB.old β) isV.put δ
      refine ai.cons rfl (fun y w' hS hD K hK=>?_) ?_
      ·go_simp
       exact hK.out _ _ (hS.alloc hS.size _) (bB.old (β.alloc ρ _)) (isP.put ⟨_,_,rfl,hS.size,sh12 RC.zero RC.zero RC.zero,Box.new _ _ _ _ rfl⟩) (fun _ j hj au hr=>by
    have dm:j=19\/j=20:=by simpa using hj
    rcases dm with rfl|rfl
    ·exact absurd rfl au
    ·obtain⟨g,_,e,h1,_,h2⟩:=isP.get (i:=20) (p:=eY Sh12 w5.heap.size 57) hr
     rw[e];intro h;cases h;exact absurd h2.lt (Nat.lt_irrefl _))
      refine ai.cons rfl (fun y w' hS hD K hK=>?_) ?_
      ·go_simp
       exact hK.out _ _ (hS.alloc hS.size _) (bB.old (β.alloc ρ _)) (isP.put ⟨_,_,rfl,hS.size,sh12 RC.zero RC.zero RC.zero,Box.new _ _ _ _ rfl⟩) (fun _ j hj au hr=>by
    have dm:j=19\/j=20:=by simpa using hj
    rcases dm with rfl|rfl
    ·obtain⟨g,_,e,h1,_,h2⟩:=isP.get (i:=19) (p:=eY Sh12 w5.heap.size 57) hr
     rw[e];intro h;cases h;exact absurd h2.lt (Nat.lt_irrefl _)
    ·exact absurd rfl au)
      refine ai.cons (i:=21) rfl (fun y w' hS hD K hK=>?_) ?_
      ·have e9:=isV.get (hD 9 Z)
       have eb:=isP.get (hD 19 Z);obtain⟨ga,_,ea,a1,⟨s0,s1,s2,rfl⟩,R⟩:=eb;simp only[e9,ea]at hK⊢;obtain⟨-,f0,f1,f2,f3⟩:=R.p0;obtain⟨c0,c1,c2,c3⟩:=R.p0.1;obtain⟨-,f4,f5,f6,f7⟩:=R.p1;obtain⟨c4,c5,c6,c7⟩:=R.p1.1;obtain⟨-,f8,f9,cc,cd⟩:=R.p2;obtain⟨c8,c9,F,G⟩:=R.p2.1;go_simp;exact hK.out undef (put12 w' ga A C E) (aX hS a1 _ _ _) (bB.new (Wr.put12 a1 R _ _ _)) (isS.put ν ea a1 (R.s12 _ _ _) rfl) δ
      exact ai.nil
     case hend =>
      intro y w' hS hR hF;have eT:=isV.get (hR 18 Z);simp only[eT];obtain⟨gb,_,eb,ib,ez,rfl⟩:=isS.get (i:=19) (n:=w5.heap.size) (t:=57) (p:=fun cs _=>cs=ah A C E) (hR 21 Z);obtain⟨gc,_,ec,gi,⟨s0,s1,s2,rfl⟩,az⟩:=isP.get (i:=20) (p:=eY Sh12 w5.heap.size 57) (hR 20 Z);have au:gb≠gc:=fun h=>hF 19 (by simp) 20 (by simp) Z Z ν (by rw[eb,ec,h])
      simp only[eb,ec];obtain⟨-,f0,f1,f2,f3⟩:=az.p0;obtain⟨c0,c1,c2,c3⟩:=az.p0.1;obtain⟨-,f4,f5,f6,f7⟩:=az.p1;obtain⟨c4,c5,c6,c7⟩:=az.p1.1;obtain⟨-,f8,f9,cc,cd⟩:=az.p2;obtain⟨c8,c9,F,G⟩:=az.p2.1;refine aL (i:=22) (listed2:=τ 23 0) Z rfl Z (fun K hK=>?_);go_simp;refine hK.out _ _ ?_;clear hK K;refine aP Z ?_;clear f0 c0 f1 c1 f2 c2 f3 c3 f4 c4 f5 c5 f6 c6 f7 c7 f8 c8 f9 c9 cc F cd G;obtain⟨w7,bm⟩:=χ (put12 w' gc U Y C2);have ao:=O (show Bl w5 w7 from by rw[<-bm];exact aX hS gi U Y C2);have bs:=O (show Box w7 gb (ah A C E) 57 from by rw[<-bm];exact ez.o12 au U Y C2);have bt:=O (show Box w7 gc (ah U Y C2) 57 from by rw[<-bm];exact az.s12 U Y C2);change Exit.then _ _ _ _ (put12 w' gc U Y C2);rw[bm];have J7:=O (HJ.o.below eq.o ao.o (by have:=ap.o.size;have:=ab.o.size;have:=an.o.size;omega));obtain⟨av,br,aa⟩:=η3 (ef.o.to ao.o) (du.o.to ao.o) (show Bl w0 w7 from aw.o.trans (ao.o.mono aw.o.size));clear bm ez az hS hR hF eb ec eT
      go_upto_region 9 with fail
      have HQ:Hid (∀i,i<qs.length->BdV kq (qAt qs i)):=fun i hi=>HS.o.bd _ (by unfold qAt;rw[List.getD_eq_getElem?_getD,List.getElem?_eq_getElem hi];exact List.getElem_mem hi)
      have VT:Hid (∀w',Bl w7 w'->am w' (.agg (ah H L Q)) (qAt qs 0)):=fun w' h=>(et.o w' (aa.o.trans (h.mono aa.o.size))).1
      have VA:Hid (∀w',Bl w7 w'->am w' (.agg (ah A0 A1 A2)) (qAt qs hd)):=fun w' h=>(ei.o w' (aa.o.trans (h.mono aa.o.size))).1
      have VB:Hid (∀w',Bl w7 w'->am w' (.agg (ah A C E)) (qAt qs xb)):=fun w' h=>(ek.o w' (aa.o.trans (h.mono aa.o.size))).1
      have VC:Hid (∀w',Bl w7 w'->am w' (.agg (ah U Y C2)) (qAt qs xc)):=fun w' h=>(en.o w' (aa.o.trans (h.mono aa.o.size))).1
      refine aU (rest:=1) [isV 0 (.agg #[.bool A0.s,.slice A0.a A0.n A0.c,.bool A0.t,.slice A0.b A0.m A0.d,.bool A1.s,.slice A1.a A1.n A1.c,.bool A1.t,.slice A1.b A1.m A1.d,.bool A2.s,.slice A2.a A2.n A2.c,.bool A2.t,.slice A2.b A2.m A2.d]),isV 1 (.agg #[.bool H.s,.slice H.a H.n H.c,.bool H.t,.slice H.b H.m H.d,.bool L.s,.slice L.a L.n L.c,.bool L.t,.slice L.b L.m L.d,.bool Q.s,.slice Q.a Q.n Q.c,.bool Q.t,.slice Q.b Q.m Q.d]),isP 2 (fun v w=>am w v (qsub (qAt qs hd) (qAt qs 0))),isV 3 (.agg #[.bool A.s,.slice A.a A.n A.c,.bool A.t,.slice A.b A.m A.d,.bool C.s,.slice C.a C.n C.c,.bool C.t,.slice C.b C.m C.d,.bool E.s,.slice E.a E.n E.c,.bool E.t,.slice E.b E.m E.d]),isV 4 (.agg #[.bool H.s,.slice H.a H.n H.c,.bool H.t,.slice H.b H.m H.d,.bool L.s,.slice L.a L.n L.c,.bool L.t,.slice L.b L.m L.d,.bool Q.s,.slice Q.a Q.n Q.c,.bool Q.t,.slice Q.b Q.m Q.d]),isP 5 (fun v w=>am w v (qsub (qAt qs xb) (qAt qs 0))),isV 6 (.agg #[.bool U.s,.slice U.a U.n U.c,.bool U.t,.slice U.b U.m U.d,.bool Y.s,.slice Y.a Y.n Y.c,.bool Y.t,.slice Y.b Y.m Y.d,.bool C2.s,.slice C2.a C2.n C2.c,.bool C2.t,.slice C2.b C2.m C2.d]),isV 7 (.agg #[.bool H.s,.slice H.a H.n H.c,.bool H.t,.slice H.b H.m H.d,.bool L.s,.slice L.a L.n L.c,.bool L.t,.slice L.b L.m L.d,.bool Q.s,.slice Q.a Q.n Q.c,.bool Q.t,.slice Q.b Q.m Q.d]),isP 8 (fun v w=>am w v (qsub (qAt qs xc) (qAt qs 0))),isP 9 (fun v w=>ak w v (io (qAt qs 0) (qAt qs hd) (qAt qs xb) (qAt qs xc))),isP 10 (fun v w=>∃g,v=.pointer (some ⟨g,0,none⟩)/\w7.heap.size<=g/\Box w g (#[.bool false,.slice none 0 0,.bool false,.slice none 0 0]) 55)] [10] ?A9 (τ 11 1) Z [0,1,2,3,4,5,6,7,8,9,10] Z Z Z Z Z Z ?st ?hA ?hop ?hend
      case hA=>exact cZ
      case st=>(iterate 2 refine aq.cons isV.stab ?_);refine aq.cons (isP.stab (fun _ _ _ h hv=>hv.below h)) ?_;(iterate 2 refine aq.cons isV.stab ?_);refine aq.cons (isP.stab (fun _ _ _ h hv=>hv.below h)) ?_;(iterate 2 refine aq.cons isV.stab ?_);(iterate 2 refine aq.cons (isP.stab (fun _ _ _ h hv=>hv.below h)) ?_);refine aq.cons (isP.stab (fun v w w' h ⟨g,e,h1,h2⟩=>⟨g,e,h1,h2.to h⟩)) ?_;exact aq.nil
      case hop =>
       refine ai.cons rfl (fun y w' hS hD K hK=>?_) ?_
       ·have bx:=br.o.to hS
        obtain⟨c0,c1,c2,c3⟩:=bx.p0.1;obtain⟨c4,c5,c6,c7⟩:=bx.p1.1;obtain⟨c8,c9,F,G⟩:=bx.p2.1;go_simp;exact hK.out _ w' hS β isV.put δ
       refine ai.cons rfl (fun y w' hS hD K hK=>?_) ?_
       ·have bx:=av.o.to hS
        obtain⟨c0,c1,c2,c3⟩:=bx.p0.1;obtain⟨c4,c5,c6,c7⟩:=bx.p1.1;obtain⟨c8,c9,F,G⟩:=bx.p2.1;go_simp;exact hK.out _ w' hS β isV.put δ
       refine ai.cons rfl (fun y w' hS hD K hK=>?_) ?_
       ·simp only[isV.get (hD 0 Z),isV.get (hD 1 Z)]at hK⊢
        go_simp;refine(qU _ _ (qAt qs hd) (qAt qs 0) kq kq w' (VA.o w' hS) (VT.o w' hS) (HQ.o _ bi) (HQ.o _ a0) I).mono ?_
        rintro e ad ⟨⟨v,rfl,hv⟩,hb⟩;exact hK.out v ad (ae hS hb ρ) hb (isP.put hv) δ
       refine ai.cons rfl (fun y w' hS hD K hK=>?_) ?_
       ·have bx:=bs.o.to hS
        obtain⟨c0,c1,c2,c3⟩:=bx.p0.1;obtain⟨c4,c5,c6,c7⟩:=bx.p1.1;obtain⟨c8,c9,F,G⟩:=bx.p2.1;go_simp;exact hK.out _ w' hS β isV.put δ
       refine ai.cons rfl (fun y w' hS hD K hK=>?_) ?_
       ·have bx:=av.o.to hS
        obtain⟨c0,c1,c2,c3⟩:=bx.p0.1;obtain⟨c4,c5,c6,c7⟩:=bx.p1.1;obtain⟨c8,c9,F,G⟩:=bx.p2.1;go_simp;exact hK.out _ w' hS β isV.put δ
       refine ai.cons rfl (fun y w' hS hD K hK=>?_) ?_
       ·simp only[isV.get (hD 3 Z),isV.get (hD 4 Z)]at hK⊢
        go_simp;refine(qU _ _ (qAt qs xb) (qAt qs 0) kq kq w' (VB.o w' hS) (VT.o w' hS) (HQ.o _ bc) (HQ.o _ a0) I).mono ?_
        rintro e ad ⟨⟨v,rfl,hv⟩,hb⟩;exact hK.out v ad (ae hS hb ρ) hb (isP.put hv) δ
       refine ai.cons rfl (fun y w' hS hD K hK=>?_) ?_
       ·have bx:=bt.o.to hS
        obtain⟨c0,c1,c2,c3⟩:=bx.p0.1;obtain⟨c4,c5,c6,c7⟩:=bx.p1.1;obtain⟨c8,c9,F,G⟩:=bx.p2.1;go_simp;exact hK.out _ w' hS β isV.put δ
       refine ai.cons rfl (fun y w' hS hD K hK=>?_) ?_
       ·have bx:=av.o.to hS
        obtain⟨c0,c1,c2,c3⟩:=bx.p0.1;obtain⟨c4,c5,c6,c7⟩:=bx.p1.1;obtain⟨c8,c9,F,G⟩:=bx.p2.1;go_simp;exact hK.out _ w' hS β isV.put δ
       refine ai.cons rfl (fun y w' hS hD K hK=>?_) ?_
       ·simp only[isV.get (hD 6 Z),isV.get (hD 7 Z)]at hK⊢
        go_simp;refine(qU _ _ (qAt qs xc) (qAt qs 0) kq kq w' (VC.o w' hS) (VT.o w' hS) (HQ.o _ be) (HQ.o _ a0) I).mono ?_
        rintro e ad ⟨⟨v,rfl,hv⟩,hb⟩;exact hK.out v ad (ae hS hb ρ) hb (isP.put hv) δ
       refine ai.cons rfl (fun y w' hS hD K hK=>?_) ?_
       ·have e2:=isP.get (hD 2 Z)
        have e5:=isP.get (hD 5 Z);have e8:=isP.get (hD 8 Z);go_simp;refine(VDet_any _ _ _ _ _ _ (kq+kq+1) w' e2 e5 e8 ((HQ.o _ bi).qsub (HQ.o _ a0)) ((HQ.o _ bc).qsub (HQ.o _ a0)) ((HQ.o _ be).qsub (HQ.o _ a0)) I).mono ?_;rintro e ad ⟨⟨v,rfl,hv⟩,hb⟩;exact hK.out v ad (ae hS hb ρ) hb (isP.put hv) δ
       refine ai.cons rfl (fun y w' hS hD K hK=>?_) ?_
       ·go_simp
        exact hK.out _ _ (hS.alloc hS.size _) (β.alloc ρ _) (isP.put ⟨_,rfl,hS.size,Box.new _ _ _ _ rfl⟩) (fun _ j hj au _=>absurd (List.mem_singleton.1 hj) au)
       exact ai.nil
      case hend =>
       intro y w' hS hR hF;have e9:=isP.get (hR 9 Z);obtain⟨gd,ed,bg,ca⟩:=isP.get (i:=10) (p:=fun v w=>∃g,v=.pointer (some ⟨g,0,none⟩)/\w7.heap.size<=g/\Box w g (#[.bool false,.slice none 0 0,.bool false,.slice none 0 0]) 55) (hR 10 Z);obtain⟨u,e6,gs⟩:=e9.rcv;simp only[ed,e6];obtain⟨hG,hH,hI,hL,ht,hu,hz,hE⟩:=ca.four;refine aL (i:=11) (listed2:=τ 12 0) Z rfl Z (fun K hK=>?_);go_simp;refine hK.out _ _ ?_;clear hK K;refine aP Z ?_;obtain⟨w8,bp⟩:=χ ((((w'.setCell ⟨gd,0,none⟩ (.bool u.s)).setCell ⟨gd,1,none⟩ (.slice u.a u.n u.c)).setCell ⟨gd,2,none⟩ (.bool u.t)).setCell ⟨gd,3,none⟩ (.slice u.b u.m u.d));have af:=O (show Bl w7 w8 from by rw[<-bp];exact cf hS bg _ _ _ _ _ _ _ _);have dz:=O (show Box w8 gd #[.bool u.s,.slice u.a u.n u.c,.bool u.t,.slice u.b u.m u.d] 55 from by rw[<-bp];exact ca.set4 _ _ _ _);have hf:=O (show ak w8 u.agg (io (qAt qs 0) (qAt qs hd) (qAt qs xb) (qAt qs xc))from by rw[<-bp];exact gs.store4 ca _ _ _ _);change Exit.then _ _ _ _ ((((w'.setCell ⟨gd,0,none⟩ (.bool u.s)).setCell ⟨gd,1,none⟩ (.slice u.a u.n u.c)).setCell ⟨gd,2,none⟩ (.bool u.t)).setCell ⟨gd,3,none⟩ (.slice u.b u.m u.d));rw[bp];have J8:=O (HJ.o.below J7.o af.o (by have:=ap.o.size;have:=ab.o.size;have:=an.o.size;have:=ao.o.size;omega));obtain⟨eg,dv,dx,dy,ag⟩:=η5 (av.o.to af.o) (br.o.to af.o) (bs.o.to af.o) (bt.o.to af.o) (show Bl w0 w8 from aa.o.trans (af.o.mono aa.o.size));clear bp ca gs hS hR hF ed e6 e9 hG hH hI hL ht hu hz hE VT VA VB VC
       go_upto_region 10 with fail
       have VT:Hid (∀w',Bl w8 w'->am w' (.agg (ah H L Q)) (qAt qs 0)):=fun w' h=>(et.o w' (ag.o.trans (h.mono ag.o.size))).1
       have VA:Hid (∀w',Bl w8 w'->am w' (.agg (ah A0 A1 A2)) (qAt qs hd)):=fun w' h=>(ei.o w' (ag.o.trans (h.mono ag.o.size))).1
       have VB:Hid (∀w',Bl w8 w'->am w' (.agg (ah A C E)) (qAt qs xb)):=fun w' h=>(ek.o w' (ag.o.trans (h.mono ag.o.size))).1
       have VC:Hid (∀w',Bl w8 w'->am w' (.agg (ah U Y C2)) (qAt qs xc)):=fun w' h=>(en.o w' (ag.o.trans (h.mono ag.o.size))).1
       refine(wpIn_wide (n:=n)).1 ?_;refine kW (rest:=2) [isV 0 (.func (.yield l) #[] #[]),isV 1 (.agg #[.bool u.s,.slice u.a u.n u.c,.bool u.t,.slice u.b u.m u.d]),isV 2 (.agg #[.bool A0.s,.slice A0.a A0.n A0.c,.bool A0.t,.slice A0.b A0.m A0.d,.bool A1.s,.slice A1.a A1.n A1.c,.bool A1.t,.slice A1.b A1.m A1.d,.bool A2.s,.slice A2.a A2.n A2.c,.bool A2.t,.slice A2.b A2.m A2.d]),isV 3 (.agg #[.bool A.s,.slice A.a A.n A.c,.bool A.t,.slice A.b A.m A.d,.bool C.s,.slice C.a C.n C.c,.bool C.t,.slice C.b C.m C.d,.bool E.s,.slice E.a E.n E.c,.bool E.t,.slice E.b E.m E.d]),isP 4 (fun v w=>am w v (qadd (qAt qs hd) (qAt qs xb))),isV 5 (.agg #[.bool U.s,.slice U.a U.n U.c,.bool U.t,.slice U.b U.m U.d,.bool Y.s,.slice Y.a Y.n Y.c,.bool Y.t,.slice Y.b Y.m Y.d,.bool C2.s,.slice C2.a C2.n C2.c,.bool C2.t,.slice C2.b C2.m C2.d]),isV 6 (.agg #[.bool H.s,.slice H.a H.n H.c,.bool H.t,.slice H.b H.m H.d,.bool L.s,.slice L.a L.n L.c,.bool L.t,.slice L.b L.m L.d,.bool Q.s,.slice Q.a Q.n Q.c,.bool Q.t,.slice Q.b Q.m Q.d]),isP 7 (fun v w=>am w v (qadd (qAt qs xc) (qAt qs 0))),isP 8 (fun v w=>am w v (jt (qAt qs 0) (qAt qs hd) (qAt qs xb) (qAt qs xc)))] [] ?A10 (τ 9 2) Z [0,1,2,3,4,5,6,7,8] Z Z Z Z Z Z ?st ?hA ?hop ?hend
       case hA=>exact cZ
       case st=>(iterate 4 refine aq.cons isV.stab ?_);refine aq.cons (isP.stab (fun _ _ _ h hv=>hv.below h)) ?_;(iterate 2 refine aq.cons isV.stab ?_);(iterate 2 refine aq.cons (isP.stab (fun _ _ _ h hv=>hv.below h)) ?_);exact aq.nil
       case hop =>
        refine ai.consIn rfl (fun y w' hS hD K hK=>?_) ?_
        ·go_simp
         exact hK.out _ w' hS β isV.put δ
        refine ai.consIn rfl (fun y w' hS hD K hK=>?_) ?_
        ·have bx:=dz.o.to hS
         obtain⟨c0,c1,c2,c3,-⟩:=bx.four;go_simp;exact hK.out _ w' hS β isV.put δ
        refine ai.consIn rfl (fun y w' hS hD K hK=>?_) ?_
        ·have bx:=dv.o.to hS
         obtain⟨c0,c1,c2,c3⟩:=bx.p0.1;obtain⟨c4,c5,c6,c7⟩:=bx.p1.1;obtain⟨c8,c9,F,G⟩:=bx.p2.1;go_simp;exact hK.out _ w' hS β isV.put δ
        refine ai.consIn rfl (fun y w' hS hD K hK=>?_) ?_
        ·have bx:=dx.o.to hS
         obtain⟨c0,c1,c2,c3⟩:=bx.p0.1;obtain⟨c4,c5,c6,c7⟩:=bx.p1.1;obtain⟨c8,c9,F,G⟩:=bx.p2.1;go_simp;exact hK.out _ w' hS β isV.put δ
        refine ai.consIn rfl (fun y w' hS hD K hK=>?_) ?_
        ·simp only[isV.get (hD 2 Z),isV.get (hD 3 Z)]at hK⊢
         go_simp;refine⟨trivial,(fun h=>by cases h),?_⟩
         refine(callsIn_wide.2 (iz _ _ (qAt qs hd) (qAt qs xb) kq kq w' (VA.o w' hS) (VB.o w' hS) (HQ.o _ bi) (HQ.o _ bc) I)).mono ?_;rintro e ad ⟨⟨v,rfl,hv⟩,hb⟩;exact hK.out v ad (ae hS hb ρ) hb (isP.put hv) δ
        refine ai.consIn rfl (fun y w' hS hD K hK=>?_) ?_
        ·have bx:=dy.o.to hS
         obtain⟨c0,c1,c2,c3⟩:=bx.p0.1;obtain⟨c4,c5,c6,c7⟩:=bx.p1.1;obtain⟨c8,c9,F,G⟩:=bx.p2.1;go_simp;exact hK.out _ w' hS β isV.put δ
        refine ai.consIn rfl (fun y w' hS hD K hK=>?_) ?_
        ·have bx:=eg.o.to hS
         obtain⟨c0,c1,c2,c3⟩:=bx.p0.1;obtain⟨c4,c5,c6,c7⟩:=bx.p1.1;obtain⟨c8,c9,F,G⟩:=bx.p2.1;go_simp;exact hK.out _ w' hS β isV.put δ
        refine ai.consIn rfl (fun y w' hS hD K hK=>?_) ?_
        ·simp only[isV.get (hD 5 Z),isV.get (hD 6 Z)]at hK⊢
         go_simp;refine⟨trivial,(fun h=>by cases h),?_⟩
         refine(callsIn_wide.2 (iz _ _ (qAt qs xc) (qAt qs 0) kq kq w' (VC.o w' hS) (VT.o w' hS) (HQ.o _ be) (HQ.o _ a0) I)).mono ?_;rintro e ad ⟨⟨v,rfl,hv⟩,hb⟩;exact hK.out v ad (ae hS hb ρ) hb (isP.put hv) δ
        refine ai.consIn rfl (fun y w' hS hD K hK=>?_) ?_
        ·have e4:=isP.get (hD 4 Z)
         have e7:=isP.get (hD 7 Z);go_simp;refine⟨trivial,(fun h=>by cases h),?_⟩;refine(callsIn_wide.2 (iz _ _ _ _ (kq+kq+1) (kq+kq+1) w' e4 e7 ((HQ.o _ bi).qadd (HQ.o _ bc)) ((HQ.o _ be).qadd (HQ.o _ a0)) I)).mono ?_;rintro e ad ⟨⟨v,rfl,hv⟩,hb⟩;exact hK.out v ad (ae hS hb ρ) hb (isP.put hv) δ
        exact ai.nil
       case hend =>
        intro y w' hS hR hF;have e0:=isV.get (hR 0 Z);have e1:=isV.get (hR 1 Z);simp only[e0,e1];have e8:=isP.get (hR 8 Z);obtain⟨v8,gy⟩:=χ (y 8);rw[gy]at e8;simp only[gy];have cp:ac.length<(aD (qAt qs) rs).length:=by
         have h1:=congrArg List.length cU.o;rw[List.length_map,List.length_append,qz]at h1;rw[h1];exact piecesQ_lt db.o (by have:=cD.o;have:=ay.o;have:=bF.o;omega)
        obtain⟨x,hx⟩:∃x:PV,x=⟨u.agg,v8,(io (qAt qs 0) (qAt qs hd) (qAt qs xb) (qAt qs xc),jt (qAt qs 0) (qAt qs hd) (qAt qs xb) (qAt qs xc))⟩:=⟨_,rfl⟩;have cq:(io (qAt qs 0) (qAt qs hd) (qAt qs xb) (qAt qs xc),jt (qAt qs 0) (qAt qs hd) (qAt qs xb) (qAt qs xc))∈aD (qAt qs) rs:=by
         have h1:=piecesQ_mem (q:=qAt qs) (j:=k-2) db.o (by have:=cD.o;have:=ay.o;have:=bF.o;omega);have e2:k-2+1=m:=by have:=ay.o;have:=HM.o;omega
         have e3:k-2+2=k:=by have:=ay.o;omega
         unfold iF at h1;rw[e2,e3,eo.o,eu.o,ev.o]at h1;exact h1
        have gr:PV.ok (aD (qAt qs) rs) x w':=by rw[hx];exact⟨cq,hf.o.below hS,e8⟩
        have cn:x.enc=#[.agg #[.bool u.s,.slice u.a u.n u.c,.bool u.t,.slice u.b u.m u.d],v8]:=by rw[hx];rfl
        have cu:=HY.o ac x w' (HJ.o.below J8.o hS (by have:=ap.o.size;have:=ab.o.size;have:=an.o.size;have:=ao.o.size;have:=af.o.size;omega)) gr cp;rw[cn]at cu;obtain⟨fn,hZ,assign,body,hy,fo⟩:=cu;obtain⟨g4,g3⟩:=η2 hx hS;clear hx gr cn cp cq e0 e1 e8 hR hF hS;refine jR (i:=9) (listed2:=τ 10 1) Z rfl Z (fun K hK=>?_);go_simp;refine⟨(fun h=>by cases h),?_⟩;refine fo.mono ?_;rintro e W9 ⟨rfl,fc,fl⟩;clear hy fo;refine hK.out _ _ ?_;clear hK K;refine jR (i:=10) (listed2:=τ 11 0) Z rfl Z (fun K hK=>?_);go_simp;refine hK.out _ _ ?_;clear hK K;refine lV Z ?_;have g0:=O (show(ac++[x]).map PV.p=aD (qAt qs) (rs.take i)++oH (qAt qs) r (k+1-2)from by
         have e1:k+1-2=k-2+1:=by have:=ay.o;omega
         have e2:k-2+1=m:=by have:=ay.o;have:=HM.o;omega
         have e3:k-2+2=k:=by have:=ay.o;omega
         rw[e1,fanQ_succ,List.map_append,cU.o,List.append_assoc]
         congr 2
         show[x.p]=_;rw[g4.o];unfold iF;rw[e2,e3,eo.o,eu.o,ev.o])
        obtain⟨g7,JN⟩:=η2 (show KeepC w0.heap.size X w4 W9 from(ap.o.trans (KeepC.below (ae ao.o (ae af.o g3.o ρ) ρ) (ψ aw.o.size))).trans fl) fc;clear fc fl
        go_wp2_with fail
        go_round
        case rel=>exact⟨k+1,ac++[x],by have:=ay.o;omega,.inl (ψ bF.o),rfl,g0.o,JN.o,g7.o⟩
        case measure=>show N+2-((k:Int)+1).toNat<N+2-(k:Int).toNat;have:=bF.o;omega
    ·have hQ:¬ (k:Int)<(N:Int):=I
     have cg:k-2=N-2:=I;have gE:=O cg;clear cg
     go_wp2_with fail
     go_round
     case rel=>exact⟨i+1,ac,by have:=ep.o;omega,rfl,O (show ac.map PV.p=_ from by rw[dw db.o,tx,cU.o,gE.o,cD.o]),eq.o,g6.o.trans ap.o⟩
     case measure=>exact μ (ψ ep.o)
structure SolidF (w:World) (v0 v1:Value) (qs:List Q3) (frs:List FR) (rs:List (List Nat)) (d M:Nat):Prop where
 sol:Solid w v0 v1 qs frs rs 8
 dpos:0<d
 dmax:d<=16777216
 mmax:M<=281474976710656
 frac:∀ i,bA d M (qAt qs i)
theorem th{qs:List Q3}{rs:List (List Nat)}{d M:Nat}(G:0<d)(j:d<=16777216)(U:M<=281474976710656)(Q:∀i,bA d M (qAt qs i))(W:rs.length<=262144)(h64:∀r∈rs,r.length<=64)(l:List (Rat×Q3))(R:l.length<=(aD (qAt qs) rs).length)(e:∀x∈l,x∈aD (qAt qs) rs):
 Bd 8 (cK l)/\BdV 8 (dC l)/\∀x∈l,Bd 8 x.1/\BdV 8 x.2:=by
 have A:l.length<=16777216:=by
  have L:=piecesQ_len (qAt qs) rs h64;omega
 have J:=pieces_frac Q rs;have d3:d*(d*d)<=4722366482869645213696:=Nat.mul_le_mul j (Nat.mul_le_mul j j);have C:3*((M+M)*(2*((M+M)*(M+M))))<=3*((281474976710656+281474976710656)*(2*((281474976710656+281474976710656)*(281474976710656+281474976710656)))):=
  Nat.mul_le_mul_left _ (Nat.mul_le_mul I (Nat.mul_le_mul_left _ (Nat.mul_le_mul I I)))
 have u:B ^ 8=115792089237316195423570985008687907853269984665640564039457584007913129639936:=by unfold B;decide
 have E:0<d*(d*d):=Nat.mul_pos G (Nat.mul_pos G G);refine⟨?_,?_,fun x H=>?_⟩
 ·have F:=sumD_frac l fun x H=>(J x (e x H)).1
  refine F.bd E ?_ (by rw[u];omega);rw[u];exact Nat.lt_of_le_of_lt (Nat.mul_le_mul A C) ν
 ·have F:=sumC_frac l fun x H=>J x (e x H)
  refine F.bd (Nat.mul_pos E G) ?_ ?_
  ·rw[u]
   exact Nat.lt_of_le_of_lt (Nat.mul_le_mul A (Nat.mul_le_mul C (show M+M+(M+M)<=1125899906842624 by omega))) ν
  ·rw[u]
   exact Nat.lt_of_le_of_lt (Nat.mul_le_mul d3 j) ν
 ·obtain⟨F,L⟩:=J x (e x H)
  refine⟨F.bd E ?_ (by rw[u];omega),L.bd G ?_ ?_⟩
  ·rw[u];exact Nat.lt_of_le_of_lt C ν
  ·rw[u];omega
  ·rw[u];omega
theorem ck{B:Nat}{W W':World}(h:Bl W W'):KeepsFrom B W W':=⟨h.size,fun k _ _ e _=>(h.block k (Array.getElem?_eq_some_iff.1 e).1).trans e⟩
theorem fT{B:Nat}{W W':World}{g:Nat}{cs:Array Value}{t:TypeId}(hb:Box W g cs t)(u:W.grownBy W' (some g)):KeepsFrom B W W':=
 ⟨u.size,fun k o _ i hc=>(u.block k (Array.getElem?_eq_some_iff.1 i).1 (fun e=>by
  cases e;have j:W.heap[g]?=some (.cells cs t (0,0)):=hb;rw[i]at j;cases j;cases hc)).trans i⟩
theorem m7{n0:Nat}{X:Nat->Prop}{W W':World}{g:Nat}(i:X g)(u:n0<=g)(A:n0<=W.heap.size)(j:W.grownBy W' (some g)):KeepC n0 X W W':=KeepC.grown j A (fun r e=>by cases e;exact⟨u,.inl i⟩)
theorem PV.ok_keep{L:List (Rat×Q3)}{x:PV}{n0:Nat}{W W':World}(h:PV.ok L x W)(e:KeepC n0 (fun _=>False) W W'):PV.ok L x W':=⟨h.1,h.2.1.keepC e (ew.none W),h.2.2.keepC e (ew.none W)⟩
theorem zip2(i j:Tmp)(x:PV)(t:Array Value):Array.foldl (fun t (p,v)=>t.setIfInBounds p v) t ((#[i,j]:Array Tmp).zip (PV.enc x))=(t.setIfInBounds i x.d).setIfInBounds j x.c:=by
 simp[PV.enc]
theorem pY(i j u:Value)(w:World):
 Calls prog 71 #[.agg #[i,j,u]] w fun e w'=>e=.returned (.func (.func 106) #[] #[.pointer (some ⟨w.heap.size,0,none⟩)])/\w'=w.alloc (.cells #[i,j,u] 86):=by
 go_enter func71,ntmps71
 go_wp2_with fail
 go_ret;exact⟨rfl,rfl⟩
end Go.Proofs.Υ
