/- Lemmas. -/
import Derived.Test.YtodehkjinmgflaaGreatDoorV26
set_option linter.all false
set_option maxHeartbeats 0
set_option maxRecDepth 99999
namespace Go.Proofs.Υ
open Go Go.RowKit Tryz
theorem bd6:Bd 2 (6:Rat):=Bd.int 6 (by show 6<B ^ 2;unfold B;omega)
section
attribute [local go_sem] Oper.semAt_some
theorem volume_any(v0 v1 v2:Value)(qs:List Q3)(a3:List FR)(rs:List (List Nat))(d M:Nat)(w:World)(hS:SolidF w v0 v1 qs a3 rs d M):
 Calls prog 24 #[.agg #[v0,v1,v2]] w fun e w'=>eh w' e (cK (aD (qAt qs) rs) / 6)/\Bl w w':=by
 have U:=th hS.dpos hS.dmax hS.mmax hS.frac (by rw[hS.sol.len];exact hS.sol.max) (fun r E=>(hS.sol.ring r E).1);obtain⟨af,HS⟩:=η2 U hS;clear hS U;obtain⟨W,hW,b1,b2,b3,hB,a5⟩:=cC w #[v0,v1,v2] (aE RC.zero) (aE RC.zero) 86 55 55;obtain⟨w1,bc,c1,ab,be⟩:=aB W #[v0,v1,v2] 86;obtain⟨a0,bf,bg,C1,a1,a2,br⟩:=η7 (ae hB ab ρ) (b2.to ab) (b3.to ab) c1 a5 be bc;obtain⟨x0,x1,x2,-⟩:=b1.three;clear b1 b2 b3 hB a5 c1 ab be bc;refine(callsIn_wide (n:=9)).1 ?_;refine callsIn_of_wp_marks func24 rfl trivial ?_ rfl;simp only[ntmps24,List.size_toArray,List.length_cons,List.length_nil,Nat.reduceAdd,Nat.reduceSub,Array.replicate_succ,Array.replicate_zero,List.push_toArray,List.append_toArray,List.nil_append,List.cons_append]
 gi_wp2_with fail
 refine⟨trivial,?_⟩;simp only[aE,RC.zero]at hW;rw[hW];refine(callsIn_wide.2 (pY v0 v1 v2 W)).mono ?_;rintro e w' ⟨rfl,rfl⟩;rw[br.o];clear x0 x1 x2
 gi_wp2_with fail
 have b6:=(HS.o.sol);have aa:=a1.o;have Y:=a2.o;refine jQ rfl I (gf:=106) (lb:=#[.pointer (some ⟨W.heap.size,0,none⟩)]) rfl trivial (enters_of func106 Z rfl) (n0:=w.heap.size) (X:=fun k=>k=w.heap.size+2)
  (oe _ w w1 v0 v1 v2 qs a3 rs 8 I HS.o.sol W.heap.size _ C1.o a0.o (fun k hk=>⟨by omega,by omega⟩)) I β (fun _=>rfl)
  (fun J W'=>∃r,Box W' (w.heap.size+2) (aE r) 55/\ak W' r.agg (cK (J.map PV.p))/\(∀y∈J,y.p∈aD (qAt qs) rs)/\Box W' (w.heap.size+1) (aE RC.zero) 55/\Bl w W')
  (fun J W1 W2 ⟨r,h1,h2,h3,h4,h5⟩ hk=>⟨r,h1.keepC hk (fun h=>h),h2.keepC hk (ew.none _),h3,h4.keepC hk (fun h=>h),h5.trans (hk.bel.mono I)⟩)
  (fun x _ W1 W2 h hk=>PV.ok_keep (x:=x) h hk)
  ⟨RC.zero,bg.o,ak.zero _,(fun y hy=>by cases hy),bf.o,a0.o⟩
  (fun x a' W'=>∃g r,x.d=RC.agg r/\a'={ tmps:=#[.agg #[v0,v1,v2],.pointer (some ⟨w.heap.size,0,none⟩),.pointer (some ⟨w.heap.size+1,0,none⟩),.pointer (some ⟨w.heap.size+1+1,0,none⟩),.pointer (some ⟨g,0,none⟩),undef,undef,.agg #[v0,v1,v2],.func (.func 106) #[] #[.pointer (some ⟨W.heap.size,0,none⟩)],x.d,x.c,undef,undef,undef,undef,undef,undef,undef,undef,undef,undef],defers:=[] }/\Box W' g (aE r) 55/\w.heap.size+2<g)
  (fun x a' _ W1 W2 ⟨g,r,h1,h2,h3,h4⟩ hk=>⟨g,r,h1,h2,h3.keepC hk (fun h=>h),h4⟩) ?assign ?body ?done
 case assign =>
  rintro l J ⟨d,c,p⟩ W' K hI ⟨hm,hd,hc⟩ hK;clear aa Y;obtain⟨r,rfl,E⟩:=hd.rcv;rw[zip2];have HK:=O hK;clear hK
  gi_wp2_with fail
  obtain⟨w2,b0,b2,u,ca⟩:=aB W' #[.bool r.s,.slice r.a r.n r.c,.bool r.t,.slice r.b r.m r.d] 55;rw[b0];obtain⟨r0,G,ac,H,C,A⟩:=hI;exact HK.o _ _ (ck u) (KeepC.below u A.size) ⟨r0,G.to u,ac.below u,H,C.to u,A.trans (u.mono A.size)⟩ ⟨hm,E.below u,hc.below u⟩ ⟨W'.heap.size,r,rfl,rfl,b2,G.lt⟩
 case body =>
  rintro l J ⟨d,c,p⟩ a' W' ⟨r0,G,ac,H,C,A⟩ ⟨hm,hd,hc⟩ ⟨g,r,hx,rfl,hg,b9⟩ b4;clear aa Y;have b7:1<=9-1-1:=I
  have U:=af.o (J.map PV.p) (by rw[List.length_map];omega) (fun x hx=>by
   obtain⟨y,hy,rfl⟩:=List.mem_map.mp hx;exact H y hy)
  have a7:=af.o [p] (by show 1<=_;omega) (fun x hx=>by rw[List.mem_singleton.mp hx];exact hm);have bk:=O U.1;have bi:=O (a7.2.2 p (List.mem_singleton.mpr rfl)).1;clear U a7;obtain⟨y0,y1,y2,y3⟩:=G.at1.1;obtain⟨z0,z1,z2,z3⟩:=hg.at1.1;have a8:ak W' (.agg #[.bool r.s,.slice r.a r.n r.c,.bool r.t,.slice r.b r.m r.d]) p.1:=by rw[show d=RC.agg r from hx]at hd;exact hd
  obtain⟨HD,bm,ay,ad,Q⟩:=η5 a8 ac G C A;clear hd a8 ac G C A hc
  gi_wp2_with fail
  refine⟨trivial,?_⟩;refine(CallsIn.inRound l (callsIn_wide.2 (gM _ _ _ _ 8 8 W' bm.o HD.o bk.o bi.o I))).mono ?_;rintro e w2 ⟨⟨v,rfl,hv⟩,u⟩;obtain⟨r2,rfl,ba⟩:=hv.rcv;obtain⟨B2,bs,ar,az,bp⟩:=η5 (ay.o.to u) (ad.o.to u) (Q.o.trans (u.mono Q.o.size)) u ba;obtain⟨y0,y1,y2,y3⟩:=B2.o.at1.1;obtain⟨-,f0,f1,f2,f3⟩:=B2.o.at1;clear hv ba u
  gi_wp2_with fail
  change KeepsFrom _ _ (put4 w2 (w.heap.size+2) 0 r2)/\KeepC _ _ _ (put4 w2 (w.heap.size+2) 0 r2)/\_;have a9:=dX w2 (w.heap.size+2) 0 r2;refine⟨(ck az.o).trans (fT B2.o a9),(KeepC.below az.o Q.o.size).trans (m7 rfl (Nat.le_add_right _ 2) ar.o.size a9),r2,B2.o.s4 r2,?_,?_,bs.o.oput4 I 0 r2,bj ar.o (Nat.le_add_right _ 2) 0 r2⟩
  ·rw[List.map_append,List.map_singleton,eC]
   exact bp.o.put4 B2.o.at1 r2
  ·intro y hy
   rcases List.mem_append.mp hy with hy|hy
   ·exact H y hy
   ·rw[List.mem_singleton.mp hy];exact hm
 case done =>
  rintro D xs w5 hD hS ⟨F,a6,ao,-,C,A⟩ hK;rw[hS]at ao;have HB:=O (af.o (aD (qAt qs) rs) ρ (fun x hx=>hx)).1;obtain⟨aw,bt,av,au,bl⟩:=η5 a6 (show ak w5 (.agg #[.bool F.s,.slice F.a F.n F.c,.bool F.t,.slice F.b F.m F.d]) (cK (aD (qAt qs) rs))from ao) C A hK;clear aa Y a6 ao C A hK hS;have h1:1<=9:=I
  gi_wp2_with fail
  refine(wpIn_wide (n:=9)).2 ?_;refine eZ Sh4 7 55 (rest:=1) [isV 0 (.agg #[.bool F.s,.slice F.a F.n F.c,.bool F.t,.slice F.b F.m F.d]),isP 1 (fun v w=>ak w v (6:Rat)),isP 2 (fun v w=>∃r:RC,v=.tuple #[.agg #[.bool r.s,.slice r.a r.n r.c,.bool r.t,.slice r.b r.m r.d],.int .i64 0]/\ak w r.agg (cK (aD (qAt qs) rs) / 6)),isP 3 (fun v w=>∃r:RC,v=.tuple #[.agg #[.bool r.s,.slice r.a r.n r.c,.bool r.t,.slice r.b r.m r.d],.int .i64 0]/\ak w r.agg (cK (aD (qAt qs) rs) / 6)),isP 4 (fun v w=>∃r:RC,v=.agg #[.bool r.s,.slice r.a r.n r.c,.bool r.t,.slice r.b r.m r.d]/\ak w r.agg (cK (aD (qAt qs) rs) / 6)),isV 5 (.int .i64 0),isP 6 (eY Sh4 w5.heap.size 55),isS 6 w5.heap.size 55 (fun cs w=>∃r,cs=aE r/\ak w r.agg (cK (aD (qAt qs) rs) / 6))] [6] ?A5 (τ 8 1) Z [0,1,2,3,4,5,6,7] Z Z Z Z Z Z ?st ?st2 ?hA ?hop ?hend
  case hA=>exact cZ
  case st=>refine aq.cons isV.stab ?_;refine aq.cons (isP.stab (fun _ _ _ h hv=>hv.below h)) ?_;(iterate 3 refine aq.cons (isP.stab (fun _ _ _ h ⟨r,e,E⟩=>⟨r,e,E.below h⟩)) ?_);refine aq.cons isV.stab ?_;refine aq.cons (isP.stab eY.stab) ?_;refine aq.cons (isS.stab (fun _ _ _ h ⟨r,e,E⟩=>⟨r,e,E.below h⟩)) ?_;exact aq.nil
  case st2=>refine aY.cons isV.stabW ?_;refine aY.cons (isP.stabW (dh ν)) ?_;(iterate 3 refine aY.cons (isP.stabW (fun _ _ _ h ⟨r,e,E⟩=>⟨r,e,dh ν _ _ _ h E⟩)) ?_);refine aY.cons isV.stabW ?_;refine aY.cons (isP.stabW eY.stabW) ?_;refine aY.cons (isN.stabW (i:=0)) ?_;exact aY.nil
  case hop =>
   refine ai.cons rfl (fun y w' hS hD K hK=>?_) ?_
   ·as_aux_lemma =>
    obtain⟨c0,c1,c2,c3⟩:=(aw.o.to hS).at1.1;go_simp;exact hK.out _ w' hS (bB.old β) isV.put δ
   refine ai.cons rfl (fun y w' hS hD K hK=>?_) ?_
   ·as_aux_lemma =>
    go_simp;refine(dc 6 w' I I).mono ?_
    rintro e ap ⟨⟨v,rfl,hv⟩,hb⟩;exact hK.out v ap (ae hS hb ρ) (bB.old hb) (isP.put hv) δ
   refine ai.cons rfl (fun y w' hS hD K hK=>?_) ?_
   ·simp only[isV.get (hD 0 Z)]at hK⊢
    as_aux_lemma =>
    have e1:=isP.get (hD 1 Z);go_simp;refine(kr _ _ (cK (aD (qAt qs) rs)) 6 8 2 w' (bt.o.below hS) e1 HB.o bd6 I ν).mono ?_;rintro e ap ⟨⟨v,rfl,hv⟩,hb⟩;obtain⟨r,rfl,E⟩:=hv.rcv;exact hK.out _ ap (ae hS hb ρ) (bB.old hb) (isP.put ⟨r,rfl,E⟩) δ
   refine ai.cons rfl (fun y w' hS hD K hK=>?_) ?_
   ·as_aux_lemma =>
    have e2:=isP.get (hD 2 Z);obtain⟨r,eq,E⟩:=e2;simp only[eq]at hK⊢;go_simp;exact hK.out _ w' hS (bB.old β) (isP.put ⟨r,rfl,E⟩) δ
   refine ai.cons rfl (fun y w' hS hD K hK=>?_) ?_
   ·as_aux_lemma =>
    have e3:=isP.get (hD 3 Z);obtain⟨r,eq,E⟩:=e3;simp only[eq]at hK⊢;go_simp;exact hK.out _ w' hS (bB.old β) (isP.put ⟨r,rfl,E⟩) δ
   refine ai.cons rfl (fun y w' hS hD K hK=>?_) ?_
   ·as_aux_lemma =>
    have e3:=isP.get (hD 3 Z);obtain⟨r,eq,E⟩:=e3;simp only[eq]at hK⊢;go_simp;exact hK.out _ w' hS (bB.old β) isV.put δ
   refine ai.cons rfl (fun y w' hS hD K hK=>?_) ?_
   ·as_aux_lemma =>
    go_simp;exact hK.out _ _ (hS.alloc hS.size _) (bB.old (β.alloc ρ _)) (isP.put ⟨_,_,rfl,hS.size,sh4 RC.zero,Box.new _ _ _ _ rfl⟩) (fun _ j hj bI _=>absurd (List.mem_singleton.1 hj) bI)
   refine ai.cons rfl (fun y w' hS hD K hK=>?_) ?_
   ·as_aux_lemma =>
    have e4:=isP.get (hD 4 Z);have eb:=isP.get (hD 6 Z);obtain⟨ga,_,ea,an,⟨s0,rfl⟩,R⟩:=eb;obtain⟨r,er,E⟩:=e4;simp only[er,ea]at hK⊢;obtain⟨-,f0,f1,f2,f3⟩:=R.at1;obtain⟨c0,c1,c2,c3⟩:=R.at1.1;go_simp;exact hK.out undef (put4 w' ga 0 r) (bj hS an _ _) (bB.new (Wr.put4 an R _)) (isS.put ν ea an (R.s4 _) ⟨r,rfl,E.put4 R.at1 r⟩) δ
   exact ai.nil
  case hend=>as_aux_lemma =>
   intro y w' hS hR hF;have e5:=isV.get (hR 5 Z);simp only[e5];obtain⟨go,_,bv,b8,bu,ro,rfl,bV⟩:=isS.get (i:=6) (n:=w5.heap.size) (t:=55) (p:=fun cs w=>∃r,cs=aE r/\ak w r.agg (cK (aD (qAt qs) rs) / 6)) (hR 7 Z);simp only[bv];refine aL (i:=8) (listed2:=τ 9 0) Z rfl Z (fun K hK=>?_);go_simp;refine hK.out _ _ ?_;clear hK K;refine aP Z ?_;have L:=av.o.to hS;have b5:=hS.size;obtain⟨c0,c1,c2,c3⟩:=bu.at1.1;obtain⟨y0,y1,y2,y3⟩:=L.at1.1;obtain⟨-,f0,f1,f2,f3⟩:=L.at1;have a4:(put4 w' (w.heap.size+1) 0 ro).heap[D]?=some (.deferred (some [])):=((ck (B:=0) hS).trans (fT L (dX w' (w.heap.size+1) 0 ro))).same D _ (Nat.zero_le _) bl.o rfl
   go_wp2_with fail
   gi_wp2_with fail
   change bodyPostM _ _ _ _ _ _ _ (put4 w' (w.heap.size+1) 0 ro);have bF:w.heap.size<=D:=by have:=a2.o;have:=a1.o;omega
   have ag:KeepC w.heap.size (fun _=>False) (put4 w' (w.heap.size+1) 0 ro) ((put4 w' (w.heap.size+1) 0 ro).putObj D (.deferred none)):=KeepC.putObj _ _ bF a4 rfl;have bz:=(L.s4 ro).keepC ag (fun h=>h);refine⟨by simp,.inl ⟨_,_,rfl,run_takeDeferred a4,?_⟩⟩;refine⟨_,results_cell_row results24 _ _ (w.heap.size+1) _ _ _ _ rfl bz underlying55 rfl bD,?_,?_⟩
   ·exact⟨_,rfl,(bV.put4 L.at1 ro).keepC ag (ew.none _)⟩
   ·exact(bj (au.o.trans (hS.mono au.o.size)) (Nat.le_add_right _ 1) 0 ro).trans ag.bel
end
theorem bd4:Bd 2 (4:Rat):=Bd.int 4 (by show 4<B ^ 2;unfold B;omega)
theorem bd1:Bd 2 (1:Rat):=Bd.int 1 (by show 1<B ^ 2;unfold B;omega)
theorem Bd.qscV{k l:Nat}{q:Rat}{a:Q3}(h:Bd k q)(e:BdV l a):BdV (k+l) (qscale q a):=BdV.qscale h e
theorem Bd.inv{k:Nat}{q:Rat}(h:Bd k q):Bd k (1 / q):=by
 rw[Rat.div_def,Rat.one_mul,Rat.inv_def];by_cases h0:q.num=0
 ·rw[h0,Rat.divInt_zero]
  exact⟨by show 0<B ^ k;exact Nat.pow_pos (by unfold B;omega),by show 1<B ^ k;exact Nat.lt_of_le_of_lt q.den_pos h.2⟩
 ·exact eX (by rw[Int.natAbs_natCast];exact h.2) h.1 h0
section
attribute [local go_sem] Oper.semAt_some
theorem centre_any(v0 v1 v2:Value)(qs:List Q3)(cu:List FR)(rs:List (List Nat))(d M:Nat)(w:World)(hS:SolidF w v0 v1 qs cu rs d M)(db:cK (aD (qAt qs) rs)≠0):
 Calls prog 28 #[.agg #[v0,v1,v2]] w fun e w'=>gU w' e (qscale (1 / (4*cK (aD (qAt qs) rs))) (dC (aD (qAt qs) rs)))/\Bl w w':=by
 have av:=th hS.dpos hS.dmax hS.mmax hS.frac (by rw[hS.sol.len];exact hS.sol.max) (fun r hr=>(hS.sol.ring r hr).1);obtain⟨a9,HS⟩:=η2 av hS;have d0:Hid (4*cK (aD (qAt qs) rs)≠0):=fun h=>by
  rcases Rat.mul_eq_zero.mp h with h|h
  ·exact absurd h ν
  ·exact db h
 clear hS av db;obtain⟨W,hW,b1,b2,b3,b4,hB,cB⟩:∃W,(((w.alloc (.cells #[v0,v1,v2] 86)).alloc (.cells (ah RC.zero RC.zero RC.zero) 57)).alloc (.cells (aE RC.zero) 55)).alloc (.cells (ah RC.zero RC.zero RC.zero) 57)=W/\Box W w.heap.size #[v0,v1,v2] 86/\Box W (w.heap.size+1) (ah RC.zero RC.zero RC.zero) 57/\Box W (w.heap.size+2) (aE RC.zero) 55/\Box W (w.heap.size+3) (ah RC.zero RC.zero RC.zero) 57/\Bl w W/\W.heap.size=w.heap.size+4:=by
  obtain⟨W3,h3,b1,b2,b3,eu,ex⟩:=cC w #[v0,v1,v2] (ah RC.zero RC.zero RC.zero) (aE RC.zero) 86 57 55;obtain⟨W4,h4,b4,be,fb⟩:=aB W3 (ah RC.zero RC.zero RC.zero) 57;exact⟨W4,by rw[h3,h4],b1.to be,b2.to be,b3.to be,by rw[ex]at b4;exact b4,ae eu be ρ,by omega⟩
 obtain⟨w1,de,c1,an,dl⟩:=aB W #[v0,v1,v2] 86;obtain⟨cg,du,dv,dm,C1,cm,cp,d8⟩:=η8 (ae hB an ρ) (b2.to an) (b3.to an) (b4.to an) c1 cB dl de;obtain⟨x0,x1,x2,-⟩:=b1.three;clear b1 b2 b3 b4 hB cB c1 an dl de;refine(callsIn_wide (n:=9)).1 ?_;refine callsIn_of_wp_marks func28 rfl trivial ?_ rfl;simp only[ntmps28,List.size_toArray,List.length_cons,List.length_nil,Nat.reduceAdd,Nat.reduceSub,Array.replicate_succ,Array.replicate_zero,List.push_toArray,List.append_toArray,List.nil_append,List.cons_append]
 gi_wp2_with fail
 refine⟨trivial,?_⟩;simp only[aE,ah,RC.zero]at hW;rw[hW];refine(callsIn_wide.2 (pY v0 v1 v2 W)).mono ?_;rintro e w' ⟨rfl,rfl⟩;rw[d8.o];clear x0 x1 x2
 gi_wp2_with fail
 have a7:=cm.o;have a6:=cp.o;refine jQ rfl I (gf:=106) (lb:=#[.pointer (some ⟨W.heap.size,0,none⟩)]) rfl trivial (enters_of func106 Z rfl) (n0:=w.heap.size) (X:=fun k=>k=w.heap.size+2\/k=w.heap.size+3)
  (oe _ w w1 v0 v1 v2 qs cu rs 8 I HS.o.sol W.heap.size _ C1.o cg.o (fun k hk=>⟨by omega,by omega⟩)) I β (fun _=>rfl)
  (fun Q W'=>∃r C E F,Box W' (w.heap.size+2) (aE r) 55/\ak W' r.agg (cK (Q.map PV.p))/\Box W' (w.heap.size+3) (ah C E F) 57/\am W' (.agg (ah C E F)) (dC (Q.map PV.p))/\(∀y∈Q,y.p∈aD (qAt qs) rs)/\Box W' (w.heap.size+1) (ah RC.zero RC.zero RC.zero) 57/\Bl w W')
  (fun Q W1 W2 ⟨r,C,E,F,h1,h2,h6,h7,h3,h4,h5⟩ hk=>⟨r,C,E,F,h1.keepC hk (fun h=>h),h2.keepC hk (ew.none _),h6.keepC hk (fun h=>h),h7.keepC hk (ew.none _),h3,h4.keepC hk (fun h=>h),h5.trans (hk.bel.mono I)⟩)
  (fun x _ W1 W2 h hk=>PV.ok_keep (x:=x) h hk)
  ⟨RC.zero,RC.zero,RC.zero,RC.zero,dv.o,ak.zero _,dm.o,⟨_,_,_,rfl,ak.zero _,ak.zero _,ak.zero _⟩,(fun y hy=>by cases hy),du.o,cg.o⟩
  (fun x a' W'=>∃g g2 r u c1 c2,x.d=RC.agg r/\x.c=.agg (ah u c1 c2)/\a'={ tmps:=#[.agg #[v0,v1,v2],.pointer (some ⟨w.heap.size,0,none⟩),.pointer (some ⟨w.heap.size+1,0,none⟩),.pointer (some ⟨w.heap.size+1+1,0,none⟩),.pointer (some ⟨w.heap.size+1+1+1,0,none⟩),.pointer (some ⟨g,0,none⟩),.pointer (some ⟨g2,0,none⟩),undef,undef,.agg #[v0,v1,v2],.func (.func 106) #[] #[.pointer (some ⟨W.heap.size,0,none⟩)],x.d,x.c,undef,undef,undef,undef,undef,undef,undef,undef,undef,undef,undef,undef,undef,undef,undef,undef,undef,undef,undef],defers:=[] }/\Box W' g (aE r) 55/\Box W' g2 (ah u c1 c2) 57/\w.heap.size+3<g/\w.heap.size+3<g2)
  (fun x a' _ W1 W2 ⟨g,g2,r,u,c1,c2,h1,ep,h2,h3,et,h4,h5⟩ hk=>⟨g,g2,r,u,c1,c2,h1,ep,h2,h3.keepC hk (fun h=>h),et.keepC hk (fun h=>h),h4,h5⟩) ?assign ?body ?done
 case assign =>
  rintro l Q ⟨d,c,p⟩ W' K hI ⟨hm,hd,hc⟩ hK;clear a7 a6;obtain⟨r,rfl,hr⟩:=hd.rcv;obtain⟨u,c1,c2,rfl,ey,an,bg⟩:=hc;unfold ah at hK;rw[zip2];unfold ah;have HK:=O hK;clear hK
  gi_wp2_with fail
  obtain⟨w2,eT,b2,b3,A,fl⟩:=bU W' #[.bool r.s,.slice r.a r.n r.c,.bool r.t,.slice r.b r.m r.d] #[.bool u.s,.slice u.a u.n u.c,.bool u.t,.slice u.b u.m u.d,.bool c1.s,.slice c1.a c1.n c1.c,.bool c1.t,.slice c1.b c1.m c1.d,.bool c2.s,.slice c2.a c2.n c2.c,.bool c2.t,.slice c2.b c2.m c2.d] 55 57;rw[eT];obtain⟨r0,C,E,F,au,bi,U,af,ad,L,G⟩:=hI;exact HK.o _ _ (ck A) (KeepC.below A G.size) ⟨r0,C,E,F,au.to A,bi.below A,U.to A,af.below A,ad,L.to A,G.trans (A.mono G.size)⟩ ⟨hm,hr.below A,⟨u,c1,c2,rfl,ey.below A,an.below A,bg.below A⟩⟩ ⟨W'.heap.size,W'.heap.size+1,r,u,c1,c2,rfl,rfl,rfl,b2,b3,U.lt,Nat.lt_succ_of_lt U.lt⟩
 case body =>
  rintro l Q ⟨d,c,p⟩ a' W' ⟨r0,C,E,F,au,bi,U,af,ad,L,G⟩ ⟨hm,hd,hc⟩ ⟨g,g2,r,u,c1,c2,hx,dk,rfl,hg,cU,da,bl⟩ cV;clear a7 a6;have ez:1<=9-1-1:=I
  have av:=a9.o (Q.map PV.p) (by rw[List.length_map];omega) (fun x hx=>by
   obtain⟨y,hy,rfl⟩:=List.mem_map.mp hx;exact ad y hy)
  have bs:=a9.o [p] (by show 1<=_;omega) (fun x hx=>by rw[List.mem_singleton.mp hx];exact hm);obtain⟨dy,BA⟩:=η2 av.1 av.2.1;have BP:=O (bs.2.2 p (List.mem_singleton.mpr rfl)).1;have b5:=O (bs.2.2 p (List.mem_singleton.mpr rfl)).2;clear av bs;obtain⟨y0,y1,y2,y3⟩:=au.at1.1;obtain⟨z0,z1,z2,z3⟩:=hg.at1.1;have cF:ak W' (.agg #[.bool r.s,.slice r.a r.n r.c,.bool r.t,.slice r.b r.m r.d]) p.1:=by rw[show d=RC.agg r from hx]at hd;exact hd
  have bg:am W' (.agg (ah u c1 c2)) p.2:=by rw[show c=.agg (ah u c1 c2)from dk]at hc;exact hc
  obtain⟨HD,HC,d4,cc,ce,d7,HG,ch,bk⟩:=η9 cF bg bi au U af hg cU L;have ay:=O G;clear hd cF bi au L G hc bg U af hg cU
  gi_wp2_with fail
  refine⟨trivial,?_⟩;refine(CallsIn.inRound l (callsIn_wide.2 (gM _ _ _ _ 8 8 W' d4.o HD.o dy.o BP.o I))).mono ?_;rintro e w2 ⟨⟨v,rfl,Y⟩,A⟩;obtain⟨r2,rfl,dd⟩:=Y.rcv;obtain⟨B2,ab,bI⟩:=η3 (cc.o.to A) A (ay.o.trans (A.mono ay.o.size));obtain⟨y0,y1,y2,y3⟩:=B2.o.at1.1;obtain⟨-,f0,f1,f2,f3⟩:=B2.o.at1;clear A Y;have cl:=O dd;clear dd
  gi_wp2_with fail
  clear y0 y1 y2 y3 f0 f1 f2 f3 z0 z1 z2 z3;change Code.wpIn _ _ _ _ _ _ (put4 w2 (w.heap.size+2) 0 r2);obtain⟨w3,H⟩:=χ (put4 w2 (w.heap.size+2) 0 r2);have aw:=dX w2 (w.heap.size+2) 0 r2;have ee:Hid (KeepsFrom w1.heap.size W' w3):=by rw[<-H];exact(ck ab.o).trans (fT B2.o aw)
  have d9:Hid (KeepC w.heap.size (fun k=>k=w.heap.size+2\/k=w.heap.size+3) W' w3):=by rw[<-H];exact(KeepC.below ab.o ay.o.size).trans (m7 (.inl rfl) (Nat.le_add_right _ 2) bI.o.size aw)
  have d5:Hid (ak w3 r2.agg (cK (Q.map PV.p)+p.1)):=by rw[<-H];exact cl.o.put4 B2.o.at1 r2
  have b9:Hid (Box w3 (w.heap.size+2) (aE r2) 55):=by rw[<-H];exact B2.o.s4 r2
  have bp:Hid (Bl w w3):=by rw[<-H];exact bj bI.o (Nat.le_add_right _ 2) 0 r2
  have b6:Hid (Box w3 (w.heap.size+1) (ah RC.zero RC.zero RC.zero) 57):=by rw[<-H];exact(bk.o.to ab.o).oput4 I 0 r2
  have a8:Hid (Box w3 (w.heap.size+3) (ah C E F) 57):=by rw[<-H];exact(ce.o.to ab.o).oput4 I 0 r2
  have bz:Hid (Box w3 g2 (ah u c1 c2) 57):=by rw[<-H];exact(ch.o.to ab.o).oput4 I 0 r2
  have bF:Hid (Box w3 g (aE r) 55):=by rw[<-H];exact(HG.o.to ab.o).oput4 I 0 r2
  have ef:Hid (am w3 (.agg (ah C E F)) (dC (Q.map PV.p))):=by rw[<-H];exact(d7.o.below ab.o).put4 B2.o.at1 r2
  have ek:Hid (am w3 (.agg (ah u c1 c2)) p.2):=by rw[<-H];exact(HC.o.below ab.o).put4 B2.o.at1 r2
  have el:Hid (ak w3 (.agg #[.bool r.s,.slice r.a r.n r.c,.bool r.t,.slice r.b r.m r.d]) p.1):=by rw[<-H];exact(HD.o.below ab.o).put4 B2.o.at1 r2
  rw[H];clear H aw;refine kW (rest:=1) [isV 0 (.agg #[.bool C.s,.slice C.a C.n C.c,.bool C.t,.slice C.b C.m C.d,.bool E.s,.slice E.a E.n E.c,.bool E.t,.slice E.b E.m E.d,.bool F.s,.slice F.a F.n F.c,.bool F.t,.slice F.b F.m F.d]),isV 1 (.agg #[.bool u.s,.slice u.a u.n u.c,.bool u.t,.slice u.b u.m u.d,.bool c1.s,.slice c1.a c1.n c1.c,.bool c1.t,.slice c1.b c1.m c1.d,.bool c2.s,.slice c2.a c2.n c2.c,.bool c2.t,.slice c2.b c2.m c2.d]),isV 2 (.agg #[.bool r.s,.slice r.a r.n r.c,.bool r.t,.slice r.b r.m r.d]),isP 3 (fun v w=>am w v (qscale p.1 p.2)),isP 4 (fun v w=>am w v (qadd (dC (Q.map PV.p)) (qscale p.1 p.2)))] [] ?A7 (τ 5 1) Z [0,1,2,3,4] Z Z Z Z Z Z ?st ?hA ?hop ?hend
  case hA=>exact cZ
  case st=>(iterate 3 refine aq.cons isV.stab ?_);(iterate 2 refine aq.cons (isP.stab (fun _ _ _ h Y=>Y.below h)) ?_);exact aq.nil
  case hop =>
   refine ai.consIn rfl (fun y w' hS hD K hK=>?_) ?_
   ·as_aux_lemma =>
    have bx:=a8.o.to hS;obtain⟨u,c1,c2,c3⟩:=bx.p0.1;obtain⟨c4,c5,c6,c7⟩:=bx.p1.1;obtain⟨c8,c9,ba,bc⟩:=bx.p2.1;go_simp;exact hK.out _ w' hS β isV.put δ
   refine ai.consIn rfl (fun y w' hS hD K hK=>?_) ?_
   ·as_aux_lemma =>
    have bx:=bz.o.to hS;obtain⟨u,c1,c2,c3⟩:=bx.p0.1;obtain⟨c4,c5,c6,c7⟩:=bx.p1.1;obtain⟨c8,c9,ba,bc⟩:=bx.p2.1;go_simp;exact hK.out _ w' hS β isV.put δ
   refine ai.consIn rfl (fun y w' hS hD K hK=>?_) ?_
   ·as_aux_lemma =>
    obtain⟨u,c1,c2,c3⟩:=(bF.o.to hS).at1.1;go_simp;exact hK.out _ w' hS β isV.put δ
   refine ai.consIn rfl (fun y w' hS hD K hK=>?_) ?_
   ·simp only[isV.get (hD 1 Z),isV.get (hD 2 Z)]at hK⊢
    as_aux_lemma =>
    go_simp;refine⟨trivial,?_⟩
    refine(CallsIn.inRound l (callsIn_wide.2 (dq _ _ p.2 p.1 8 8 w' (ek.o.below hS) (el.o.below hS) BP.o b5.o I))).mono ?_;rintro e R ⟨⟨v,rfl,Y⟩,hb⟩;exact hK.out v R (ae hS hb ρ) hb (isP.put Y) δ
   refine ai.consIn rfl (fun y w' hS hD K hK=>?_) ?_
   ·simp only[isV.get (hD 0 Z)]at hK⊢
    as_aux_lemma =>
    have e3:=isP.get (hD 3 Z);go_simp;refine⟨trivial,?_⟩;refine(CallsIn.inRound l (callsIn_wide.2 (iz _ _ _ _ 8 16 w' (ef.o.below hS) e3 BA.o (BP.o.qscV b5.o) I))).mono ?_;rintro e R ⟨⟨v,rfl,Y⟩,hb⟩;exact hK.out v R (ae hS hb ρ) hb (isP.put Y) δ
   exact ai.nil
  case hend =>
   intro y w' hS hR hF;have e4:=isP.get (hR 4 Z);obtain⟨ao,ap,ar,ea,a3,a4,a5⟩:=e4;have cn:=O (show am w' (.agg (ah ao ap ar)) (qadd (dC (Q.map PV.p)) (qscale p.1 p.2))from⟨ao,ap,ar,rfl,a3,a4,a5⟩);have J:=a8.o.to hS;simp only[ea,ah];obtain⟨ag,ci,HM,fa,e9⟩:=η5 hS ad hm da bl;clear hR hF hS hx dk ad hm cV da bl a3 a4 a5 ea ez;obtain⟨ga,ac⟩:=χ (w.heap.size+3);(try unfold Bl at J);rw[ac]at J;simp only[show w.heap.size+1+1+1=ga from ac];have dA:=O ac;clear ac;obtain⟨-,f0,f1,f2,f3⟩:=J.p0;obtain⟨u,c1,c2,c3⟩:=J.p0.1;obtain⟨-,f4,f5,f6,f7⟩:=J.p1;obtain⟨c4,c5,c6,c7⟩:=J.p1.1;obtain⟨-,f8,f9,cq,cr⟩:=J.p2;obtain⟨c8,c9,ba,bc⟩:=J.p2.1;have J:=O J;refine jR (i:=5) (listed2:=τ 6 0) Z rfl Z (fun K hK=>?_);go_simp;refine hK.out _ _ ?_;clear hK K;refine lV Z ?_;clear f0 f1 f2 f3 f4 f5 f6 f7 f8 f9 cq cr u c1 c2 c3 c4 c5 c6 c7 c8 c9 ba bc;obtain rfl:=dA.o;change KeepsFrom _ _ (put12 w' (w.heap.size+3) ao ap ar)/\KeepC _ _ _ (put12 w' (w.heap.size+3) ao ap ar)/\_;have aw:=j9 w' (w.heap.size+3) ao ap ar;have bt:=bp.o.size;refine⟨(ee.o.trans (ck ag.o)).trans (fT J.o aw),(d9.o.trans (KeepC.below ag.o bt)).trans (m7 (.inr rfl) (Nat.le_add_right _ 3) (bp.o.trans (ag.o.mono bt)).size aw),r2,ao,ap,ar,((b9.o.to ag.o).o12 I _ _ _),?_,J.o.s12 _ _ _,?_,?_,(b6.o.to ag.o).o12 I _ _ _,aX (bp.o.trans (ag.o.mono bt)) (Nat.le_add_right _ 3) _ _ _⟩
   ·rw[List.map_append,List.map_singleton,eC]
    exact(d5.o.below ag.o).put12 J.o _ _ _
   ·rw[List.map_append,List.map_singleton,fL]
    exact cn.o.put12 J.o _ _ _
   ·intro y hy
    rcases List.mem_append.mp hy with hy|hy
    ·exact ci.o y hy
    ·rw[List.mem_singleton.mp hy];exact HM.o
 case done =>
  rintro D xs w5 hD hS ⟨r5,C,E,F,cD,bu,U,af,-,L,G⟩ hK;rw[hS]at bu af;have HB:=O (a9.o (aD (qAt qs) rs) ρ (fun x hx=>hx)).1;have dx:=O (a9.o (aD (qAt qs) rs) ρ (fun x hx=>hx)).2.1;have cd:=O ((bd4.mul HB.o).inv.mono (show 10<=12 by omega));obtain⟨ca,em,bv,eg,b7,bV,dB⟩:=η7 cD (show ak w5 (.agg #[.bool r5.s,.slice r5.a r5.n r5.c,.bool r5.t,.slice r5.b r5.m r5.d]) (cK (aD (qAt qs) rs))from bu) U af L G hK;clear a7 a6 cD bu L G hK hS U af
  gi_wp2_with fail
  refine(wpIn_wide (n:=9)).2 ?_;refine eZ Sh4 9 55 (rest:=1) [isP 0 (fun v w=>ak w v (1:Rat)),isP 1 (fun v w=>ak w v (4:Rat)),isV 2 (.agg #[.bool r5.s,.slice r5.a r5.n r5.c,.bool r5.t,.slice r5.b r5.m r5.d]),isP 3 (fun v w=>ak w v (4*cK (aD (qAt qs) rs))),isP 4 (fun v w=>∃r:RC,v=.tuple #[.agg #[.bool r.s,.slice r.a r.n r.c,.bool r.t,.slice r.b r.m r.d],.int .i64 0]/\ak w r.agg (1 / (4*cK (aD (qAt qs) rs)))),isP 5 (fun v w=>∃r:RC,v=.tuple #[.agg #[.bool r.s,.slice r.a r.n r.c,.bool r.t,.slice r.b r.m r.d],.int .i64 0]/\ak w r.agg (1 / (4*cK (aD (qAt qs) rs)))),isP 6 (fun v w=>∃r:RC,v=.agg #[.bool r.s,.slice r.a r.n r.c,.bool r.t,.slice r.b r.m r.d]/\ak w r.agg (1 / (4*cK (aD (qAt qs) rs)))),isV 7 (.int .i64 0),isP 8 (eY Sh4 w5.heap.size 55),isS 8 w5.heap.size 55 (fun cs w=>∃r,cs=aE r/\ak w r.agg (1 / (4*cK (aD (qAt qs) rs))))] [8] ?A8 (τ 10 1) Z [0,1,2,3,4,5,6,7,8,9] Z Z Z Z Z Z ?st ?st2 ?hA ?hop ?hend
  case hA=>exact cZ
  case st=>(iterate 2 refine aq.cons (isP.stab (fun _ _ _ h Y=>Y.below h)) ?_);refine aq.cons isV.stab ?_;refine aq.cons (isP.stab (fun _ _ _ h Y=>Y.below h)) ?_;(iterate 3 refine aq.cons (isP.stab (fun _ _ _ h ⟨r,e,hr⟩=>⟨r,e,hr.below h⟩)) ?_);refine aq.cons isV.stab ?_;refine aq.cons (isP.stab eY.stab) ?_;refine aq.cons (isS.stab (fun _ _ _ h ⟨r,e,hr⟩=>⟨r,e,hr.below h⟩)) ?_;exact aq.nil
  case st2=>(iterate 2 refine aY.cons (isP.stabW (dh ν)) ?_);refine aY.cons isV.stabW ?_;refine aY.cons (isP.stabW (dh ν)) ?_;(iterate 3 refine aY.cons (isP.stabW (fun _ _ _ h ⟨r,e,hr⟩=>⟨r,e,dh ν _ _ _ h hr⟩)) ?_);refine aY.cons isV.stabW ?_;refine aY.cons (isP.stabW eY.stabW) ?_;refine aY.cons (isN.stabW (i:=0)) ?_;exact aY.nil
  case hop =>
   refine ai.cons rfl (fun y w' hS hD K hK=>?_) ?_
   ·as_aux_lemma =>
    go_simp;refine(dc 1 w' I I).mono ?_
    rintro e R ⟨⟨v,rfl,Y⟩,hb⟩;exact hK.out v R (ae hS hb ρ) (bB.old hb) (isP.put Y) δ
   refine ai.cons rfl (fun y w' hS hD K hK=>?_) ?_
   ·as_aux_lemma =>
    go_simp;refine(dc 4 w' I I).mono ?_
    rintro e R ⟨⟨v,rfl,Y⟩,hb⟩;exact hK.out v R (ae hS hb ρ) (bB.old hb) (isP.put Y) δ
   refine ai.cons rfl (fun y w' hS hD K hK=>?_) ?_
   ·as_aux_lemma =>
    obtain⟨u,c1,c2,c3⟩:=(ca.o.to hS).at1.1;go_simp;exact hK.out _ w' hS (bB.old β) isV.put δ
   refine ai.cons rfl (fun y w' hS hD K hK=>?_) ?_
   ·simp only[isV.get (hD 2 Z)]at hK⊢
    as_aux_lemma =>
    have e1:=isP.get (hD 1 Z);go_simp;refine(dE _ _ 4 (cK (aD (qAt qs) rs)) 2 8 w' e1 (em.o.below hS) bd4 HB.o I).mono ?_;rintro e R ⟨⟨v,rfl,Y⟩,hb⟩;exact hK.out v R (ae hS hb ρ) (bB.old hb) (isP.put Y) δ
   refine ai.cons rfl (fun y w' hS hD K hK=>?_) ?_
   ·as_aux_lemma =>
    have e0:=isP.get (hD 0 Z);have e3:=isP.get (hD 3 Z);go_simp;refine(kr _ _ 1 (4*cK (aD (qAt qs) rs)) 2 10 w' e0 e3 bd1 (bd4.mul HB.o) I d0.o).mono ?_;rintro e R ⟨⟨v,rfl,Y⟩,hb⟩;obtain⟨r,rfl,hr⟩:=Y.rcv;exact hK.out _ R (ae hS hb ρ) (bB.old hb) (isP.put ⟨r,rfl,hr⟩) δ
   refine ai.cons rfl (fun y w' hS hD K hK=>?_) ?_
   ·as_aux_lemma =>
    have e4:=isP.get (hD 4 Z);obtain⟨r,eq,hr⟩:=e4;simp only[eq]at hK⊢;go_simp;exact hK.out _ w' hS (bB.old β) (isP.put ⟨r,rfl,hr⟩) δ
   refine ai.cons rfl (fun y w' hS hD K hK=>?_) ?_
   ·as_aux_lemma =>
    have e5:=isP.get (hD 5 Z);obtain⟨r,eq,hr⟩:=e5;simp only[eq]at hK⊢;go_simp;exact hK.out _ w' hS (bB.old β) (isP.put ⟨r,rfl,hr⟩) δ
   refine ai.cons rfl (fun y w' hS hD K hK=>?_) ?_
   ·as_aux_lemma =>
    have e5:=isP.get (hD 5 Z);obtain⟨r,eq,hr⟩:=e5;simp only[eq]at hK⊢;go_simp;exact hK.out _ w' hS (bB.old β) isV.put δ
   refine ai.cons rfl (fun y w' hS hD K hK=>?_) ?_
   ·as_aux_lemma =>
    go_simp;exact hK.out _ _ (hS.alloc hS.size _) (bB.old (β.alloc ρ _)) (isP.put ⟨_,_,rfl,hS.size,sh4 RC.zero,Box.new _ _ _ _ rfl⟩) (fun _ j hj eB _=>absurd (List.mem_singleton.1 hj) eB)
   refine ai.cons rfl (fun y w' hS hD K hK=>?_) ?_
   ·as_aux_lemma =>
    have e6:=isP.get (hD 6 Z);have eb:=isP.get (hD 8 Z);obtain⟨ga,_,ea,ac,⟨s0,rfl⟩,az⟩:=eb;obtain⟨r,er,hr⟩:=e6;simp only[er,ea]at hK⊢;obtain⟨-,f0,f1,f2,f3⟩:=az.at1;obtain⟨u,c1,c2,c3⟩:=az.at1.1;go_simp;exact hK.out undef (put4 w' ga 0 r) (bj hS ac _ _) (bB.new (Wr.put4 ac az _)) (isS.put ν ea ac (az.s4 _) ⟨r,rfl,hr.put4 az.at1 r⟩) δ
   exact ai.nil
  case hend =>
   intro y w' hS hR hF;have e7:=isV.get (hR 7 Z);simp only[e7];obtain⟨go,_,eo,fc,en,ro,rfl,eD⟩:=isS.get (i:=8) (n:=w5.heap.size) (t:=55) (p:=fun cs w=>∃r,cs=aE r/\ak w r.agg (1 / (4*cK (aD (qAt qs) rs)))) (hR 9 Z);simp only[eo];refine aL (i:=10) (listed2:=τ 11 0) Z rfl Z (fun K hK=>?_);go_simp;refine hK.out _ _ ?_;clear hK K;refine aP Z ?_;obtain⟨b8,bm,ei,d6,b0⟩:=η5 (b7.o.to hS) (bv.o.to hS) (eg.o.below hS) eD (bV.o.trans (hS.mono bV.o.size));have cv:w.heap.size<=D:=by have:=cp.o;have:=cm.o;omega
   obtain⟨dz,ec⟩:=η2 cv ((ck (B:=0) hS).same D _ (Nat.zero_le _) dB.o rfl);obtain⟨u,c1,c2,c3⟩:=en.at1.1;obtain⟨⟨x0,x1,x2,x3⟩,-⟩:=bm.o.p0;obtain⟨⟨x4,x5,x6,x7⟩,-⟩:=bm.o.p1;obtain⟨⟨x8,x9,e2,e8⟩,-⟩:=bm.o.p2;clear hS hR hF cv
   go_wp2_with fail
   gi_wp2_with fail
   refine⟨trivial,?_⟩;refine(callsIn_wide.2 (dq _ _ _ _ 12 8 w' ei.o d6.o cd.o dx.o I)).mono ?_;rintro e w9 ⟨⟨v9,rfl,C,E,F,rfl,a3,a4,a5⟩,bf⟩;obtain⟨aa,ej,ds,ed⟩:=η4 (b8.o.to bf) (show am w9 (.agg (ah C E F)) (qscale (1 / (4*cK (aD (qAt qs) rs))) (dC (aD (qAt qs) rs)))from⟨C,E,F,rfl,a3,a4,a5⟩) (b0.o.trans (bf.mono b0.o.size)) ((ck (B:=0) bf).same D _ (Nat.zero_le _) ec.o rfl);clear bf a3 a4 a5;clear x0 x1 x2 x3 x4 x5 x6 x7 x8 x9 e2 e8;unfold ah;obtain⟨-,f0,f1,f2,f3⟩:=aa.o.p0;obtain⟨u,c1,c2,c3⟩:=aa.o.p0.1;obtain⟨-,f4,f5,f6,f7⟩:=aa.o.p1;obtain⟨c4,c5,c6,c7⟩:=aa.o.p1.1;obtain⟨-,f8,f9,cq,cr⟩:=aa.o.p2;obtain⟨c8,c9,ba,bc⟩:=aa.o.p2.1
   gi_wp2_with fail
   change bodyPostM _ _ _ _ _ _ _ (put12 w9 (w.heap.size+1) C E F);have cy:(put12 w9 (w.heap.size+1) C E F).heap[D]?=some (.deferred (some [])):=(fT aa.o (j9 w9 (w.heap.size+1) C E F)).same (B:=0) D _ (Nat.zero_le _) ed.o rfl;have br:KeepC w.heap.size (fun _=>False) (put12 w9 (w.heap.size+1) C E F) ((put12 w9 (w.heap.size+1) C E F).putObj D (.deferred none)):=KeepC.putObj _ _ dz.o cy rfl;have ev:=(aa.o.s12 C E F).keepC br (fun h=>h);refine⟨by simp,.inl ⟨_,_,rfl,run_takeDeferred cy,?_⟩⟩;refine⟨_,results_cell_row results28 _ _ (w.heap.size+1) _ _ _ _ rfl ev underlying57 rfl aZ,?_,?_⟩
   ·exact⟨_,rfl,(ej.o.put12 aa.o C E F).keepC br (ew.none _)⟩
   ·exact(aX ds.o (Nat.le_add_right _ 1) C E F).trans br.bel
end
end Go.Proofs.Υ
