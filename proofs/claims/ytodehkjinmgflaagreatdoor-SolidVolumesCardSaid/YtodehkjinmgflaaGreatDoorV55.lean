/- Lemmas. -/
import Derived.Test.YtodehkjinmgflaaGreatDoorV46
import Derived.Test.YtodehkjinmgflaaGreatDoorV54
set_option linter.all false
set_option maxHeartbeats 0
set_option maxRecDepth 99999
namespace Go.Proofs.Υ
open Go Go.RowKit Tryz
theorem parts_at{e:List ShD}{k:Nat}{d:ShD}(h:e[k]?=some d):(bW e)[k]?=some (d.six / 6,d.cen):=by unfold bW;rw[List.getElem?_map,h];rfl
theorem scale_cen{e:List ShD}(h:0<dL e):qscale (dL e) (qP e)=dC (bW e):=by
 have h0:dL e*(((1:Int):Rat) / dL e)=1:=by
  have:=Rat.ne_of_gt h
  grind
 unfold qP qscale;simp only[<-Rat.mul_assoc,h0,Rat.one_mul]
theorem gL.six_pos{b:Blk}{d:ShD}(h:gL b d):0<d.six:=by
 have hF:=h.shf 1 ν;obtain⟨fs,E,es,rfl,hR,u⟩:=h;have e:=(lg b).valid;exact hR.sum_pos e fun f j i hi=>by
  have:=(hF.ring f.r (List.mem_map_of_mem j)).2.2 i hi
  simpa[ShD.of,cR]using this
theorem psum_pos{q:Nat->Rat}:∀n,(∀i,i<n->0<q i)->0<=psum q n/\(0<n->0<psum q n)
 | 0,_=>⟨Rat.le_refl,fun h=>absurd h I⟩
 | n+1,h=>by
  have j:=(psum_pos n fun i hi=>h i I).1;have u:=h n I;have e:0<psum q n+q n:=by grind
  exact⟨Rat.le_of_lt e,fun _=>e⟩
theorem volL_pos{e:List ShD}(h:∀d∈e,0<d.six)(h0:0<e.length):0<dL e:=by
 refine(psum_pos e.length fun i hi=>?_).2 h0;have j:(gV e).getD i 0=(e[i]).six / 6:=by unfold gV;rw[List.getD_eq_getElem?_getD,List.getElem?_map,List.getElem?_eq_getElem hi];rfl
 rw[j];have:=h _ (List.getElem_mem hi)
 grind
theorem infoPlaV:(prog.info? 31).map (·.size)=some 8:=by kernel_rfl
theorem mT(ap:∀v,Tab v->jh v->Calls prog 7 #[] v fun e w'=>e=.returned (.bool true)/\Bl v w')(D:Nat)(a:Option Addr)(len a4:Nat)(B:Nat->Blk)(T N:Nat->Int)(E:Nat)(w:World)(hT:Tab w)(hV:jh w)(hD:D<256)(av:len<=9223372036854775807)(hB:Blks w a len a4 B)(h1:fN T/\fN N/\E<256):
 Calls prog 5 #[.agg #[.int .u8 (D:Nat),.slice a len a4],.agg (ly T N E)] w fun e w'=>e=.returned (.bool true)/\Bl w w':=by
 obtain⟨W,hW,b1,b2,be,hS⟩:=bU w #[.int .u8 (D:Nat),.slice a len a4] (ly T N E) 24 31;obtain⟨cD,et,B1,B2,HT,HV,cp,HD,ez⟩:=η9 ap be b1 b2 (hT.below be hT.1) (hV.below be) (hB.below be ρ) hD av;have H1:=O h1;clear ap hT hV hD av hB h1 b1 b2 be hS
 go_enter func5,ntmps5
 go_wp2_with fail
 refine(cD.o _ HT.o HV.o).mono ?_;rintro e Y ⟨rfl,an⟩;obtain⟨K1,C1,C2,c4,e4,cq,HQ,c3⟩:=η8 an (B1.o.to an) (B2.o.to an) (HT.o.below an HT.o.1) (HV.o.below an) (cp.o.below an ρ) (turnT_prim T) (partL_ok len B);obtain⟨C,d8⟩:∃n:Nat,1+D % 9=n:=⟨_,rfl⟩;have a8:=O (show 1<=C/\C<=9 by omega);have eT:=O (fun(w':World) (h:Bl Y w')=>(show Calls prog 9 #[.agg #[.int .u8 (D:Nat),.slice a len a4]] w' fun e A=>(∃v bc,e=.returned (.agg #[.string ⟨#[112,97,114,116]⟩,.int .i64 (C:Nat),v])/\CelR A w'.heap.size v bc ((eJ len B).map Blk.pts))/\Bl w' A from by rw[<-d8];exact part_any a len a4 D B w' (cq.o.below h ρ) HD.o ez.o));clear an hW cD HT HV cp B1 B2 d8
 go_upto_region 3 with fail
 refine eZ Sh2 9 36 (rest:=1) [isV 0 (.agg #[.int .u8 (D:Nat),.slice a len a4]),isP 1 (oJ Y.heap.size ⟨#[112,97,114,116]⟩ (C:Nat) ((eJ len B).map Blk.pts)),isV 2 (.agg (ly T N E)),isV 3 (.agg (plc (bP (dt T)) (eK N E))),isP 4 (jl (C:Nat) Y.heap.size (cS (bP (dt T)) (eK N E)) (eJ len B)),isP 5 (jl (C:Nat) Y.heap.size (cS (bP (dt T)) (eK N E)) (eJ len B)),isP 6 (mM (C:Nat) Y.heap.size (cS (bP (dt T)) (eK N E)) (eJ len B)),isV 7 (.int .i64 0),isP 8 (eY Sh2 Y.heap.size 36),isS 8 Y.heap.size 36 (tY (C:Nat) Y.heap.size (cS (bP (dt T)) (eK N E)) (eJ len B))] [8] ?A1 (τ 10 1) Z [0,1,2,3,4,5,6,7,8,9] Z Z Z Z Z Z ?st ?st2 ?hA ?hop ?hend
 case hA=>exact cZ
 case st=>repeat (first|exact aq.nil|refine aq.cons isV.stab ?_|refine aq.cons (isP.stab eY.stab) ?_|refine aq.cons (isP.stab jl.stab) ?_|refine aq.cons (isP.stab mM.stab) ?_|refine aq.cons (isP.stab oJ.stab) ?_|refine aq.cons (isS.stab tY.stab) ?_)
 case st2=>repeat (first|exact aY.nil|refine aY.cons isV.stabW ?_|refine aY.cons (isN.stabW (i:=0)) ?_|refine aY.cons (isP.stabW eY.stabW) ?_|refine aY.cons (isP.stabW (jl.stabW ns)) ?_|refine aY.cons (isP.stabW (mM.stabW ns)) ?_|refine aY.cons (isP.stabW (oJ.stabW ν ν)) ?_)
 case hop =>
  refine ai.cons rfl (fun y w' hS hD K hK=>?_) ?_
  ·obtain⟨c0,c1,-⟩:=(C1.o.to hS).two
   go_simp;exact hK.out _ w' hS (bB.old β) isV.put δ
  refine ai.cons rfl (fun y w' hS hD K hK=>?_) ?_
  ·simp only[isV.get (hD 0 Z)]at hK⊢
   go_simp;refine(eT.o w' hS).mono ?_
   rintro e A ⟨⟨v,bc,rfl,hc⟩,hb⟩;obtain⟨pa,pn,pc,rfl⟩:=dV hc.own;exact hK.out _ A (ae hS hb ρ) (bB.old hb) (isP.put ⟨pa,pn,pc,bc,rfl,hc.down hS.size⟩) δ
  refine ai.cons rfl (fun y w' hS hD K hK=>?_) ?_
  ·refine bJ ?_
   refine aV 31 _ rfl (w.heap.size+1) 0 rfl (ly T N E) _ (fun j hj=>(C2.o.to hS).whole j hj) underlying31 rfl infoPlaV ?_;exact hK.out _ w' hS (bB.old β) isV.put δ
  refine ai.cons rfl (fun y w' hS hD K hK=>?_) ?_
  ·simp only[isV.get (hD 2 Z)]at hK⊢
   go_simp;refine(rq T N E w' H1.o.1 H1.o.2.1 H1.o.2.2).mono ?_
   rintro e A ⟨rfl,hb⟩;exact hK.out _ A (ae hS hb ρ) (bB.old hb) isV.put δ
  refine ai.cons rfl (fun y w' hS hD K hK=>?_) ?_
  ·obtain⟨pa,pn,pc,bc,eq,hc⟩:=isP.get (p:=oJ Y.heap.size ⟨#[112,97,114,116]⟩ (C:Nat) ((eJ len B).map Blk.pts)) (hD 1 Z)
   simp only[eq]at hK⊢;simp only[isV.get (hD 3 Z)]at hK⊢;go_simp;refine(sof_any _ C _ bc (eJ len B) _ _ (1+E % 6) 128 Y.heap.size w' ⟨by have:=a8.o;omega,by have:=a8.o;omega⟩ c3.o hc (c4.o.below hS c4.o.1) (e4.o.below hS) HQ.o (shiftT_half H1.o.2.1 E) ⟨by omega,by omega⟩ (nS H1.o.2.1 E) I).mono ?_;rintro e A ⟨⟨v,vs,ds,rfl,hl,hr⟩,hb⟩;exact hK.out _ A (ae hS hb ρ) (bB.old hb) (isP.put ⟨_,rfl,vs,ds,hl.down hS.size,hr⟩) δ
  refine ai.cons rfl (fun y w' hS hD K hK=>?_) ?_
  ·obtain⟨v,eq,hr⟩:=isP.get (p:=jl (C:Nat) Y.heap.size (cS (bP (dt T)) (eK N E)) (eJ len B)) (hD 4 Z)
   simp only[eq]at hK⊢;go_simp;exact hK.out _ w' hS (bB.old β) (isP.put ⟨v,rfl,hr⟩) δ
  refine ai.cons rfl (fun y w' hS hD K hK=>?_) ?_
  ·obtain⟨v,eq,hr⟩:=isP.get (p:=jl (C:Nat) Y.heap.size (cS (bP (dt T)) (eK N E)) (eJ len B)) (hD 5 Z)
   simp only[eq]at hK⊢;go_simp;exact hK.out _ w' hS (bB.old β) (isP.put ⟨v,rfl,hr⟩) δ
  refine ai.cons rfl (fun y w' hS hD K hK=>?_) ?_
  ·obtain⟨v,eq,hr⟩:=isP.get (p:=jl (C:Nat) Y.heap.size (cS (bP (dt T)) (eK N E)) (eJ len B)) (hD 5 Z)
   simp only[eq]at hK⊢;go_simp;exact hK.out _ w' hS (bB.old β) isV.put δ
  refine ai.cons rfl (fun y w' hS hD K hK=>?_) ?_
  ·go_simp
   exact hK.out _ _ (hS.alloc hS.size _) (bB.old (β.alloc ρ _)) (isP.put ⟨_,_,rfl,hS.size,⟨_,_,rfl⟩,Box.new _ _ _ _ rfl⟩) (fun _ j hj fv _=>absurd (List.mem_singleton.1 hj) fv)
  refine ai.cons rfl (fun y w' hS hD K hK=>?_) ?_
  ·obtain⟨v,eq,hr⟩:=isP.get (p:=mM (C:Nat) Y.heap.size (cS (bP (dt T)) (eK N E)) (eJ len B)) (hD 6 Z)
   obtain⟨ga,_,ea,bu,⟨_,_,rfl⟩,bl⟩:=isP.get (i:=8) (p:=eY Sh2 Y.heap.size 36) (hD 8 Z);simp only[eq,ea]at hK⊢;obtain⟨a,n,k,rfl⟩:=hr.sl;refine bJ ?_;refine wp_store_row 36 _ _ rfl ga #[.int .i64 (C:Nat),.slice a n k] rfl rfl 36 _ bl mx rfl (by simp[Value.oneCell']) ?_;exact hK.out undef _ (hS.grown (bq w' ga _) hS.size (fun g e=>by cases e;exact bu)) (bB.new (Wr.row bu bl ⟨_,_,rfl⟩)) (isS.put ν ea bu (cT bl _) ⟨_,rfl,hr.wr ns (Wr.row (Sh:=Sh2) bu bl ⟨_,_,rfl⟩)⟩) δ
  exact ai.nil
 case hend =>
  intro y w' hS hR hF;have e7:=isV.get (i:=7) (c:=.int .i64 0) (hR 7 Z);simp only[e7];obtain⟨gs,_,dA,ao,dx,vs,rfl,ej⟩:=isS.get (i:=8) (n:=Y.heap.size) (t:=36) (p:=tY (C:Nat) Y.heap.size (cS (bP (dt T)) (eK N E)) (eJ len B)) (hR 9 Z);simp only[dA];refine aL (i:=10) (listed2:=τ 11 0) Z rfl Z (fun K hK=>?_);go_simp;refine hK.out _ _ ?_;clear hK K;refine aP Z ?_;obtain⟨gi,F,L,rfl⟩:=ej.sl;obtain⟨vs,ds,bI,aw⟩:=ej;have SB:=O dx;obtain⟨m1,bF⟩:∃m,cS (bP (dt T)) (eK N E)=m:=ξ;have av:=aw.len;have f3:=c3.o.len;have HN:=O (show 0<(ds.map (ShD.move m1)).length/\(ds.map (ShD.move m1)).length<=1000 by rw[List.length_map];omega);have bg:=O (show ∀d∈ds.map (ShD.move m1),ShF d (sqn (bP (dt T))*(1+E % 6)) 200000 231928233984 from fun d hd=>by
   obtain⟨d0,h0,rfl⟩:=List.mem_map.1 hd;obtain⟨b,hb⟩:=aw.mem h0;rw[<-bF];exact fst_shf hb HQ.o H1.o.2.1)
  have cV:=O (show ∀d∈ds.map (ShD.move m1),0<d.six from fun d hd=>by
   obtain⟨d0,h0,rfl⟩:=List.mem_map.1 hd;obtain⟨b,hb⟩:=aw.mem h0;rw[iY (by rw[<-bF];exact mot_rot HQ.o _) (hb.shf 1 ν)];exact hb.six_pos)
  obtain⟨c2,ca⟩:=η2 (fun d hd=>Rat.ne_of_gt (cV.o d hd)) (volL_pos cV.o HN.o.1);have a6:=O (show sqn (bP (dt T))*(1+E % 6)<=16777216 by have:=den_le HQ.o E;omega);obtain⟨w5,rfl⟩:=φ w';rw[bF]at bI;generalize ds.map (ShD.move m1)=G at *;have b8:=O bI;have a9:=O (show mJ G (sqn (bP (dt T))*(1+E % 6)) 200000 231928233984 from⟨HN.o,bg.o,a6.o,by omega⟩);obtain⟨sb,f7,s0,ev,-,-⟩:=bI.at_ 0 (G[0]'HN.o.1) (List.getElem?_eq_getElem _);obtain⟨NN,ch⟩:∃n,G.length=n:=ξ;have gb:0<NN:=by have:=HN.o;omega
  have em:=O (ae et.o (ae K1.o hS ρ) ρ);rw[ch]at ev;injection ev with ea en ec
  subst ea;subst en;subst ec;have ab:=O ch;have hz:=fun w=>(show(Instr.build 57 #[]).run prog w=.ok (.agg #[.bool false,.slice none 0 0,.bool false,.slice none 0 0,.bool false,.slice none 0 0,.bool false,.slice none 0 0,.bool false,.slice none 0 0,.bool false,.slice none 0 0]) w from by kernel_rfl)
  clear hS hR hF e7 dA dx bI aw ao av f3 bF ch
  go_wp2_with fail
  refine(dc 0 w5 I I).mono ?_;rintro e H ⟨⟨u6,rfl,eg⟩,dB⟩;obtain⟨r0,rfl,ee⟩:=eg.rcv;have e0:=O (show ak H r0.agg 0 from by simpa using ee);have L6:=O dB;clear eg ee dB
  go_upto_region 7 with(first
   | refine wpList_store_row rfl 55 _ _ rfl H.heap.size (aE r0) rfl rfl 55 _ (new_box1 ..) bD rfl (fZ r0) ?_
   | refine wpList_store_row rfl 57 _ _ rfl (H.heap.size+1) (ah RC.zero RC.zero RC.zero) rfl rfl 57 _ (new_box2 ..) aZ rfl (bC ..) ?_)
  obtain⟨w7,ek,bv,bm,bp⟩:=new_two H #[.bool false,.slice none 0 0,.bool false,.slice none 0 0] #[.bool false,.slice none 0 0,.bool false,.slice none 0 0,.bool false,.slice none 0 0,.bool false,.slice none 0 0,.bool false,.slice none 0 0,.bool false,.slice none 0 0] 55 57 (aE r0) (ah RC.zero RC.zero RC.zero);rw[ek];obtain⟨vk,ar⟩:∃f:Nat->Rat,psum (fun i=>(gV G).getD i 0)=f:=⟨_,rfl⟩;obtain⟨mk,aa⟩:∃f:Nat->Q3,(fun k=>dC ((bW G).take k))=f:=⟨_,rfl⟩;have e3:=O (show vk 0=0 from by rw[<-ar];rfl);have eB:=O (show mk 0=⟨0,0,0⟩ from by rw[<-aa];rfl);have fa:=O (show ∀k d,G[k]?=some d->vk (k+1)=vk k+d.six / 6 from fun k d hd=>by
   rw[<-ar];show psum _ k+(gV G).getD k 0=_
   congr 1
   unfold gV;rw[List.getD_eq_getElem?_getD,List.getElem?_map,hd]
   rfl)
  have b6:=O (show ∀k d,G[k]?=some d->mk (k+1)=qadd (mk k) (qscale (d.six / 6) d.cen)from fun k d hd=>by
   rw[<-aa];show dC ((bW G).take (k+1))=_;rw[List.take_add_one,show(bW G)[k]?=some (d.six / 6,d.cen)from by unfold bW;rw[List.getElem?_map,hd];rfl];exact fL _ _)
  have cs:=O (show ∀k,k<=F->Bd 21001 (vk k)from fun k hk=>by
   rw[<-ar];exact(Bd.psum (fun i hi=>o8 b8.o a9.o i (ψ ab.o))).mono (by have:=ab.o;have:=HN.o;omega))
  have b7:=O (parts_bd b8.o a9.o);have cr:=O (show ∀k,k<=F->BdV 39001 (mk k)from fun k hk=>by
   rw[<-aa];exact(pH _ (fun x hx=>b7.o x (List.mem_of_mem_take hx))).mono (by rw[List.length_take];have:=ab.o;have:=HN.o;omega))
  have c5:=O (show vk F=dL G from by rw[<-ar];unfold dL;rw[ab.o]);have cU:=O (show mk F=dC (bW G)from by rw[<-aa];show dC ((bW G).take F)=_;rw[List.take_of_length_le (by unfold bW;rw[List.length_map,ab.o];omega)]);have R7:=O (show ak w7 r0.agg (vk 0)from by rw[e3.o];exact e0.o.below bp);have M7:=O (show am w7 (.agg (ah RC.zero RC.zero RC.zero)) (mk 0)from by rw[eB.o];exact am.zero w7);obtain⟨BV,BM,L7,cd,cg⟩:=η5 bv bm (ae L6.o bp ρ) (SB.o.to L6.o) (b8.o.below L6.o);have ao:gs<H.heap.size:=cd.o.lt;obtain⟨cy,ep⟩:=η2 ao bp;clear ek bv bm bp ar aa ao
  go_wp2_with fail
  go_loopw [9] (fun iv wr=>∃(k:Nat) (r:RC) (m0 au m2:RC),k<=F/\iv=.int .i64 (k:Nat)/\Hid (Box wr H.heap.size (aE r) 55/\ak wr r.agg (vk k))/\Hid (Box wr (H.heap.size+1) (ah m0 au m2) 57/\am wr (.agg (ah m0 au m2)) (mk k))/\Hid (Bl H wr)) (fun iv _=>F-(intOf iv).toNat)
  case atStart=>exact⟨0,r0,RC.zero,RC.zero,RC.zero,Nat.zero_le _,rfl,⟨BV.o,R7.o⟩,⟨BM.o,M7.o⟩,ep.o⟩
  case round =>
   clear R7 M7 BV BM;obtain⟨k,r,m0,au,m2,hk,rfl,ac,Q,ay⟩:=hrel;obtain⟨U,rfl⟩:=φ wr;obtain⟨ce,f8⟩:=η2 (cd.o.below ay.o cy.o) (cg.o.below ay.o);obtain⟨c0,c1,-⟩:=ce.o.two;by_cases ap:k=F
   ·have gc:¬ (k:Int)<(F:Int):=I
    rw[ap,c5.o]at ac;rw[ap,cU.o]at Q;have f5:C<=9:=a8.o.2;clear ap
    go_upto_region 14 with(refine aA rfl _ _ _ rfl _ #[.int .i64 (C:Nat),.slice (some ⟨sb,0,none⟩) F L] rfl rfl mx rfl (by simp[Value.oneCell']) ?_)
    obtain⟨a5,b3,bt,d5,-⟩:=aB U #[.int .i64 (C:Nat),.slice (some ⟨sb,0,none⟩) F L] 36;rw[b3];have t0:=bt.cell 0;have f0:=bt.free 0;have kw:IntKind.i64.wrap ((C:Int)+1)=(C:Int)+1:=IntWalk.i64_in _ I;obtain⟨BT,az⟩:=η2 bt d5;clear b3 bt d5 c0 c1
    go_upto_region 15 with fail
    have hw:Wr (fun _=>True) 0 36 a5 (a5.setCell ⟨U.heap.size,0,none⟩ (.int .i64 ((C:Int)+1))):=⟨_,_,_,Nat.zero_le _,BT.o,trivial,BT.o.set 0 _,bE a5 U.heap.size 0 _⟩;have ao:gs<U.heap.size:=ce.o.lt;have eb:H.heap.size<U.heap.size:=ac.o.1.lt;have d9:H.heap.size+1<U.heap.size:=Q.o.1.lt;have du:=O (show Box (a5.setCell ⟨U.heap.size,0,none⟩ (.int .i64 ((C:Int)+1))) U.heap.size #[.int .i64 ((C:Int)+1),.slice (some ⟨sb,0,none⟩) F L] 36 from BT.o.set 0 _);have J:=O ((ce.o.below az.o ao).other (p:=⟨U.heap.size,0,none⟩) (show gs≠U.heap.size by omega) (.int .i64 ((C:Int)+1)));have a3:=O ((ac.o.1.below az.o eb).other (p:=⟨U.heap.size,0,none⟩) (show H.heap.size≠U.heap.size by omega) (.int .i64 ((C:Int)+1)));have c8:=O ((Q.o.1.below az.o d9).other (p:=⟨U.heap.size,0,none⟩) (show H.heap.size+1≠U.heap.size by omega) (.int .i64 ((C:Int)+1)));obtain⟨ba,db⟩:=η2 (dh ν _ _ _ hw (ac.o.2.below az.o)) (isVec_stabW ν _ _ _ hw (Q.o.2.below az.o));have c7:=O (show Bl H (a5.setCell ⟨U.heap.size,0,none⟩ (.int .i64 ((C:Int)+1)))from(ae ay.o az.o ρ).setCell (p:=⟨U.heap.size,0,none⟩) (show H.heap.size<=U.heap.size by omega) _);have R:=O (cg.o.below c7.o);have af:=O (show Bd 21001 (dL G)from by rw[<-c5.o];exact cs.o F ρ);have b5:=O (show BdV 39001 (dC (bW G))from by rw[<-cU.o];exact cr.o F ρ);obtain⟨ex,e2⟩:=η2 (show dr (((C:Nat):Int)*dL G:Rat) (dL G*(((C:Nat):Int):Rat))=0 from fm.mpr (Rat.mul_comm _ _)) (show qscale (dL G) (qP G)=dC (bW G)from scale_cen ca.o);have eu:=O (show BdV 60100 (qP G)from(BdV.qscale (Bd.div (Bd.int 1 (by unfold Υ.B;omega)) af.o (Rat.ne_of_gt ca.o)) b5.o).mono I);have b4:=O (show Bd 2 (((C:Nat):Int):Rat)from Bd.int _ (by unfold Υ.B;omega));have d6:(((C:Nat):Int) == ((C:Nat):Int))=true:=beq_self_eq_true _;have d7:(((C:Nat):Int) == ((C:Nat):Int)+1)=false:=beq_eq_false_iff_ne.mpr I;have cu:=O (And.intro d6 d7);clear hw ao eb d9 t0 f0 kw d6 d7;generalize a5.setCell ⟨U.heap.size,0,none⟩ (.int .i64 ((C:Int)+1))=gn at *;refine aU (rest:=1) [isV 0 (.agg #[.int .i64 (C:Nat),.slice (some ⟨sb,0,none⟩) F L]),isP 1 (fun u w=>ak w u (dL G)),isV 2 (.agg (aE r)),isV 3 (.int .i64 0),isV 4 (.bool true),isV 5 (.bool true),isV 6 (.agg #[.int .i64 (C:Nat),.slice (some ⟨sb,0,none⟩) F L]),isP 7 (fun u w=>ak w u ((((C:Nat):Int):Rat)*dL G)),isV 8 (.agg (aE r)),isV 9 (.pointer (some ⟨gs,0,none⟩)),isV 10 (.int .i64 (C:Nat)),isP 11 (fun u w=>ak w u ((((C:Nat):Int):Rat))),isP 12 (fun u w=>ak w u (dL G*(((C:Nat):Int):Rat))),isV 13 (.int .i64 0),isV 14 (.bool true),isV 15 (.bool true),isV 16 (.bool true),isV 17 (.agg #[.int .i64 (C:Nat),.slice (some ⟨sb,0,none⟩) F L]),isP 18 (fun u w=>am w u (qP G)),isV 19 (.agg (aE r)),isP 20 (fun u w=>am w u (dC (bW G))),isV 21 (.agg (ah m0 au m2)),isV 22 (.bool true),isV 23 (.bool true),isV 24 (.bool true),isV 25 (.agg #[.int .i64 (C:Nat),.slice (some ⟨sb,0,none⟩) F L]),isV 26 (.agg #[.int .i64 (C:Nat),.slice (some ⟨sb,0,none⟩) F L]),isV 27 (.bool true),isV 28 (.bool true),isV 29 (.bool true),isV 30 (.agg #[.int .i64 (C:Nat),.slice (some ⟨sb,0,none⟩) F L]),isV 31 (.agg #[.int .i64 ((C:Int)+1),.slice (some ⟨sb,0,none⟩) F L]),isV 32 (.bool false),isV 33 (.bool true),isV 34 (.bool true)] [] ?A2 (τ 35 1) Z [0,1,2,3,4,5,6,7,8,9,10,11,12,13,14,15,16,17,18,19,20,21,22,23,24,25,26,27,28,29,30,31,32,33,34] Z Z Z Z Z Z ?st ?hA ?hop ?hend
    case hA=>exact cZ
    case st=>repeat (first|exact aq.nil|refine aq.cons isV.stab ?_|refine aq.cons (isP.stab (fun _ _ _ h X=>X.below h)) ?_)
    case hop =>
     refine ai.cons rfl (fun y w' hS hD K hK=>?_) ?_
     ·obtain⟨c0,c1,-⟩:=(J.o.to hS).two
      go_simp;exact hK.out _ w' hS β isV.put δ
     refine ai.cons rfl (fun y w' hS hD K hK=>?_) ?_
     ·simp only[isV.get (hD 0 Z)]at hK⊢
      go_simp;refine(l8 (C:Nat) _ vs G _ _ _ Y.heap.size w' (R.o.below hS) a9.o).mono ?_
      rintro e A ⟨⟨v,rfl,X⟩,hb⟩;exact hK.out v A (ae hS hb ρ) hb (isP.put X) δ
     refine ai.cons rfl (fun y w' hS hD K hK=>?_) ?_
     ·refine bJ ?_
      refine aV 55 _ rfl H.heap.size 0 rfl (aE r) _ (fun j hj=>(a3.o.to hS).whole j hj) underlying55 rfl bD ?_;exact hK.out _ w' hS β isV.put δ
     refine ai.cons rfl (fun y w' hS hD K hK=>?_) ?_
     ·have e1:=isP.get (p:=fun u w=>ak w u (dL G)) (hD 1 Z)
      simp only[isV.get (hD 2 Z)]at hK⊢;go_simp;refine(cj _ (.agg (aE r)) (dL G) (dL G) 21001 21001 w' e1 (ba.o.below hS) af.o af.o I).mono ?_;rintro e A ⟨rfl,hb⟩;rw[fm.mpr (rfl:dL G=dL G)];exact hK.out _ A (ae hS hb ρ) hb isV.put δ
     refine ai.cons rfl (fun y w' hS hD K hK=>?_) ?_
     ·simp only[isV.get (hD 3 Z)]at hK⊢
      go_simp;exact hK.out _ w' hS β isV.put δ
     refine ai.cons rfl (fun y w' hS hD K hK=>?_) ?_
     ·simp only[isV.get (hD 4 Z)]at hK⊢
      go_simp;exact hK.out _ w' hS β isV.put δ
     refine ai.cons rfl (fun y w' hS hD K hK=>?_) ?_
     ·obtain⟨c0,c1,-⟩:=(J.o.to hS).two
      simp only[isV.get (hD 5 Z)]at hK⊢;go_simp;exact hK.out _ w' hS β isV.put δ
     refine ai.cons rfl (fun y w' hS hD K hK=>?_) ?_
     ·simp only[isV.get (hD 5 Z),isV.get (hD 6 Z)]at hK⊢
      go_simp;refine(rU (C:Nat) _ vs G _ _ _ Y.heap.size w' ⟨by omega,by have:=a8.o;omega⟩ (R.o.below hS) a9.o).mono ?_
      rintro e A ⟨⟨v,rfl,X⟩,hb⟩;exact hK.out v A (ae hS hb ρ) hb (isP.put X) δ
     refine ai.cons rfl (fun y w' hS hD K hK=>?_) ?_
     ·simp only[isV.get (hD 5 Z)]at hK⊢
      refine bJ ?_;refine aV 55 _ rfl H.heap.size 0 rfl (aE r) _ (fun j hj=>(a3.o.to hS).whole j hj) underlying55 rfl bD ?_;exact hK.out _ w' hS β isV.put δ
     refine ai.cons rfl (fun y w' hS hD K hK=>?_) ?_
     ·simp only[isV.get (hD 5 Z)]at hK⊢
      go_simp;exact hK.out _ w' hS β isV.put δ
     refine ai.cons rfl (fun y w' hS hD K hK=>?_) ?_
     ·obtain⟨c0,c1,-⟩:=(J.o.to hS).two
      simp only[isV.get (hD 5 Z),isV.get (hD 9 Z)]at hK⊢;go_simp;exact hK.out _ w' hS β isV.put δ
     refine ai.cons rfl (fun y w' hS hD K hK=>?_) ?_
     ·simp only[isV.get (hD 5 Z),isV.get (hD 10 Z)]at hK⊢
      go_simp;refine(dc ((C:Nat):Int) w' I (ψ a8.o)).mono ?_
      rintro e A ⟨⟨v,rfl,X⟩,hb⟩;exact hK.out v A (ae hS hb ρ) hb (isP.put X) δ
     refine ai.cons rfl (fun y w' hS hD K hK=>?_) ?_
     ·have fn:=isP.get (p:=fun u w=>ak w u ((((C:Nat):Int):Rat))) (hD 11 Z)
      simp only[isV.get (hD 5 Z),isV.get (hD 8 Z)]at hK⊢;go_simp;refine(dE (.agg (aE r)) _ (dL G) (((C:Nat):Int):Rat) 21001 2 w' (ba.o.below hS) fn af.o b4.o I).mono ?_;rintro e A ⟨⟨v,rfl,X⟩,hb⟩;exact hK.out v A (ae hS hb ρ) hb (isP.put X) δ
     refine ai.cons rfl (fun y w' hS hD K hK=>?_) ?_
     ·have e7:=isP.get (p:=fun u w=>ak w u ((((C:Nat):Int):Rat)*dL G)) (hD 7 Z)
      have fo:=isP.get (p:=fun u w=>ak w u (dL G*(((C:Nat):Int):Rat))) (hD 12 Z);simp only[isV.get (hD 5 Z)]at hK⊢;go_simp;refine(cj _ _ ((((C:Nat):Int):Rat)*dL G) (dL G*(((C:Nat):Int):Rat)) 21010 21010 w' e7 fo ((Bd.mul b4.o af.o).mono I) ((Bd.mul af.o b4.o).mono I) I).mono ?_;rintro e A ⟨rfl,hb⟩;rw[ex.o];exact hK.out _ A (ae hS hb ρ) hb isV.put δ
     refine ai.cons rfl (fun y w' hS hD K hK=>?_) ?_
     ·simp only[isV.get (hD 5 Z),isV.get (hD 13 Z)]at hK⊢
      go_simp;exact hK.out _ w' hS β isV.put δ
     refine ai.cons rfl (fun y w' hS hD K hK=>?_) ?_
     ·simp only[isV.get (hD 5 Z),isV.get (hD 14 Z)]at hK⊢
      go_simp;exact hK.out _ w' hS β isV.put δ
     refine ai.cons rfl (fun y w' hS hD K hK=>?_) ?_
     ·simp only[isV.get (hD 15 Z)]at hK⊢
      go_simp;exact hK.out _ w' hS β isV.put δ
     refine ai.cons rfl (fun y w' hS hD K hK=>?_) ?_
     ·obtain⟨c0,c1,-⟩:=(J.o.to hS).two
      simp only[isV.get (hD 16 Z)]at hK⊢;go_simp;exact hK.out _ w' hS β isV.put δ
     refine ai.cons rfl (fun y w' hS hD K hK=>?_) ?_
     ·simp only[isV.get (hD 16 Z),isV.get (hD 17 Z)]at hK⊢
      go_simp;refine(sCen_any (C:Nat) _ vs G _ _ _ Y.heap.size w' (R.o.below hS) a9.o c2.o (Rat.ne_of_gt ca.o)).mono ?_
      rintro e A ⟨⟨v,rfl,X⟩,hb⟩;exact hK.out v A (ae hS hb ρ) hb (isP.put X) δ
     refine ai.cons rfl (fun y w' hS hD K hK=>?_) ?_
     ·simp only[isV.get (hD 16 Z)]at hK⊢
      refine bJ ?_;refine aV 55 _ rfl H.heap.size 0 rfl (aE r) _ (fun j hj=>(a3.o.to hS).whole j hj) underlying55 rfl bD ?_;exact hK.out _ w' hS β isV.put δ
     refine ai.cons rfl (fun y w' hS hD K hK=>?_) ?_
     ·have fq:=isP.get (p:=fun u w=>am w u (qP G)) (hD 18 Z)
      simp only[isV.get (hD 16 Z),isV.get (hD 19 Z)]at hK⊢;go_simp;refine(dq _ (.agg (aE r)) (qP G) (dL G) 21001 60100 w' fq (ba.o.below hS) af.o eu.o I).mono ?_;rintro e A ⟨⟨v,rfl,X⟩,hb⟩;have cm:am A v (dC (bW G)):=by rw[<-e2.o];exact X
      exact hK.out v A (ae hS hb ρ) hb (isP.put cm) δ
     refine ai.cons rfl (fun y w' hS hD K hK=>?_) ?_
     ·simp only[isV.get (hD 16 Z)]at hK⊢
      refine bJ ?_;refine aV 57 _ rfl (H.heap.size+1) 0 rfl (ah m0 au m2) _ (fun j hj=>(c8.o.to hS).whole j hj) underlying57 rfl aZ ?_;exact hK.out _ w' hS β isV.put δ
     refine ai.cons rfl (fun y w' hS hD K hK=>?_) ?_
     ·have fr:=isP.get (p:=fun u w=>am w u (dC (bW G))) (hD 20 Z)
      simp only[isV.get (hD 16 Z),isV.get (hD 21 Z)]at hK⊢;go_simp;refine(lN _ _ (dC (bW G)) (dC (bW G)) 39001 39001 w' fr (db.o.below hS) b5.o b5.o I).mono ?_;rintro e A ⟨⟨z,rfl,hz⟩,hb⟩;obtain rfl:z=true:=hz.mpr rfl;exact hK.out _ A (ae hS hb ρ) hb isV.put δ
     refine ai.cons rfl (fun y w' hS hD K hK=>?_) ?_
     ·simp only[isV.get (hD 16 Z),isV.get (hD 22 Z)]at hK⊢
      go_simp;exact hK.out _ w' hS β isV.put δ
     refine ai.cons rfl (fun y w' hS hD K hK=>?_) ?_
     ·simp only[isV.get (hD 23 Z)]at hK⊢
      go_simp;exact hK.out _ w' hS β isV.put δ
     refine ai.cons rfl (fun y w' hS hD K hK=>?_) ?_
     ·obtain⟨c0,c1,-⟩:=(J.o.to hS).two
      simp only[isV.get (hD 24 Z)]at hK⊢;go_simp;exact hK.out _ w' hS β isV.put δ
     refine ai.cons rfl (fun y w' hS hD K hK=>?_) ?_
     ·obtain⟨c0,c1,-⟩:=(J.o.to hS).two
      simp only[isV.get (hD 24 Z)]at hK⊢;go_simp;exact hK.out _ w' hS β isV.put δ
     refine ai.cons rfl (fun y w' hS hD K hK=>?_) ?_
     ·simp only[isV.get (hD 24 Z),isV.get (hD 25 Z),isV.get (hD 26 Z)]at hK⊢
      go_simp;refine(seq_any (C:Nat) (C:Nat) _ _ vs vs G _ _ _ _ _ w' (R.o.below hS) (R.o.below hS) HN.o bg.o (ψ a6.o) I I).mono ?_
      rintro e A ⟨rfl,hb⟩;rw[cu.o.1];exact hK.out _ A (ae hS hb ρ) hb isV.put δ
     refine ai.cons rfl (fun y w' hS hD K hK=>?_) ?_
     ·simp only[isV.get (hD 24 Z),isV.get (hD 27 Z)]at hK⊢
      go_simp;exact hK.out _ w' hS β isV.put δ
     refine ai.cons rfl (fun y w' hS hD K hK=>?_) ?_
     ·simp only[isV.get (hD 28 Z)]at hK⊢
      go_simp;exact hK.out _ w' hS β isV.put δ
     refine ai.cons rfl (fun y w' hS hD K hK=>?_) ?_
     ·obtain⟨c0,c1,-⟩:=(J.o.to hS).two
      simp only[isV.get (hD 29 Z)]at hK⊢;go_simp;exact hK.out _ w' hS β isV.put δ
     refine ai.cons rfl (fun y w' hS hD K hK=>?_) ?_
     ·obtain⟨c0,c1,-⟩:=(du.o.to hS).two
      simp only[isV.get (hD 29 Z)]at hK⊢;go_simp;exact hK.out _ w' hS β isV.put δ
     refine ai.cons rfl (fun y w' hS hD K hK=>?_) ?_
     ·simp only[isV.get (hD 29 Z),isV.get (hD 30 Z),isV.get (hD 31 Z)]at hK⊢
      go_simp;refine(seq_any (C:Nat) ((C:Int)+1) _ _ vs vs G _ _ _ _ _ w' (R.o.below hS) (R.o.below hS) HN.o bg.o (ψ a6.o) I I).mono ?_
      rintro e A ⟨rfl,hb⟩;rw[cu.o.2];exact hK.out _ A (ae hS hb ρ) hb isV.put δ
     refine ai.cons rfl (fun y w' hS hD K hK=>?_) ?_
     ·simp only[isV.get (hD 29 Z),isV.get (hD 32 Z)]at hK⊢
      go_simp;exact hK.out _ w' hS β isV.put δ
     refine ai.cons rfl (fun y w' hS hD K hK=>?_) ?_
     ·simp only[isV.get (hD 29 Z),isV.get (hD 33 Z)]at hK⊢
      go_simp;exact hK.out _ w' hS β isV.put δ
     exact ai.nil
    case hend =>
     intro y w' hS hR hF;have dy:=isV.get (i:=34) (c:=.bool true) (hR 34 Z);simp only[dy];refine aL (i:=35) (listed2:=τ 36 0) Z rfl Z (fun K hK=>?_);go_simp;refine hK.out _ _ ?_;clear hK K;refine aP Z ?_;have fb:=O (ae c7.o hS ρ);clear dy hS hR hF
     go_wp2_with fail
     exact bodyPost_ret (results_tmp results5 _ _ _) rfl ⟨rfl,ae em.o (ae L6.o fb.o ρ) ρ⟩
   ·have f9:(k:Int)<(F:Int):=I
    have f6:F<=1000:=by have:=ab.o;have:=HN.o;omega
    have ed:k<F:=I;obtain⟨d,hd⟩:∃d,G[k]?=some d:=⟨_,List.getElem?_eq_getElem (ψ ab.o)⟩;obtain⟨b',c',sk,e5,br,ar,aa,bs⟩:=cg.o.at_ k d hd;rw[ab.o]at e5;obtain⟨⟨q0,l0,z0,f0⟩,⟨q1,l1,z1,f1⟩,q2,l2,z2,f2⟩:=aa.forms;obtain⟨rfl,rfl⟩:sb=b'/\L=c':=by
     injection e5 with h1 _ h3
     injection h1 with h1
     injection h1 with h1
     exact⟨h1,h3⟩
    obtain⟨gd,ge,gf⟩:=sk;simp only at f0 f1 f2;subst f0;subst f1;subst f2;have c6:Hid (∀w',Bl H w'->Γ3 w' sb (k*3) (.slice q0 l0 z0) sb (k*3+1) (.slice q1 l1 z1) sb (k*3+2) (.slice q2 l2 z2)):=O fun w' h =>
     ⟨(h.cell (p:=⟨sb,k*3,none⟩) br).trans (bs 0 I),(h.cell (p:=⟨sb,k*3+1,none⟩) br).trans (bs 1 I),(h.cell (p:=⟨sb,k*3+2,none⟩) br).trans (bs 2 I)⟩
    obtain⟨y0,y1,y2⟩:=c6.o U ay.o;obtain⟨cB,cF,a7,cv⟩:=η4 ed aa hd (bg.o d (List.mem_of_getElem? hd));clear bs aa ar e5 hd br ed ap
    go_wp2_with fail
    refine(mS ⟨.slice q0 l0 z0,.slice q1 l1 z1,.slice q2 l2 z2⟩ d _ _ _ U (cF.o.below ay.o) cv.o a6.o I).mono ?_;rintro e w8 ⟨⟨u8,rfl,ei⟩,d4⟩;obtain⟨r8,rfl,ef⟩:=ei.rcv;obtain⟨D8,K8⟩:=η2 ef d4;clear ei ef d4 c0 c1 y0 y1 y2
    go_upto_region 11 with(refine aA rfl _ _ _ rfl _ (aE r8) rfl rfl bD rfl (fZ r8) ?_)
    obtain⟨w9,el,b9,ci,-⟩:=aB w8 (aE r8) 55;rw[el];have K9:=O (ae K8.o ci ρ);obtain⟨V9,D9,T9,ey⟩:=η4 (And.intro (ac.o.1.to K9.o) (ac.o.2.below K9.o)) (D8.o.below ci) b9 (show H.heap.size+1<w8.heap.size from Nat.lt_of_lt_of_le Q.o.1.lt K8.o.size);clear el b9 ci
    go_wp2_with (first
     | refine aj rfl _ _ rfl H.heap.size 0 rfl (aE r) _ (fun j hj=>V9.o.1.whole j hj) underlying55 rfl bD ?_
     | refine aj rfl _ _ rfl w8.heap.size 0 rfl (aE r8) _ (fun j hj=>T9.o.whole j hj) underlying55 rfl bD ?_)
    refine(gM (.agg (aE r)) (.agg (aE r8)) (vk k) (d.six / 6) 21001 20 w9 V9.o.2 D9.o (cs.o k hk) (b7.o _ (List.mem_of_getElem? (parts_at a7.o))).1 I).mono ?_;rintro e f4 ⟨⟨u10,rfl,b0⟩,ad⟩;obtain⟨ra,rfl,cl⟩:=b0.rcv;rw[<-fa.o k d a7.o]at cl;obtain⟨cc,ag,dk,cn,RA⟩:=η5 (ae K9.o ad ρ) (V9.o.1.to ad) (T9.o.to ad) (D9.o.below ad) cl;clear b0 cl ad
    go_upto_region 12 with(refine wpList_store_row rfl 55 _ _ rfl H.heap.size (aE ra) rfl rfl 55 _ ag.o bD rfl (fZ ra) ?_)
    rw[<-put4_row1 ag.o ra];have bV:=Q.o.1.to cc.o;obtain⟨dv,dd,bk,c9,dl,er,bf⟩:=η7 (ag.o.s4 ra) (RA.o.put4 ag.o.at1 ra) (bV.oput4 (g':=H.heap.size) I 0 ra) ((Q.o.2.below cc.o).put4 ag.o.at1 ra) (dk.o.oput4 (g':=H.heap.size) (ψ ey.o) 0 ra) (cn.o.put4 ag.o.at1 ra) (bj (ae ay.o cc.o ρ) ρ 0 ra);clear bV ac Q V9 T9 D8 D9 ag dk cn RA;generalize put4 f4 H.heap.size 0 ra=gl at *;obtain⟨bi,Q,b6,eD⟩:=η4 (b7.o _ (List.mem_of_getElem? (parts_at a7.o))) (cr.o k hk) (b6.o k d a7.o) (c2.o d (List.mem_of_getElem? a7.o));refine aU (rest:=1) [isV 0 (.agg (ah m0 au m2)),isV 1 (.pointer (some ⟨gs,1,none⟩)),isV 2 (.slice (some ⟨sb,0,none⟩) F L),isV 3 (.int .i64 (k:Nat)),isV 4 (.pointer (some ⟨sb,k*3,none⟩)),isV 5 (.agg #[.slice q0 l0 z0,.slice q1 l1 z1,.slice q2 l2 z2]),isP 6 (fun u w=>am w u d.cen),isV 7 (.agg (aE r8)),isP 8 (fun u w=>am w u (qscale (d.six / 6) d.cen)),isP 9 (fun u w=>am w u (mk (k+1)))] [] ?A3 (τ 10 1) Z [0,1,2,3,4,5,6,7,8,9] Z Z Z Z Z Z ?st ?hA ?hop ?hend
    case hA=>exact cZ
    case st=>repeat (first|exact aq.nil|refine aq.cons isV.stab ?_|refine aq.cons (isP.stab (fun _ _ _ h X=>X.below h)) ?_)
    case hop =>
     refine ai.cons rfl (fun y w' hS hD K hK=>?_) ?_
     ·refine bJ ?_
      refine aV 57 _ rfl (H.heap.size+1) 0 rfl (ah m0 au m2) _ (fun j hj=>(bk.o.to hS).whole j hj) underlying57 rfl aZ ?_;exact hK.out _ w' hS β isV.put δ
     refine ai.cons rfl (fun y w' hS hD K hK=>?_) ?_
     ·go_simp
      exact hK.out _ w' hS β isV.put δ
     refine ai.cons rfl (fun y w' hS hD K hK=>?_) ?_
     ·obtain⟨c0,c1,-⟩:=(cd.o.below (ae bf.o hS ρ) cy.o).two
      simp only[isV.get (hD 1 Z)]at hK⊢;go_simp;exact hK.out _ w' hS β isV.put δ
     refine ai.cons rfl (fun y w' hS hD K hK=>?_) ?_
     ·go_simp
      exact hK.out _ w' hS β isV.put δ
     refine ai.cons rfl (fun y w' hS hD K hK=>?_) ?_
     ·simp only[isV.get (hD 2 Z),isV.get (hD 3 Z)]at hK⊢
      go_simp;exact hK.out _ w' hS β isV.put δ
     refine ai.cons rfl (fun y w' hS hD K hK=>?_) ?_
     ·obtain⟨y0,y1,y2⟩:=c6.o w' (ae bf.o hS ρ)
      simp only[isV.get (hD 4 Z)]at hK⊢;go_simp;exact hK.out _ w' hS β isV.put δ
     refine ai.cons rfl (fun y w' hS hD K hK=>?_) ?_
     ·simp only[isV.get (hD 5 Z)]at hK⊢
      go_simp;refine(sU ⟨.slice q0 l0 z0,.slice q1 l1 z1,.slice q2 l2 z2⟩ d _ _ _ w' (cF.o.below (ae bf.o hS ρ)) cv.o a6.o I eD.o).mono ?_
      rintro e A ⟨⟨v,rfl,X⟩,hb⟩;exact hK.out v A (ae hS hb ρ) hb (isP.put X) δ
     refine ai.cons rfl (fun y w' hS hD K hK=>?_) ?_
     ·refine bJ ?_
      refine aV 55 _ rfl w8.heap.size 0 rfl (aE r8) _ (fun j hj=>(dl.o.to hS).whole j hj) underlying55 rfl bD ?_;exact hK.out _ w' hS β isV.put δ
     refine ai.cons rfl (fun y w' hS hD K hK=>?_) ?_
     ·have e6:=isP.get (p:=fun u w=>am w u d.cen) (hD 6 Z)
      simp only[isV.get (hD 7 Z)]at hK⊢;go_simp;refine(dq _ (.agg (aE r8)) d.cen (d.six / 6) 20 18 w' e6 (er.o.below hS) bi.o.1 bi.o.2 I).mono ?_;rintro e A ⟨⟨v,rfl,X⟩,hb⟩;exact hK.out v A (ae hS hb ρ) hb (isP.put X) δ
     refine ai.cons rfl (fun y w' hS hD K hK=>?_) ?_
     ·have e8:=isP.get (p:=fun u w=>am w u (qscale (d.six / 6) d.cen)) (hD 8 Z)
      simp only[isV.get (hD 0 Z)]at hK⊢;go_simp;refine(iz _ _ (mk k) (qscale (d.six / 6) d.cen) 39001 38 w' (c9.o.below hS) e8 Q.o (BdV.qscale bi.o.1 bi.o.2) I).mono ?_;rintro e A ⟨⟨v,rfl,X⟩,hb⟩;have cm:am A v (mk (k+1)):=by rw[b6.o];exact X
      exact hK.out v A (ae hS hb ρ) hb (isP.put cm) δ
     exact ai.nil
    case hend =>
     intro y w' hS hR hF;obtain⟨a0,a1,a2,e9,h9⟩:=(isP.get (i:=9) (p:=fun u w=>am w u (mk (k+1))) (hR 9 Z)).rcv;simp only[e9];have bz:=bk.o.to hS;refine aL (i:=10) (listed2:=τ 11 0) Z rfl Z (fun K hK=>?_);refine bJ ?_;refine wp_store_row 57 _ _ rfl (H.heap.size+1) (ah a0 a1 a2) rfl rfl 57 _ bz aZ rfl (bC ..) ?_;rw[<-fh bz a0 a1 a2];refine hK.out _ _ ?_;clear hK K;refine aP Z ?_;obtain⟨fl,de,fc,da,eo⟩:=η5 ((dv.o.to hS).o12 (g':=H.heap.size+1) I a0 a1 a2) ((dd.o.below hS).put12 bz a0 a1 a2) (bz.s12 a0 a1 a2) (h9.put12 bz a0 a1 a2) (aX (ae bf.o hS ρ) (Nat.le_succ _) a0 a1 a2);clear bz h9 e9 hS hR hF;generalize put12 w' (H.heap.size+1) a0 a1 a2=gm at *
     go_wp2_with fail
     go_round
     case rel=>exact⟨k+1,ra,a0,a1,a2,cB.o,rfl,⟨fl.o,de.o⟩,⟨fc.o,da.o⟩,eo.o⟩
     case measure=>exact μ (ψ cB.o)
end Go.Proofs.Υ
