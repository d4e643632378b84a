/- Lemmas. -/
import Derived.Test.YtodehkjinmgflaaGreatDoorV44
import Derived.Test.YtodehkjinmgflaaGreatDoorV28
set_option linter.all false
set_option maxHeartbeats 0
set_option maxRecDepth 99999
namespace Go.Proofs.Υ
open Go Go.RowKit Tryz
theorem ox{P:Nat->V}{len:Nat}:(List.range len).any (fun k=>far (P k))=true↔∃i,i<len/\far (P i)=true:=by
 rw[List.any_eq_true];exact⟨fun⟨i,hi,h⟩=>⟨i,List.mem_range.mp hi,h⟩,fun⟨i,hi,h⟩=>⟨i,List.mem_range.mpr hi,h⟩⟩
theorem bit_eq{E:Nat}(k:Nat)(A:E<18446744073709551616):(bits .and .u64 ((E:Int) / 2 ^ k) 1 == 1)=E.testBit k:=by
 have e:((E:Int) / 2 ^ k)=((E >>> k:Nat):Int):=by
  rw[Nat.shiftRight_eq_div_pow]
  push_cast
  rfl
 have j:E >>> k<18446744073709551616:=Nat.lt_of_le_of_lt (by rw[Nat.shiftRight_eq_div_pow];exact Nat.div_le_self _ _) A;have i:bits .and .u64 ((E >>> k:Nat):Int) 1=((E >>> k &&& 1:Nat):Int):=by
  rw[<-u64_and_nat _ _ j ν];rfl
 rw[e,i];unfold Nat.testBit;rw[Nat.and_comm 1,Nat.and_one_is_mod];have u:E >>> k % 2<2:=Nat.mod_lt _ I;generalize E >>> k % 2=r at u;have:r=0\/r=1:=I
 rcases this with rfl|rfl<;>rfl
theorem tA{w:World}{base M:Nat}{a:Option Addr}{c:Nat}{l:List V}(h:bM w base (.slice a M c) l)(i:l.length<=M/\M<=l.length):w.ownsRow base 77 3 (.slice a M c) M (l.flatMap v3):=by
 have e:l.length=M:=I;have:=h;unfold bM bL at this
 rwa [e]at this
theorem map_ofL{P:Nat->V}{len i:Nat}(hi:i<len):ofL ((List.range len).map P) i=P i:=by
 unfold ofL;rw[List.getD_eq_getElem?_getD,List.getElem?_map,List.getElem?_range hi];rfl
section
open Classical
theorem sS(a:Option Addr)(len ap:Nat)(P:Nat->V)(w:World)(hT:Tab w)(hP:Pts w a len ap P)(R:len<=4611686018427387904):
 Calls prog 85 #[.slice a len ap] w fun e w'=>jI P len w.heap.size w' e/\Bl w w':=by
 obtain⟨W,hW,b1,hB,hS⟩:=aB w #[.slice none 0 0] 102;obtain⟨i0,cd,c1,c2,c3⟩:=info_parts infoVz;obtain⟨z0,z1⟩:=b1.one;obtain⟨HT,HP,B1,HB,HS⟩:=η5 (hT.below hB hT.1) (hP.below hB) b1 hB hS;obtain⟨C,az⟩:=χ (j8 P len);obtain⟨A,Q,Y,HZ⟩:=η4 az (show ∀(wr:World),Bl W wr->Bl w (wr.setCell ⟨w.heap.size,0,none⟩ (.slice none 0 0))from fun wr h=>(ae hB h I).setCell (p:=⟨w.heap.size,0,none⟩) ρ _) (show ∀(wr:World) (u:Value),Bl W wr->Box (wr.setCell ⟨w.heap.size,0,none⟩ u) w.heap.size #[u] 102 from fun wr u h=>(b1.to h).set 0 u) (show ∀(wr:World),Bl W wr->wr.cell? ⟨w.heap.size,0,none⟩=some (.slice none 0 0)/\wr.frozen? ⟨w.heap.size,0,none⟩=false from fun wr h=>(b1.to h).one);clear hP hB hS b1 az hT;by_cases h64:64<len
 ·have e:C=6:=by rw[<-A.o];unfold j8;rw[if_pos h64]
  subst e;have b0:(64:Int)<(len:Int):=I
  go_enter func85,ntmps85
  go_wp2;exact bS results85 (w.heap.size) (Y.o W _ β) _ rfl underlying102 rfl jc rfl ⟨jI.err A.o ν,Q.o W β⟩
 have ch:len<=64:=I;have b0:¬ (64:Int)<(len:Int):=I;have HR:Hid ((if ∃i,i<len/\far (P i)=true then(2:Int)else if len=0\/¬ eA P len then 23 else if 16<(dJ P len).length then 6 else 0)=C):=by
  rw[<-A.o];unfold j8;rw[if_neg h64];exact rfl
 have eg:∀args w,(callFunc 126 args).run prog w=.ok (.enter 126 args) w:=enters_of func126 Z rfl;have cu:=O (jJ 126 #[] (fun k=>far (P k)) a len ap P W HP.o ch eg (fun w' _ k _=>oh (P k) w'));clear h64 eg
 go_enter func85,ntmps85
 go_wp2_with fail
 refine cu.o.mono ?_;rintro e w2 ⟨rfl,b5⟩;have H2:=O b5;clear b5 z0 z1;obtain⟨z0,z1⟩:=HZ.o w2 H2.o;cases hfar:(List.range len).any (fun k=>far (P k))
 case true =>
  have e:C=2:=by rw[<-HR.o,if_pos (ox.mp hfar)]
  subst e;clear hfar;go_wp2;exact bS results85 (w.heap.size) (Y.o w2 _ H2.o) _ rfl underlying102 rfl jc rfl ⟨jI.err A.o ν,Q.o w2 H2.o⟩
 case false =>
  have bc:¬ ∃i,i<len/\far (P i)=true:=fun h=>by rw[ox.mpr h]at hfar;cases hfar
  have bz:=O (show ∀q,q<len->mP (P q)from fun q hq=>(mA _).mp (by
   cases h:far (P q)
   ·rfl
   ·exact absurd ⟨q,hq,h⟩ bc))
  have a4:Hid ((if len=0\/¬ eA P len then(23:Int)else if 16<(dJ P len).length then 6 else 0)=C):=by
   rw[<-HR.o,if_neg bc];exact rfl
  clear bc hfar HR
  go_wp2_with fail
  refine(tR a len ap P w2 (HP.o.below H2.o) I).mono ?_;rintro e w3 ⟨⟨vq,rfl,cn⟩,b6⟩;have H3:=O (ae H2.o b6 ρ);have V3:=O (bL.down cn (by have:=H2.o.size;exact this));clear cn b6 z0 z1
  go_wp2_with fail
  refine(sortPts_any vq _ W.heap.size w3 V3.o (by simp;omega)).mono ?_;rintro e w4 ⟨rfl,⟨l',hp,hs,cp⟩,b7⟩;obtain⟨H4,bs,bm,V4⟩:=η4 (Below.trans H3.o b7) hp.length_eq (qK hp hs) cp;clear cp b7 hp hs
  go_wp2_with fail
  refine(qL vq l' W.heap.size w4 V4.o (by rw[bs.o];simp;omega)).mono ?_;rintro e w5 ⟨⟨v5,rfl,bg⟩,b8⟩;have H5:=O (Below.trans H4.o b8);have e5:Lib.compact l'=ff P len:=by
   rw[bm.o,List.length_map,List.length_range];exact sortV_congr fun i hi=>map_ofL hi
  rw[e5]at bg;have V5:=O bg;clear bg b8 e5 bm bs V4 V3;obtain⟨an,H,U,af⟩:=η4 (pL P len) (l6 bz.o) (show(ff P len).length<=len from mu _) (fun(hf:eA P len) (fs:List RF) (E:Nat) (h:RingsOk (ofL (ff P len)) (ff P len).length fs E)=>bitV_hull bz.o hf h);obtain⟨L,hL⟩:=χ (ff P len);rw[hL]at V5 an H U af;clear hL;obtain⟨la,lc,rfl,bf⟩:=bM.pts V5.o;obtain⟨N,hN⟩:=χ L.length;have HN:=O (show L.length<=N/\N<=L.length from⟨by omega,by omega⟩);rw[hN]at bf an H U af⊢;have bv:=O bf;clear hN bf
  go_wp2_with fail
  refine(sT la N lc (ofL L) w5 bv.o (ψ U.o) (fun i hi=>(H.o.near i hi).le)).mono ?_;rintro e w6 ⟨⟨fl,rfl,av⟩,a7⟩;obtain⟨H6,bu⟩:=η2 (ae H5.o a7 ρ) (bv.o.below a7);clear a7;obtain⟨z0,z1⟩:=HZ.o w6 H6.o;cases fl
  case true =>
   have e:C=23:=by rw[<-a4.o,if_pos (.inr fun h=>av.mp rfl (an.o.symm.full4 h))]
   subst e;clear av;go_wp2;exact bS results85 (w.heap.size) (Y.o w6 _ H6.o) _ rfl underlying102 rfl jc rfl ⟨jI.err A.o ν,Q.o w6 H6.o⟩
  case false =>
   have ac:eA (ofL L) N:=Classical.byContradiction fun hc=>absurd (av.mpr hc) ν
   have au:eA P len:=an.o.full4 ac;have HF:=O ac;have cg:len≠0:=fun e=>by
    subst e;obtain⟨i,j,k,m,hi,-⟩:=au;omega
   have a5:Hid ((if 16<(dJ P len).length then(6:Int)else 0)=C):=by
    rw[<-a4.o,if_neg (show ¬ (len=0\/¬ eA P len)from by
     rintro(h|h)
     ·exact cg h
     ·exact h au)];exact rfl
   have br:=O (fun fs E h=>af.o au fs E h);clear av au ac cg a4 af
   go_wp2_with fail
   refine(mV la N lc (ofL L) w6 (HT.o.below H6.o HT.o.1) bu.o (ψ U.o) (fun i hi=>(H.o.near i hi).le) H.o HF.o.full).mono ?_;rintro e w7 ⟨⟨pv,rv,fs,E,rfl,-,-,-,ad⟩,a8⟩;obtain⟨H7,cy,bl,c4⟩:=η4 (ae H6.o a8 ρ) (bu.o.below a8) (br.o fs E ad) (fun v=>ad.bit H.o HF.o.full v);have aw:=ad.bits.1;have R:=bitV_length (E:=E) (L:=L) (fun v hv=>by have:=((ad.bit H.o HF.o.full v).mp hv).1;have:=HN.o;omega) (by have:=HN.o;have:=U.o;omega);clear a8 ad br z0 z1;obtain⟨z0,z1⟩:=HZ.o w7 H7.o;have b3:L.length=N:=by have:=HN.o;omega
   rw[b3,bl.o]at R;clear b3;have F:=ones_any E w7 aw;rw[R]at F;obtain⟨K,hK⟩:=χ ((dJ P len).length);rw[hK]at F a5;have HK:=O (show(dJ P len).length<=K/\K<=(dJ P len).length from⟨by omega,by omega⟩);obtain⟨bF,bp⟩:=η2 F aw;clear F R hK
   go_wp2_with fail
   refine bF.o.mono ?_;rintro e J ⟨rfl,rfl⟩;by_cases a6:16<K
   ·have e:C=6:=by rw[<-a5.o,if_pos a6]
    subst e;have bV:(16:Int)<(K:Int):=I;go_wp2;exact bS results85 (w.heap.size) (Y.o J _ H7.o) _ rfl underlying102 rfl jc rfl ⟨jI.err A.o ν,Q.o J H7.o⟩
   have e:C=0:=by rw[<-a5.o,if_neg a6]
   subst e;have bV:¬ (16:Int)<(K:Int):=I
   go_upto_region 14 with fail
   obtain⟨w9,cq,b9,ca,cm⟩:=aB J #[.slice none 0 0] 102;rw[cq];obtain⟨B9,cs,c7⟩:=η3 b9 ca cm;have c5:N<=64:=by have:=U.o;omega
   clear b9 ca cm cq a6 z0 z1
   go_wp2_with fail
   go_loopw [39] (fun iv wr=>∃k,k<=N/\iv=.int .i64 (k:Nat)/\∃ov,Hid (Box wr J.heap.size #[ov] 102)/\Hid (bM wr J.heap.size ov (kj E L k))/\Hid (Bl J wr)) (fun iv _=>N-(intOf iv).toNat)
   case atStart=>exact⟨0,Nat.zero_le _,rfl,_,B9.o,bL.nil _ _ _ _ _,cs.o⟩
   case round =>
    obtain⟨k,hk,rfl,ov,G,HO,ab⟩:=hrel;obtain⟨wk,rfl⟩:=φ wr;have ao:=O (ae H7.o ab.o ρ);by_cases h0:k=N
    ·have c9:¬ (k:Int)<(N:Int):=I
     obtain⟨z0,z1⟩:=HZ.o wk ao.o;obtain⟨o0,-⟩:=G.o.one;have a1:=O (show bM wk J.heap.size ov (dJ P len)from by
      have e:k=N:=h0;rw[<-bl.o,<-e];exact HO.o)
     obtain⟨oa,oc,be,-,-,-⟩:=bL.form a1.o;subst be;obtain⟨M,hM⟩:=χ ((dJ P len).length);rw[hM]at a1 o0 G HO;clear hM;have cB:=O (a1.o.set (B1.o.to ao.o) ν 0 (.slice oa M oc));have cv:=O (show w.heap.size<=J.heap.size from by have:=H7.o.size;have:=HS.o;omega);clear h0;go_wp2;exact bS results85 (w.heap.size) (Y.o wk _ ao.o) _ rfl underlying102 rfl jc rfl ⟨⟨_,by rw[A.o];rfl,fun h=>absurd A.o h,fun _=>bL.down cB.o cv.o⟩,(ae HB.o ao.o (ψ HS.o)).setCell (p:=⟨w.heap.size,0,none⟩) ρ _⟩
    have ce:k<N:=I;have c8:(k:Int)<(N:Int):=I;have ag:=O ce;obtain⟨b,off,rfl,hb,-,cc⟩:=(cy.o.below ab.o).cells I;obtain⟨q0,q1,q2⟩:=cc k ce;obtain⟨p,hp⟩:=χ (ofL L k);rw[hp]at q0 q1 q2;obtain⟨cD,bi⟩:=η2 hp (bitV_succ (E:=E) (L:=L) (k:=k));obtain⟨oa,oc,be,-,-,-⟩:=bL.form HO.o;subst be;obtain⟨M,hM⟩:=χ ((kj E L k).length);have HM:=O (show M<=64/\(kj E L k).length<=M/\M<=(kj E L k).length from by
     have h1:(kj E L k).length<=k:=by unfold kj;rw[List.length_map];exact lh E k
     omega)
    rw[hM]at G HO;have cU:=bit_eq (E:=E) k bp.o;obtain⟨bt,a9⟩:=χ (E.testBit k);rw[a9]at cU;have bk:=O a9;obtain⟨o0,o1⟩:=G.o.one;clear cc hp h0 hM a9;cases bt
    case false =>
     go_wp2_with fail
     go_round
     case rel=>exact⟨k+1,ag.o,rfl,_,(G.o.to (β.alloc ρ _)),(by
      rw[bi.o,if_neg (by rw[bk.o];decide)];exact bL.below HO.o (β.alloc ρ _)),ab.o.alloc ab.o.size _⟩
     case measure=>exact μ (ψ ag.o)
    case true =>
     go_upto_region 17 with fail
     obtain⟨wx,cr,bx,ar,cV⟩:=aB wk #[.int .i64 p.x,.int .i64 p.y,.int .i64 p.z] 77;rw[cr];obtain⟨aa,a2,bI⟩:=η3 (G.o.to ar) (bL.below HO.o ar) (ae ab.o ar ρ);have ay:=bI.o.size;have X:=O ay;clear o0 o1 ay;obtain⟨o0,o1⟩:=aa.o.one;obtain⟨x0,x1,x2,-⟩:=bx.three;have c6:M<=64:=HM.o.1;clear cr ar cV bx q0 q1 q2
     go_wp2_with (at_builtin;refine cH _ rfl _ _ 100 rfl J.heap.size 77 i0 (.agg #[.int .i64 0,.int .i64 0,.int .i64 0]) 3 24 underlying100 cd c1 c2 c3 rfl ν _ _ _ rfl (World.ownsRow.alloc (tA a2.o HM.o.2) _) _ _ _ (v3 p) rfl (src_new wx (v3 p) _ 3 1 rfl) (v3_one1 p) (by unfold maxLen;omega) I (by have:=X.o;simp;omega) ?_)
     intro v2 wy cl ba;have ci:=aH (tA a2.o HM.o.2) aa.o ν;have a0:=O (show Box wy J.heap.size #[.slice oa M oc] 102 from Box.grown (aa.o.old _) ba ci);clear ci;have cF:=O (show Bl J wy from(bI.o.alloc X.o _).grown ba (by have:=X.o;simp;omega) (fun g e=>cz (tA a2.o HM.o.2) g e));have a3:=O (show bM wy J.heap.size v2 (kj E L (k+1))from by
      rw[bi.o,if_pos bk.o,cD.o];refine bL.app (n:=M+1) (by have:=HM.o;simp;omega) ?_;rw[List.flatMap_singleton];exact cl)
     obtain⟨va,vc,c0,-,-,-⟩:=bL.form a3.o;subst c0;obtain⟨M2,b4⟩:=χ ((kj E L (k+1)).length);rw[b4]at a3⊢;obtain⟨o0,o1⟩:=a0.o.one;clear cl ba x0 x1 x2 b4;go_wp2;go_round
     case rel=>exact⟨k+1,ag.o,rfl,.slice va M2 vc,a0.o.set 0 (.slice va M2 vc),bL.set a3.o a0.o ν 0 (.slice va M2 vc),cF.o.setCell (p:=⟨J.heap.size,0,none⟩) ρ _⟩
     case measure=>exact μ (ψ ag.o)
end
end Go.Proofs.Υ
