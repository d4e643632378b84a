/- CellLocates: whatever the input (the library's listed tables lie as the program's text lays them), the call returns true, and the input reads as it did: the tied card. -/
import Derived.Test.YtaibkpbklfodiaaGreatDoorV37
import Derived.Laws.Tables
import Derived.ProofKit
import Derived.Test.YtaibkpbklfodiaaGreatDoorCards
import Derived.Test.YtaibkpbklfodiaaGreatDoorTie
import Derived.SevenTiedAt
set_option linter.all false
section
namespace Dowel
open Go Go.RowKit
theorem FRow.open17 {w:World} {base:Nat} {pa:Option Addr} {N cap:Nat} {qs:List (Q3 × Rat)} {rs:List FR} (h:FRow w base (.slice pa N cap) qs rs) (hv:∀ r ∈ rs,∃ a n c,r.v=.slice a n c) (i:Nat) (hi:i<rs.length) :
  ∃ (b:Nat) (n0 n1 n2 ro:RC) (fa:Option Addr) (fl fc:Nat) (f:Q3 × Rat),pa=some ⟨b,0,none⟩∧b<w.heap.size∧qs[i]?=some f∧IsVec w (.agg (cells3 n0 n1 n2)) f.1∧IsRat w ro.agg f.2∧∀ j,j<17→w.cell? ⟨b,i*17+j,none⟩=(cells17 n0 n1 n2 ro fa fl fc)[j]? := by
 obtain ⟨b,cap',r,e,hb,hr,hc⟩:=h.at_ i hi
 obtain ⟨f,hf⟩:∃ f,qs[i]?=some f:=⟨_,List.getElem?_eq_getElem (by rw [← h.len];exact hi)⟩
 obtain ⟨h1,h2⟩:=h.vec i r f hr hf
 obtain ⟨fa,fl,fc,hfv⟩:=hv r (List.mem_of_getElem? hr)
 cases e
 obtain ⟨⟨n0,n1,n2⟩,ro,fv⟩:=r
 simp only at hfv
 subst hfv
 exact ⟨b,n0,n1,n2,ro,fa,fl,fc,f,rfl,hb,hf,h1,h2,fun j hj=>(hc j hj).trans (Array.getElem?_toList (xs:=cells17 n0 n1 n2 ro fa fl fc))⟩
def locR (fs:List (Q3 × Rat)) (p:Q3):Int:=if fs.any (fun f=>decide (f.2<qdot f.1 p)) then -1 else if fs.any (fun f=>decide (qdot f.1 p=f.2)) then 0 else 1
def LocI (fs:List (Q3 × Rat)) (p:Q3) (i:Nat) (z:Int):Prop:=(∀ j f,j<i→fs[j]?=some f→¬ f.2<qdot f.1 p)∧((z=0∧∃ j f,j<i∧fs[j]?=some f∧qdot f.1 p=f.2)∨(z=1∧∀ j f,j<i→fs[j]?=some f→qdot f.1 p≠f.2))
variable {fs : List (Q3 × Rat)} {p : Q3} {i : Nat} {z : Int} {f : Q3 × Rat}
theorem LocI.start:LocI fs p 0 1:=⟨fun j f h=>by omega,.inr ⟨rfl,fun j f h=>by omega⟩⟩
theorem LocI.on (h:LocI fs p i z) (hf:fs[i]?=some f) (h1:¬ f.2<qdot f.1 p) (h2:qdot f.1 p=f.2):LocI fs p (i+1) 0:=
 ⟨fun j g hj hg=>by
  by_cases e:j=i
  ·subst e;rw [hf] at hg;cases hg;exact h1
  ·exact h.1 j g (by omega) hg,.inl ⟨rfl,i,f,by omega,hf,h2⟩⟩
theorem LocI.off (h:LocI fs p i z) (hf:fs[i]?=some f) (h1:¬ f.2<qdot f.1 p) (h2:¬ qdot f.1 p=f.2):LocI fs p (i+1) z:=
 ⟨fun j g hj hg=>by
  by_cases e:j=i
  ·subst e;rw [hf] at hg;cases hg;exact h1
  ·exact h.1 j g (by omega) hg,by
  rcases h.2 with ⟨e,j,g,h3,h4,h5⟩ | ⟨e,h3⟩
  ·exact .inl ⟨e,j,g,by omega,h4,h5⟩
  ·exact .inr ⟨e,fun j g hj hg=>by
    by_cases e:j=i
    ·subst e;rw [hf] at hg;cases hg;exact h2
    ·exact h3 j g (by omega) hg⟩⟩
theorem LocI.done (h:LocI fs p i z) (hi:i=fs.length):locR fs p=z:=by
 have key:∀ (q:Q3 × Rat→Bool),fs.any q=true↔∃ j f,j<i∧fs[j]?=some f∧q f=true:=fun q=>by
  rw [List.any_eq_true]
  constructor
  ·rintro ⟨f,hf,hq⟩
   obtain ⟨j,hj,e⟩:=List.mem_iff_getElem.mp hf
   exact ⟨j,f,by omega,by rw [← e];exact List.getElem?_eq_getElem hj,hq⟩
  ·rintro ⟨j,f,hj,hf,hq⟩;exact ⟨f,List.mem_of_getElem? hf,hq⟩
 unfold locR
 rw [if_neg (fun hc=>by
  obtain ⟨j,f,hj,hf,hq⟩:=(key _).mp hc
  exact h.1 j f hj hf (of_decide_eq_true hq))]
 rcases h.2 with ⟨e,j,f,h3,h4,h5⟩ | ⟨e,h3⟩
 ·rw [if_pos ((key _).mpr ⟨j,f,h3,h4,decide_eq_true h5⟩),e]
 ·rw [if_neg (fun hc=>by
   obtain ⟨j,f,hj,hf,hq⟩:=(key _).mp hc
   exact h3 j f hj hf (of_decide_eq_true hq)),e]
def touK (fs:List (Q3 × Rat)) (p:Q3) (i:Nat):List Nat:=(List.range i).filter fun j=>decide (∃ f,fs[j]?=some f∧qdot f.1 p=f.2)
def touR (fs:List (Q3 × Rat)) (p:Q3):List Nat:=touK fs p fs.length
theorem touK_on (hf:fs[i]?=some f) (h:qdot f.1 p=f.2):touK fs p (i+1)=touK fs p i ++ [i]:=by
 unfold touK
 rw [List.range_succ,List.filter_append,List.filter_cons,if_pos (decide_eq_true ⟨f,hf,h⟩),List.filter_nil]
theorem touK_off (hf:fs[i]?=some f) (h:¬ qdot f.1 p=f.2):touK fs p (i+1)=touK fs p i:=by
 unfold touK
 rw [List.range_succ,List.filter_append,List.filter_cons,if_neg (by
  rw [decide_eq_true_eq]
  rintro ⟨g,hg,e⟩
  rw [hf] at hg;cases hg;exact h e),List.filter_nil,List.append_nil]
end Dowel
namespace Go.Proofs.YtaibkpbklfodiaaGreatDoor
open Go.RowKit Dowel
theorem infoIn:(Tryz.prog.info? 3).map (fun i=>(i.zero,i.size,i.bytes))=some (some (.int .i64 0),1,8):=by kernel_rfl
set_option maxRecDepth 100000 in
set_option maxHeartbeats 4000000 in
theorem locate_any (v0 v1 v2 vp:Value) (fs:List (Q3 × Rat)) (frs:List FR) (p:Q3) (base k l:Nat) (w:World) (hF:FRow w base v1 fs frs) (hfv:∀ r ∈ frs,∃ a n c,r.v=.slice a n c) (hk:∀ f ∈ fs,BdV k f.1∧Bd k f.2) (hp:IsVec w vp p) (hl:BdV l p) (hkl:k+l≤1000) (hmax:fs.length≤262144) :
  Calls Tryz.prog 17 #[.agg #[v0,v1,v2],vp] w fun e w'=>e=.returned (.int .i64 (locR fs p))∧Below w.heap.size w w':=by
 obtain ⟨p0,p1,p2,rfl,hp0,hp1,hp2⟩:=hp
 obtain ⟨W,hW,b1,b2,hB,hS⟩:=boxes2 w #[v0,v1,v2] (cells3 p0 p1 p2) 32 58
 have hvp:IsVec w (.agg (cells3 p0 p1 p2)) p:=⟨p0,p1,p2,rfl,hp0,hp1,hp2⟩
 have HVP:=Lib.hid (hvp.below hB)
 have HF:=Lib.hid (hF.below hB)
 have HFV:=Lib.hid hfv
 have HB:=Lib.hid hB
 have HSZ:=Lib.hid hS
 have B2:=Lib.hid b2
 have HK:=Lib.hid hk
 have HBP:=Lib.hid hl
 obtain ⟨x0,x1,x2,-⟩:=b1.three
 obtain ⟨N,hN⟩:∃ N,frs.length=N:=⟨_,rfl⟩
 have HLE:=Lib.hid (show fs.length=N from by rw [← hF.len];exact hN)
 have hmx:N≤262144:=by rw [← HLE.out];exact hmax
 have HMX:=Lib.hid hmx
 obtain ⟨pa,cap,hv⟩:∃ pa cap,v1=.slice pa N cap:=by
  obtain ⟨_,⟨rfl,h0⟩ | ⟨g,c,_,rfl,_⟩⟩:=hF.own
  ·exact ⟨none,0,by rw [← hN,h0]⟩
  ·exact ⟨_,_,by rw [← hN]⟩
 have HNN:=Lib.hid hN
 clear hF hfv hB hS b1 b2 hk hl hp0 hp1 hp2 hN hvp
 subst hv
 unfold cells3 at hW ⊢
 go_enter Tryz.func17,Tryz.ntmps17
 go_wp2_with fail
 go_loopw [5,11] (fun wv iv wr=>∃ i,i≤N∧iv=.int .i64 (i:Nat)∧∃ z,wv=.int .i64 z∧Hid (LocI fs p i z)∧Hid (Below W.heap.size W wr)) (fun _ iv _=>N - (intOf iv).toNat)
 case atStart=>exact ⟨0,Nat.zero_le _,rfl,1,rfl,LocI.start,Below.refl _ _⟩
 case round =>
  obtain ⟨i,hi,rfl,z,rfl,HLOC,HR⟩:=hrel
  obtain ⟨wk,rfl⟩:∃ wk,wk=wr:=⟨_,rfl⟩
  by_cases h0:i=N
  ·have hn:¬ (i:Int)<(N:Int):=by omega
   have H0:=Lib.hid h0
   clear h0
   go_wp2
   exact bodyPost_ret (results_tmp Tryz.results17 _ _ _) rfl ⟨by
    rw [LocI.done HLOC.out (by rw [HLE.out];exact H0.out)];rfl,below_call HB.out HR.out (by have:=HSZ.out;omega)⟩
  ·have hlt:(i:Int)<(N:Int):=by omega
   have hil:i<N:=by omega
   obtain ⟨bF,n0,n1,n2,ro,fa,fl,fc,f,e,hb,hf,hvn,hvo,hcv⟩:=(HF.out.below HR.out).open17 HFV.out i (by have:=HNN.out;omega)
   cases e
   have HFI:=Lib.hid hf
   have HCV:=Lib.hid hcv
   have hbd:=HK.out f (List.mem_of_getElem? hf)
   clear hf hcv
   go_upto_region 5 with (first | refine wpList_load_arr rfl _ _ rfl bF (i*17) rfl (cells17 n0 n1 n2 ro fa fl fc) _ (fun j hj=>HCV.out j hj) Tryz.underlying98 rfl infoF17 ?_ | refine wpList_store_new rfl _ _ _ rfl _ (cells17 n0 n1 n2 ro fa fl fc) rfl rfl infoF17 rfl (cells17_one ..) ?_)
   obtain ⟨Wc,hWc,b5,hBc,hSc⟩:=boxes1 wk (cells17 n0 n1 n2 ro fa fl fc) 98
   have HBC:=Lib.hid (below_call HR.out hBc (Nat.le_refl _))
   have HVN:=Lib.hid (show IsVec Wc (.agg #[.bool n0.s,.slice n0.a n0.n n0.c,.bool n0.t,.slice n0.b n0.m n0.d,.bool n1.s,.slice n1.a n1.n n1.c,.bool n1.t,.slice n1.b n1.m n1.d,.bool n2.s,.slice n2.a n2.n n2.c,.bool n2.t,.slice n2.b n2.m n2.d]) f.1 from hvn.below hBc)
   have HRO:=Lib.hid (show IsRat Wc (.agg #[.bool ro.s,.slice ro.a ro.n ro.c,.bool ro.t,.slice ro.b ro.m ro.d]) f.2 from hvo.below hBc)
   have HVP2:=Lib.hid (HVP.out.below HBC.out)
   have HBN:=Lib.hid hbd.1
   have HBO:=Lib.hid hbd.2
   have HBD:=Lib.hid (Bd.dot hbd.1 HBP.out)
   have KF:=Lib.hid b5
   have KP:=Lib.hid (B2.out.below HBC.out B2.out.lt)
   clear hbd hvn hvo hBc hSc b5
   rw [hWc]
   refine wp_region_b (rest:=0) [isV 0 (.pointer (some ⟨wk.heap.size,0,none⟩)),isV 1 (.agg #[.bool n0.s,.slice n0.a n0.n n0.c,.bool n0.t,.slice n0.b n0.m n0.d,.bool n1.s,.slice n1.a n1.n n1.c,.bool n1.t,.slice n1.b n1.m n1.d,.bool n2.s,.slice n2.a n2.n n2.c,.bool n2.t,.slice n2.b n2.m n2.d]),isV 2 (.agg #[.bool p0.s,.slice p0.a p0.n p0.c,.bool p0.t,.slice p0.b p0.m p0.d,.bool p1.s,.slice p1.a p1.n p1.c,.bool p1.t,.slice p1.b p1.m p1.d,.bool p2.s,.slice p2.a p2.n p2.c,.bool p2.t,.slice p2.b p2.m p2.d]),isP 3 (fun v w=>IsRat w v (qdot f.1 p)),isV 4 (.pointer (some ⟨wk.heap.size,12,none⟩)),isV 5 (.agg #[.bool ro.s,.slice ro.a ro.n ro.c,.bool ro.t,.slice ro.b ro.m ro.d]),isV 6 (.int .i64 (cmpR (qdot f.1 p) f.2))] [] ?AL #[true,true,true,true,true,true,true] (by kernel_rfl) [0,1,2,3,4,5,6] (by kernel_rfl) (by kernel_rfl) (by kernel_rfl) (by kernel_rfl) (by kernel_rfl) (by kernel_rfl) ?st ?hA ?hop ?hend
   case hA =>
    intro y
    simp only [putAll,dstOf,List.getElem?_toArray,List.getElem?_cons_zero,List.getElem?_cons_succ,Option.bind_some,Act.put,List.setIfInBounds_toArray,List.set_cons_zero,List.set_cons_succ]
    exact rfl
   case st=>exact StabL.cons isV.stab (StabL.cons isV.stab (StabL.cons isV.stab (StabL.cons (isP.stab (fun _ _ _ h hv=>hv.below h)) (StabL.cons isV.stab (StabL.cons isV.stab (StabL.cons isV.stab (StabL.nil)))))))
   case hop =>
    refine OpsOk.cons (i:=0) rfl (fun y w' hS hD K hK=>?_) ?_
    ·as_aux_lemma =>
     go_simp
     exact hK.out _ w' hS (Below.refl _ _) isV.put (fun h=>absurd h (by decide))
    refine OpsOk.cons (i:=1) rfl (fun y w' hS hD K hK=>?_) ?_
    ·as_aux_lemma =>
     have e0:y 0=.pointer (some ⟨wk.heap.size,0,none⟩):=isV.get (i:=0) (c:=.pointer (some ⟨wk.heap.size,0,none⟩)) (hD 0 (by kernel_rfl))
     obtain ⟨c0,c1,c2,c3,c4,c5,c6,c7,c8,c9,c10,c11,c12,c13,c14,c15,c16⟩:=(KF.out.below hS KF.out.lt).at17
     simp only [e0] at hK ⊢
     go_simp
     exact hK.out _ w' hS (Below.refl _ _) isV.put (fun h=>absurd h (by decide))
    refine OpsOk.cons (i:=2) rfl (fun y w' hS hD K hK=>?_) ?_
    ·as_aux_lemma =>
     have bx:=KP.out.below hS KP.out.lt
     obtain ⟨c0,c1,c2,c3⟩:=bx.p0.1
     obtain ⟨c4,c5,c6,c7⟩:=bx.p1.1
     obtain ⟨c8,c9,c10,c11⟩:=bx.p2.1
     go_simp
     exact hK.out _ w' hS (Below.refl _ _) isV.put (fun h=>absurd h (by decide))
    refine OpsOk.cons (i:=3) rfl (fun y w' hS hD K hK=>?_) ?_
    ·as_aux_lemma =>
     have e1:y 1=.agg #[.bool n0.s,.slice n0.a n0.n n0.c,.bool n0.t,.slice n0.b n0.m n0.d,.bool n1.s,.slice n1.a n1.n n1.c,.bool n1.t,.slice n1.b n1.m n1.d,.bool n2.s,.slice n2.a n2.n n2.c,.bool n2.t,.slice n2.b n2.m n2.d]:=isV.get (i:=1) (c:=.agg #[.bool n0.s,.slice n0.a n0.n n0.c,.bool n0.t,.slice n0.b n0.m n0.d,.bool n1.s,.slice n1.a n1.n n1.c,.bool n1.t,.slice n1.b n1.m n1.d,.bool n2.s,.slice n2.a n2.n n2.c,.bool n2.t,.slice n2.b n2.m n2.d]) (hD 1 (by kernel_rfl))
     have e2:y 2=.agg #[.bool p0.s,.slice p0.a p0.n p0.c,.bool p0.t,.slice p0.b p0.m p0.d,.bool p1.s,.slice p1.a p1.n p1.c,.bool p1.t,.slice p1.b p1.m p1.d,.bool p2.s,.slice p2.a p2.n p2.c,.bool p2.t,.slice p2.b p2.m p2.d]:=isV.get (i:=2) (c:=.agg #[.bool p0.s,.slice p0.a p0.n p0.c,.bool p0.t,.slice p0.b p0.m p0.d,.bool p1.s,.slice p1.a p1.n p1.c,.bool p1.t,.slice p1.b p1.m p1.d,.bool p2.s,.slice p2.a p2.n p2.c,.bool p2.t,.slice p2.b p2.m p2.d]) (hD 2 (by kernel_rfl))
     simp only [e1,e2] at hK ⊢
     go_simp
     refine (VDot_any _ _ f.1 p k l w' (HVN.out.below hS) (HVP2.out.below hS) HBN.out HBP.out (by omega)).mono ?_
     rintro e w'' ⟨⟨v,rfl,hv⟩,hb⟩
     exact hK.out v w'' (below_call hS hb (Nat.le_refl _)) hb (isP.put hv) (fun h=>absurd h (by decide))
    refine OpsOk.cons (i:=4) rfl (fun y w' hS hD K hK=>?_) ?_
    ·as_aux_lemma =>
     go_simp
     exact hK.out _ w' hS (Below.refl _ _) isV.put (fun h=>absurd h (by decide))
    refine OpsOk.cons (i:=5) rfl (fun y w' hS hD K hK=>?_) ?_
    ·as_aux_lemma =>
     have e4:y 4=.pointer (some ⟨wk.heap.size,12,none⟩):=isV.get (i:=4) (c:=.pointer (some ⟨wk.heap.size,12,none⟩)) (hD 4 (by kernel_rfl))
     obtain ⟨c0,c1,c2,c3,c4,c5,c6,c7,c8,c9,c10,c11,c12,c13,c14,c15,c16⟩:=(KF.out.below hS KF.out.lt).at17
     simp only [e4] at hK ⊢
     go_simp
     exact hK.out _ w' hS (Below.refl _ _) isV.put (fun h=>absurd h (by decide))
    refine OpsOk.cons (i:=6) rfl (fun y w' hS hD K hK=>?_) ?_
    ·as_aux_lemma =>
     have e3:=isP.get (i:=3) (p:=fun v w=>IsRat w v (qdot f.1 p)) (hD 3 (by kernel_rfl))
     have e5:y 5=.agg #[.bool ro.s,.slice ro.a ro.n ro.c,.bool ro.t,.slice ro.b ro.m ro.d]:=isV.get (i:=5) (c:=.agg #[.bool ro.s,.slice ro.a ro.n ro.c,.bool ro.t,.slice ro.b ro.m ro.d]) (hD 5 (by kernel_rfl))
     simp only [e5] at hK ⊢
     go_simp
     refine (RCompare_any _ _ (qdot f.1 p) f.2 (3*(k+l+1)+1) k w' e3 (HRO.out.below hS) HBD.out HBO.out (by omega)).mono ?_
     rintro e w'' ⟨rfl,hb⟩
     exact hK.out _ w'' (below_call hS hb (Nat.le_refl _)) hb isV.put (fun h=>absurd h (by decide))
    exact OpsOk.nil
   case hend =>
    intro y w' hS hR hF
    have e6:y 6=.int .i64 (cmpR (qdot f.1 p) f.2):=isV.get (i:=6) (c:=.int .i64 (cmpR (qdot f.1 p) f.2)) (hR 6 (by kernel_rfl))
    simp only [e6]
    refine wpAny_over (by kernel_rfl) ?_
    have HB6:=Lib.hid (below_call HBC.out hS (Nat.le_refl _))
    clear hS hR hF e6
    by_cases hgt:f.2<qdot f.1 p
    ·have hc6:cmpR (qdot f.1 p) f.2=1:=by unfold cmpR;rw [if_neg (Rat.not_lt.mpr (Rat.le_of_lt hgt)),if_pos hgt]
     rw [hc6]
     have HC6:=Lib.hid hgt
     clear hgt hc6
     go_wp2
     exact bodyPost_ret (results_tmp Tryz.results17 _ _ _) rfl ⟨by
      rw [show locR fs p=-1 from by unfold locR;rw [if_pos (List.any_eq_true.mpr ⟨f,List.mem_of_getElem? HFI.out,decide_eq_true HC6.out⟩)]];rfl,below_call HB.out HB6.out (by have:=HSZ.out;omega)⟩
    ·by_cases heq:qdot f.1 p=f.2
     ·have hc6:cmpR (qdot f.1 p) f.2=0:=cmpR_zero.mpr heq
      rw [hc6]
      have HC6:=Lib.hid heq
      have HC7:=Lib.hid hgt
      clear heq hgt hc6
      go_wp2
      go_round
      case rel=>exact ⟨i+1,by omega,rfl,0,rfl,LocI.on HLOC.out HFI.out HC7.out HC6.out,HB6.out⟩
      case measure=>show N - ((i:Int)+1).toNat<N - (i:Int).toNat;omega
     ·have hc6:cmpR (qdot f.1 p) f.2=-1:=by
       unfold cmpR
       rw [if_pos (Rat.lt_of_le_of_ne (Rat.not_lt.mp hgt) heq)]
      rw [hc6]
      have HC6:=Lib.hid heq
      have HC7:=Lib.hid hgt
      clear heq hgt hc6
      go_wp2
      go_round
      case rel=>exact ⟨i+1,by omega,rfl,z,rfl,LocI.off HLOC.out HFI.out HC7.out HC6.out,HB6.out⟩
      case measure=>show N - ((i:Int)+1).toNat<N - (i:Int).toNat;omega
set_option maxRecDepth 100000 in
set_option maxHeartbeats 4000000 in
theorem touched_any (v0 v1 v2 vp:Value) (fs:List (Q3 × Rat)) (frs:List FR) (p:Q3) (base k l:Nat) (w:World) (hF:FRow w base v1 fs frs) (hfv:∀ r ∈ frs,∃ a n c,r.v=.slice a n c) (hk:∀ f ∈ fs,BdV k f.1∧Bd k f.2) (hp:IsVec w vp p) (hl:BdV l p) (hkl:k+l≤1000) (hmax:fs.length≤262144) :
  Calls Tryz.prog 20 #[.agg #[v0,v1,v2],vp] w fun e w'=>RetInts w' w.heap.size e (touR fs p)∧Below w.heap.size w w':=by
 obtain ⟨i0,hinf,hz0,hz1,hz2⟩:=info_parts infoIn
 obtain ⟨p0,p1,p2,rfl,hp0,hp1,hp2⟩:=hp
 obtain ⟨W,hW,b1,b2,hB,hS⟩:=boxes2 w #[v0,v1,v2] (cells3 p0 p1 p2) 32 58
 have hvp:IsVec w (.agg (cells3 p0 p1 p2)) p:=⟨p0,p1,p2,rfl,hp0,hp1,hp2⟩
 have HVP:=Lib.hid (hvp.below hB)
 have HF:=Lib.hid (hF.below hB)
 have HFV:=Lib.hid hfv
 have HB:=Lib.hid hB
 have HSZ:=Lib.hid hS
 have B2:=Lib.hid b2
 have HK:=Lib.hid hk
 have HBP:=Lib.hid hl
 obtain ⟨x0,x1,x2,-⟩:=b1.three
 obtain ⟨N,hN⟩:∃ N,frs.length=N:=⟨_,rfl⟩
 have HLE:=Lib.hid (show fs.length=N from by rw [← hF.len];exact hN)
 have hmx:N≤262144:=by rw [← HLE.out];exact hmax
 have HMX:=Lib.hid hmx
 obtain ⟨pa,cap,hv⟩:∃ pa cap,v1=.slice pa N cap:=by
  obtain ⟨_,⟨rfl,h0⟩ | ⟨g,c,_,rfl,_⟩⟩:=hF.own
  ·exact ⟨none,0,by rw [← hN,h0]⟩
  ·exact ⟨_,_,by rw [← hN]⟩
 have HNN:=Lib.hid hN
 clear hF hfv hB hS b1 b2 hk hl hp0 hp1 hp2 hN hvp
 subst hv
 unfold cells3 at hW ⊢
 go_enter Tryz.func20,Tryz.ntmps20
 go_wp2_with fail
 go_loopw [5,11] (fun ov' iv wr=>∃ i ov,ov=ov'∧i≤N∧iv=.int .i64 (i:Nat)∧Hid (OwnN wr W.heap.size ov (touK fs p i))∧Hid (Below W.heap.size W wr)) (fun _ iv _=>N - (intOf iv).toNat)
 case atStart=>exact ⟨0,_,rfl,Nat.zero_le _,rfl,World.ownsRow_nil _ _ _ _,Below.refl _ _⟩
 case round =>
  obtain ⟨i,ov,rfl,hi,rfl,HO,HR⟩:=hrel
  obtain ⟨wk,rfl⟩:∃ wk,wk=wr:=⟨_,rfl⟩
  by_cases h0:i=N
  ·have hn:¬ (i:Int)<(N:Int):=by omega
   have H0:=Lib.hid h0
   clear h0
   go_wp2
   exact bodyPost_ret (results_tmp Tryz.results20 _ _ _) rfl ⟨⟨_,rfl,by
    unfold touR;rw [HLE.out,← H0.out];exact own_base HO.out (by have:=HSZ.out;omega)⟩,below_call HB.out HR.out (by have:=HSZ.out;omega)⟩
  ·have hlt:(i:Int)<(N:Int):=by omega
   have hil:i<N:=by omega
   obtain ⟨bF,n0,n1,n2,ro,fa,fl,fc,f,e,hb,hf,hvn,hvo,hcv⟩:=(HF.out.below HR.out).open17 HFV.out i (by have:=HNN.out;omega)
   cases e
   have HFI:=Lib.hid hf
   have HCV:=Lib.hid hcv
   have hbd:=HK.out f (List.mem_of_getElem? hf)
   clear hf hcv
   go_upto_region 5 with (first | refine wpList_load_arr rfl _ _ rfl bF (i*17) rfl (cells17 n0 n1 n2 ro fa fl fc) _ (fun j hj=>HCV.out j hj) Tryz.underlying98 rfl infoF17 ?_ | refine wpList_store_new rfl _ _ _ rfl _ (cells17 n0 n1 n2 ro fa fl fc) rfl rfl infoF17 rfl (cells17_one ..) ?_)
   obtain ⟨Wc,hWc,b5,hBc,hSc⟩:=boxes1 wk (cells17 n0 n1 n2 ro fa fl fc) 98
   have hBc1:=Lib.hid hBc
   have HBC:=Lib.hid (below_call HR.out hBc (Nat.le_refl _))
   have HVN:=Lib.hid (show IsVec Wc (.agg #[.bool n0.s,.slice n0.a n0.n n0.c,.bool n0.t,.slice n0.b n0.m n0.d,.bool n1.s,.slice n1.a n1.n n1.c,.bool n1.t,.slice n1.b n1.m n1.d,.bool n2.s,.slice n2.a n2.n n2.c,.bool n2.t,.slice n2.b n2.m n2.d]) f.1 from hvn.below hBc)
   have HRO:=Lib.hid (show IsRat Wc (.agg #[.bool ro.s,.slice ro.a ro.n ro.c,.bool ro.t,.slice ro.b ro.m ro.d]) f.2 from hvo.below hBc)
   have HVP2:=Lib.hid (HVP.out.below HBC.out)
   have HBN:=Lib.hid hbd.1
   have HBO:=Lib.hid hbd.2
   have HBD:=Lib.hid (Bd.dot hbd.1 HBP.out)
   have KF:=Lib.hid b5
   have KP:=Lib.hid (B2.out.below HBC.out B2.out.lt)
   clear hbd hvn hvo hBc hSc b5
   rw [hWc]
   refine wp_region_b (rest:=0) [isV 0 (.pointer (some ⟨wk.heap.size,0,none⟩)),isV 1 (.agg #[.bool n0.s,.slice n0.a n0.n n0.c,.bool n0.t,.slice n0.b n0.m n0.d,.bool n1.s,.slice n1.a n1.n n1.c,.bool n1.t,.slice n1.b n1.m n1.d,.bool n2.s,.slice n2.a n2.n n2.c,.bool n2.t,.slice n2.b n2.m n2.d]),isV 2 (.agg #[.bool p0.s,.slice p0.a p0.n p0.c,.bool p0.t,.slice p0.b p0.m p0.d,.bool p1.s,.slice p1.a p1.n p1.c,.bool p1.t,.slice p1.b p1.m p1.d,.bool p2.s,.slice p2.a p2.n p2.c,.bool p2.t,.slice p2.b p2.m p2.d]),isP 3 (fun v w=>IsRat w v (qdot f.1 p)),isV 4 (.pointer (some ⟨wk.heap.size,12,none⟩)),isV 5 (.agg #[.bool ro.s,.slice ro.a ro.n ro.c,.bool ro.t,.slice ro.b ro.m ro.d]),isV 6 (.int .i64 (cmpR (qdot f.1 p) f.2)),isV 7 (.bool (decide (cmpR (qdot f.1 p) f.2=0)))] [] ?AT #[true,true,true,true,true,true,true,true] (by kernel_rfl) [0,1,2,3,4,5,6,7] (by kernel_rfl) (by kernel_rfl) (by kernel_rfl) (by kernel_rfl) (by kernel_rfl) (by kernel_rfl) ?st ?hA ?hop ?hend
   case hA =>
    intro y
    simp only [putAll,dstOf,List.getElem?_toArray,List.getElem?_cons_zero,List.getElem?_cons_succ,Option.bind_some,Act.put,List.setIfInBounds_toArray,List.set_cons_zero,List.set_cons_succ]
    exact rfl
   case st=>exact StabL.cons isV.stab (StabL.cons isV.stab (StabL.cons isV.stab (StabL.cons (isP.stab (fun _ _ _ h hv=>hv.below h)) (StabL.cons isV.stab (StabL.cons isV.stab (StabL.cons isV.stab (StabL.cons isV.stab (StabL.nil))))))))
   case hop =>
    refine OpsOk.cons (i:=0) rfl (fun y w' hS hD K hK=>?_) ?_
    ·as_aux_lemma =>
     go_simp
     exact hK.out _ w' hS (Below.refl _ _) isV.put (fun h=>absurd h (by decide))
    refine OpsOk.cons (i:=1) rfl (fun y w' hS hD K hK=>?_) ?_
    ·as_aux_lemma =>
     have e0:y 0=.pointer (some ⟨wk.heap.size,0,none⟩):=isV.get (i:=0) (c:=.pointer (some ⟨wk.heap.size,0,none⟩)) (hD 0 (by kernel_rfl))
     obtain ⟨c0,c1,c2,c3,c4,c5,c6,c7,c8,c9,c10,c11,c12,c13,c14,c15,c16⟩:=(KF.out.below hS KF.out.lt).at17
     simp only [e0] at hK ⊢
     go_simp
     exact hK.out _ w' hS (Below.refl _ _) isV.put (fun h=>absurd h (by decide))
    refine OpsOk.cons (i:=2) rfl (fun y w' hS hD K hK=>?_) ?_
    ·as_aux_lemma =>
     have bx:=KP.out.below hS KP.out.lt
     obtain ⟨c0,c1,c2,c3⟩:=bx.p0.1
     obtain ⟨c4,c5,c6,c7⟩:=bx.p1.1
     obtain ⟨c8,c9,c10,c11⟩:=bx.p2.1
     go_simp
     exact hK.out _ w' hS (Below.refl _ _) isV.put (fun h=>absurd h (by decide))
    refine OpsOk.cons (i:=3) rfl (fun y w' hS hD K hK=>?_) ?_
    ·as_aux_lemma =>
     have e1:y 1=.agg #[.bool n0.s,.slice n0.a n0.n n0.c,.bool n0.t,.slice n0.b n0.m n0.d,.bool n1.s,.slice n1.a n1.n n1.c,.bool n1.t,.slice n1.b n1.m n1.d,.bool n2.s,.slice n2.a n2.n n2.c,.bool n2.t,.slice n2.b n2.m n2.d]:=isV.get (i:=1) (c:=.agg #[.bool n0.s,.slice n0.a n0.n n0.c,.bool n0.t,.slice n0.b n0.m n0.d,.bool n1.s,.slice n1.a n1.n n1.c,.bool n1.t,.slice n1.b n1.m n1.d,.bool n2.s,.slice n2.a n2.n n2.c,.bool n2.t,.slice n2.b n2.m n2.d]) (hD 1 (by kernel_rfl))
     have e2:y 2=.agg #[.bool p0.s,.slice p0.a p0.n p0.c,.bool p0.t,.slice p0.b p0.m p0.d,.bool p1.s,.slice p1.a p1.n p1.c,.bool p1.t,.slice p1.b p1.m p1.d,.bool p2.s,.slice p2.a p2.n p2.c,.bool p2.t,.slice p2.b p2.m p2.d]:=isV.get (i:=2) (c:=.agg #[.bool p0.s,.slice p0.a p0.n p0.c,.bool p0.t,.slice p0.b p0.m p0.d,.bool p1.s,.slice p1.a p1.n p1.c,.bool p1.t,.slice p1.b p1.m p1.d,.bool p2.s,.slice p2.a p2.n p2.c,.bool p2.t,.slice p2.b p2.m p2.d]) (hD 2 (by kernel_rfl))
     simp only [e1,e2] at hK ⊢
     go_simp
     refine (VDot_any _ _ f.1 p k l w' (HVN.out.below hS) (HVP2.out.below hS) HBN.out HBP.out (by omega)).mono ?_
     rintro e w'' ⟨⟨v,rfl,hv⟩,hb⟩
     exact hK.out v w'' (below_call hS hb (Nat.le_refl _)) hb (isP.put hv) (fun h=>absurd h (by decide))
    refine OpsOk.cons (i:=4) rfl (fun y w' hS hD K hK=>?_) ?_
    ·as_aux_lemma =>
     go_simp
     exact hK.out _ w' hS (Below.refl _ _) isV.put (fun h=>absurd h (by decide))
    refine OpsOk.cons (i:=5) rfl (fun y w' hS hD K hK=>?_) ?_
    ·as_aux_lemma =>
     have e4:y 4=.pointer (some ⟨wk.heap.size,12,none⟩):=isV.get (i:=4) (c:=.pointer (some ⟨wk.heap.size,12,none⟩)) (hD 4 (by kernel_rfl))
     obtain ⟨c0,c1,c2,c3,c4,c5,c6,c7,c8,c9,c10,c11,c12,c13,c14,c15,c16⟩:=(KF.out.below hS KF.out.lt).at17
     simp only [e4] at hK ⊢
     go_simp
     exact hK.out _ w' hS (Below.refl _ _) isV.put (fun h=>absurd h (by decide))
    refine OpsOk.cons (i:=6) rfl (fun y w' hS hD K hK=>?_) ?_
    ·as_aux_lemma =>
     have e3:=isP.get (i:=3) (p:=fun v w=>IsRat w v (qdot f.1 p)) (hD 3 (by kernel_rfl))
     have e5:y 5=.agg #[.bool ro.s,.slice ro.a ro.n ro.c,.bool ro.t,.slice ro.b ro.m ro.d]:=isV.get (i:=5) (c:=.agg #[.bool ro.s,.slice ro.a ro.n ro.c,.bool ro.t,.slice ro.b ro.m ro.d]) (hD 5 (by kernel_rfl))
     simp only [e5] at hK ⊢
     go_simp
     refine (RCompare_any _ _ (qdot f.1 p) f.2 (3*(k+l+1)+1) k w' e3 (HRO.out.below hS) HBD.out HBO.out (by omega)).mono ?_
     rintro e w'' ⟨rfl,hb⟩
     exact hK.out _ w'' (below_call hS hb (Nat.le_refl _)) hb isV.put (fun h=>absurd h (by decide))
    refine OpsOk.cons (i:=7) rfl (fun y w' hS hD K hK=>?_) ?_
    ·as_aux_lemma =>
     have e6:y 6=.int .i64 (cmpR (qdot f.1 p) f.2):=isV.get (i:=6) (c:=.int .i64 (cmpR (qdot f.1 p) f.2)) (hD 6 (by kernel_rfl))
     simp only [e6] at hK ⊢
     go_simp
     exact hK.out _ w' hS (Below.refl _ _) isV.put (fun h=>absurd h (by decide))
    exact OpsOk.nil
   case hend =>
    intro y w' hS hR hF
    have e7:y 7=.bool (decide (cmpR (qdot f.1 p) f.2=0)):=isV.get (i:=7) (c:=.bool (decide (cmpR (qdot f.1 p) f.2=0))) (hR 7 (by kernel_rfl))
    simp only [e7]
    refine wpAny_over (by kernel_rfl) ?_
    have HB6:=Lib.hid (below_call HBC.out hS (Nat.le_refl _))
    have HB7:=Lib.hid (show Below wk.heap.size wk w' from (by have h1:=hBc1;exact below_call h1 hS (Nat.le_refl _)))
    clear hS hR hF e7
    by_cases heq:cmpR (qdot f.1 p) f.2=0
    ·have hd:decide (cmpR (qdot f.1 p) f.2=0)=true:=decide_eq_true heq
     rw [hd]
     have HC6:=Lib.hid (cmpR_zero.mp heq)
     have HO6:=Lib.hid (own_below HO.out HB7.out)
     have hbs:W.heap.size≤w'.heap.size:=HB6.out.size
     have HBS:=Lib.hid hbs
     have hol:=(Nat.le_trans (List.length_filter_le _ _) (Nat.le_of_eq (List.length_range (n:=i))):(touK fs p i).length≤i)
     have HOL:=Lib.hid hol
     clear heq hd hbs hol
     go_wp2_with (at_builtin;refine wpList_append_own _ rfl _ _ 43 rfl W.heap.size 3 i0 (.int .i64 0) 1 8 Tryz.underlying43 hinf hz0 hz1 hz2 rfl (by decide) _ _ _ rfl (World.ownsRow.alloc HO6.out _) ⟨w'.heap.size,0,none⟩ 1 1 [.int .i64 (i:Nat)] rfl rfl (fun j u hj=>cell_new w' _ _ j u hj) (by intro u hu;simp at hu;rcases hu with rfl;rfl) (by have:=HOL.out;have:=HMX.out;unfold maxLen;omega) (by have:=HOL.out;have:=HMX.out;omega) (by have:=HBS.out;simp;omega) ?_)
     intro v' w6 hown' hgrow6 _
     have hge:=own_ge HO6.out
     have HO7:=Lib.hid (show OwnN w6 W.heap.size v' (touK fs p (i+1)) from by
      rw [touK_on HFI.out HC6.out]
      unfold OwnN
      rw [List.length_append,List.map_append]
      exact hown')
     have HB8:=Lib.hid (show Below W.heap.size W w6 from (HB6.out.alloc HBS.out _).grown hgrow6 (by have:=HBS.out;simp;omega) (fun g hg=>hge g hg))
     clear hown' hgrow6 hge
     go_wp2
     go_round
     case rel=>exact ⟨i+1,_,rfl,by omega,rfl,HO7.out,HB8.out⟩
     case measure=>show N - ((i:Int)+1).toNat<N - (i:Int).toNat;omega
    ·have hd:decide (cmpR (qdot f.1 p) f.2=0)=false:=decide_eq_false heq
     rw [hd]
     have HC6:=Lib.hid (fun h=>heq (cmpR_zero.mpr h))
     have HO6:=Lib.hid (own_below HO.out HB7.out)
     clear heq hd
     go_wp2
     go_round
     case rel=>exact ⟨i+1,_,rfl,by omega,rfl,by rw [touK_off HFI.out HC6.out];exact HO6.out,HB6.out⟩
     case measure=>show N - ((i:Int)+1).toNat<N - (i:Int).toNat;omega
end Go.Proofs.YtaibkpbklfodiaaGreatDoor
end
section
namespace Dowel
open V
variable {P : Nat → V} {N E : Nat} {fs : List RF} {p : Q3}
end Dowel
end
section
namespace Dowel
open V Go Go.Proofs.YtaibkpbklfodiaaGreatDoor
variable {P : Nat → V} {N E : Nat} {fs : List RF}
theorem RingsOk.few (h:RingsOk P N fs E) (hN:N≤16):fs.length≤65536:=by
 have h1:=nodup_length (fs.map RF.o) (List.range 65536) h.nodup (fun x hx=>by
  obtain ⟨f,hf,rfl⟩:=List.mem_map.mp hx
  obtain ⟨b,-,ho,-⟩:=h.ok f hf
  rw [List.mem_range,ho]
  exact Nat.lt_of_lt_of_le (mask_lt _ _) (Nat.le_trans (Nat.pow_le_pow_right (n:=2) (by omega) hN) (by decide)))
 simpa using h1
theorem RingsOk.rows (h:RingsOk P N fs E) (hS:Sorted P N):∀ f ∈ fs,f.r≠[]∧∀ i ∈ f.r,i<N:=fun f hf=>by
 obtain ⟨b,hF,-,hr⟩:=h.ok f hf
 rw [hr]
 exact ⟨(hF.ring_hd hS).2,fun i hi=>(mem_onPl.mp ((hF.ring_mem hS i).mp hi).1).1⟩
theorem RingsOk.bd (h:RingsOk P N fs E) (hS:Sorted P N) (hn:∀ i,i<N→LeV 4096 (P i)):∀ g ∈ fs.map (faceQ P),BdV 2 g.1∧Bd 2 g.2:=fun g hg=>by
 obtain ⟨f,hf,rfl⟩:=List.mem_map.mp hg
 obtain ⟨b,hF,-,hr,-⟩:=h.pl hS hf
 obtain ⟨h1,-⟩:=h.face hS hf
 have hl:=primV_le (face_le hn hF) (by omega)
 have hh:f.r.headD 0<N:=by rw [hr];exact (Face.ring_hd hS hF).1
 rw [h1]
 refine ⟨bd_ptQ (hl.mono (by omega)),?_⟩
 have hd:=hl.dot (hn _ hh)
 show Bd 2 ((dot (primV f.n) (P (f.r.headD 0)):Int):Rat)
 refine Bd.int _ ?_
 unfold Le at hd
 unfold B
 omega
theorem bd_q3 {x y z t:Int} (hx:-9223372036854775808≤x∧x≤9223372036854775807) (hy:-9223372036854775808≤y∧y≤9223372036854775807) (hz:-9223372036854775808≤z∧z≤9223372036854775807) (ht:-9223372036854775808≤t∧t≤9223372036854775807) (h0:t≠0) :
  BdV 4 ⟨(x:Rat) / (t:Rat),(y:Rat) / (t:Rat),(z:Rat) / (t:Rat)⟩:=by
 have k:∀ n:Int,-9223372036854775808≤n∧n≤9223372036854775807→Bd 2 (n:Rat):=fun n h=>Bd.int n (by unfold B;omega)
 have h0':(t:Rat)≠0:=by exact_mod_cast h0
 exact ⟨Bd.div (k x hx) (k t ht) h0',Bd.div (k y hy) (k t ht) h0',Bd.div (k z hz) (k t ht) h0'⟩
end Dowel
end
section
namespace Dowel
theorem bd64 {n:Int} (h:-9223372036854775808≤n∧n≤9223372036854775807):Bd 2 (n:Rat):=Bd.int n (by unfold B;omega)
end Dowel
namespace Go.Proofs.YtaibkpbklfodiaaGreatDoor
open Go.RowKit Dowel
set_option maxHeartbeats 2000000 in
theorem quotient_any (a b:Int) (w:World) (ha:-9223372036854775808≤a∧a≤9223372036854775807) (hb:-9223372036854775808≤b∧b≤9223372036854775807) (hn:b≠0) :
  Calls Tryz.prog 21 #[.int .i64 a,.int .i64 b] w fun e w'=>RetRat w' e ((a:Rat) / (b:Rat))∧Below w.heap.size w w':=by
 have HA:=Lib.hid ha
 have HB:=Lib.hid hb
 have HN:=Lib.hid hn
 clear ha hb hn
 go_enter Tryz.func21,Tryz.ntmps21
 obtain ⟨W,hW,b1,hB,hS⟩:=boxes1 w #[.bool false,.slice none 0 0,.bool false,.slice none 0 0] 56
 go_wp2_with fail
 refine (RFrom_any a _ HA.out.1 HA.out.2).mono ?_
 rintro e w1 ⟨⟨v1,rfl,hv1⟩,hb1⟩
 have V1:=Lib.hid hv1
 have B1:=Lib.hid (b1.below hb1 (by omega))
 have L1:=Lib.hid (below_call hB hb1 (Nat.le_refl _))
 clear hv1 hb1 b1 hB hW
 go_wp2_with fail
 refine (RFrom_any b _ HB.out.1 HB.out.2).mono ?_
 rintro e w2 ⟨⟨v2,rfl,hv2⟩,hb2⟩
 have V1:=Lib.hid (V1.out.below hb2)
 have V2:=Lib.hid hv2
 have B1:=Lib.hid (B1.out.below hb2 B1.out.lt)
 have L1:=Lib.hid (below_call L1.out hb2 (Nat.le_refl _))
 clear hv2 hb2
 go_wp2_with fail
 refine (RDiv_any _ _ (a:Rat) (b:Rat) 2 2 w2 V1.out V2.out (bd64 HA.out) (bd64 HB.out) (by omega) (by have:=HN.out;exact_mod_cast this)).mono ?_
 rintro e w3 ⟨⟨v3,rfl,hv3⟩,hb3⟩
 obtain ⟨r,rfl,hr⟩:=hv3.rcv
 have V3:=Lib.hid hr
 have B1:=Lib.hid (B1.out.below hb3 B1.out.lt)
 have L1:=Lib.hid (below_call L1.out hb3 (Nat.le_refl _))
 clear hv3 hr hb3
 have hlt:=B1.out.lt
 have hne:w.heap.size≠w3.heap.size:=by omega
 obtain ⟨w5,hw5,b5,hb5,hz5⟩:=boxes1 w3 #[.bool false,.slice none 0 0,.bool false,.slice none 0 0] 56
 have B1:=Lib.hid (B1.out.below hb5 B1.out.lt)
 have V3:=Lib.hid (V3.out.below hb5)
 have L1:=Lib.hid (below_call L1.out hb5 (Nat.le_refl _))
 have B5:=Lib.hid b5
 obtain ⟨x0,x1,x2,x3,x4⟩:=B1.out.four
 obtain ⟨y0,y1,y2,y3,y4⟩:=b5.four
 clear hb5
 go_wp2_with fail
 have B6:=(show Box w5 w.heap.size (cells1 RC.zero) 56 from B1.out).oput4 hne 0 r
 have R6:=V3.out.put4 (show Box w5 w3.heap.size (cells1 RC.zero) 56 from B5.out).at1 r
 exact ret_box Tryz.results21 w.heap.size (B6.s4 r) _ rfl Tryz.underlying56 rfl infoRat rfl
  ⟨⟨_,rfl,R6.put4 B6.at1 r⟩,below_put4 (below_put4 L1.out (by omega) 0 r) (Nat.le_refl _) 0 r⟩
end Go.Proofs.YtaibkpbklfodiaaGreatDoor
end
section
namespace Dowel
open Go
theorem wp_buildTo {P:Program} {o:Oper} {a:Act} {w:World} {K:Act→World→Prop} {Q:Exit→Act→World→Prop} (t:TypeId) (parts:Array (Nat × Operand)) (ho:o.op=.build t parts) (cells:Array Value)
  (hf:P.built t (parts.map fun (i,x)=>(i,a.eval x)).toList=some cells) (h:K (a.put o.dst (.agg cells)) w):o.wp P a w K Q:=
 wp_build t parts ho (by rw [hf];rfl) (by rw [hf];exact h)
end Dowel
namespace Go.Proofs.YtaibkpbklfodiaaGreatDoor
open Go.RowKit Dowel
theorem built_vec (s0 t0 s1 t1 s2 t2:Bool) (a0 b0 a1 b1 a2 b2:Option Addr) (n0 c0 m0 d0 n1 c1 m1 d1 n2 c2 m2 d2:Nat) :
  Tryz.prog.built 58 [(0,.agg #[.bool s0,.slice a0 n0 c0,.bool t0,.slice b0 m0 d0]),(1,.agg #[.bool s1,.slice a1 n1 c1,.bool t1,.slice b1 m1 d1]),(2,.agg #[.bool s2,.slice a2 n2 c2,.bool t2,.slice b2 m2 d2])] =
   some #[.bool s0,.slice a0 n0 c0,.bool t0,.slice b0 m0 d0,.bool s1,.slice a1 n1 c1,.bool t1,.slice b1 m1 d1,.bool s2,.slice a2 n2 c2,.bool t2,.slice b2 m2 d2]:=by kernel_rfl
theorem built_face (x y z o:Int) (a:Option Addr) (n c:Nat) :
  Tryz.prog.built 50 [(0,.agg #[.int .i64 x,.int .i64 y,.int .i64 z,.int .i64 o]),(1,.slice a n c)]=some #[.int .i64 x,.int .i64 y,.int .i64 z,.int .i64 o,.slice a n c]:=by kernel_rfl
end Go.Proofs.YtaibkpbklfodiaaGreatDoor
end
section
namespace Dowel
open V
variable {P : Nat → V} {N E : Nat} {fs : List RF}
structure RingW (P:Nat→V) (n:V) (on rg:List Nat):Prop where
 len:rg.length=on.length
 pos:0<rg.length
 hd:rg.getD 0 0=on.getD 0 0
 mem:∀ x ∈ rg,x ∈ on
 next:∀ j,j+1<rg.length→∀ x ∈ on,(x≠rg.getD j 0∧∀ q ∈ on,0≤T n (P x - P (rg.getD j 0)) (P q - P (rg.getD j 0)))↔x=rg.getD (j+1) 0
theorem Face.ringW {n:V} {b:Nat} (hF:Face P N n b) (hinj:Inj P N) (hE:∀ v,v<N→Top P N v):RingW P (primV n) (onPl P N n b) (ring P (onPl P N n b) n):=by
 obtain ⟨k,a,k1,hr,hk,hs,hd,hm⟩:=ring_walk hF hinj hE
 have hg:∀ j,j<k→(ring P (onPl P N n b) n).getD j 0=orb (nx P (onPl P N n b) n) a j:=fun j hj=>by
  rw [hr,List.getD_eq_getElem?_getD,List.getElem?_map,List.getElem?_range hj];rfl
 have hl:(ring P (onPl P N n b) n).length=k:=by rw [hr];simp
 have hl':per (nx P (onPl P N n b) n) ((onPl P N n b).headD 0) (onPl P N n b).length 1=k:=by
  have:=hl
  unfold ring at this
  simpa using this
 refine ⟨ring_length hF hinj hE,by omega,?_,fun x hx=>?_,fun j hj x hx=>?_⟩
 ·have e:(ring P (onPl P N n b) n).getD 0 0=(onPl P N n b).headD 0:=by
   unfold ring
   rw [List.getD_eq_getElem?_getD,List.getElem?_map,List.getElem?_range (by omega)];rfl
  rw [e]
  cases onPl P N n b <;> rfl
 ·rw [hr] at hx
  obtain ⟨i,_,rfl⟩:=List.mem_map.mp hx
  exact (hs i).ha
 ·rw [hg j (by omega),hg (j+1) (by omega)]
  exact left_next hF (hs j) hx
theorem RingsOk.ringW (h:RingsOk P N fs E) (hS:Sorted P N) (hfull:Full P N) (hE:∀ v,v<N→Top P N v) {m:Pl} (hm:m ∈ planesR P N):RingW P m.n (ptsOn P N m) (ringPl P N m):=by
 obtain ⟨f,hf,rfl⟩:=List.mem_map.mp (((h.planes hS hfull).2 m).mp hm)
 obtain ⟨b,hF,-,-,hp⟩:=h.pl hS hf
 rw [hp,ptsOn_plOf (f:=(f.n,b)) hF,ringPl_plOf (f:=(f.n,b)) hF]
 exact hF.ringW hS.inj hE
def sd (m:Pl) (p:V):Int:=dot m.n p - 2*m.o
def locS (p:V) (w:Int) (m:Pl):Int:=if 0<sd m p then -1 else if sd m p=0 then min w 0 else w
def locZ (l:List Pl) (p:V):Int:=l.foldl (locS p) 1
def onZ (l:List Pl) (p:V) (k:Nat):List Nat:=(List.range k).filter fun j=>decide (sd (l.getD j ⟨V.zero,0⟩) p=0)
theorem onZ_succ {l:List Pl} {p:V} {k:Nat}:onZ l p (k+1)=if sd (l.getD k ⟨V.zero,0⟩) p=0 then onZ l p k ++ [k] else onZ l p k:=by
 unfold onZ
 rw [List.range_succ,List.filter_append]
 split <;> rename_i h
 ·rw [List.filter_cons_of_pos (by simpa using h)];simp
 ·rw [List.filter_cons_of_neg (by simpa using h)];simp
theorem locZ_take {l:List Pl} {p:V} {k:Nat} (hk:k<l.length):locZ (l.take (k+1)) p=locS p (locZ (l.take k) p) (l.getD k ⟨V.zero,0⟩):=by
 unfold locZ
 rw [List.take_succ_eq_append_getElem hk,List.foldl_append]
 simp [hk]
def halfQ (p:V):Q3:=⟨(p.x:Rat) / ((2:Int):Rat),(p.y:Rat) / ((2:Int):Rat),(p.z:Rat) / ((2:Int):Rat)⟩
theorem sd_half (m:Pl) (p:V):qdot (ptQ m.n) (halfQ p) - (m.o:Rat)=((sd m p:Int):Rat)*(1 / 2):=by
 unfold qdot ptQ halfQ sd dot
 simp only [Rat.intCast_sub,Rat.intCast_add,Rat.intCast_mul,Rat.div_def]
 rw [show ((2:Int):Rat)=2 by rfl]
 grind
theorem sd_lt (m:Pl) (p:V):(m.o:Rat)<qdot (ptQ m.n) (halfQ p)↔0<sd m p:=by
 have h:=sd_half m p
 constructor
 ·intro h1
  have:(0:Rat)<((sd m p:Int):Rat):=by grind
  exact_mod_cast this
 ·intro h1
  have:(0:Rat)<((sd m p:Int):Rat):=by exact_mod_cast h1
  grind
theorem sd_eq (m:Pl) (p:V):qdot (ptQ m.n) (halfQ p)=(m.o:Rat)↔sd m p=0:=by
 have h:=sd_half m p
 constructor
 ·intro h1
  have:((sd m p:Int):Rat)=0:=by grind
  exact_mod_cast this
 ·intro h1
  rw [h1] at h
  grind
def plQ (m:Pl):Q3 × Rat:=(ptQ m.n,(m.o:Rat))
theorem locZ_spec (p:V):∀ (l:List Pl) (w:Int),(w=-1∨w=0∨w=1) →
  l.foldl (locS p) w=if w=-1∨l.any (fun m=>decide (0<sd m p))=true then -1 else if w=0∨l.any (fun m=>decide (sd m p=0))=true then 0 else 1
 | [],w,hw=>by rcases hw with rfl | rfl | rfl <;> rfl
 | m :: l,w,hw=>by
  have hw':locS p w m=-1∨locS p w m=0∨locS p w m=1:=by
   unfold locS
   by_cases h1:0<sd m p
   ·rw [if_pos h1];exact .inl rfl
   ·rw [if_neg h1]
    by_cases h2:sd m p=0
    ·rw [if_pos h2]
     rcases hw with rfl | rfl | rfl
     ·exact .inl (by decide)
     ·exact .inr (.inl (by decide))
     ·exact .inr (.inl (by decide))
    ·rw [if_neg h2];exact hw
  rw [List.foldl_cons,locZ_spec p l (locS p w m) hw']
  simp only [List.any_cons,Bool.or_eq_true,decide_eq_true_eq]
  unfold locS
  by_cases h1:0<sd m p
  ·simp [h1]
  ·by_cases h2:sd m p=0
   ·rcases hw with rfl | rfl | rfl
    ·simp [h2,show min (-1:Int) 0=-1 by decide]
    ·simp [h2,show min (0:Int) 0=0 by decide]
    ·simp [h2,show min (1:Int) 0=0 by decide]
   ·simp [h1,h2]
theorem locZ_eq (l:List Pl) (p:V):locZ l p=locR (l.map plQ) (halfQ p):=by
 unfold locZ locR
 rw [locZ_spec p l 1 (.inr (.inr rfl)),List.any_map,List.any_map]
 have e1:(l.any fun m=>decide (0<sd m p))=l.any ((fun f:Q3 × Rat=>decide (f.2<qdot f.1 (halfQ p))) ∘ plQ):=by
  congr 1;funext m;exact decide_eq_decide.mpr (sd_lt m p).symm
 have e2:(l.any fun m=>decide (sd m p=0))=l.any ((fun f:Q3 × Rat=>decide (qdot f.1 (halfQ p)=f.2)) ∘ plQ):=by
  congr 1;funext m;exact decide_eq_decide.mpr (sd_eq m p).symm
 rw [e1,e2]
 simp
theorem onZ_eq (l:List Pl) (p:V):onZ l p l.length=touR (l.map plQ) (halfQ p):=by
 unfold onZ touR touK
 rw [List.length_map]
 refine List.filter_congr fun j hj=>?_
 have hj:=List.mem_range.mp hj
 rw [decide_eq_decide]
 have hg:l[j]?=some (l.getD j ⟨V.zero,0⟩):=by simp [hj]
 generalize l.getD j ⟨V.zero,0⟩=m at *
 rw [← sd_eq]
 constructor
 ·intro h
  exact ⟨plQ m,by rw [List.getElem?_map,hg];rfl,h⟩
 ·rintro ⟨f,hf,h⟩
  rw [List.getElem?_map,hg] at hf
  cases hf
  exact h
theorem RingsOk.plQ_map (h:RingsOk P N fs E) (hS:Sorted P N):(fs.map (plF P)).map plQ=fs.map (faceQ P):=by
 rw [List.map_map]
 exact List.map_congr_left fun f hf=>(h.face hS hf).1.symm
theorem RingsOk.law_loc (h:RingsOk P N fs E) (hS:Sorted P N) (hfull:Full P N) (hE:∀ v,v<N→Top P N v) (p:V) :
  locZ ((Dowel.facesR P N).map Prod.fst) p=locR (fs.map (faceQ P)) (halfQ p)∧onZ ((Dowel.facesR P N).map Prod.fst) p ((Dowel.facesR P N).map Prod.fst).length=touR (fs.map (faceQ P)) (halfQ p):=by
 have e:(Dowel.facesR P N).map Prod.fst=fs.map (plF P):=by
  rw [h.facesR hS hfull hE,List.map_map];rfl
 rw [e,locZ_eq,onZ_eq,h.plQ_map hS]
 exact ⟨rfl,rfl⟩
end Dowel
end
section
namespace Go.Proofs.YtaibkpbklfodiaaGreatDoor
open Go.RowKit Dowel
set_option maxRecDepth 100000 in
set_option maxHeartbeats 8000000 in
theorem half_any (n:V) (w:World) (hn:LeV 128 n) :
  Calls Tryz.prog 18 #[.agg #[.int .i8 n.x,.int .i8 n.y,.int .i8 n.z]] w fun e w'=>RetVec w' e (halfQ n)∧Below w.heap.size w w':=by
 obtain ⟨W,hW,b1,b2,hB,hS⟩:=boxes2 w #[.int .i8 n.x,.int .i8 n.y,.int .i8 n.z] #[.bool false,.slice none 0 0,.bool false,.slice none 0 0,.bool false,.slice none 0 0,.bool false,.slice none 0 0,.bool false,.slice none 0 0,.bool false,.slice none 0 0] 38 58
 obtain ⟨h1,h2,h3⟩:=hn
 unfold Le at h1 h2 h3
 have HQx:Hid (-9223372036854775808≤n.x∧n.x≤9223372036854775807):=⟨by omega,by omega⟩
 have HQy:Hid (-9223372036854775808≤n.y∧n.y≤9223372036854775807):=⟨by omega,by omega⟩
 have HQz:Hid (-9223372036854775808≤n.z∧n.z≤9223372036854775807):=⟨by omega,by omega⟩
 have HWx:Hid (IntKind.i64.wrap n.x=n.x):=IntWalk.i64_in _ (by omega)
 have HWy:Hid (IntKind.i64.wrap n.y=n.y):=IntWalk.i64_in _ (by omega)
 have HWz:Hid (IntKind.i64.wrap n.z=n.z):=IntWalk.i64_in _ (by omega)
 have HB:=Lib.hid hB
 have HSZ:=Lib.hid hS
 have B1:=Lib.hid b1
 have B2:Hid (Box W (w.heap.size+1) (cells3 RC.zero RC.zero RC.zero) 58):=b2
 clear hB hS b1 b2 h1 h2 h3
 go_enter Tryz.func18,Tryz.ntmps18
 go_wp2_with fail
 refine wp_region_b (rest:=1) [isV 0 (.pointer (some ⟨w.heap.size,0,none⟩)),isV 1 (.int .i8 n.x),isV 2 (.int .i64 n.x),isP 3 (fun v w=>IsRat w v ((n.x:Rat) / ((2:Int):Rat))),isV 4 (.pointer (some ⟨w.heap.size,1,none⟩)),isV 5 (.int .i8 n.y),isV 6 (.int .i64 n.y),isP 7 (fun v w=>IsRat w v ((n.y:Rat) / ((2:Int):Rat))),isV 8 (.pointer (some ⟨w.heap.size,2,none⟩)),isV 9 (.int .i8 n.z),isV 10 (.int .i64 n.z),isP 11 (fun v w=>IsRat w v ((n.z:Rat) / ((2:Int):Rat))),isP 12 (fun v w=>IsVec w v (halfQ n))] [] ?A1 #[true,true,true,true,true,true,true,true,true,true,true,true,true,false] (by kernel_rfl) [0,1,2,3,4,5,6,7,8,9,10,11,12] (by kernel_rfl) (by kernel_rfl) (by kernel_rfl) (by kernel_rfl) (by kernel_rfl) (by kernel_rfl) ?st ?hA ?hop ?hend
 case hA =>
  intro y
  simp only [putAll,dstOf,List.getElem?_toArray,List.getElem?_cons_zero,List.getElem?_cons_succ,Option.bind_some,Act.put,List.setIfInBounds_toArray,List.set_cons_zero,List.set_cons_succ]
  exact rfl
 case st=>exact StabL.cons isV.stab (StabL.cons isV.stab (StabL.cons isV.stab (StabL.cons (isP.stab (fun _ _ _ h hv=>hv.below h)) (StabL.cons isV.stab (StabL.cons isV.stab (StabL.cons isV.stab (StabL.cons (isP.stab (fun _ _ _ h hv=>hv.below h)) (StabL.cons isV.stab (StabL.cons isV.stab (StabL.cons isV.stab (StabL.cons (isP.stab (fun _ _ _ h hv=>hv.below h)) (StabL.cons (isP.stab (fun _ _ _ h hv=>hv.below h)) (StabL.nil)))))))))))))
 case hop =>
  refine OpsOk.cons (i:=0) rfl (fun y w' hS hD K hK=>?_) ?_
  ·as_aux_lemma =>
   go_simp
   exact hK.out _ w' hS (Below.refl _ _) isV.put (fun h=>absurd h (by decide))
  refine OpsOk.cons (i:=1) rfl (fun y w' hS hD K hK=>?_) ?_
  ·as_aux_lemma =>
   have e0:y 0=.pointer (some ⟨w.heap.size,0,none⟩):=isV.get (i:=0) (c:=.pointer (some ⟨w.heap.size,0,none⟩)) (hD 0 (by kernel_rfl))
   have bx:=B1.out.below hS B1.out.lt
   obtain ⟨c0,c1,c2,-⟩:=bx.three
   simp only [e0] at hK ⊢
   go_simp
   exact hK.out _ w' hS (Below.refl _ _) isV.put (fun h=>absurd h (by decide))
  refine OpsOk.cons (i:=2) rfl (fun y w' hS hD K hK=>?_) ?_
  ·as_aux_lemma =>
   have e1:y 1=.int .i8 n.x:=isV.get (i:=1) (c:=.int .i8 n.x) (hD 1 (by kernel_rfl))
   have wz:=HWx.out
   simp only [e1] at hK ⊢
   go_simp
   exact hK.out _ w' hS (Below.refl _ _) isV.put (fun h=>absurd h (by decide))
  refine OpsOk.cons (i:=3) rfl (fun y w' hS hD K hK=>?_) ?_
  ·as_aux_lemma =>
   have e2:y 2=.int .i64 n.x:=isV.get (i:=2) (c:=.int .i64 n.x) (hD 2 (by kernel_rfl))
   simp only [e2] at hK ⊢
   go_simp
   refine (quotient_any n.x 2 w' HQx.out (by omega) (by omega)).mono ?_
   rintro e w'' ⟨⟨v,rfl,hv⟩,hb⟩
   exact hK.out v w'' (below_call hS hb (Nat.le_refl _)) hb (isP.put hv) (fun h=>absurd h (by decide))
  refine OpsOk.cons (i:=4) rfl (fun y w' hS hD K hK=>?_) ?_
  ·as_aux_lemma =>
   go_simp
   exact hK.out _ w' hS (Below.refl _ _) isV.put (fun h=>absurd h (by decide))
  refine OpsOk.cons (i:=5) rfl (fun y w' hS hD K hK=>?_) ?_
  ·as_aux_lemma =>
   have e4:y 4=.pointer (some ⟨w.heap.size,1,none⟩):=isV.get (i:=4) (c:=.pointer (some ⟨w.heap.size,1,none⟩)) (hD 4 (by kernel_rfl))
   have bx:=B1.out.below hS B1.out.lt
   obtain ⟨c0,c1,c2,-⟩:=bx.three
   simp only [e4] at hK ⊢
   go_simp
   exact hK.out _ w' hS (Below.refl _ _) isV.put (fun h=>absurd h (by decide))
  refine OpsOk.cons (i:=6) rfl (fun y w' hS hD K hK=>?_) ?_
  ·as_aux_lemma =>
   have e5:y 5=.int .i8 n.y:=isV.get (i:=5) (c:=.int .i8 n.y) (hD 5 (by kernel_rfl))
   have wz:=HWy.out
   simp only [e5] at hK ⊢
   go_simp
   exact hK.out _ w' hS (Below.refl _ _) isV.put (fun h=>absurd h (by decide))
  refine OpsOk.cons (i:=7) rfl (fun y w' hS hD K hK=>?_) ?_
  ·as_aux_lemma =>
   have e6:y 6=.int .i64 n.y:=isV.get (i:=6) (c:=.int .i64 n.y) (hD 6 (by kernel_rfl))
   simp only [e6] at hK ⊢
   go_simp
   refine (quotient_any n.y 2 w' HQy.out (by omega) (by omega)).mono ?_
   rintro e w'' ⟨⟨v,rfl,hv⟩,hb⟩
   exact hK.out v w'' (below_call hS hb (Nat.le_refl _)) hb (isP.put hv) (fun h=>absurd h (by decide))
  refine OpsOk.cons (i:=8) rfl (fun y w' hS hD K hK=>?_) ?_
  ·as_aux_lemma =>
   go_simp
   exact hK.out _ w' hS (Below.refl _ _) isV.put (fun h=>absurd h (by decide))
  refine OpsOk.cons (i:=9) rfl (fun y w' hS hD K hK=>?_) ?_
  ·as_aux_lemma =>
   have e8:y 8=.pointer (some ⟨w.heap.size,2,none⟩):=isV.get (i:=8) (c:=.pointer (some ⟨w.heap.size,2,none⟩)) (hD 8 (by kernel_rfl))
   have bx:=B1.out.below hS B1.out.lt
   obtain ⟨c0,c1,c2,-⟩:=bx.three
   simp only [e8] at hK ⊢
   go_simp
   exact hK.out _ w' hS (Below.refl _ _) isV.put (fun h=>absurd h (by decide))
  refine OpsOk.cons (i:=10) rfl (fun y w' hS hD K hK=>?_) ?_
  ·as_aux_lemma =>
   have e9:y 9=.int .i8 n.z:=isV.get (i:=9) (c:=.int .i8 n.z) (hD 9 (by kernel_rfl))
   have wz:=HWz.out
   simp only [e9] at hK ⊢
   go_simp
   exact hK.out _ w' hS (Below.refl _ _) isV.put (fun h=>absurd h (by decide))
  refine OpsOk.cons (i:=11) rfl (fun y w' hS hD K hK=>?_) ?_
  ·as_aux_lemma =>
   have e10:y 10=.int .i64 n.z:=isV.get (i:=10) (c:=.int .i64 n.z) (hD 10 (by kernel_rfl))
   simp only [e10] at hK ⊢
   go_simp
   refine (quotient_any n.z 2 w' HQz.out (by omega) (by omega)).mono ?_
   rintro e w'' ⟨⟨v,rfl,hv⟩,hb⟩
   exact hK.out v w'' (below_call hS hb (Nat.le_refl _)) hb (isP.put hv) (fun h=>absurd h (by decide))
  refine OpsOk.cons (i:=12) rfl (fun y w' hS hD K hK=>?_) ?_
  ·as_aux_lemma =>
   have e3:=isP.get (i:=3) (p:=fun v w=>IsRat w v ((n.x:Rat) / ((2:Int):Rat))) (hD 3 (by kernel_rfl))
   have e7:=isP.get (i:=7) (p:=fun v w=>IsRat w v ((n.y:Rat) / ((2:Int):Rat))) (hD 7 (by kernel_rfl))
   have e11:=isP.get (i:=11) (p:=fun v w=>IsRat w v ((n.z:Rat) / ((2:Int):Rat))) (hD 11 (by kernel_rfl))
   obtain ⟨r0,eq0,h0⟩:=e3.rcv
   obtain ⟨r1,eq1,h1⟩:=e7.rcv
   obtain ⟨r2,eq2,h2⟩:=e11.rcv
   simp only [eq0,eq1,eq2] at hK ⊢
   clear e3 e7 e11 eq0 eq1 eq2
   refine iteInduction (motive:=fun p=>p) (fun _=>?_) (fun h=>absurd (by kernel_rfl) h)
   refine wp_buildTo 58 #[(0,.tmp 6),(1,.tmp 10),(2,.tmp 14)] rfl #[.bool r0.s,.slice r0.a r0.n r0.c,.bool r0.t,.slice r0.b r0.m r0.d,.bool r1.s,.slice r1.a r1.n r1.c,.bool r1.t,.slice r1.b r1.m r1.d,.bool r2.s,.slice r2.a r2.n r2.c,.bool r2.t,.slice r2.b r2.m r2.d] (by rw [List.map_toArray];simp only [List.map_cons,List.map_nil,Act.eval];exact built_vec r0.s r0.t r1.s r1.t r2.s r2.t r0.a r0.b r1.a r1.b r2.a r2.b r0.n r0.c r0.m r0.d r1.n r1.c r1.m r1.d r2.n r2.c r2.m r2.d) ?_
   exact hK.out (.agg #[.bool r0.s,.slice r0.a r0.n r0.c,.bool r0.t,.slice r0.b r0.m r0.d,.bool r1.s,.slice r1.a r1.n r1.c,.bool r1.t,.slice r1.b r1.m r1.d,.bool r2.s,.slice r2.a r2.n r2.c,.bool r2.t,.slice r2.b r2.m r2.d]) w' hS (Below.refl _ _) (isP.put ⟨r0,r1,r2,rfl,h0,h1,h2⟩) (fun h=>absurd h (by decide))
  exact OpsOk.nil
 case hend =>
  intro y w' hS hR hF
  obtain ⟨A0,A1,A2,ev,hA⟩:=(isP.get (i:=12) (p:=fun v w=>IsVec w v (halfQ n)) (hR 12 (by kernel_rfl))).rcv
  simp only [ev]
  have bga:=B2.out.below hS B2.out.lt
  obtain ⟨-,f0,f1,f2,f3⟩:=bga.p0
  obtain ⟨c0,c1,c2,c3⟩:=bga.p0.1
  obtain ⟨-,f4,f5,f6,f7⟩:=bga.p1
  obtain ⟨c4,c5,c6,c7⟩:=bga.p1.1
  obtain ⟨-,f8,f9,f10,f11⟩:=bga.p2
  obtain ⟨c8,c9,c10,c11⟩:=bga.p2.1
  refine wpAny_one (i:=13) (listed2:=#[true,true,true,true,true,true,true,true,true,true,true,true,true,true]) (by kernel_rfl) rfl (by kernel_rfl) (fun K hK=>?_)
  go_simp
  refine hK.out _ _ ?_
  clear hK K
  refine wpAny_over (by kernel_rfl) ?_
  clear f0 c0 f1 c1 f2 c2 f3 c3 f4 c4 f5 c5 f6 c6 f7 c7 f8 c8 f9 c9 f10 c10 f11 c11
  change Exit.then _ _ _ _ (put12 w' (w.heap.size+1) A0 A1 A2)
  have H9:=Lib.hid (below_put12 (below_call HB.out hS (by have:=HB.out.size;omega)) (Nat.le_add_right _ 1) A0 A1 A2)
  have B9:=Lib.hid (bga.s12 A0 A1 A2)
  have V9:=Lib.hid (hA.put12 bga A0 A1 A2)
  generalize put12 w' (w.heap.size+1) A0 A1 A2=w9 at *
  clear hS hR hF ev bga hA
  go_wp2_with fail
  exact ret_box Tryz.results18 (w.heap.size+1) B9.out _ rfl Tryz.underlying58 rfl infoVec rfl ⟨⟨_,rfl,V9.out⟩,H9.out⟩
end Go.Proofs.YtaibkpbklfodiaaGreatDoor
end
section
namespace Dowel
open Go Go.RowKit Go.Proofs.YtaibkpbklfodiaaGreatDoor
theorem insG_map {α β:Type} (f:α→β) (p:α→Bool) (p':β→Bool) (hp:∀ x,p x=p' (f x)) (x:α):∀ l:List α,(insG p x l).map f=insG p' (f x) (l.map f)
 | []=>rfl
 | q :: t=>by
  rw [List.map_cons]
  unfold insG
  rw [hp q]
  split
  ·rw [List.map_cons,insG_map f p p' hp x t]
  ·rfl
structure F5 where
 m:Pl
 v:Value
 r:List Nat
def F5.pf (f:F5):PF:=(f.m,f.r)
def f5 (f:F5):List Value:=[.int .i64 f.m.n.x,.int .i64 f.m.n.y,.int .i64 f.m.n.z,.int .i64 f.m.o,f.v]
theorem f5_len (f:F5):(f5 f).length=5:=rfl
structure OwnF5 (w:World) (base:Nat) (v:Value) (l:List F5):Prop where
 row:OwnG w base 50 5 f5 v l
 own:∀ f ∈ l,OwnN w base f.v f.r
theorem OwnF5.below {w w':World} {base:Nat} {v:Value} {l:List F5} (h:OwnF5 w base v l) (hb:Below w.heap.size w w'):OwnF5 w' base v l:=⟨OwnG.below h.row hb,fun f hf=>own_below (h.own f hf) hb⟩
theorem OwnF5.down {w:World} {base base':Nat} {v:Value} {l:List F5} (h:OwnF5 w base v l) (hb:base'≤base):OwnF5 w base' v l:=⟨h.row.down hb,fun f hf=>own_base (h.own f hf) hb⟩
theorem OwnN.sl {w:World} {base:Nat} {v:Value} {l:List Nat} (h:OwnN w base v l):∃ a cap,v=.slice a l.length cap:=by
 obtain ⟨a,cap,hv,-⟩:=h.ints
 exact ⟨a,cap,hv⟩
theorem f5_one {w:World} {base:Nat} {l:List F5} (h:∀ f ∈ l,OwnN w base f.v f.r):∀ u ∈ l.flatMap f5,u.oneCell'=true:=fun u hu=>by
 obtain ⟨f,hf,h1⟩:=List.mem_flatMap.mp hu
 obtain ⟨a,cap,hv⟩:=(h f hf).sl
 simp only [f5,List.mem_cons,List.not_mem_nil,or_false] at h1
 rcases h1 with rfl | rfl | rfl | rfl | rfl
 ·rfl
 ·rfl
 ·rfl
 ·rfl
 ·rw [hv];rfl
instance (a b : List Nat) : Decidable (LtR a b) := by unfold LtR; infer_instance
def RFaces (w:World) (base:Nat) (v:Value) (fs:List PF):Prop:=∃ l:List F5,OwnF5 w base v l∧l.map F5.pf=fs
theorem RFaces.below {w w':World} {base:Nat} {v:Value} {fs:List PF} (h:RFaces w base v fs) (hb:Below w.heap.size w w'):RFaces w' base v fs:=by
 obtain ⟨l,h1,h2⟩:=h
 exact ⟨l,h1.below hb,h2⟩
end Dowel
end
section
namespace Dowel
open Go Go.RowKit
theorem OwnN.cellAt {w:World} {base:Nat} {v:Value} {l:List Nat} (h:OwnN w base v l):∃ a cap,v=.slice a l.length cap∧(0<l.length→∃ b off,a=some ⟨b,off,none⟩∧b<w.heap.size∧∀ i,i<l.length→w.cell? ⟨b,off+i,none⟩=some (.int .i64 ((l.getD i 0:Nat):Int))):=by
 obtain ⟨a,cap,hv,hi⟩:=h.ints
 refine ⟨a,cap,hv,fun h0=>?_⟩
 obtain ⟨b,off,e,hb,-,hc⟩:=hi.cells h0
 refine ⟨b,off,e,hb,fun i hi=>?_⟩
 rw [hc i hi]
 congr 2
 simp [List.getD_eq_getElem?_getD,hi]
end Dowel
namespace Go.Proofs.YtaibkpbklfodiaaGreatDoor
open Go.RowKit Dowel
set_option maxHeartbeats 2000000 in
theorem before_any (va vb:Value) (a b:List Nat) (base base':Nat) (w:World) (ha:OwnN w base va a) (hb:OwnN w base' vb b) (h1:a.length≤64) (h2:b.length≤64) :
  Calls Tryz.prog 61 #[va,vb] w fun e w'=>e=.returned (.bool (decide (LtR a b)))∧Below w.heap.size w w':=by
 obtain ⟨aa,ca,rfl,hia⟩:=ha.cellAt
 obtain ⟨ab,cb,rfl,hib⟩:=hb.cellAt
 clear ha hb
 obtain ⟨M,hM⟩:∃ M,a.length=M:=⟨_,rfl⟩
 obtain ⟨N,hN⟩:∃ N,b.length=N:=⟨_,rfl⟩
 obtain ⟨r,hr⟩:∃ r,decide (LtR a b)=r:=⟨_,rfl⟩
 have HR:=Lib.hid hr
 have HM:=Lib.hid hM
 have HN:=Lib.hid hN
 rw [hr]
 rw [hM] at h1 hia ⊢
 rw [hN] at h2 hib ⊢
 have HA:=Lib.hid hia
 have HB:=Lib.hid hib
 clear hr hM hN hia hib
 go_enter Tryz.func61,Tryz.ntmps61
 go_wp2_with fail
 go_loopw [5] (fun iv wr=>∃ i:Nat,i≤M∧i≤N∧iv=.int .i64 (i:Nat)∧Hid (∀ q,q<i→a.getD q 0=b.getD q 0)∧Hid (Below w.heap.size w wr)) (fun iv _=>M - (intOf iv).toNat)
 case atStart=>exact ⟨0,Nat.zero_le _,Nat.zero_le _,rfl,(fun q hq=>by omega),Below.refl _ _⟩
 case round =>
  obtain ⟨i,hi,hi',rfl,HE,HW⟩:=hrel
  by_cases hend:i=M∨i=N
  ·have e:r=decide (M<N):=by
    rw [← HR.out,decide_eq_decide,LtR.end_ (fun q h3 h4=>HE.out q (by have:=HM.out;have:=HN.out;omega)),HM.out,HN.out]
   have E:=Lib.hid e
   clear e
   by_cases h0:i=M
   ·have hn:¬ (i:Int)<(M:Int):=by omega
    go_wp2_with fail
    go_ret
    exact ⟨by rw [E.out];rfl,HW.out⟩
   ·have hlt:(i:Int)<(M:Int):=by omega
    have hn:¬ (i:Int)<(N:Int):=by omega
    go_wp2_with fail
    go_ret
    exact ⟨by rw [E.out];rfl,HW.out⟩
  ·have hlt:(i:Int)<(M:Int):=by omega
   have hlt':(i:Int)<(N:Int):=by omega
   obtain ⟨ba,oa,rfl,hba,ca'⟩:=HA.out (by omega)
   obtain ⟨bb,ob,rfl,hbb,cb'⟩:=HB.out (by omega)
   have x1:=keepC (ca' i (by omega)) HW.out hba
   have x2:=keepC (cb' i (by omega)) HW.out hbb
   have HIM:=Lib.hid (show i<M by omega)
   have HIN:=Lib.hid (show i<N by omega)
   obtain ⟨x,hx⟩:∃ x,a.getD i 0=x:=⟨_,rfl⟩
   obtain ⟨y,hy⟩:∃ y,b.getD i 0=y:=⟨_,rfl⟩
   have HX:=Lib.hid hx
   have HY:=Lib.hid hy
   rw [hx] at x1
   rw [hy] at x2
   clear hx hy ca' cb' hend
   by_cases hxy:x=y
   ·have hb:((x:Int) != (y:Int))=false:=by rw [hxy];simp
    have HXY:=Lib.hid hxy
    clear hxy
    go_wp2_with fail
    go_quiet (fail)
    rename_i k
    go_wp2_with fail
    go_round
    case rel=>exact ⟨i+1,HIM.out,HIN.out,rfl,(fun q hq=>by
     by_cases e:q=i
     ·subst e;rw [HX.out,HY.out,HXY.out]
     ·exact HE.out q (by omega)),below_drewN HW.out _⟩
    case measure=>show M - ((i:Int)+1).toNat<M - (i:Int).toNat;have:=HIM.out;omega
   ·have hb:((x:Int) != (y:Int))=true:=by simp;omega
    have e:r=decide (x<y):=by
     rw [← HR.out,decide_eq_decide,LtR.at_ (k:=i) (by have:=HM.out;have:=HIM.out;omega) (by have:=HN.out;have:=HIN.out;omega) HE.out (by rw [HX.out,HY.out];exact hxy),HX.out,HY.out]
    have E:=Lib.hid e
    clear e hxy
    go_wp2_with fail
    go_quiet (fail)
    go_wp2_with fail
    go_quiet (fail)
    go_wp2_with fail
    go_ret
    exact ⟨by rw [E.out];rfl,below_drewN (below_drewN HW.out _) _⟩
end Go.Proofs.YtaibkpbklfodiaaGreatDoor
end
section
namespace Dowel
open Go Go.RowKit
theorem ptsOn_succ (P:Nat→V) (N:Nat) (m:Pl):ptsOn P (N+1) m=if V.dot m.n (P N)=m.o then ptsOn P N m ++ [N] else ptsOn P N m:=by
 unfold ptsOn
 rw [List.range_succ,List.filter_append]
 split <;> rename_i h
 ·rw [List.filter_cons_of_pos (by simpa using h)];simp
 ·rw [List.filter_cons_of_neg (by simpa using h)];simp
theorem ptsOn_len (P:Nat→V) (N:Nat) (m:Pl):(ptsOn P N m).length≤N:=by
 unfold ptsOn
 exact Nat.le_trans (List.length_filter_le _ _) (by simp)
theorem ptsOn_lt {P:Nat→V} {N:Nat} {m:Pl} {x:Nat} (h:x ∈ ptsOn P N m):x<N:=by
 unfold ptsOn at h
 exact List.mem_range.mp (List.mem_filter.mp h).1
theorem OwnN.app {w:World} {base:Nat} {v:Value} {l:List Nat} {x:Nat} (h:w.ownsRow base 3 1 v (l.length+1) ((l.map fun (i:Nat)=>Value.int .i64 (i:Int)) ++ [.int .i64 (x:Int)])):OwnN w base v (l ++ [x]):=by
 unfold OwnN
 rw [List.length_append,List.map_append]
 exact h
theorem gd_mem {l:List Nat} {i:Nat} (h:i<l.length):l.getD i 0 ∈ l:=by
 rw [List.getD_eq_getElem?_getD,List.getElem?_eq_getElem h]
 exact List.getElem_mem h
end Dowel
namespace Go.Proofs.YtaibkpbklfodiaaGreatDoor
open Go.RowKit Dowel
set_option maxHeartbeats 4000000 in
set_option maxRecDepth 10000 in
theorem rwalk_any (a:Option Addr) (len cap:Nat) (P:Nat→V) (m:Pl) (rg:List Nat) (w:World) (hP:Pts w a len cap P) (hlen:len≤64) (hnear:∀ i,i<len→LeV 4096 (P i)) (hm:LeV 1000000000 m.n) (hw:RingW P m.n (ptsOn P len m) rg) :
  Calls Tryz.prog 60 #[.slice a len cap,plV m] w fun e w'=>RetInts w' w.heap.size e rg∧Below w.heap.size w w':=by
 obtain ⟨W,hW,b1,hB,hS⟩:=boxes1 w #[.int .i64 m.n.x,.int .i64 m.n.y,.int .i64 m.n.z,.int .i64 m.o] 48
 obtain ⟨i0,hinf,hz0,hz1,hz2⟩:=info_parts info3
 have HP:=Lib.hid (hP.below hB)
 have HB:=Lib.hid hB
 have HSZ:=Lib.hid hS
 have HN:=Lib.hid hnear
 have HM:=Lib.hid hm
 have HRW:=Lib.hid hw
 have KM:Hid (∀ w',Below W.heap.size W w'→w'.cell? ⟨w.heap.size,0,none⟩=some (.int .i64 m.n.x)∧w'.cell? ⟨w.heap.size,1,none⟩=some (.int .i64 m.n.y)∧w'.cell? ⟨w.heap.size,2,none⟩=some (.int .i64 m.n.z)∧w'.cell? ⟨w.heap.size,3,none⟩=some (.int .i64 m.o)):=fun w' h=>by
  obtain ⟨c0,c1,c2,c3,-⟩:=(b1.below h b1.lt).four
  exact ⟨c0,c1,c2,c3⟩
 have hgl:=b1.lt
 clear hP hB hS hnear hm hw b1
 unfold plV
 go_enter Tryz.func60,Tryz.ntmps60
 go_wp2_with fail
 go_loopw [5,6] (fun ov' iv wr=>∃ k ov,ov=ov'∧k≤len∧iv=.int .i64 (k:Nat)∧Hid (OwnN wr W.heap.size ov (ptsOn P k m))∧Hid (Below W.heap.size W wr)) (fun _ iv _=>len - (intOf iv).toNat)
 case atStart=>exact ⟨0,_,rfl,Nat.zero_le _,rfl,World.ownsRow_nil _ _ _ _,Below.refl _ _⟩
 case round =>
  obtain ⟨k,ov,rfl,hk,rfl,HO,HR⟩:=hrel
  obtain ⟨wk,rfl⟩:∃ wk,wk=wr:=⟨_,rfl⟩
  by_cases h0:k=len
  case neg =>
   have hkl:k<len:=by omega
   have hlt:(k:Int)<(len:Int):=by omega
   have HKL:=Lib.hid hkl
   obtain ⟨b,off,rfl,hb,hc,hcc⟩:=(HP.out.below HR.out).cells (by omega)
   obtain ⟨q0,q1,q2⟩:=hcc k hkl
   have hpk:=HN.out k hkl
   obtain ⟨pk,hpke⟩:∃ pk,P k=pk:=⟨_,rfl⟩
   have HPK:=Lib.hid hpke
   rw [hpke] at q0 q1 q2 hpk
   have hwl:w.heap.size<wk.heap.size:=by have:=HR.out.size;omega
   obtain ⟨c0,c1,c2,c3⟩:=KM.out wk HR.out
   have K0:=fun x:Later wk.heap.size wk=>keepC q0 x.h hb
   have K1:=fun x:Later wk.heap.size wk=>keepC q1 x.h hb
   have K2:=fun x:Later wk.heap.size wk=>keepC q2 x.h hb
   have L0:=fun x:Later wk.heap.size wk=>keepC c0 x.h hwl
   have L1:=fun x:Later wk.heap.size wk=>keepC c1 x.h hwl
   have L2:=fun x:Later wk.heap.size wk=>keepC c2 x.h hwl
   have L3:=fun x:Later wk.heap.size wk=>keepC c3 x.h hwl
   have HDT:=Lib.hid (fun v=>rdot_any m.n pk 1000000000 4096 v HM.out hpk (by omega))
   obtain ⟨d,hd⟩:∃ d,V.dot m.n pk=d:=⟨_,rfl⟩
   have HD:=Lib.hid hd
   rw [hd] at HDT
   clear hcc h0 hpke hpk hd q0 q1 q2 c0 c1 c2 c3
   have HOL:=Lib.hid (ptsOn_len P k m)
   by_cases he:d=m.o
   ·have hbe:(d == m.o)=true:=by rw [he];exact beq_self_eq_true _
    have hbd:decide (d=m.o)=true:=decide_eq_true he
    have HE:=Lib.hid he
    clear he
    go_wp2_with fail
    refine wp_region_later (Below.refl wk.heap.size wk) (by kernel_rfl) (by kernel_rfl) ?_
    repeat (first
     | go_big_quiet_skip
     | (go_big_quiet_want;go_big_quiet_op;first | go_big_quiet_on | go_big_quiet_call ((go_at_call 16;exact Calls.later (Nat.le_refl _) (HDT.out _)))))
    refine wpQuiet_nil ?_
    intro w5 hw'
    obtain ⟨x,hx⟩:=hw'
    have H5:=Lib.hid (show Below W.heap.size W w5 from by rw [hx];exact below_call HR.out x.h (Nat.le_refl _))
    have HO5:=Lib.hid (own_below HO.out (show Below wk.heap.size wk w5 from by rw [hx];exact x.h))
    have HBS:=Lib.hid H5.out.size
    clear hx x K0 K1 K2 L0 L1 L2 L3
    go_wp2_with (at_builtin;refine wpList_append_own _ rfl _ _ 43 rfl W.heap.size 3 i0 (.int .i64 0) 1 8 Tryz.underlying43 hinf hz0 hz1 hz2 rfl (by decide) _ _ _ rfl (World.ownsRow.alloc HO5.out _) ⟨w5.heap.size,0,none⟩ 1 1 [.int .i64 (k:Nat)] rfl rfl (fun j u hj=>cell_new w5 _ _ j u hj) (by intro u hu;simp at hu;rcases hu with rfl;rfl) (by have:=HOL.out;unfold maxLen;omega) (by have:=HOL.out;omega) (by have:=HBS.out;simp;omega) ?_)
    intro v' w6 hown' hgrow6 _
    have HO6:=Lib.hid (show OwnN w6 W.heap.size v' (ptsOn P (k+1) m) from by
     rw [ptsOn_succ,if_pos (by rw [HPK.out,HD.out];exact HE.out)]
     exact OwnN.app hown')
    have HB6:=Lib.hid (show Below W.heap.size W w6 from (H5.out.alloc HBS.out _).grown hgrow6 (by have:=HBS.out;simp;omega) (fun g hg=>own_ge HO5.out g hg))
    clear hown' hgrow6
    go_wp2
    go_round
    case rel=>exact ⟨k+1,_,rfl,HKL.out,rfl,HO6.out,HB6.out⟩
    case measure=>show len - ((k:Int)+1).toNat<len - (k:Int).toNat;have:=HKL.out;omega
   ·have hbe:(d == m.o)=false:=beq_eq_false_iff_ne.mpr he
    have hbd:decide (d=m.o)=false:=decide_eq_false he
    have HE:=Lib.hid he
    clear he
    go_wp2_with fail
    refine wp_region_later (Below.refl wk.heap.size wk) (by kernel_rfl) (by kernel_rfl) ?_
    repeat (first
     | go_big_quiet_skip
     | (go_big_quiet_want;go_big_quiet_op;first | go_big_quiet_on | go_big_quiet_call ((go_at_call 16;exact Calls.later (Nat.le_refl _) (HDT.out _)))))
    refine wpQuiet_nil ?_
    intro w5 hw'
    obtain ⟨x,hx⟩:=hw'
    have H5:=Lib.hid (show Below W.heap.size W w5 from by rw [hx];exact below_call HR.out x.h (Nat.le_refl _))
    have HO5:=Lib.hid (own_below HO.out (show Below wk.heap.size wk w5 from by rw [hx];exact x.h))
    clear hx x K0 K1 K2 L0 L1 L2 L3
    go_wp2
    go_round
    case rel=>exact ⟨k+1,_,rfl,HKL.out,rfl,by
     rw [ptsOn_succ,if_neg (by rw [HPK.out,HD.out];exact HE.out)];exact HO5.out,H5.out⟩
    case measure=>show len - ((k:Int)+1).toNat<len - (k:Int).toNat;have:=HKL.out;omega
  case pos =>
  subst h0
  have hnl:¬ (k:Int)<(k:Int):=by omega
  obtain ⟨on,hon⟩:∃ on,ptsOn P k m=on:=⟨_,rfl⟩
  have HLT:=Lib.hid (show ∀ x ∈ on,x<k from fun x hx=>by rw [← hon] at hx;exact ptsOn_lt hx)
  rw [hon] at HO HRW
  obtain ⟨L,hL⟩:∃ L,on.length=L:=⟨_,rfl⟩
  have HL:=Lib.hid hL
  have HRL:=Lib.hid (HRW.out.len.trans hL)
  have hL0:0<L:=by rw [← HRL.out];exact HRW.out.pos
  have hL64:L≤64:=by
   have:=ptsOn_len P k m
   rw [hon,hL] at this;omega
  obtain ⟨oa,oc,rfl,hoc⟩:=OwnN.cellAt HO.out
  rw [hL] at hoc ⊢
  obtain ⟨bo,oo,rfl,hbo,hcc⟩:=hoc hL0
  have HC:=Lib.hid (fun w' (h:Below wk.heap.size wk w') i (hi:i<L)=>keepC (hcc i hi) h hbo)
  have c0:=hcc 0 hL0
  obtain ⟨a0,ha0⟩:∃ a0,on.getD 0 0=a0:=⟨_,rfl⟩
  rw [ha0,Nat.add_zero] at c0
  have HA0:=Lib.hid (HRW.out.hd.trans ha0)
  have hl0:(0:Int)<(L:Int):=by omega
  have HL0:=Lib.hid hL0
  have HL64:=Lib.hid hL64
  clear hcc hoc hon hL ha0 hL0 hL64 HO
  go_wp2_with fail
  obtain ⟨Wo,hWo⟩:∃ Wo,wk.alloc (.cells #[.int .i64 (a0:Int)] 3)=Wo:=⟨_,rfl⟩
  rw [hWo]
  have hown0:OwnN Wo wk.heap.size (.slice (some ⟨wk.heap.size,0,none⟩) 1 1) (rg.take 1):=by
   have e:rg.take 1=[a0]:=by
    rw [← HA0.out]
    have hp:=HRW.out.pos
    cases rg with
    | nil=>simp at hp
    | cons x l=>rfl
   rw [e,← hWo]
   exact World.ownsRow_lit _ _ 1 (Nat.le_refl _) (by unfold maxLen;omega) rfl
  have hBo:Below wk.heap.size wk Wo:=by rw [← hWo];exact (Below.refl _ _).alloc (Nat.le_refl _) _
  have HO0:=Lib.hid hown0
  have HBO:=Lib.hid hBo
  clear hown0 hBo hWo c0
  go_loopw [7] (fun ov' w2=>∃ j ov,ov=ov'∧1≤j∧j≤L∧Hid (OwnN w2 wk.heap.size ov (rg.take j))∧Hid (Below wk.heap.size wk w2)) (fun ov _=>L - (match ov with | .slice _ n _=>n | _=>0))
  case atStart=>exact ⟨1,_,rfl,Nat.le_refl _,HL0.out,HO0.out,HBO.out⟩
  case round =>
   obtain ⟨j,ov,rfl,hj1,hj2,HO2,HR2⟩:=hrel
   obtain ⟨w2,rfl⟩:∃ w2,w2=wr:=⟨_,rfl⟩
   have elen:(rg.take j).length=j:=by rw [List.length_take,HRL.out];omega
   have ELEN:=Lib.hid elen
   by_cases h0:j=L
   ·subst h0
    have hnj:¬ (j:Int)<(j:Int):=by omega
    have HOF:=Lib.hid (show OwnN w2 w.heap.size ov rg from by
     have:=HO2.out
     rw [List.take_of_length_le (by rw [HRL.out];exact Nat.le_refl _)] at this
     exact own_base this (by have:=HR.out.size;have:=HSZ.out;omega))
    obtain ⟨g,cg,rfl,-⟩:=OwnN.cellAt HO2.out
    rw [elen] at HOF ⊢
    go_wp2
    exact bodyPost_ret (results_tmp Tryz.results60 _ _ _) rfl ⟨⟨_,rfl,HOF.out⟩,below_call HB.out (below_call HR.out HR2.out (Nat.le_refl _)) (by have:=HSZ.out;omega)⟩
   obtain ⟨j,rfl⟩:∃ i,j=i+1:=⟨j - 1,by omega⟩
   obtain ⟨og,cg,rfl,hog⟩:=OwnN.cellAt HO2.out
   rw [elen] at hog ⊢
   obtain ⟨gb,go,rfl,hgb,hgc⟩:=hog (by omega)
   have g1:=hgc j (by omega)
   have eg:(rg.take (j+1)).getD j 0=rg.getD j 0:=by
    rw [List.getD_eq_getElem?_getD,List.getD_eq_getElem?_getD,List.getElem?_take_of_lt (by omega)]
   obtain ⟨la,hla⟩:∃ la,rg.getD j 0=la:=⟨_,rfl⟩
   rw [eg,hla] at g1
   have HLA:=Lib.hid hla
   have HJL:=Lib.hid (show j+1<L by omega)
   obtain ⟨nb,hnb⟩:∃ nb,rg.getD (j+1) 0=nb:=⟨_,rfl⟩
   have HNB:=Lib.hid hnb
   have HNX:=Lib.hid (show ∀ x ∈ on,(x≠la∧∀ q ∈ on,0≤T m.n (P x - P la) (P q - P la))↔x=nb from by
    have:=HRW.out.next j (by rw [HRL.out];omega)
    rw [hla,hnb] at this;exact this)
   have HNM:=Lib.hid (show nb ∈ on from by rw [← hnb];exact HRW.out.mem _ (gd_mem (by rw [HRL.out];omega)))
   have HLM:=Lib.hid (show la ∈ on from by rw [← hla];exact HRW.out.mem _ (gd_mem (by rw [HRL.out];omega)))
   have hjl:(j:Int)<((j+1:Nat):Int):=by omega
   have hjL:((j+1:Nat):Int)<(L:Int):=by omega
   have hj64:j≤64:=by have:=HL64.out;omega
   clear hgc hog elen eg hla hnb h0 hj1 hj2
   go_wp2_with fail
   clear g1
   go_loopw [7,9] (fun ov iv w3=>ov=.slice (some ⟨gb,go,none⟩) (j+1) cg∧∃ i,i≤L∧iv=.int .i64 (i:Nat)∧Hid (∀ q,q<i→on.getD q 0≠nb)∧Hid (Below w2.heap.size w2 w3)) (fun _ iv _=>L - (intOf iv).toNat)
   case atStart=>exact ⟨rfl,0,Nat.zero_le _,rfl,(fun q hq=>by omega),Below.refl _ _⟩
   case round =>
    obtain ⟨rfl,i,hi,rfl,HI,HR3⟩:=hrel
    have hi64:i≤64:=by have:=HL64.out;omega
    obtain ⟨w3,rfl⟩:∃ w3,w3=wr:=⟨_,rfl⟩
    have hil:i<L:=Classical.byContradiction fun hc=>by
     obtain ⟨q,hq,e⟩:=List.mem_iff_getElem.mp HNM.out
     exact HI.out q (by have:=HL.out;omega) (by rw [List.getD_eq_getElem?_getD,List.getElem?_eq_getElem hq];exact e)
    have hlt:(i:Int)<(L:Int):=by omega
    have HIL:=Lib.hid hil
    have L3:=Lib.hid (below_call HR2.out HR3.out (Nat.le_refl _))
    have ci:=HC.out w3 L3.out i hil
    obtain ⟨x,hx⟩:∃ x,on.getD i 0=x:=⟨_,rfl⟩
    rw [hx] at ci
    have HX:=Lib.hid hx
    have HXM:=Lib.hid (show x ∈ on from by rw [← hx];exact gd_mem (by rw [HL.out];exact hil))
    obtain ⟨ne,hne⟩:∃ ne,((x:Int) != (la:Int))=ne:=⟨_,rfl⟩
    have HNE:Hid (ne=true↔x≠la):=by
     show _↔_
     rw [← hne,bne_iff_ne]
     omega
    clear hx hi
    go_wp2_with fail
    go_region
    clear ci
    go_wp2_with fail
    go_loopw [11,12] (fun lv kv w4=>∃ q lb,q≤L∧lv=.bool lb∧kv=.int .i64 (q:Nat)∧Hid (lb=true→x≠la∧∀ y,y<q→0≤T m.n (P x - P la) (P (on.getD y 0) - P la))∧Hid (lb=false→x≠nb)∧Hid (Below w3.heap.size w3 w4)) (fun _ kv _=>L - (intOf kv).toNat)
    case atStart=>exact ⟨0,ne,Nat.zero_le _,rfl,rfl,(fun h=>⟨HNE.out.mp h,fun y hy=>by omega⟩),(fun h e=>absurd (HNE.out.mpr (by rw [e];exact ((HNX.out nb HNM.out).mpr rfl).1)) (by rw [h];decide)),(Below.refl _ _).drew⟩
    case round =>
     obtain ⟨q,lb,hq,rfl,rfl,HL1,HL2,HR4⟩:=hrel
     obtain ⟨w4,rfl⟩:∃ w4,w4=wr:=⟨_,rfl⟩
     have HR34:=Lib.hid (below_call HR3.out HR4.out (Nat.le_refl _))
     have hq64:q≤64:=by have:=HL64.out;omega
     clear hne
     cases lb
     case false =>
      have HI2:Hid (∀ y,y<i+1→on.getD y 0≠nb):=fun y hy=>by
       by_cases e:y=i
       ·subst e;rw [HX.out];exact HL2.out rfl
       ·exact HI.out y (by omega)
      by_cases hql:q<L
      ·have hqi:(q:Int)<(L:Int):=by omega
       go_wp2_with fail
       go_round
       case rel=>exact ⟨rfl,i+1,HIL.out,rfl,HI2.out,HR34.out⟩
       case measure=>show L - ((i:Int)+1).toNat<L - (i:Int).toNat;have:=HIL.out;omega
      ·have hqi:¬ (q:Int)<(L:Int):=by omega
       go_wp2_with fail
       go_round
       case rel=>exact ⟨rfl,i+1,HIL.out,rfl,HI2.out,HR34.out⟩
       case measure=>show L - ((i:Int)+1).toNat<L - (i:Int).toNat;have:=HIL.out;omega
     case true =>
      by_cases hql:q=L
      ·have hqi:¬ (q:Int)<(L:Int):=by omega
       have hxn:x=nb:=(HNX.out x HXM.out).mp ⟨(HL1.out rfl).1,fun y hy=>by
        obtain ⟨t,ht,e⟩:=List.mem_iff_getElem.mp hy
        have:=(HL1.out rfl).2 t (by have:=HL.out;omega)
        rw [List.getD_eq_getElem?_getD,List.getElem?_eq_getElem ht] at this
        rw [← e];exact this⟩
       have HXN:=Lib.hid hxn
       have HOW:=Lib.hid (show w4.ownsRow wk.heap.size 3 1 (.slice (some ⟨gb,go,none⟩) (j+1) cg) (j+1) ((rg.take (j+1)).map fun (i:Nat)=>Value.int .i64 (i:Int)) from by
        have:=own_below HO2.out HR34.out
        rw [ELEN.out] at this
        exact this)
       have HB4:=Lib.hid (below_call HR2.out HR34.out (Nat.le_refl _))
       have HBS:=Lib.hid HB4.out.size
       clear hxn hql
       go_wp2_with (at_builtin;refine wpList_append_own _ rfl _ _ 43 rfl wk.heap.size 3 i0 (.int .i64 0) 1 8 Tryz.underlying43 hinf hz0 hz1 hz2 rfl (by decide) _ _ _ rfl (World.ownsRow.alloc HOW.out _) ⟨w4.heap.size,0,none⟩ 1 1 [.int .i64 (x:Nat)] rfl rfl (fun j u hj=>cell_new w4 _ _ j u hj) (by intro u hu;simp at hu;rcases hu with rfl;rfl) (by unfold maxLen;omega) (by omega) (by have:=HBS.out;simp;omega) ?_)
       intro v' w6 hown' hgrow6 _
       have HO6:=Lib.hid (show OwnN w6 wk.heap.size v' (rg.take (j+1+1)) from by
        have e:rg.take (j+1+1)=rg.take (j+1) ++ [x]:=by
         have h1:j+1<rg.length:=by rw [HRL.out];exact HJL.out
         rw [List.take_succ_eq_append_getElem h1,HXN.out,← HNB.out]
         simp [h1]
        rw [e]
        refine OwnN.app ?_
        rw [ELEN.out,List.map_take]
        exact hown')
       have HB6:=Lib.hid (show Below wk.heap.size wk w6 from (HB4.out.alloc HBS.out _).grown hgrow6 (by have:=HBS.out;simp;omega) (fun g hg=>own_ge HOW.out g hg))
       obtain ⟨av,cv,hav,-⟩:=OwnN.cellAt HO6.out
       have hlv:(rg.take (j+1+1)).length=j+1+1:=by rw [List.length_take,HRL.out];have:=HJL.out;omega
       rw [hlv] at hav
       subst hav
       clear hown' hgrow6 hlv
       go_wp2
       go_round
       case rel=>exact ⟨j+1+1,_,rfl,by omega,HJL.out,HO6.out,HB6.out⟩
       case measure=>show L - (j+1+1)<L - (j+1);have:=HJL.out;omega
      ·have hql:q<L:=by omega
       have hqi:(q:Int)<(L:Int):=by omega
       have HQL:=Lib.hid hql
       have HB4:=Lib.hid (below_call HR2.out HR34.out (Nat.le_refl _))
       have cq:=HC.out w4 HB4.out q hql
       obtain ⟨y,hy⟩:∃ y,on.getD q 0=y:=⟨_,rfl⟩
       rw [hy] at cq
       have HY:=Lib.hid hy
       have HYM:=Lib.hid (show y ∈ on from by rw [← hy];exact gd_mem (by rw [HL.out];exact hql))
       have HW4:=Lib.hid (below_call HR.out HB4.out (Nat.le_refl _))
       have hxk:=HLT.out x HXM.out
       have hak:=HLT.out la HLM.out
       have hyk:=HLT.out y HYM.out
       obtain ⟨b,off,rfl,hb,-,hcc⟩:=(HP.out.below HW4.out).cells (by omega)
       obtain ⟨q0,q1,q2⟩:=hcc x hxk
       obtain ⟨r0,r1,r2⟩:=hcc la hak
       obtain ⟨s0,s1,s2⟩:=hcc y hyk
       obtain ⟨c0,c1,c2,-⟩:=KM.out w4 HW4.out
       have hwl:w.heap.size<w4.heap.size:=by have:=HW4.out.size;omega
       have hbo4:bo<w4.heap.size:=by have:=HB4.out.size;omega
       have hpx:=HN.out x hxk
       have hpa:=HN.out la hak
       have hpy:=HN.out y hyk
       have HL1N:=Lib.hid (HL1.out rfl)
       have HNXX:=Lib.hid (HNX.out x HXM.out)
       have HTT:=Lib.hid (show ∀ z ∈ on,x=nb→0≤T m.n (P x - P la) (P z - P la) from fun z hz e=>((HNX.out x HXM.out).mpr e).2 z hz)
       have HSB:=Lib.hid (fun v=>rsub_any (P x) (P la) 4096 4096 v hpx hpa (by omega))
       have HSC:=Lib.hid (fun v=>rsub_any (P y) (P la) 4096 4096 v hpy hpa (by omega))
       have HCR:=Lib.hid (fun v=>rcross_any (P x - P la) (P y - P la) 8192 8192 v (hpx.sub hpa) (hpy.sub hpa) (by omega))
       have HDT:=Lib.hid (fun v=>rdot_any m.n (V.cross (P x - P la) (P y - P la)) 1000000000 134217728 v HM.out (((hpx.sub hpa).cross (hpy.sub hpa)).mono (by omega)) (by omega))
       obtain ⟨t,ht⟩:∃ t,V.dot m.n (V.cross (P x - P la) (P y - P la))=t:=⟨_,rfl⟩
       have HT:Hid (T m.n (P x - P la) (P y - P la)=t):=ht
       rw [ht] at HDT
       obtain ⟨cr,hcr⟩:∃ cr,V.cross (P x - P la) (P y - P la)=cr:=⟨_,rfl⟩
       rw [hcr] at HCR HDT
       obtain ⟨d1,hd1⟩:∃ d1,P x - P la=d1:=⟨_,rfl⟩
       rw [hd1] at HSB HCR
       obtain ⟨d2,hd2⟩:∃ d2,P y - P la=d2:=⟨_,rfl⟩
       rw [hd2] at HSC HCR
       obtain ⟨px,hpx'⟩:∃ px,P x=px:=⟨_,rfl⟩
       obtain ⟨pa,hpa'⟩:∃ pa,P la=pa:=⟨_,rfl⟩
       obtain ⟨py,hpy'⟩:∃ py,P y=py:=⟨_,rfl⟩
       rw [hpx'] at q0 q1 q2 HSB
       rw [hpa'] at r0 r1 r2 HSB HSC
       rw [hpy'] at s0 s1 s2 HSC
       simp only [vecV] at HSB HSC HCR HDT
       have K0:=fun x:Later w4.heap.size w4=>keepC q0 x.h hb
       have K1:=fun x:Later w4.heap.size w4=>keepC q1 x.h hb
       have K2:=fun x:Later w4.heap.size w4=>keepC q2 x.h hb
       have K3:=fun x:Later w4.heap.size w4=>keepC r0 x.h hb
       have K4:=fun x:Later w4.heap.size w4=>keepC r1 x.h hb
       have K5:=fun x:Later w4.heap.size w4=>keepC r2 x.h hb
       have K6:=fun x:Later w4.heap.size w4=>keepC s0 x.h hb
       have K7:=fun x:Later w4.heap.size w4=>keepC s1 x.h hb
       have K8:=fun x:Later w4.heap.size w4=>keepC s2 x.h hb
       have K9:=fun x:Later w4.heap.size w4=>keepC c0 x.h hwl
       have K10:=fun x:Later w4.heap.size w4=>keepC c1 x.h hwl
       have K11:=fun x:Later w4.heap.size w4=>keepC c2 x.h hwl
       have K12:=fun x:Later w4.heap.size w4=>keepC cq x.h hbo4
       have hxi:(x:Int)<(k:Int):=by omega
       have hai:(la:Int)<(k:Int):=by omega
       have hyi:(y:Int)<(k:Int):=by omega
       clear hcc hy ht hcr hd1 hd2 hpx' hpa' hpy' hpx hpa hpy q0 q1 q2 r0 r1 r2 s0 s1 s2 c0 c1 c2 cq HL1 HNX hql
       go_wp2_with fail
       refine wp_region_later (Below.refl w4.heap.size w4) (by kernel_rfl) (by kernel_rfl) ?_
       repeat (first
        | go_big_quiet_skip
        | (go_big_quiet_want;go_big_quiet_op;first | go_big_quiet_on | go_big_quiet_call (first | (go_at_call 83;first | with_reducible exact Calls.later (Nat.le_refl _) (HSB.out _) | with_reducible exact Calls.later (Nat.le_refl _) (HSC.out _)) | (go_at_call 98;with_reducible exact Calls.later (Nat.le_refl _) (HCR.out _)) | (go_at_call 16;with_reducible exact Calls.later (Nat.le_refl _) (HDT.out _)))))
       refine wpQuiet_nil ?_
       intro w5 hw'
       obtain ⟨x',hx⟩:=hw'
       have H5:=Lib.hid (show Below w3.heap.size w3 w5 from by rw [hx];exact below_call HR4.out x'.h (Nat.le_refl _))
       clear hx x' K0 K1 K2 K3 K4 K5 K6 K7 K8 K9 K10 K11 K12
       go_wp2_with fail
       go_round
       case rel=>exact ⟨q+1,_,HQL.out,rfl,rfl,(fun h=>⟨HL1N.out.1,fun z hz=>by
        by_cases e:z=q
        ·subst e;rw [HY.out,HT.out];exact of_decide_eq_true h
        ·exact HL1N.out.2 z (by omega)⟩),(fun h e=>by
        have h1:=HTT.out y HYM.out e
        rw [HT.out] at h1
        exact of_decide_eq_false h h1),H5.out⟩
       case measure=>show L - ((q:Int)+1).toNat<L - (q:Int).toNat;have:=HQL.out;omega
end Go.Proofs.YtaibkpbklfodiaaGreatDoor
end
section
namespace Dowel
open Go Go.RowKit Go.Proofs.YtaibkpbklfodiaaGreatDoor
theorem Box.fiveF {w:World} {g:Nat} {v0 v1 v2 v3 v4:Value} {t:TypeId} (h:Box w g #[v0,v1,v2,v3,v4] t) :
  w.cell? ⟨g,0,none⟩=some v0∧w.cell? ⟨g,1,none⟩=some v1∧w.cell? ⟨g,2,none⟩=some v2∧w.cell? ⟨g,3,none⟩=some v3∧w.cell? ⟨g,4,none⟩=some v4∧w.frozen? ⟨g,0,none⟩=false∧w.frozen? ⟨g,1,none⟩=false∧w.frozen? ⟨g,2,none⟩=false∧w.frozen? ⟨g,3,none⟩=false∧w.frozen? ⟨g,4,none⟩=false:=
 ⟨h.cell 0,h.cell 1,h.cell 2,h.cell 3,h.cell 4,h.free 0,h.free 1,h.free 2,h.free 3,h.free 4⟩
def put5 (w:World) (g:Nat) (x y z o:Int) (v:Value):World:=((((w.setCell ⟨g,0,none⟩ (.int .i64 x)).setCell ⟨g,1,none⟩ (.int .i64 y)).setCell ⟨g,2,none⟩ (.int .i64 z)).setCell ⟨g,3,none⟩ (.int .i64 o)).setCell ⟨g,4,none⟩ v
theorem below_put5 {n:Nat} {w w':World} (h:Below n w w') {g:Nat} (hg:n≤g) (x y z o:Int) (v:Value):Below n w (put5 w' g x y z o v):=
 ((((h.setCell (p:=⟨g,0,none⟩) hg _).setCell (p:=⟨g,1,none⟩) hg _).setCell (p:=⟨g,2,none⟩) hg _).setCell (p:=⟨g,3,none⟩) hg _).setCell (p:=⟨g,4,none⟩) hg _
theorem Box.s5 {w:World} {g:Nat} {v0 v1 v2 v3 v4:Value} {t:TypeId} (h:Box w g #[v0,v1,v2,v3,v4] t) (x y z o:Int) (v:Value):Box (put5 w g x y z o v) g #[.int .i64 x,.int .i64 y,.int .i64 z,.int .i64 o,v] t:=
 ((((h.set 0 (.int .i64 x)).set 1 (.int .i64 y)).set 2 (.int .i64 z)).set 3 (.int .i64 o)).set 4 v
theorem own_put5 {w:World} {base:Nat} {u:Value} {l:List Nat} (h:OwnN w base u l) {g:Nat} {v0 v1 v2 v3 v4:Value} (hb:Box w g #[v0,v1,v2,v3,v4] 50) (x y z o:Int) (v:Value):OwnN (put5 w g x y z o v) base u l:=by
 have b1:=hb.set 0 (.int .i64 x)
 have b2:=b1.set 1 (.int .i64 y)
 have b3:=b2.set 2 (.int .i64 z)
 have b4:=b3.set 3 (.int .i64 o)
 exact own_set (own_set (own_set (own_set (own_set h hb (by decide) 0 _) b1 (by decide) 1 _) b2 (by decide) 2 _) b3 (by decide) 3 _) b4 (by decide) 4 v
theorem f5_one1 (x y z o:Int) (a:Option Addr) (n c:Nat):∀ u ∈ [Value.int .i64 x,.int .i64 y,.int .i64 z,.int .i64 o,.slice a n c],u.oneCell'=true:=fun u hu=>by
 simp only [List.mem_cons,List.not_mem_nil,or_false] at hu
 rcases hu with rfl | rfl | rfl | rfl | rfl <;> rfl
theorem stepF_take {P:Nat→V} {N:Nat} {l:List Pl} {k:Nat} (hk:k<l.length):(l.take (k+1)).foldl (stepF P N) []=stepF P N ((l.take k).foldl (stepF P N) []) (l.getD k ⟨V.zero,0⟩):=by
 rw [List.take_succ_eq_append_getElem hk,List.foldl_append]
 simp [hk]
theorem pf_map (m:Pl) (v:Value) (rg:List Nat) (L:List F5) {P:Nat→V} {N:Nat} (h:rg=ringPl P N m):(insG (fun f:F5=>decide (LtR f.r rg)) ⟨m,v,rg⟩ L).map F5.pf=stepF P N (L.map F5.pf) m:=by
 subst h
 exact insG_map F5.pf _ (fun q:PF=>decide (LtR q.2 (ringPl P N m))) (fun _=>rfl) _ L
theorem facesL_mem {P:Nat→V} {N:Nat} {x:PF}:∀ (l:List Pl) (out:List PF),x ∈ l.foldl (stepF P N) out→x ∈ out∨∃ m ∈ l,x=(m,ringPl P N m)
 | [],out,h=>.inl h
 | m :: l,out,h=>by
  rw [List.foldl_cons] at h
  rcases facesL_mem l _ h with h | ⟨m',hm,e⟩
  ·rcases mem_insG.mp (show x ∈ insG _ _ _ from h) with rfl | h
   ·exact .inr ⟨m,List.mem_cons_self ..,rfl⟩
   ·exact .inl h
  ·exact .inr ⟨m',List.mem_cons_of_mem _ hm,e⟩
instance : Inhabited F5 := ⟨⟨⟨V.zero, 0⟩, undef, []⟩⟩
end Dowel
namespace Go.Proofs.YtaibkpbklfodiaaGreatDoor
open Go.RowKit Dowel
theorem infoF5:(Tryz.prog.info? 50).map (fun i=>(i.zero,i.size,i.bytes))=some (some (.agg #[.int .i64 0,.int .i64 0,.int .i64 0,.int .i64 0,.slice none 0 0]),5,56):=by kernel_rfl
set_option maxHeartbeats 8000000 in
set_option maxRecDepth 10000 in
theorem rfaces_any (a:Option Addr) (len cap:Nat) (P:Nat→V) (w:World) (hP:Pts w a len cap P) (hlen:len≤64) (hnear:∀ i,i<len→LeV 4096 (P i)) (hw:∀ m ∈ planesR P len,RingW P m.n (ptsOn P len m) (ringPl P len m)) :
  Calls Tryz.prog 15 #[.agg #[.slice a len cap]] w fun e w'=>(∃ v,e=.returned v∧RFaces w' w.heap.size v (facesR P len))∧Below w.heap.size w w':=by
 obtain ⟨W,hW,b1,hB,hS⟩:=boxes1 w #[.slice a len cap] 24
 obtain ⟨i0,hinf,hz0,hz1,hz2⟩:=info_parts infoF5
 have HP:=Lib.hid (hP.below hB)
 have HB:=Lib.hid hB
 have HSZ:=Lib.hid hS
 have HN:=Lib.hid hnear
 have HLEN:=Lib.hid hlen
 have HW:=Lib.hid hw
 have B1:=Lib.hid b1
 obtain ⟨z0,-⟩:=b1.one
 clear hP hB hS hnear hlen hw b1
 go_enter Tryz.func15,Tryz.ntmps15
 go_wp2_with fail
 refine (rplanes_any a len cap P _ HP.out HLEN.out HN.out).mono ?_
 rintro e w3 ⟨⟨pv,rfl,hpv⟩,hb3⟩
 have H3:=Lib.hid hb3
 have HPV:=Lib.hid hpv
 have HPL:=Lib.hid (planesR_len P len HLEN.out)
 clear hb3 hpv z0
 obtain ⟨pl,hpl⟩:∃ pl,planesR P len=pl:=⟨_,rfl⟩
 have HFR:Hid (facesR P len=pl.foldl (stepF P len) []):=by rw [← hpl];rfl
 have HMM:=Lib.hid (show ∀ m ∈ pl,RingW P m.n (ptsOn P len m) (ringPl P len m)∧LeV 1000000000 m.n from fun m hm=>by
  rw [← hpl] at hm;exact ⟨HW.out m hm,planesR_le HN.out hm⟩)
 rw [hpl] at HPV HPL
 clear hpl
 obtain ⟨NP,hNP⟩:∃ NP,pl.length=NP:=⟨_,rfl⟩
 have HNP:=Lib.hid hNP
 have HPS:=Lib.hid HPV.out.slice
 obtain ⟨pa,pc,rfl,hpc,hpcc⟩:=HPV.out.slice
 rw [hNP] at HPL hpc hpcc ⊢
 clear hNP hpc hpcc HPV
 go_wp2_with fail
 go_loopw [3,5] (fun ov' iv wr=>∃ k ov,ov=ov'∧k≤NP∧iv=.int .i64 (k:Nat)∧Hid (RFaces wr w3.heap.size ov ((pl.take k).foldl (stepF P len) []))∧Hid (Below w3.heap.size w3 wr)) (fun _ iv _=>NP - (intOf iv).toNat)
 case atStart=>exact ⟨0,_,rfl,Nat.zero_le _,rfl,⟨[],⟨OwnG.nil _ _ _ _ _,fun f hf=>absurd hf (by simp)⟩,by simp⟩,Below.refl _ _⟩
 case round =>
  obtain ⟨k,ov,rfl,hk,rfl,HO,HR⟩:=hrel
  obtain ⟨w5,rfl⟩:∃ w5,w5=wr:=⟨_,rfl⟩
  have HBW:=Lib.hid (below_call H3.out HR.out (Nat.le_refl _))
  by_cases h0:k=NP
  case pos =>
   have hnl:¬ (k:Int)<(NP:Int):=by omega
   have HOF:=Lib.hid (show RFaces w5 w.heap.size ov (facesR P len) from by
    obtain ⟨l,h1,h2⟩:=HO.out
    refine ⟨l,h1.down (by have:=H3.out.size;have:=HSZ.out;omega),?_⟩
    rw [h2,HFR.out,List.take_of_length_le (by rw [HNP.out];omega)])
   go_wp2
   exact bodyPost_ret (results_tmp Tryz.results15 _ _ _) rfl ⟨⟨_,rfl,HOF.out⟩,below_call HB.out HBW.out (by have:=HSZ.out;omega)⟩
  case neg =>
   have hkl:k<NP:=by omega
   have hlt:(k:Int)<(NP:Int):=by omega
   have HKL:=Lib.hid hkl
   have HKLI:=Lib.hid hlt
   obtain ⟨L,HOL,hLm⟩:=HO.out
   have HLM:=Lib.hid hLm
   have HLL:=Lib.hid (show L.length≤600000 from by
    have:=congrArg List.length hLm
    rw [List.length_map,facesL_len] at this
    simp only [List.length_nil,List.length_take] at this
    have:=HPL.out
    omega)
   obtain ⟨_,_,e,-,hpcc⟩:=HPS.out
   cases e
   obtain ⟨mb,mo,rfl,hmb,m0,m1,m2,m3⟩:=hpcc k (by have:=HNP.out;omega)
   have hm:=HMM.out (pl.getD k ⟨V.zero,0⟩) (by
    rw [List.getD_eq_getElem?_getD,List.getElem?_eq_getElem (by have:=HNP.out;omega)];exact List.getElem_mem _)
   have hst:=stepF_take (P:=P) (N:=len) (l:=pl) (k:=k) (by have:=HNP.out;omega)
   generalize pl.getD k ⟨V.zero,0⟩=m at m0 m1 m2 m3 hm hst
   have HST:=Lib.hid hst
   obtain ⟨rg,hrg⟩:∃ rg,ringPl P len m=rg:=⟨_,rfl⟩
   rw [hrg] at hm
   have HRG:=Lib.hid hm.1
   have HMN:=Lib.hid hm.2
   have HRE:=Lib.hid hrg
   have HRL:=Lib.hid (show rg.length≤64 from by
    have h1:=hm.1.len
    have h2:=ptsOn_len P len m
    have:=HLEN.out
    omega)
   have HMC:Hid (∀ w',Below w5.heap.size w5 w'→w'.cell? ⟨mb,mo+k*4,none⟩=some (.int .i64 m.n.x)∧w'.cell? ⟨mb,mo+k*4+1,none⟩=some (.int .i64 m.n.y)∧w'.cell? ⟨mb,mo+k*4+2,none⟩=some (.int .i64 m.n.z)∧w'.cell? ⟨mb,mo+k*4+3,none⟩=some (.int .i64 m.o)):=fun w' h=>by
    have h':=below_call HR.out h (Nat.le_refl _)
    exact ⟨keepC m0 h' hmb,keepC m1 h' hmb,keepC m2 h' hmb,keepC m3 h' hmb⟩
   have CB:=Lib.hid (B1.out.below HBW.out B1.out.lt)
   have HP5:=Lib.hid (HP.out.below HBW.out)
   have HOLL:=Lib.hid HOL
   clear hm hst hrg m0 m1 m2 m3 hpcc hLm HOL HO h0
   go_wp2_with fail
   refine wp_region_b (rest:=1) [isV 0 (.slice (some ⟨mb,mo,none⟩) NP pc),isV 1 (.int .i64 k),isV 2 (.pointer (some ⟨mb,mo+k*4,none⟩)),isV 3 (.agg #[.int .i64 m.n.x,.int .i64 m.n.y,.int .i64 m.n.z,.int .i64 m.o]),isV 4 (.pointer (some ⟨w.heap.size,0,none⟩)),isV 5 (.slice a len cap),isV 6 (.slice (some ⟨mb,mo,none⟩) NP pc),isV 7 (.int .i64 k),isV 8 (.pointer (some ⟨mb,mo+k*4,none⟩)),isV 9 (.agg #[.int .i64 m.n.x,.int .i64 m.n.y,.int .i64 m.n.z,.int .i64 m.o]),isP 10 (fun v w=>∃ ua uc,v=.slice ua rg.length uc∧OwnN w w5.heap.size v rg),isP 11 (fun v w=>∃ ua uc,v=.agg #[.int .i64 m.n.x,.int .i64 m.n.y,.int .i64 m.n.z,.int .i64 m.o,.slice ua rg.length uc]∧OwnN w w5.heap.size (.slice ua rg.length uc) rg),isP 12 (fun v w=>∃ g,v=.pointer (some ⟨g,0,none⟩)∧w5.heap.size≤g∧Box w g (#[.int .i64 0,.int .i64 0,.int .i64 0,.int .i64 0,.slice none 0 0]) 50)] [12] ?A6 #[true,true,true,true,true,true,true,true,true,true,true,true,true,false] (by kernel_rfl) [0,1,2,3,4,5,6,7,8,9,10,11,12] (by kernel_rfl) (by kernel_rfl) (by kernel_rfl) (by kernel_rfl) (by kernel_rfl) (by kernel_rfl) ?st ?hA ?hop ?hend
   case hA =>
    intro y
    simp only [putAll,dstOf,List.getElem?_toArray,List.getElem?_cons_zero,List.getElem?_cons_succ,Option.bind_some,Act.put,List.setIfInBounds_toArray,List.set_cons_zero,List.set_cons_succ]
    exact rfl
   case st=>exact StabL.cons isV.stab (StabL.cons isV.stab (StabL.cons isV.stab (StabL.cons isV.stab (StabL.cons isV.stab (StabL.cons isV.stab (StabL.cons isV.stab (StabL.cons isV.stab (StabL.cons isV.stab (StabL.cons isV.stab (StabL.cons (isP.stab (fun _ _ _ h ⟨ua,uc,e,ho⟩=>⟨ua,uc,e,own_below ho h⟩)) (StabL.cons (isP.stab (fun _ _ _ h ⟨ua,uc,e,ho⟩=>⟨ua,uc,e,own_below ho h⟩)) (StabL.cons (isP.stab (fun v w w' h ⟨g,e,h1,h2⟩=>⟨g,e,h1,h2.below h h2.lt⟩)) (StabL.nil)))))))))))))
   case hop =>
    refine OpsOk.cons (i:=0) rfl (fun y w' hS hD K hK=>?_) ?_
    ·as_aux_lemma =>
     go_simp
     exact hK.out _ w' hS (Below.refl _ _) isV.put (fun h=>absurd h (by decide))
    refine OpsOk.cons (i:=1) rfl (fun y w' hS hD K hK=>?_) ?_
    ·as_aux_lemma =>
     go_simp
     exact hK.out _ w' hS (Below.refl _ _) isV.put (fun h=>absurd h (by decide))
    refine OpsOk.cons (i:=2) rfl (fun y w' hS hD K hK=>?_) ?_
    ·as_aux_lemma =>
     have e0:y 0=.slice (some ⟨mb,mo,none⟩) NP pc:=isV.get (i:=0) (c:=.slice (some ⟨mb,mo,none⟩) NP pc) (hD 0 (by kernel_rfl))
     have e1:y 1=.int .i64 k:=isV.get (i:=1) (c:=.int .i64 k) (hD 1 (by kernel_rfl))
     have hkl:=HKLI.out
     simp only [e0,e1] at hK ⊢
     go_simp
     exact hK.out _ w' hS (Below.refl _ _) isV.put (fun h=>absurd h (by decide))
    refine OpsOk.cons (i:=3) rfl (fun y w' hS hD K hK=>?_) ?_
    ·as_aux_lemma =>
     have e2:y 2=.pointer (some ⟨mb,mo+k*4,none⟩):=isV.get (i:=2) (c:=.pointer (some ⟨mb,mo+k*4,none⟩)) (hD 2 (by kernel_rfl))
     obtain ⟨c0,c1,c2,c3⟩:=HMC.out w' hS
     simp only [e2] at hK ⊢
     go_simp
     exact hK.out _ w' hS (Below.refl _ _) isV.put (fun h=>absurd h (by decide))
    refine OpsOk.cons (i:=4) rfl (fun y w' hS hD K hK=>?_) ?_
    ·as_aux_lemma =>
     go_simp
     exact hK.out _ w' hS (Below.refl _ _) isV.put (fun h=>absurd h (by decide))
    refine OpsOk.cons (i:=5) rfl (fun y w' hS hD K hK=>?_) ?_
    ·as_aux_lemma =>
     have e4:y 4=.pointer (some ⟨w.heap.size,0,none⟩):=isV.get (i:=4) (c:=.pointer (some ⟨w.heap.size,0,none⟩)) (hD 4 (by kernel_rfl))
     have bx:=CB.out.below hS CB.out.lt
     obtain ⟨c0,-⟩:=bx.one
     simp only [e4] at hK ⊢
     go_simp
     exact hK.out _ w' hS (Below.refl _ _) isV.put (fun h=>absurd h (by decide))
    refine OpsOk.cons (i:=6) rfl (fun y w' hS hD K hK=>?_) ?_
    ·as_aux_lemma =>
     go_simp
     exact hK.out _ w' hS (Below.refl _ _) isV.put (fun h=>absurd h (by decide))
    refine OpsOk.cons (i:=7) rfl (fun y w' hS hD K hK=>?_) ?_
    ·as_aux_lemma =>
     go_simp
     exact hK.out _ w' hS (Below.refl _ _) isV.put (fun h=>absurd h (by decide))
    refine OpsOk.cons (i:=8) rfl (fun y w' hS hD K hK=>?_) ?_
    ·as_aux_lemma =>
     have e6:y 6=.slice (some ⟨mb,mo,none⟩) NP pc:=isV.get (i:=6) (c:=.slice (some ⟨mb,mo,none⟩) NP pc) (hD 6 (by kernel_rfl))
     have e7:y 7=.int .i64 k:=isV.get (i:=7) (c:=.int .i64 k) (hD 7 (by kernel_rfl))
     have hkl:=HKLI.out
     simp only [e6,e7] at hK ⊢
     go_simp
     exact hK.out _ w' hS (Below.refl _ _) isV.put (fun h=>absurd h (by decide))
    refine OpsOk.cons (i:=9) rfl (fun y w' hS hD K hK=>?_) ?_
    ·as_aux_lemma =>
     have e8:y 8=.pointer (some ⟨mb,mo+k*4,none⟩):=isV.get (i:=8) (c:=.pointer (some ⟨mb,mo+k*4,none⟩)) (hD 8 (by kernel_rfl))
     obtain ⟨c0,c1,c2,c3⟩:=HMC.out w' hS
     simp only [e8] at hK ⊢
     go_simp
     exact hK.out _ w' hS (Below.refl _ _) isV.put (fun h=>absurd h (by decide))
    refine OpsOk.cons (i:=10) rfl (fun y w' hS hD K hK=>?_) ?_
    ·as_aux_lemma =>
     have e5:y 5=.slice a len cap:=isV.get (i:=5) (c:=.slice a len cap) (hD 5 (by kernel_rfl))
     have e9:y 9=.agg #[.int .i64 m.n.x,.int .i64 m.n.y,.int .i64 m.n.z,.int .i64 m.o]:=isV.get (i:=9) (c:=.agg #[.int .i64 m.n.x,.int .i64 m.n.y,.int .i64 m.n.z,.int .i64 m.o]) (hD 9 (by kernel_rfl))
     simp only [e5,e9] at hK ⊢
     go_simp
     refine (rwalk_any a len cap P m rg w' (HP5.out.below hS) HLEN.out HN.out HMN.out HRG.out).mono ?_
     rintro e w'' ⟨⟨v,rfl,ho⟩,hb⟩
     exact hK.out v w'' (below_call hS hb (Nat.le_refl _)) hb (isP.put (by obtain ⟨ua,uc,e⟩:=OwnN.sl ho;exact ⟨ua,uc,e,own_base ho hS.size⟩)) (fun h=>absurd h (by decide))
    refine OpsOk.cons (i:=11) rfl (fun y w' hS hD K hK=>?_) ?_
    ·as_aux_lemma =>
     have e3:y 3=.agg #[.int .i64 m.n.x,.int .i64 m.n.y,.int .i64 m.n.z,.int .i64 m.o]:=isV.get (i:=3) (c:=.agg #[.int .i64 m.n.x,.int .i64 m.n.y,.int .i64 m.n.z,.int .i64 m.o]) (hD 3 (by kernel_rfl))
     have e10:=isP.get (i:=10) (p:=fun v w=>∃ ua uc,v=.slice ua rg.length uc∧OwnN w w5.heap.size v rg) (hD 10 (by kernel_rfl))
     obtain ⟨ua,uc,eq,ho⟩:=e10
     rw [eq] at ho
     simp only [e3,eq] at hK ⊢
     refine iteInduction (motive:=fun p=>p) (fun _=>?_) (fun h=>absurd (by kernel_rfl) h)
     refine wp_buildTo 50 #[(0,.tmp 21),(1,.tmp 28)] rfl #[.int .i64 m.n.x,.int .i64 m.n.y,.int .i64 m.n.z,.int .i64 m.o,.slice ua rg.length uc] (by rw [List.map_toArray];simp only [List.map_cons,List.map_nil,Act.eval];exact built_face m.n.x m.n.y m.n.z m.o ua rg.length uc) ?_
     exact hK.out _ w' hS (Below.refl _ _) (isP.put ⟨ua,uc,rfl,ho⟩) (fun h=>absurd h (by decide))
    refine OpsOk.cons (i:=12) rfl (fun y w' hS hD K hK=>?_) ?_
    ·as_aux_lemma =>
     go_simp
     exact hK.out _ _ (hS.alloc hS.size _) ((Below.refl _ _).alloc (Nat.le_refl _) _) (isP.put ⟨_,rfl,hS.size,Box.new _ _ _ _ rfl⟩) (fun _ j hj hne _=>absurd (List.mem_singleton.1 hj) hne)
    exact OpsOk.nil
   case hend =>
    intro y w' hS hR hF
    obtain ⟨ua,uc,ev,ho⟩:=isP.get (i:=11) (p:=fun v w=>∃ ua uc,v=.agg #[.int .i64 m.n.x,.int .i64 m.n.y,.int .i64 m.n.z,.int .i64 m.o,.slice ua rg.length uc]∧OwnN w w5.heap.size (.slice ua rg.length uc) rg) (hR 11 (by kernel_rfl))
    obtain ⟨g,ea,hga,bga⟩:=isP.get (i:=12) (p:=fun v w=>∃ g,v=.pointer (some ⟨g,0,none⟩)∧w5.heap.size≤g∧Box w g (#[.int .i64 0,.int .i64 0,.int .i64 0,.int .i64 0,.slice none 0 0]) 50) (hR 12 (by kernel_rfl))
    simp only [ev,ea]
    obtain ⟨c0,c1,c2,c3,c4,f0,f1,f2,f3,f4⟩:=bga.fiveF
    refine wpAny_one (i:=13) (listed2:=#[true,true,true,true,true,true,true,true,true,true,true,true,true,true]) (by kernel_rfl) rfl (by kernel_rfl) (fun K hK=>?_)
    go_simp
    refine hK.out _ _ ?_
    clear hK K
    refine wpAny_over (by kernel_rfl) ?_
    clear c0 c1 c2 c3 c4 f0 f1 f2 f3 f4
    change Exit.then _ _ _ _ (put5 w' g m.n.x m.n.y m.n.z m.o (.slice ua rg.length uc))
    have H6:=Lib.hid (below_put5 hS hga m.n.x m.n.y m.n.z m.o (.slice ua rg.length uc))
    have BF6:=Lib.hid (bga.s5 m.n.x m.n.y m.n.z m.o (.slice ua rg.length uc))
    have OF6:=Lib.hid (own_put5 ho bga m.n.x m.n.y m.n.z m.o (.slice ua rg.length uc))
    generalize put5 w' g m.n.x m.n.y m.n.z m.o (.slice ua rg.length uc)=w6 at *
    clear hS hR hF ev ea bga ho
    have H56:=H6
    have HO6:=Lib.hid (HOLL.out.below H6.out)
    have HR6:=Lib.hid (below_call HR.out H6.out (Nat.le_refl _))
    have HGB:=Lib.hid hga
    have HFC:Hid (∀ w',Below w6.heap.size w6 w'→w'.cell? ⟨g,0,none⟩=some (.int .i64 m.n.x)∧w'.cell? ⟨g,1,none⟩=some (.int .i64 m.n.y)∧w'.cell? ⟨g,2,none⟩=some (.int .i64 m.n.z)∧w'.cell? ⟨g,3,none⟩=some (.int .i64 m.o)∧w'.cell? ⟨g,4,none⟩=some (.slice ua rg.length uc)):=fun w' h=>by
     obtain ⟨c0,c1,c2,c3,c4,-⟩:=(BF6.out.below h BF6.out.lt).fiveF
     exact ⟨c0,c1,c2,c3,c4⟩
    have HGL:=Lib.hid BF6.out.lt
    obtain ⟨oa,oc,hov,hoc,hom,-⟩:=HO6.out.row.form
    subst hov
    obtain ⟨N,hN⟩:∃ N,L.length=N:=⟨_,rfl⟩
    rw [hN] at hoc HLL ⊢
    have HNN:=Lib.hid hN
    clear hN hom hga HOLL
    have HSH:=Lib.hid (show ∀ f ∈ L,f.r.length≤64 from fun f hf=>by
     have h1:f.pf ∈ L.map F5.pf:=List.mem_map.mpr ⟨f,hf,rfl⟩
     rw [HLM.out] at h1
     rcases facesL_mem _ _ h1 with h | ⟨m',hm,e⟩
     ·exact absurd h (by simp)
     ·have e2:f.r=ringPl P len m':=congrArg Prod.snd e
      have h2:=(HMM.out m' (List.mem_of_mem_take hm)).1.len
      have h3:=ptsOn_len P len m'
      have h4:=HLEN.out
      rw [e2];omega)
    go_wp2_with fail
    go_loopw [7] (fun jv wr=>∃ j,j≤N∧jv=.int .i64 (j:Nat)∧Hid (∀ q,q<j→LtR (L.getD q default).r rg)∧Hid (Below w6.heap.size w6 wr)) (fun jv _=>N - (intOf jv).toNat)
    case atStart=>exact ⟨0,Nat.zero_le _,rfl,(fun q hq=>by omega),Below.refl _ _⟩
    case round =>
     obtain ⟨j,hj,rfl,HJL,HRJ⟩:=hrel
     obtain ⟨wj,rfl⟩:∃ wj,wj=wr:=⟨_,rfl⟩
     obtain ⟨-,-,-,-,p4⟩:=HFC.out wj HRJ.out
     have hgj:g<wj.heap.size:=by have:=HGL.out;have:=HRJ.out.size;omega
     have K4:=fun x:Later wj.heap.size wj=>keepC p4 x.h hgj
     clear p4
     have HUO:=Lib.hid (show ∀ u,L[j]?=some u→∃ b',oa=some ⟨b',0,none⟩∧b'<wj.heap.size∧wj.cell? ⟨b',j*5+4,none⟩=some u.v∧(∃ xa xc,u.v=.slice xa u.r.length xc)∧∀ x:Later wj.heap.size wj,Calls Tryz.prog 61 #[u.v,.slice ua rg.length uc] x.w fun e w'=>e=.returned (.bool (decide (LtR u.r rg)))∧Below x.w.heap.size x.w w' from fun u hu=>by
      obtain ⟨b',cap',e,hb',-,hob,huc⟩:=OwnG.at_ f5_len (OwnG.below HO6.out.row HRJ.out) j u hu
      cases e
      have hmem:=List.mem_of_getElem? hu
      have ho:=own_below (HO6.out.own u hmem) HRJ.out
      exact ⟨b',rfl,hb',huc 4 (by omega),OwnN.sl ho,fun x=>before_any _ _ u.r rg _ _ x.w (own_below ho x.h) (own_below (own_below OF6.out HRJ.out) x.h) (HSH.out u hmem) HRL.out⟩)
     have hcase:(∃ u,j<N∧L[j]?=some u∧LtR u.r rg)∨j=N∨(∃ u,j<N∧L[j]?=some u∧¬ LtR u.r rg):=by
      by_cases h0:j=N
      ·exact .inr (.inl h0)
      ·have hu:=getD_some default (show j<L.length by have:=HNN.out;omega)
       by_cases h1:LtR (L.getD j default).r rg
       ·exact .inl ⟨_,by omega,hu,h1⟩
       ·exact .inr (.inr ⟨_,by omega,hu,h1⟩)
     rcases hcase with ⟨u,hjN,hu,hl⟩ | h0 | ⟨u,hjN,hu,hl⟩
     ·obtain ⟨b',rfl,hb',u0,⟨xa,xc,hxv⟩,hcl⟩:=HUO.out u hu
      rw [decide_eq_true hl] at hcl
      have HL:=Lib.hid hl
      have HCL:=Lib.hid hcl
      rw [hxv] at u0 HCL
      have L4:=fun x:Later wj.heap.size wj=>keepC u0 x.h hb'
      have hlj:(j:Int)<(N:Int):=by omega
      have hdj:decide (j<N)=true:=decide_eq_true hjN
      have HGU:=Lib.hid (show L.getD j default=u from by rw [List.getD_eq_getElem?_getD,hu];rfl)
      clear u0 hu hl hcl hxv
      go_wp2_with fail
      refine wp_region_later (Below.refl wj.heap.size wj) (by kernel_rfl) (by kernel_rfl) ?_
      repeat (first
       | go_big_quiet_skip
       | (go_big_quiet_want;go_big_quiet_op;first | go_big_quiet_on | go_big_quiet_call ((go_at_call 61;exact Calls.later (Nat.le_refl _) (HCL.out _)))))
      refine wpQuiet_nil ?_
      intro w8 hw'
      obtain ⟨x,hx⟩:=hw'
      have H8:=Lib.hid (show Below w6.heap.size w6 w8 from by rw [hx];exact below_call HRJ.out x.h (Nat.le_refl _))
      clear hx x K4 L4
      have hj6:j<600000:=by have:=HLL.out;omega
      go_wp2
      go_round
      case rel=>exact ⟨j+1,by omega,rfl,(fun q hq=>by
       by_cases e:q=j
       ·subst e;rw [HGU.out];exact HL.out
       ·exact HJL.out q (by omega)),H8.out⟩
      case measure=>show N - ((j:Int)+1).toNat<N - (j:Int).toNat;omega
     case' inr.inl =>
      have hlj:¬ (j:Int)<(N:Int):=by omega
      have hdj:decide (j<N)=false:=decide_eq_false (by omega)
      have HNL:=Lib.hid (show j<L.length→¬ LtR (L.getD j default).r rg from fun h=>by have:=HNN.out;omega)
      clear h0
      go_wp2_with fail
      refine wp_region_later (Below.refl wj.heap.size wj) (by kernel_rfl) (by kernel_rfl) ?_
      repeat (first
       | go_big_quiet_skip
       | (go_big_quiet_want;go_big_quiet_op;first | go_big_quiet_on))
      refine wpQuiet_nil ?_
      intro w8 hw'
      obtain ⟨x,hx⟩:=hw'
      have H8:=Lib.hid (show Below w6.heap.size w6 w8 from by rw [hx];exact below_call HRJ.out x.h (Nat.le_refl _))
      clear hx x K4 hlj hdj
     case' inr.inr =>
      obtain ⟨b',rfl,hb',u0,⟨xa,xc,hxv⟩,hcl⟩:=HUO.out u hu
      rw [decide_eq_false hl] at hcl
      have HL:=Lib.hid hl
      have HCL:=Lib.hid hcl
      rw [hxv] at u0 HCL
      have L4:=fun x:Later wj.heap.size wj=>keepC u0 x.h hb'
      have hlj:(j:Int)<(N:Int):=by omega
      have hdj:decide (j<N)=true:=decide_eq_true hjN
      have HNL:=Lib.hid (show j<L.length→¬ LtR (L.getD j default).r rg from fun _=>by rw [List.getD_eq_getElem?_getD,hu];exact HL.out)
      clear u0 hu hl hcl hxv
      go_wp2_with fail
      refine wp_region_later (Below.refl wj.heap.size wj) (by kernel_rfl) (by kernel_rfl) ?_
      repeat (first
       | go_big_quiet_skip
       | (go_big_quiet_want;go_big_quiet_op;first | go_big_quiet_on | go_big_quiet_call ((go_at_call 61;exact Calls.later (Nat.le_refl _) (HCL.out _)))))
      refine wpQuiet_nil ?_
      intro w8 hw'
      obtain ⟨x,hx⟩:=hw'
      have H8:=Lib.hid (show Below w6.heap.size w6 w8 from by rw [hx];exact below_call HRJ.out x.h (Nat.le_refl _))
      clear hx x K4 L4 hlj hdj hb'
     all_goals
      have hjl:j≤L.length:=by have:=HNN.out;omega
      have hjm:j≤600000:=by have:=HLL.out;omega
      have hNm:N≤600000:=HLL.out
      have HR8:=Lib.hid (below_call HR6.out H8.out (Nat.le_refl _))
      have HINS:=Lib.hid (insG_at (fun f:F5=>decide (LtR f.r rg)) (⟨m,.slice ua rg.length uc,rg⟩:F5) default L j hjl (fun q hq=>decide_eq_true (HJL.out q hq)) (fun h=>decide_eq_false (HNL.out h)))
      obtain ⟨_,_,e,hlc,s1,hs2⟩:=OwnG.cuts f5_len (OwnG.below HO6.out.row H8.out) j hjl
      cases e
      have hjo:j≤oc:=by omega
      have hNo:N≤oc:=by have:=HNN.out;omega
      clear hlc
      have S1:=Lib.hid s1
      rcases hs2 with ⟨hcj,s2⟩ | ⟨hcj,g0,hoa,s2⟩
      case' inl =>
       obtain rfl:=hcj
       have hN0:=HNN.out
       rw [show L.length - oc=0 by omega] at s2
       clear hN0
      case' inr =>
       cases hoa
       rw [HNN.out] at s2
      all_goals try (exfalso;omega)
      all_goals
       have S2:=Lib.hid s2
       clear s1 s2
       go_wp2_with (at_builtin;refine wpList_append_src _ rfl _ _ 41 rfl w8.heap.size 50 i0 (.agg #[.int .i64 0,.int .i64 0,.int .i64 0,.int .i64 0,.slice none 0 0]) 5 56 Tryz.underlying41 hinf hz0 hz1 hz2 rfl (by decide) _ _ _ rfl (World.ownsRow_made w8 #[] 0 (Nat.le_refl _) (Nat.zero_le _) rfl) _ _ _ _ rfl (S1.out.below ((Below.refl _ _).alloc (Nat.le_refl _) _)) (f5_one fun f hf=>HO6.out.own f (List.mem_of_mem_take hf)) (by unfold maxLen;omega) (by omega) (by simp) ?_)
       intro v1 w9 ho1 hg1
       have B89:=Lib.hid (show Below w8.heap.size w8 w9 from ((Below.refl _ _).alloc (Nat.le_refl _) _).grown hg1 (by simp) (fun g e=>by cases e;exact Nat.le_refl _))
       have HO1:=Lib.hid ho1
       obtain ⟨p0,p1,p2,p3,p4⟩:=HFC.out w9 (below_call H8.out B89.out (Nat.le_refl _))
       clear ho1 hg1
       go_wp2_with (at_builtin;refine wpList_append_src _ rfl _ _ 41 rfl w8.heap.size 50 i0 (.agg #[.int .i64 0,.int .i64 0,.int .i64 0,.int .i64 0,.slice none 0 0]) 5 56 Tryz.underlying41 hinf hz0 hz1 hz2 rfl (by decide) _ _ _ rfl (HO1.out.alloc _) _ _ _ (f5 ⟨m,.slice ua rg.length uc,rg⟩) rfl (src_new w9 (f5 ⟨m,.slice ua rg.length uc,rg⟩) _ 5 1 rfl) (f5_one1 _ _ _ _ _ _ _) (by unfold maxLen;omega) (by omega) (by have:=B89.out.size;simp;omega) ?_)
       intro v2 w10 ho2 hg2
       have B810:=Lib.hid (show Below w8.heap.size w8 w10 from (B89.out.alloc B89.out.size _).grown hg2 (by have:=B89.out.size;simp;omega) (fun g e=>own_ge HO1.out g e))
       have HO2:=Lib.hid ho2
       clear ho2 hg2
       go_wp2_with (at_builtin;refine wpList_append_src _ rfl _ _ 41 rfl w8.heap.size 50 i0 (.agg #[.int .i64 0,.int .i64 0,.int .i64 0,.int .i64 0,.slice none 0 0]) 5 56 Tryz.underlying41 hinf hz0 hz1 hz2 rfl (by decide) _ _ _ rfl HO2.out _ _ _ _ rfl (S2.out.below B810.out) (f5_one fun f hf=>HO6.out.own f (List.mem_of_mem_drop hf)) (by unfold maxLen;omega) (by omega) B810.out.size ?_)
       intro v4 w11 ho4 hg4
       have B811:=Lib.hid (show Below w8.heap.size w8 w11 from B810.out.grown hg4 B810.out.size (fun g e=>own_ge HO2.out g e))
       have HO9:=Lib.hid (show RFaces w11 w3.heap.size v4 ((pl.take (k+1)).foldl (stepF P len) []) from by
        refine ⟨insG (fun f:F5=>decide (LtR f.r rg)) ⟨m,.slice ua rg.length uc,rg⟩ L,⟨?_,fun f hf=>?_⟩,?_⟩
        ·rw [HINS.out]
         refine OwnG.down (base:=w8.heap.size) ?_ HR8.out.size
         have e1:=HNN.out
         exact OwnG.ins (by omega) (by omega) ho4 (by first | rfl | simp only [List.append_assoc])
        ·have h611:=below_call H8.out B811.out (Nat.le_refl _)
         rcases mem_insG.mp hf with rfl | hf
         ·exact own_base (own_below OF6.out h611) HR.out.size
         ·exact own_below (HO6.out.own f hf) h611
        ·rw [pf_map m _ rg L HRE.out.symm,HLM.out,← HST.out])
       have HB9:=Lib.hid (below_call HR8.out B811.out (Nat.le_refl _))
       clear ho4 hg4
       have hk6:k≤600000:=by have:=HPL.out;have:=HKL.out;omega
       go_wp2
       go_round
       case rel=>exact ⟨k+1,v4,rfl,HKL.out,rfl,HO9.out,HB9.out⟩
       case measure=>show NP - ((k:Int)+1).toNat<NP - (k:Int).toNat;have:=HKL.out;omega
end Go.Proofs.YtaibkpbklfodiaaGreatDoor
end
section
namespace Dowel
open V Go Go.RowKit Go.Proofs.YtaibkpbklfodiaaGreatDoor
theorem RFaces.slice {w:World} {base:Nat} {v:Value} {fs:List PF} (h:RFaces w base v fs):∃ a cap,v=.slice a fs.length cap∧fs.length≤cap∧∀ i,i<fs.length→∃ b,a=some ⟨b,0,none⟩∧b<w.heap.size ∧
  w.cell? ⟨b,i*5,none⟩=some (.int .i64 ((fs.map Prod.fst).getD i ⟨V.zero,0⟩).n.x)∧w.cell? ⟨b,i*5+1,none⟩=some (.int .i64 ((fs.map Prod.fst).getD i ⟨V.zero,0⟩).n.y)∧w.cell? ⟨b,i*5+2,none⟩=some (.int .i64 ((fs.map Prod.fst).getD i ⟨V.zero,0⟩).n.z)∧w.cell? ⟨b,i*5+3,none⟩=some (.int .i64 ((fs.map Prod.fst).getD i ⟨V.zero,0⟩).o):=by
 obtain ⟨l,ho,rfl⟩:=h
 obtain ⟨a,cap,hv,hc,-,-⟩:=ho.row.form
 rw [List.length_map]
 refine ⟨a,cap,hv,hc,fun i hi=>?_⟩
 have hu:=getD_some default hi
 obtain ⟨b,cap',e,hb,-,-,hcell⟩:=OwnG.at_ f5_len ho.row i _ hu
 rw [hv] at e
 cases e
 have eg:((l.map F5.pf).map Prod.fst).getD i ⟨V.zero,0⟩=(l.getD i default).m:=by
  rw [List.getD_eq_getElem?_getD,List.map_map,List.getElem?_map,hu];rfl
 rw [eg]
 exact ⟨b,rfl,hb,hcell 0 (by omega),hcell 1 (by omega),hcell 2 (by omega),hcell 3 (by omega)⟩
theorem bd_half {n:V} (hn:LeV 128 n):BdV 4 (halfQ n):=by
 obtain ⟨h1,h2,h3⟩:=hn
 unfold Le at h1 h2 h3
 exact bd_q3 ⟨by omega,by omega⟩ ⟨by omega,by omega⟩ ⟨by omega,by omega⟩ ⟨by omega,by omega⟩ (by omega)
theorem onZ_len {l:List Pl} {p:V} (k:Nat):(onZ l p k).length≤k:=by
 unfold onZ
 exact Nat.le_trans (List.length_filter_le _ _) (by simp)
theorem face_o {P:Nat→V} {N E:Nat} {fs:List RF} (h:RingsOk P N fs E) (hS:Sorted P N) (hn:∀ i,i<N→LeV 4096 (P i)):∀ m ∈ fs.map (plF P),LeV 134217728 m.n∧Le 2000000000000 m.o:=fun m hm=>by
 obtain ⟨f,hf,rfl⟩:=List.mem_map.mp hm
 obtain ⟨b,hF,-,hr,-⟩:=h.pl hS hf
 have hl:=primV_le (face_le hn hF) (by omega)
 have hh:f.r.headD 0<N:=by rw [hr];exact (Face.ring_hd hS hF).1
 exact ⟨hl,(hl.dot (hn _ hh)).mono (by omega)⟩
end Dowel
namespace Go.Proofs.YtaibkpbklfodiaaGreatDoor
open Go.RowKit Dowel
set_option maxRecDepth 100000 in
set_option maxHeartbeats 8000000 in
theorem cellLocates_any (hkn:∀ v,Tab v→Calls Tryz.prog 10 #[] v fun e w'=>e=.returned (.bool true)∧Below v.heap.size v w') (a:Option Addr) (al cap:Nat) (T:Nat→V) (n:V) (w:World) (hT:Tab w) (hP:Pts8 w a al cap T) (hn:LeV 128 n) :
  Calls Tryz.prog 4 #[.slice a al cap,.agg #[.int .i8 n.x,.int .i8 n.y,.int .i8 n.z]] w fun e w'=>e=.returned (.bool true)∧Below w.heap.size w w':=by
 obtain ⟨i0,hinf,hz0,hz1,hz2⟩:=info_parts infoIn
 obtain ⟨W,hW,b1,hB,hS⟩:=boxes1 w #[.int .i8 n.x,.int .i8 n.y,.int .i8 n.z] 38
 have HKN:=Lib.hid hkn
 have HT:=Lib.hid hT
 have HB:=Lib.hid hB
 have HS:=Lib.hid hS
 have B1:=Lib.hid b1
 have HN:=Lib.hid hn
 have HPT:=Lib.hid (hP.below hB (Nat.le_refl _))
 have KT:Hid (∀ w',Below w.heap.size w w'→Tab w'):=fun w' h=>HT.out.below h HT.out.1
 clear hkn hT hB hS b1 hn hP
 go_enter Tryz.func4,Tryz.ntmps4
 go_wp2_with fail
 refine (solid_any a al cap T W HPT.out).mono ?_
 rintro e w1 ⟨⟨pp,len,pc,ok,rfl,hok⟩,hb1⟩
 have HOK:=Lib.hid hok
 have L1:=Lib.hid (below_call HB.out hb1 (by have:=HS.out;omega))
 have C1:=Lib.hid (B1.out.below hb1 B1.out.lt)
 have SZ1:=Lib.hid hb1.size
 clear hok hb1
 go_upto_region 2 with fail
 obtain ⟨w2,hw2,b2,hb2,hs2⟩:=boxes1 w1 #[.slice pp len pc] 24
 rw [hw2]
 have H12:=Lib.hid hb2
 have L2:=Lib.hid (below_call L1.out hb2 (Nat.le_refl _))
 have C2:=Lib.hid (C1.out.below hb2 C1.out.lt)
 have D2:=Lib.hid b2
 clear hw2 b2 hb2 hs2
 go_wp2_with fail
 refine (HKN.out w2 (KT.out w2 L2.out)).mono ?_
 rintro e w3 ⟨rfl,hb3⟩
 have H23:=Lib.hid hb3
 have L3:=Lib.hid (below_call L2.out hb3 (Nat.le_refl _))
 have C3:=Lib.hid (C2.out.below hb3 C2.out.lt)
 have D3:=Lib.hid (D2.out.below hb3 D2.out.lt)
 clear hb3
 cases ok
 case false =>
  go_wp2_with fail
  refine (HKN.out w3 (KT.out w3 L3.out)).mono ?_
  rintro e w4 ⟨rfl,hb4⟩
  have L4:=Lib.hid (below_call L3.out hb4 (Nat.le_refl _))
  go_wp2_with fail
  go_ret
  exact ⟨rfl,L4.out⟩
 case true =>
  obtain ⟨hH,hO,hN⟩:=HOK.out rfl
  have HO3:=Lib.hid ((hO.below H12.out).below H23.out)
  have HH:=Lib.hid hH
  obtain ⟨Q,hQ⟩:∃ Q,ptsT T al=Q:=⟨_,rfl⟩
  obtain ⟨M,hM⟩:∃ M,min al 10=M:=⟨_,rfl⟩
  rw [hQ,hM] at HO3 HH hN
  clear hH hO HOK hQ hM
  have HSH:=Lib.hid (fun v (h:Below w3.heap.size w3 v)=>hull_shape Q M _ (.slice pp len pc) v (KT.out v (below_call L3.out h (Nat.le_refl _))) HH.out (HO3.out.below h) hN)
  have hV:=HH.out.valid (by omega)
  obtain ⟨L,hL⟩:∃ L,hullR Q M=L:=⟨_,rfl⟩
  rw [hL] at HO3 HSH hN hV
  obtain ⟨P,hP'⟩:∃ P,ofL L=P:=⟨_,rfl⟩
  obtain ⟨pa,pcc,e,hpts⟩:=OwnV.pts HO3.out
  rw [hP'] at HSH hpts hV
  obtain ⟨len',hlen⟩:∃ len',L.length=len':=⟨_,rfl⟩
  rw [hlen] at HSH hpts hN hV e
  cases e
  have HV:=Lib.hid hV
  have HPS:=Lib.hid hpts
  have h4:=hV.four
  clear hV hpts hL hP' HO3 HH
  obtain ⟨s0,-⟩:=D3.out.one
  go_wp2_with fail
  refine (HSH.out w3 (Below.refl _ _)).mono ?_
  rintro e w4 ⟨⟨v0,v1,v2,fs,E,vrs,frs,es,rfl,hsh⟩,hb4⟩
  obtain ⟨⟨pv,cv,rfl⟩,⟨pf,cf,rfl⟩,⟨pe,ce,rfl⟩⟩:=hsh.forms
  obtain ⟨nf,hnf⟩:∃ nf,frs.length=nf:=⟨_,rfl⟩
  obtain ⟨ne,hne⟩:∃ ne,es.length=ne:=⟨_,rfl⟩
  rw [hnf,hne] at hsh ⊢
  have HSP:=Lib.hid hsh
  have L4:=Lib.hid (below_call L3.out hb4 (Nat.le_refl _))
  have C4:=Lib.hid (C3.out.below hb4 C3.out.lt)
  have D4:=Lib.hid (D3.out.below hb4 D3.out.lt)
  have PS4:=Lib.hid (HPS.out.below hb4)
  clear hsh hb4 hnf hne HSH HPS s0
  go_upto_region 5 with fail
  obtain ⟨wa,hwa,ba,hba,hsa⟩:=boxes1 w4 #[.slice pv len cv,.slice pf nf cf,.slice pe ne ce] 32
  rw [hwa]
  have La:=Lib.hid (below_call L4.out hba (Nat.le_refl _))
  have Ca:=Lib.hid (C4.out.below hba C4.out.lt)
  have Da:=Lib.hid (D4.out.below hba D4.out.lt)
  have PSa:=Lib.hid (PS4.out.below hba)
  have Sa:=Lib.hid ba
  have SPa:=Lib.hid (HSP.out.below hba)
  clear hwa ba hba hsa
  obtain ⟨i0,hinf,hz0,hz1,hz2⟩:=info_parts infoIn
  obtain ⟨s0,-⟩:=Da.out.one
  have hok:=SPa.out.ok
  have hS0:=HV.out.sorted
  have hnr:=fun j (hj:j<len)=>(hS0.near j hj).le
  have hL:=hok.law_loc hS0 HV.out.full HV.out.top n
  have hrw:=hok.rows hS0
  have hlf:frs.length=fs.length:=by have:=congrArg List.length SPa.out.val;simpa using this
  have hfew:=hok.few (show len≤16 by omega)
  have HNF:=Lib.hid (show (fs.map (faceQ P)).length≤262144 from by rw [List.length_map];omega)
  have HPB:=Lib.hid (hok.bd hS0 hnr)
  have HSL:=Lib.hid SPa.out.slices
  have hfc:=hok.facesR hS0 HV.out.full HV.out.top
  have hfo:=face_o hok hS0 hnr
  have hfp:(facesR P len).map Prod.fst=fs.map (plF P):=by rw [hfc,List.map_map];rfl
  obtain ⟨pl,hpl⟩:∃ pl,(facesR P len).map Prod.fst=pl:=⟨_,rfl⟩
  rw [hpl] at hL
  rw [← hfp,hpl] at hfo
  have HFO:=Lib.hid hfo
  have HLZ:=Lib.hid hL.1
  have HLT:=Lib.hid hL.2
  have HPLE:=Lib.hid hpl
  have HPLN:=Lib.hid (show pl.length≤65536 from by rw [← hpl,hfp,List.length_map];exact hfew)
  have hgo:=rfaces_any _ len pc P wa PSa.out (by omega) hnr (fun m hm=>hok.ringW hS0 HV.out.full HV.out.top hm)
  have HGO:=Lib.hid hgo
  clear hok hS0 hnr hL hrw hlf hfew hfc hfo hfp hpl hgo
  go_wp2_with fail
  refine HGO.out.mono ?_
  rintro e w7 ⟨⟨fv,rfl,hfv⟩,hb7⟩
  have H7:=Lib.hid hb7
  have L7:=Lib.hid (below_call La.out hb7 (Nat.le_refl _))
  have hsl:=hfv.slice
  rw [HPLE.out] at hsl
  obtain ⟨ra,rc',rfl,hrc,hcc⟩:=hsl
  obtain ⟨NF,hNF⟩:∃ NF,(facesR P len).length=NF:=⟨_,rfl⟩
  have hnf2:pl.length=NF:=by rw [← HPLE.out,List.length_map,hNF]
  rw [hNF] at hrc hcc ⊢
  have HNFL:=Lib.hid hnf2
  have HCC:=Lib.hid hcc
  have C7:=Lib.hid (Ca.out.below H7.out Ca.out.lt)
  have S7:=Lib.hid (Sa.out.below H7.out Sa.out.lt)
  have SP7:=Lib.hid (SPa.out.below H7.out)
  have hN64:NF≤65536:=by have:=HPLN.out;omega
  have HN64:=Lib.hid hN64
  clear hb7 hfv hrc hcc hNF hnf2 hN64 HGO s0
  go_wp2_with fail
  go_loopw [10,11,12] (fun lv ov' iv wr=>∃ k ov,ov=ov'∧lv=.int .i64 (locZ (pl.take k) n)∧k≤NF∧iv=.int .i64 (k:Nat)∧Hid (OwnN wr w7.heap.size ov (onZ pl n k))∧Hid (Below w7.heap.size w7 wr)) (fun _ _ iv _=>NF - (intOf iv).toNat)
  case atStart=>exact ⟨0,_,rfl,rfl,Nat.zero_le _,rfl,World.ownsRow_nil _ _ _ _,Below.refl _ _⟩
  case round =>
   obtain ⟨k,ov,rfl,rfl,hk,rfl,HO,HR⟩:=hrel
   obtain ⟨wk,rfl⟩:∃ wk,wk=wr:=⟨_,rfl⟩
   have L8:=Lib.hid (below_call L7.out HR.out (Nat.le_refl _))
   by_cases h0:k=NF
   ·have hnl:¬ (k:Int)<(NF:Int):=by omega
    have HO6:=Lib.hid (show OwnN wk w7.heap.size ov (onZ pl n pl.length) from by rw [HNFL.out,← h0];exact HO.out)
    have HOL:=Lib.hid (show (onZ pl n pl.length).length<4611686018427387904 from by have:=onZ_len (l:=pl) (p:=n) pl.length;have:=HPLN.out;omega)
    rw [show pl.take k=pl from List.take_of_length_le (by have:=HNFL.out;omega)]
    obtain ⟨zz,hzz⟩:∃ zz,locZ pl n=zz:=⟨_,rfl⟩
    obtain ⟨onl,honl⟩:∃ onl,onZ pl n pl.length=onl:=⟨_,rfl⟩
    have HL0:=Lib.hid (show locR (fs.map (faceQ P)) (halfQ n)=zz from by rw [← HLZ.out,hzz])
    have HT0:=Lib.hid (show touR (fs.map (faceQ P)) (halfQ n)=onl from by rw [← HLT.out,honl])
    rw [honl] at HO6 HOL
    rw [hzz]
    have HZZ:=Lib.hid (show (zz == zz)=true from beq_self_eq_true _)
    have HBH:=Lib.hid (bd_half HN.out)
    have KS:=Lib.hid (S7.out.below HR.out S7.out.lt)
    have KP:=Lib.hid (C7.out.below HR.out C7.out.lt)
    have HFC:=Lib.hid ((SP7.out.below HR.out).fcs)
    clear h0 hzz honl
    obtain ⟨w5,rfl⟩:∃ w5,w5=wk:=⟨_,rfl⟩
    go_wp2_with fail
    refine wp_region_b (rest:=0) [isV 0 (.int .i64 0),isV 1 (.bool true),isV 2 (.bool true),isV 3 (.agg #[.slice pv len cv,.slice pf nf cf,.slice pe ne ce]),isV 4 (.agg #[.int .i8 n.x,.int .i8 n.y,.int .i8 n.z]),isP 5 (fun v w=>IsVec w v (halfQ n)),isV 6 (.int .i64 zz),isV 7 (.int .i64 zz),isV 8 (.bool true),isV 9 (.bool true),isV 10 (.bool true),isV 11 (.agg #[.slice pv len cv,.slice pf nf cf,.slice pe ne ce]),isV 12 (.agg #[.int .i8 n.x,.int .i8 n.y,.int .i8 n.z]),isP 13 (fun v w=>IsVec w v (halfQ n)),isP 14 (fun v w=>∃ bs,OwnN w bs v onl),isV 15 (ov),isV 16 (.bool true),isV 17 (.bool true),isV 18 (.bool true)] [] ?A17 #[true,true,true,true,true,true,true,true,true,true,true,true,true,true,true,true,true,true,true] (by kernel_rfl) [0,1,2,3,4,5,6,7,8,9,10,11,12,13,14,15,16,17,18] (by kernel_rfl) (by kernel_rfl) (by kernel_rfl) (by kernel_rfl) (by kernel_rfl) (by kernel_rfl) ?st ?hA ?hop ?hend
    case hA =>
     intro y
     simp only [putAll,dstOf,List.getElem?_toArray,List.getElem?_cons_zero,List.getElem?_cons_succ,Option.bind_some,Act.put,List.setIfInBounds_toArray,List.set_cons_zero,List.set_cons_succ]
     exact rfl
    case st=>exact StabL.cons isV.stab (StabL.cons isV.stab (StabL.cons isV.stab (StabL.cons isV.stab (StabL.cons isV.stab (StabL.cons (isP.stab (fun _ _ _ h hv=>hv.below h)) (StabL.cons isV.stab (StabL.cons isV.stab (StabL.cons isV.stab (StabL.cons isV.stab (StabL.cons isV.stab (StabL.cons isV.stab (StabL.cons isV.stab (StabL.cons (isP.stab (fun _ _ _ h hv=>hv.below h)) (StabL.cons (isP.stab (fun _ _ _ h ⟨bs,ho⟩=>⟨bs,own_below ho h⟩)) (StabL.cons isV.stab (StabL.cons isV.stab (StabL.cons isV.stab (StabL.cons isV.stab (StabL.nil)))))))))))))))))))
    case hop =>
     refine OpsOk.cons (i:=0) rfl (fun y w' hS hD K hK=>?_) ?_
     ·as_aux_lemma =>
      go_simp
      exact hK.out _ w' hS (Below.refl _ _) isV.put (fun h=>absurd h (by decide))
     refine OpsOk.cons (i:=1) rfl (fun y w' hS hD K hK=>?_) ?_
     ·as_aux_lemma =>
      have e0:y 0=.int .i64 0:=isV.get (i:=0) (c:=.int .i64 0) (hD 0 (by kernel_rfl))
      simp only [e0] at hK ⊢
      go_simp
      exact hK.out _ w' hS (Below.refl _ _) isV.put (fun h=>absurd h (by decide))
     refine OpsOk.cons (i:=2) rfl (fun y w' hS hD K hK=>?_) ?_
     ·as_aux_lemma =>
      have e1:y 1=.bool true:=isV.get (i:=1) (c:=.bool true) (hD 1 (by kernel_rfl))
      simp only [e1] at hK ⊢
      go_simp
      exact hK.out _ w' hS (Below.refl _ _) isV.put (fun h=>absurd h (by decide))
     refine OpsOk.cons (i:=3) rfl (fun y w' hS hD K hK=>?_) ?_
     ·as_aux_lemma =>
      have e2:y 2=.bool true:=isV.get (i:=2) (c:=.bool true) (hD 2 (by kernel_rfl))
      have bx:=KS.out.below hS KS.out.lt
      obtain ⟨c0,c1,c2,-⟩:=bx.three
      simp only [e2] at hK ⊢
      go_simp
      exact hK.out _ w' hS (Below.refl _ _) isV.put (fun h=>absurd h (by decide))
     refine OpsOk.cons (i:=4) rfl (fun y w' hS hD K hK=>?_) ?_
     ·as_aux_lemma =>
      have e2:y 2=.bool true:=isV.get (i:=2) (c:=.bool true) (hD 2 (by kernel_rfl))
      have bx:=KP.out.below hS KP.out.lt
      obtain ⟨c0,c1,c2,-⟩:=bx.three
      simp only [e2] at hK ⊢
      go_simp
      exact hK.out _ w' hS (Below.refl _ _) isV.put (fun h=>absurd h (by decide))
     refine OpsOk.cons (i:=5) rfl (fun y w' hS hD K hK=>?_) ?_
     ·as_aux_lemma =>
      have e2:y 2=.bool true:=isV.get (i:=2) (c:=.bool true) (hD 2 (by kernel_rfl))
      have e4:y 4=.agg #[.int .i8 n.x,.int .i8 n.y,.int .i8 n.z]:=isV.get (i:=4) (c:=.agg #[.int .i8 n.x,.int .i8 n.y,.int .i8 n.z]) (hD 4 (by kernel_rfl))
      simp only [e2,e4] at hK ⊢
      go_simp
      refine (half_any n w' HN.out).mono ?_
      rintro e w'' ⟨⟨v,rfl,hv⟩,hb⟩
      exact hK.out v w'' (below_call hS hb (Nat.le_refl _)) hb (isP.put hv) (fun h=>absurd h (by decide))
     refine OpsOk.cons (i:=6) rfl (fun y w' hS hD K hK=>?_) ?_
     ·as_aux_lemma =>
      have e2:y 2=.bool true:=isV.get (i:=2) (c:=.bool true) (hD 2 (by kernel_rfl))
      have e3:y 3=.agg #[.slice pv len cv,.slice pf nf cf,.slice pe ne ce]:=isV.get (i:=3) (c:=.agg #[.slice pv len cv,.slice pf nf cf,.slice pe ne ce]) (hD 3 (by kernel_rfl))
      have e5:=isP.get (i:=5) (p:=fun v w=>IsVec w v (halfQ n)) (hD 5 (by kernel_rfl))
      simp only [e2,e3] at hK ⊢
      go_simp
      refine (locate_any _ _ _ _ (fs.map (faceQ P)) frs (halfQ n) _ 2 4 w' (HFC.out.below hS) HSL.out HPB.out e5 HBH.out (by omega) HNF.out).mono ?_
      rintro e w'' ⟨he,hb⟩
      rw [HL0.out] at he
      subst he
      exact hK.out _ w'' (below_call hS hb (Nat.le_refl _)) hb isV.put (fun h=>absurd h (by decide))
     refine OpsOk.cons (i:=7) rfl (fun y w' hS hD K hK=>?_) ?_
     ·as_aux_lemma =>
      have e2:y 2=.bool true:=isV.get (i:=2) (c:=.bool true) (hD 2 (by kernel_rfl))
      simp only [e2] at hK ⊢
      go_simp
      exact hK.out _ w' hS (Below.refl _ _) isV.put (fun h=>absurd h (by decide))
     refine OpsOk.cons (i:=8) rfl (fun y w' hS hD K hK=>?_) ?_
     ·as_aux_lemma =>
      have e2:y 2=.bool true:=isV.get (i:=2) (c:=.bool true) (hD 2 (by kernel_rfl))
      have e6:y 6=.int .i64 zz:=isV.get (i:=6) (c:=.int .i64 zz) (hD 6 (by kernel_rfl))
      have e7:y 7=.int .i64 zz:=isV.get (i:=7) (c:=.int .i64 zz) (hD 7 (by kernel_rfl))
      have hzz:=HZZ.out
      simp only [e2,e6,e7] at hK ⊢
      go_simp
      exact hK.out _ w' hS (Below.refl _ _) isV.put (fun h=>absurd h (by decide))
     refine OpsOk.cons (i:=9) rfl (fun y w' hS hD K hK=>?_) ?_
     ·as_aux_lemma =>
      have e2:y 2=.bool true:=isV.get (i:=2) (c:=.bool true) (hD 2 (by kernel_rfl))
      have e8:y 8=.bool true:=isV.get (i:=8) (c:=.bool true) (hD 8 (by kernel_rfl))
      simp only [e2,e8] at hK ⊢
      go_simp
      exact hK.out _ w' hS (Below.refl _ _) isV.put (fun h=>absurd h (by decide))
     refine OpsOk.cons (i:=10) rfl (fun y w' hS hD K hK=>?_) ?_
     ·as_aux_lemma =>
      have e9:y 9=.bool true:=isV.get (i:=9) (c:=.bool true) (hD 9 (by kernel_rfl))
      simp only [e9] at hK ⊢
      go_simp
      exact hK.out _ w' hS (Below.refl _ _) isV.put (fun h=>absurd h (by decide))
     refine OpsOk.cons (i:=11) rfl (fun y w' hS hD K hK=>?_) ?_
     ·as_aux_lemma =>
      have e10:y 10=.bool true:=isV.get (i:=10) (c:=.bool true) (hD 10 (by kernel_rfl))
      have bx:=KS.out.below hS KS.out.lt
      obtain ⟨c0,c1,c2,-⟩:=bx.three
      simp only [e10] at hK ⊢
      go_simp
      exact hK.out _ w' hS (Below.refl _ _) isV.put (fun h=>absurd h (by decide))
     refine OpsOk.cons (i:=12) rfl (fun y w' hS hD K hK=>?_) ?_
     ·as_aux_lemma =>
      have e10:y 10=.bool true:=isV.get (i:=10) (c:=.bool true) (hD 10 (by kernel_rfl))
      have bx:=KP.out.below hS KP.out.lt
      obtain ⟨c0,c1,c2,-⟩:=bx.three
      simp only [e10] at hK ⊢
      go_simp
      exact hK.out _ w' hS (Below.refl _ _) isV.put (fun h=>absurd h (by decide))
     refine OpsOk.cons (i:=13) rfl (fun y w' hS hD K hK=>?_) ?_
     ·as_aux_lemma =>
      have e10:y 10=.bool true:=isV.get (i:=10) (c:=.bool true) (hD 10 (by kernel_rfl))
      have e12:y 12=.agg #[.int .i8 n.x,.int .i8 n.y,.int .i8 n.z]:=isV.get (i:=12) (c:=.agg #[.int .i8 n.x,.int .i8 n.y,.int .i8 n.z]) (hD 12 (by kernel_rfl))
      simp only [e10,e12] at hK ⊢
      go_simp
      refine (half_any n w' HN.out).mono ?_
      rintro e w'' ⟨⟨v,rfl,hv⟩,hb⟩
      exact hK.out v w'' (below_call hS hb (Nat.le_refl _)) hb (isP.put hv) (fun h=>absurd h (by decide))
     refine OpsOk.cons (i:=14) rfl (fun y w' hS hD K hK=>?_) ?_
     ·as_aux_lemma =>
      have e10:y 10=.bool true:=isV.get (i:=10) (c:=.bool true) (hD 10 (by kernel_rfl))
      have e11:y 11=.agg #[.slice pv len cv,.slice pf nf cf,.slice pe ne ce]:=isV.get (i:=11) (c:=.agg #[.slice pv len cv,.slice pf nf cf,.slice pe ne ce]) (hD 11 (by kernel_rfl))
      have e13:=isP.get (i:=13) (p:=fun v w=>IsVec w v (halfQ n)) (hD 13 (by kernel_rfl))
      simp only [e10,e11] at hK ⊢
      go_simp
      refine (touched_any _ _ _ _ (fs.map (faceQ P)) frs (halfQ n) _ 2 4 w' (HFC.out.below hS) HSL.out HPB.out e13 HBH.out (by omega) HNF.out).mono ?_
      rintro e w'' ⟨⟨v,rfl,hv⟩,hb⟩
      exact hK.out v w'' (below_call hS hb (Nat.le_refl _)) hb (isP.put ⟨_,by rw [HT0.out] at hv;exact hv⟩) (fun h=>absurd h (by decide))
     refine OpsOk.cons (i:=15) rfl (fun y w' hS hD K hK=>?_) ?_
     ·as_aux_lemma =>
      have e10:y 10=.bool true:=isV.get (i:=10) (c:=.bool true) (hD 10 (by kernel_rfl))
      simp only [e10] at hK ⊢
      go_simp
      exact hK.out _ w' hS (Below.refl _ _) isV.put (fun h=>absurd h (by decide))
     refine OpsOk.cons (i:=16) rfl (fun y w' hS hD K hK=>?_) ?_
     ·as_aux_lemma =>
      have e10:y 10=.bool true:=isV.get (i:=10) (c:=.bool true) (hD 10 (by kernel_rfl))
      have e14:=isP.get (i:=14) (p:=fun v w=>∃ bs,OwnN w bs v onl) (hD 14 (by kernel_rfl))
      have e15:y 15=ov:=isV.get (i:=15) (c:=ov) (hD 15 (by kernel_rfl))
      obtain ⟨bs,ho14⟩:=e14
      simp only [e10,e15] at hK ⊢
      go_simp
      refine (ints_own _ _ _ _ _ w' ho14 (own_below HO6.out hS) HOL.out).mono ?_
      rintro e w'' ⟨rfl,hb⟩
      exact hK.out _ w'' (below_call hS hb (Nat.le_refl _)) hb isV.put (fun h=>absurd h (by decide))
     refine OpsOk.cons (i:=17) rfl (fun y w' hS hD K hK=>?_) ?_
     ·as_aux_lemma =>
      have e10:y 10=.bool true:=isV.get (i:=10) (c:=.bool true) (hD 10 (by kernel_rfl))
      have e16:y 16=.bool true:=isV.get (i:=16) (c:=.bool true) (hD 16 (by kernel_rfl))
      simp only [e10,e16] at hK ⊢
      go_simp
      exact hK.out _ w' hS (Below.refl _ _) isV.put (fun h=>absurd h (by decide))
     refine OpsOk.cons (i:=18) rfl (fun y w' hS hD K hK=>?_) ?_
     ·as_aux_lemma =>
      have e17:y 17=.bool true:=isV.get (i:=17) (c:=.bool true) (hD 17 (by kernel_rfl))
      simp only [e17] at hK ⊢
      go_simp
      exact hK.out _ w' hS (Below.refl _ _) isV.put (fun h=>absurd h (by decide))
     exact OpsOk.nil
    case hend =>
     intro y w' hS hR hF
     have e18:y 18=.bool true:=isV.get (i:=18) (c:=.bool true) (hR 18 (by kernel_rfl))
     simp only [e18]
     refine wpAny_over (by kernel_rfl) ?_
     have HF9:=Lib.hid (L8.out.trans (hS.mono L8.out.size))
     clear hS hR hF
     go_wp2_with fail
     go_ret
     exact ⟨rfl,HF9.out⟩
   have hkl:k<NF:=by omega
   have hlt:(k:Int)<(NF:Int):=by omega
   have HKL:=Lib.hid hkl
   obtain ⟨rb,rfl,hrb,f0,f1,f2,f3⟩:=HCC.out k hkl
   have hmo:=HFO.out (pl.getD k ⟨V.zero,0⟩) (by
    rw [List.getD_eq_getElem?_getD,List.getElem?_eq_getElem (by have:=HNFL.out;omega)];exact List.getElem_mem _)
   have hst:=locZ_take (p:=n) (show k<pl.length by have:=HNFL.out;omega)
   have hso:=onZ_succ (l:=pl) (p:=n) (k:=k)
   generalize pl.getD k ⟨V.zero,0⟩=m at f0 f1 f2 f3 hmo hst hso
   have HST:=Lib.hid hst
   have HSO:=Lib.hid hso
   obtain ⟨zk,hzk⟩:∃ zk,locZ (pl.take k) n=zk:=⟨_,rfl⟩
   rw [hzk] at HST ⊢
   have HDT:=Lib.hid (fun v=>rdot_any m.n n 134217728 128 v hmo.1 HN.out (by omega))
   have hdl:=(hmo.1.dot HN.out)
   have hol:=hmo.2
   obtain ⟨d,hd⟩:∃ d,V.dot m.n n=d:=⟨_,rfl⟩
   have hsd:sd m n=d - 2*m.o:=by unfold sd;rw [hd]
   rw [hd] at HDT hdl
   unfold Le at hdl hol
   have hn1:=HN.out.1;have hn2:=HN.out.2.1;have hn3:=HN.out.2.2
   unfold Le at hn1 hn2 hn3
   have kw1:IntKind.i64.wrap n.x=n.x:=IntWalk.i64_in _ (by omega)
   have kw2:IntKind.i64.wrap n.y=n.y:=IntWalk.i64_in _ (by omega)
   have kw3:IntKind.i64.wrap n.z=n.z:=IntWalk.i64_in _ (by omega)
   have w0:wrap64 (2*m.o)=2*m.o:=IntWalk.wrap64_in _ ⟨by omega,by omega⟩
   have w1:wrap64 (d - 2*m.o)=d - 2*m.o:=IntWalk.wrap64_in _ ⟨by omega,by omega⟩
   obtain ⟨s,hs⟩:∃ s,d - 2*m.o=s:=⟨_,rfl⟩
   rw [hs] at hsd w1
   have HSD:=Lib.hid hsd
   have K8:=Lib.hid (C7.out.below HR.out C7.out.lt)
   obtain ⟨u0,u1,u2,-⟩:=K8.out.three
   have hul:=K8.out.lt
   have hrb':rb<wk.heap.size:=Nat.lt_of_lt_of_le hrb HR.out.size
   have g0:=keepC f0 HR.out hrb
   have g1:=keepC f1 HR.out hrb
   have g2:=keepC f2 HR.out hrb
   have g3:=keepC f3 HR.out hrb
   have K0:=fun x:Later wk.heap.size wk=>keepC g0 x.h hrb'
   have K1:=fun x:Later wk.heap.size wk=>keepC g1 x.h hrb'
   have K2:=fun x:Later wk.heap.size wk=>keepC g2 x.h hrb'
   have K3:=fun x:Later wk.heap.size wk=>keepC g3 x.h hrb'
   have K4:=fun x:Later wk.heap.size wk=>keepC u0 x.h hul
   have K5:=fun x:Later wk.heap.size wk=>keepC u1 x.h hul
   have K6:=fun x:Later wk.heap.size wk=>keepC u2 x.h hul
   clear f0 f1 f2 f3 g0 g1 g2 g3 u0 u1 u2 hmo hst hso hzk hd hsd hdl hol hn1 hn2 hn3 h0
   go_wp2_with fail
   refine wp_region_later (Below.refl wk.heap.size wk) (by kernel_rfl) (by kernel_rfl) ?_
   repeat (first
    | go_big_quiet_skip
    | (go_big_quiet_want;go_big_quiet_op;first | go_big_quiet_on | go_big_quiet_call ((go_at_call 16;exact Calls.later (Nat.le_refl _) (HDT.out _)))))
   refine wpQuiet_nil ?_
   intro w8 hw'
   obtain ⟨x,hx⟩:=hw'
   have Hk8:=Lib.hid (show Below wk.heap.size wk w8 from by rw [hx];exact x.h)
   clear hx x K0 K1 K2 K3 K4 K5 K6 HDT hul hrb hrb' kw1 kw2 kw3
   have R8:=Lib.hid (below_call HR.out Hk8.out (Nat.le_refl _))
   have HO8:=Lib.hid (own_below HO.out Hk8.out)
   have HSL8:=Lib.hid (onZ_len (l:=pl) (p:=n) k)
   have HW7:=Lib.hid R8.out.size
   try rw [hs]
   clear hs w0
   have hk6:k<65536:=by have:=HN64.out;have:=HKL.out;omega
   by_cases hgt:0<s
   ·have hne:(s == 0)=false:=beq_eq_false_iff_ne.mpr (by omega)
    have HGT:=Lib.hid hgt
    go_wp2
    go_round
    case rel=>exact ⟨k+1,_,rfl,by rw [HST.out];unfold locS;rw [HSD.out,if_pos HGT.out],HKL.out,rfl,by
     rw [HSO.out,if_neg (by rw [HSD.out];have:=HGT.out;omega)];exact HO8.out,R8.out⟩
    case measure=>show NF - ((k:Int)+1).toNat<NF - (k:Int).toNat;have:=HKL.out;omega
   ·by_cases heq:s=0
    ·have hbe:(s == 0)=true:=beq_iff_eq.mpr heq
     have HEQ:=Lib.hid heq
     clear heq
     go_wp2_with (at_builtin;refine wpList_append_own _ rfl _ _ 43 rfl w7.heap.size 3 i0 (.int .i64 0) 1 8 Tryz.underlying43 hinf hz0 hz1 hz2 rfl (by decide) _ _ _ rfl (World.ownsRow.alloc HO8.out _) ⟨w8.heap.size,0,none⟩ 1 1 [.int .i64 (k:Nat)] rfl rfl (fun j u hj=>cell_new w8 _ _ j u hj) (by intro u hu;simp at hu;rcases hu with rfl;rfl) (by have:=HSL8.out;have:=HN64.out;unfold maxLen;omega) (by have:=HSL8.out;have:=HN64.out;omega) (by have:=HW7.out;simp;omega) ?_)
     intro v' w9 hown' hgrow9 _
     have hge:=own_ge HO8.out
     have HO9:=Lib.hid (show OwnN w9 w7.heap.size v' (onZ pl n (k+1)) from by
      rw [HSO.out,if_pos (by rw [HSD.out];exact HEQ.out)]
      exact OwnN.app hown')
     have R9:=Lib.hid (show Below w7.heap.size w7 w9 from (R8.out.alloc HW7.out _).grown hgrow9 (by have:=HW7.out;simp;omega) (fun g hg=>hge g hg))
     clear hown' hgrow9 hge
     go_wp2
     go_round
     case rel=>exact ⟨k+1,_,rfl,by rw [HST.out];unfold locS;rw [HSD.out,HEQ.out];simp,HKL.out,rfl,HO9.out,R9.out⟩
     case measure=>show NF - ((k:Int)+1).toNat<NF - (k:Int).toNat;have:=HKL.out;omega
    ·have hbe:(s == 0)=false:=beq_eq_false_iff_ne.mpr heq
     have HEQ:=Lib.hid heq
     have HGT:=Lib.hid hgt
     clear heq
     go_wp2
     go_round
     case rel=>exact ⟨k+1,_,rfl,by rw [HST.out];unfold locS;rw [HSD.out,if_neg HGT.out,if_neg HEQ.out],HKL.out,rfl,by
      rw [HSO.out,if_neg (by rw [HSD.out];exact HEQ.out)];exact HO8.out,R8.out⟩
     case measure=>show NF - ((k:Int)+1).toNat<NF - (k:Int).toNat;have:=HKL.out;omega
end Go.Proofs.YtaibkpbklfodiaaGreatDoor
end
section
namespace Go.Proofs.YtaibkpbklfodiaaGreatDoor
open Go Go.ChangeShapes Go.WideShapes Go.ChangeAt Go.WideElems Go.RowKit Dowel
theorem door_met (os:Os) (args:Array Value):laidMetH Tryz.prog Rows.cellLocatesRow.laid ((World.doorLaid Tryz.prog 400 os).forCall (fun _ _=>0) ⟨#[],args,[]⟩).memory:=
 laidMetH_of_parts3 (fuel:=8) (laidMet_of_run' 8 (by kernel_rfl) (by kernel_rfl)) (by kernel_rfl) (by kernel_rfl)
set_option maxRecDepth 100000 in
theorem cellLocates_lifted (os:Os) (started:os.Started) (H:Type) (enc:TypeId × Value→H) :
  ReturnsInHanded {} Tryz.checked os 4 .any (fun w args=>(Rows.cellLocatesSpec.pre enc Tryz.prog Tryz.f4 [] false w args∧laidMetH Tryz.prog Rows.cellLocatesRow.laid w)∧sizedMet enc Tryz.prog Tryz.f4 (OpenSpec.ofChange Rows.cellLocatesSpec) false w args)
   (Rows.cellLocatesSpec.post enc Tryz.prog Tryz.f4 false true false false):=by
 refine returnsInHanded_of_change_and (C:=Tryz.checked) (X:=fun w _=>laidMetH Tryz.prog Rows.cellLocatesRow.laid w) (fun _ _ _ hh h=>h.of_heap hh) own started (by kernel_rfl) Tryz.func4
  (ChangeSpec.witness_shaped (enc:=enc) (C:=Tryz.checked) (os:=os) (X:=fun w _=>laidMetH Tryz.prog Rows.cellLocatesRow.laid w) false (World.doorLaid Tryz.prog 400 os) #[.slice none 0 0,.agg #[.int .i8 0,.int .i8 0,.int .i8 0]] 8 rfl (World.shaped_of_RefB (by kernel_rfl) (by kernel_rfl)) (by kernel_rfl) (by kernel_rfl) (by kernel_rfl) (door_met os _)) ?_
 intro W base args ds gs before hval0 hW _ _ hL _
 have hval:∀ (j:Nat) t v,Tryz.f4.params[j]?=some t→args[j]?=some v→Value.okWide Tryz.prog W .any base t v:=hval0
 have hW':=hW
 obtain ⟨p,q,hA0,hV,rfl,hfz,hnd⟩:=hW
 have hA:DataW.TrodAll enc Tryz.prog W 0 (fun _=>true) true Tryz.f4.params.toList args.toList ds p:=hA0
 rw [Tryz.params4] at hA hval
 obtain ⟨v0,v1,d0,d1,p0,p1,rfl,rfl,rfl,h0,h1⟩:=trodAll_two hA
 obtain ⟨rfl,rfl⟩:=trodVars_none hV
 obtain ⟨a,len,cap,P,rfl,hP⟩:=pts8_of (hval 0 36 v0 rfl rfl) h0
 obtain ⟨n,rfl,hn⟩:=arr8_of (hval 1 38 v1 rfl rfl) h1
 clear hA0 hval0
 simp only [List.append_nil] at hW'
 have hlt:∀ x ∈ p0 ++ p1,x.block<W.heap.size:=fun x hx=>by simpa using hW'.lt x hx
 refine (cellLocates_any known_any a len cap P n W (tab_of_laid (show laidMetH Tryz.prog Rows.cellChecksRow.laid W from hL)) hP hn).mono fun e W' ⟨he,hb⟩=>?_
 subst he
 refine ⟨_,rfl,_,_,_,[],p0 ++ p1,[],hW',?_,?_,rfl,hb.frame _,fun h=>by cases h⟩
 ·exact trodAll_mk1 (shut_bool Tryz.underlying4 true)
 ·exact trodAll_mk2 (Below.trod laidOut (by kernel_rfl) (of_decide_eq_true (by kernel_rfl)) h0 hb fun x hx=>hlt x (List.mem_append.2 (.inl hx)))
   (Below.trod laidOut (by kernel_rfl) (of_decide_eq_true (by kernel_rfl)) h1 hb fun x hx=>hlt x (List.mem_append.2 (.inr hx)))
theorem cellLocates_holds:Rows.CellLocatesSaid:=
 OpenClaim.holds_of_wide 4 Tryz.f4 rfl rfl rfl rfl rfl rfl rfl ⟨rfl,rfl,rfl,rfl,rfl⟩ rfl rfl rfl rfl rfl (by kernel_rfl) Tryz.func4 (by kernel_rfl)
  (of_decide_eq_true (by kernel_rfl)) (by unfold Func.isWrapper;first | (rw [if_pos (by decide +kernel)];kernel_rfl) | (rw [if_neg (by decide +kernel)];exact ⟨rfl,rfl⟩))
  (fun os started H enc _=>cellLocates_lifted os started H enc)
theorem cellLocates_card : Rows.CellLocatesCardSaid :=
  Claim7.holds_tied_plain_at .later [] [.data, .data, .data] true (true, "6c65cc7416c67665389b7af0e84806a2ebd9a42af6f1548673da5a11f68942ee") true
    cellLocates_holds (fun _ h => by cases h) (by kernel_rfl) (fun _ h => by cases h) cellLocates_row_tie rfl ⟨rfl, rfl⟩ (by kernel_rfl) rfl
    (fun f fn hf hfn => by
      obtain rfl : f = 4 := Option.some.inj ((show Tryz.prog.funcNamed "dowel/dowellaw09.CellLocates" = some 4 by kernel_rfl).symm.trans hf) |>.symm
      obtain rfl : fn = Tryz.f4 := (Option.some.inj (Tryz.func4.symm.trans hfn)).symm
      exact ⟨by kernel_rfl, fun j t ht => by
        rw [Tryz.params4] at ht
        have h3 : t = 36 ∨ t = 38 := by
          rcases j with _ | _ | j
          · exact .inl (by simpa using ht.symm)
          · exact .inr (by simpa using ht.symm)
          · simp at ht
        rcases h3 with rfl | rfl
        · exact (show Tryz.prog.wantsStandIn 36 = false by kernel_rfl)
        · exact (show Tryz.prog.wantsStandIn 38 = false by kernel_rfl)⟩)
    (by kernel_rfl)
#print axioms cellLocates_card
end Go.Proofs.YtaibkpbklfodiaaGreatDoor
end
