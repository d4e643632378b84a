/- The statements' points. Printed by gen/points.py. The statements' solids. -/
import Derived.Test.YtaibkpbklfodiaaGreatDoorP19
import Derived.Test.YtaibkpbklfodiaaGreatDoorP24
set_option linter.all false
set_option maxHeartbeats 100000000
section
namespace Dowel
open Go Go.RowKit
structure Pts8 (w:World) (a:Option Addr) (n cap:Nat) (P:Nat→V):Prop where
 le:n≤cap
 nil:a=none→cap=0
 at_:∀ x,a=some x→x.spot=none∧x.block<w.heap.size∧∀ i,i<n →
  w.cell? ⟨x.block,x.off+i*3,none⟩=some (.int .i8 (P i).x)∧w.cell? ⟨x.block,x.off+i*3+1,none⟩=some (.int .i8 (P i).y)∧w.cell? ⟨x.block,x.off+i*3+2,none⟩=some (.int .i8 (P i).z)
 near:∀ i,i<n→LeV 128 (P i)
theorem Pts8.below {w w':World} {n cap:Nat} {a:Option Addr} {P:Nat→V} (h:Pts8 w a n cap P) {m:Nat} (hb:Below m w w') (hm:w.heap.size≤m):Pts8 w' a n cap P:=
 ⟨h.le,h.nil,fun x hx=>by
  obtain ⟨h1,h2,h3⟩:=h.at_ x hx;have h2':x.block<m:=Nat.lt_of_lt_of_le h2 hm;refine ⟨h1,Nat.lt_of_lt_of_le h2 hb.size,fun i hi=>?_⟩;rw [hb.cell (p:=⟨x.block,x.off+i*3,.none⟩) h2',hb.cell (p:=⟨x.block,x.off+i*3+1,.none⟩) h2',hb.cell (p:=⟨x.block,x.off+i*3+2,.none⟩) h2'];exact h3 i hi,h.near⟩
theorem Pts8.cells {w:World} {n cap:Nat} {a:Option Addr} {P:Nat→V} (h:Pts8 w a n cap P) (hn:0<n) :
  ∃ b off,a=some ⟨b,off,.none⟩∧b<w.heap.size∧n≤cap∧∀ i,i<n →
   w.cell? ⟨b,off+i*3,.none⟩=some (.int .i8 (P i).x)∧w.cell? ⟨b,off+i*3+1,.none⟩=some (.int .i8 (P i).y)∧w.cell? ⟨b,off+i*3+2,.none⟩=some (.int .i8 (P i).z):=by
 cases a with
 | none=>have:=h.nil rfl;have:=h.le;omega
 | some x =>
  obtain ⟨h1,h2,h3⟩:=h.at_ x rfl;obtain ⟨b,off,s⟩:=x;simp only at h1;subst h1;exact ⟨b,off,rfl,h2,h.le,h3⟩
def RetV (w:World) (base:Nat) (e:Ending) (l:List V):Prop:=∃ v,e=.returned v∧jU w base v l
end Dowel
namespace Go.Proofs.Υ
open Go.RowKit Dowel
set_option maxRecDepth 100000 in
theorem points_any (a:Option Addr) (len cap:Nat) (T:Nat→V) (w:World) (hT:Pts8 w a len cap T) :
  Calls Tryz.prog 59 #[.slice a len cap] w fun e w'=>RetV w' w.heap.size e ((List.range (min len 10)).map T)∧Below w.heap.size w w':=by
 obtain ⟨i0,hinf,hz0,hz1,hz2⟩:=info_parts infoVz;have HT:=η hT;clear hT
 go_enter Tryz.func59,Tryz.ntmps59
 go_wp2_with fail
 go_loopw [3,4] (fun ov' iv wr=>∃ k ov,ov=ov'∧k≤min len 10∧iv=.int .i64 (k:Nat)∧Hid (jU wr w.heap.size ov ((List.range k).map T))∧Hid (Below w.heap.size w wr)) (fun _ iv _=>min len 10 - (intOf iv).toNat)
 case atStart=>exact ⟨0,_,rfl,Nat.zero_le _,rfl,World.ownsRow_nil _ _ _ _,Below.refl _ _⟩
 case round =>
  obtain ⟨k,ov,rfl,hk,rfl,HO,HR⟩:=hrel;by_cases h0:k=min len 10
  ·have H0:=η h0
   by_cases hl:k=len
   ·have hn:¬ (k:Int)<(len:Int):=ω
    clear h0 hl;go_wp2;exact bodyPost_ret (results_tmp Tryz.results59 _ _ _) rfl ⟨⟨_,rfl,by rw [← H0.out];exact HO.out⟩,HR.out⟩
   ·have hn:(k:Int)<(len:Int):=ω
    have hn2:¬ (k:Int)<10:=ω;clear h0 hl;go_wp2;exact bodyPost_ret (results_tmp Tryz.results59 _ _ _) rfl ⟨⟨_,rfl,by rw [← H0.out];exact HO.out⟩,HR.out⟩
  ·have hkl:k<len:=ω
   have hlt:(k:Int)<(len:Int):=ω;have hlt2:(k:Int)<10:=ω;have hk10:k<10:=ω;obtain ⟨b,off,rfl,hb,hc,hcc⟩:=(HT.out.below HR.out ρ).cells ω;have hq:=hcc k hkl;obtain ⟨t,ht⟩:∃ t,T k=t:=⟨_,rfl⟩;have hnr:=HT.out.near k hkl;rw [ht] at hq hnr;have HTK:=η ht;unfold LeV Le at hnr;have BX:=η hnr.1;have BY:=η hnr.2.1;have BZ:=η hnr.2.2;have KC:Hid (∀ w',Below wr.heap.size wr w'→w'.cell? ⟨b,off+k*3,none⟩=some (.int .i8 t.x)∧w'.cell? ⟨b,off+k*3+1,none⟩=some (.int .i8 t.y)∧w'.cell? ⟨b,off+k*3+2,none⟩=some (.int .i8 t.z)):=fun w' h=>⟨keepC hq.1 h hb,keepC hq.2.1 h hb,keepC hq.2.2 h hb⟩
   clear hcc hq hnr ht
   go_wp2_with fail
   refine bK (rest:=2) [isV 0 (ov),isV 1 (.slice (some ⟨b,off,none⟩) len cap),isV 2 (.int .i64 (k:Nat)),isV 3 (.pointer (some ⟨b,off+k*3,none⟩)),isV 4 (.pointer (some ⟨b,off+k*3,none⟩)),isV 5 (.int .i8 t.x),isV 6 (.int .i64 t.x),isV 7 (.slice (some ⟨b,off,none⟩) len cap),isV 8 (.int .i64 (k:Nat)),isV 9 (.pointer (some ⟨b,off+k*3,none⟩)),isV 10 (.pointer (some ⟨b,off+k*3+1,none⟩)),isV 11 (.int .i8 t.y),isV 12 (.int .i64 t.y),isV 13 (.slice (some ⟨b,off,none⟩) len cap),isV 14 (.int .i64 (k:Nat)),isV 15 (.pointer (some ⟨b,off+k*3,none⟩)),isV 16 (.pointer (some ⟨b,off+k*3+2,none⟩)),isV 17 (.int .i8 t.z),isV 18 (.int .i64 t.z),isV 19 (.agg #[.int .i64 t.x,.int .i64 t.y,.int .i64 t.z]),isP 20 (fun v w=>∃ gb,v=.slice (some ⟨gb,0,none⟩) 1 1∧Box w gb #[.int .i64 t.x,.int .i64 t.y,.int .i64 t.z] 46)] [] ?AP #[true,true,true,true,true,true,true,true,true,true,true,true,true,true,true,true,true,true,true,true,true,false,false] κ [0,1,2,3,4,5,6,7,8,9,10,11,12,13,14,15,16,17,18,19,20] κ κ κ κ κ κ ?st ?hA ?hop ?hend
   case hA =>
    intro y;simp only [bj,cU,List.getElem?_toArray,List.getElem?_cons_zero,List.getElem?_cons_succ,Option.bind_some,Act.put,List.setIfInBounds_toArray,List.set_cons_zero,List.set_cons_succ];exact rfl
   case st=>exact aj.cons isV.stab (aj.cons isV.stab (aj.cons isV.stab (aj.cons isV.stab (aj.cons isV.stab (aj.cons isV.stab (aj.cons isV.stab (aj.cons isV.stab (aj.cons isV.stab (aj.cons isV.stab (aj.cons isV.stab (aj.cons isV.stab (aj.cons isV.stab (aj.cons isV.stab (aj.cons isV.stab (aj.cons isV.stab (aj.cons isV.stab (aj.cons isV.stab (aj.cons isV.stab (aj.cons isV.stab (aj.cons (isP.stab (fun _ _ _ h ⟨gb,e,hb⟩=>⟨gb,e,hb.below h hb.lt⟩)) (aj.nil)))))))))))))))))))))
   case hop =>
    refine ai.cons (i:=0) rfl (fun y w' hS hD K hK=>?_) ?_
    ·as_aux_lemma =>
     go_simp;exact hK.out _ w' hS β isV.put δ
    refine ai.cons (i:=1) rfl (fun y w' hS hD K hK=>?_) ?_
    ·as_aux_lemma =>
     go_simp;exact hK.out _ w' hS β isV.put δ
    refine ai.cons (i:=2) rfl (fun y w' hS hD K hK=>?_) ?_
    ·as_aux_lemma =>
     go_simp;exact hK.out _ w' hS β isV.put δ
    refine ai.cons (i:=3) rfl (fun y w' hS hD K hK=>?_) ?_
    ·as_aux_lemma =>
     have e1:=isV.get (i:=1) (c:=.slice (some ⟨b,off,none⟩) len cap) (hD 1 κ);have e2:=isV.get (i:=2) (c:=.int .i64 (k:Nat)) (hD 2 κ);simp only [e1,e2] at hK ⊢;go_simp;exact hK.out _ w' hS β isV.put δ
    refine ai.cons (i:=4) rfl (fun y w' hS hD K hK=>?_) ?_
    ·as_aux_lemma =>
     have e3:=isV.get (i:=3) (c:=.pointer (some ⟨b,off+k*3,none⟩)) (hD 3 κ);simp only [e3] at hK ⊢;go_simp;exact hK.out _ w' hS β isV.put δ
    refine ai.cons (i:=5) rfl (fun y w' hS hD K hK=>?_) ?_
    ·as_aux_lemma =>
     have e4:=isV.get (i:=4) (c:=.pointer (some ⟨b,off+k*3,none⟩)) (hD 4 κ);obtain ⟨c0,c1,c2⟩:=KC.out w' hS;simp only [e4] at hK ⊢;go_simp;exact hK.out _ w' hS β isV.put δ
    refine ai.cons (i:=6) rfl (fun y w' hS hD K hK=>?_) ?_
    ·as_aux_lemma =>
     have e5:=isV.get (i:=5) (c:=.int .i8 t.x) (hD 5 κ);have k0:=BX.out;have k1:=BY.out;have k2:=BZ.out;have kw:IntKind.i64.wrap t.x=t.x:=IntWalk.i64_in _ ω;simp only [e5] at hK ⊢;go_simp;exact hK.out _ w' hS β isV.put δ
    refine ai.cons (i:=7) rfl (fun y w' hS hD K hK=>?_) ?_
    ·as_aux_lemma =>
     go_simp;exact hK.out _ w' hS β isV.put δ
    refine ai.cons (i:=8) rfl (fun y w' hS hD K hK=>?_) ?_
    ·as_aux_lemma =>
     go_simp;exact hK.out _ w' hS β isV.put δ
    refine ai.cons (i:=9) rfl (fun y w' hS hD K hK=>?_) ?_
    ·as_aux_lemma =>
     have e7:=isV.get (i:=7) (c:=.slice (some ⟨b,off,none⟩) len cap) (hD 7 κ);have e8:=isV.get (i:=8) (c:=.int .i64 (k:Nat)) (hD 8 κ);simp only [e7,e8] at hK ⊢;go_simp;exact hK.out _ w' hS β isV.put δ
    refine ai.cons (i:=10) rfl (fun y w' hS hD K hK=>?_) ?_
    ·as_aux_lemma =>
     have e9:=isV.get (i:=9) (c:=.pointer (some ⟨b,off+k*3,none⟩)) (hD 9 κ);simp only [e9] at hK ⊢;go_simp;exact hK.out _ w' hS β isV.put δ
    refine ai.cons (i:=11) rfl (fun y w' hS hD K hK=>?_) ?_
    ·as_aux_lemma =>
     have e10:=isV.get (i:=10) (c:=.pointer (some ⟨b,off+k*3+1,none⟩)) (hD 10 κ);obtain ⟨c0,c1,c2⟩:=KC.out w' hS;simp only [e10] at hK ⊢;go_simp;exact hK.out _ w' hS β isV.put δ
    refine ai.cons (i:=12) rfl (fun y w' hS hD K hK=>?_) ?_
    ·as_aux_lemma =>
     have e11:=isV.get (i:=11) (c:=.int .i8 t.y) (hD 11 κ);have k0:=BX.out;have k1:=BY.out;have k2:=BZ.out;have kw:IntKind.i64.wrap t.y=t.y:=IntWalk.i64_in _ ω;simp only [e11] at hK ⊢;go_simp;exact hK.out _ w' hS β isV.put δ
    refine ai.cons (i:=13) rfl (fun y w' hS hD K hK=>?_) ?_
    ·as_aux_lemma =>
     go_simp;exact hK.out _ w' hS β isV.put δ
    refine ai.cons (i:=14) rfl (fun y w' hS hD K hK=>?_) ?_
    ·as_aux_lemma =>
     go_simp;exact hK.out _ w' hS β isV.put δ
    refine ai.cons (i:=15) rfl (fun y w' hS hD K hK=>?_) ?_
    ·as_aux_lemma =>
     have e13:=isV.get (i:=13) (c:=.slice (some ⟨b,off,none⟩) len cap) (hD 13 κ);have e14:=isV.get (i:=14) (c:=.int .i64 (k:Nat)) (hD 14 κ);simp only [e13,e14] at hK ⊢;go_simp;exact hK.out _ w' hS β isV.put δ
    refine ai.cons (i:=16) rfl (fun y w' hS hD K hK=>?_) ?_
    ·as_aux_lemma =>
     have e15:=isV.get (i:=15) (c:=.pointer (some ⟨b,off+k*3,none⟩)) (hD 15 κ);simp only [e15] at hK ⊢;go_simp;exact hK.out _ w' hS β isV.put δ
    refine ai.cons (i:=17) rfl (fun y w' hS hD K hK=>?_) ?_
    ·as_aux_lemma =>
     have e16:=isV.get (i:=16) (c:=.pointer (some ⟨b,off+k*3+2,none⟩)) (hD 16 κ);obtain ⟨c0,c1,c2⟩:=KC.out w' hS;simp only [e16] at hK ⊢;go_simp;exact hK.out _ w' hS β isV.put δ
    refine ai.cons (i:=18) rfl (fun y w' hS hD K hK=>?_) ?_
    ·as_aux_lemma =>
     have e17:=isV.get (i:=17) (c:=.int .i8 t.z) (hD 17 κ);have k0:=BX.out;have k1:=BY.out;have k2:=BZ.out;have kw:IntKind.i64.wrap t.z=t.z:=IntWalk.i64_in _ ω;simp only [e17] at hK ⊢;go_simp;exact hK.out _ w' hS β isV.put δ
    refine ai.cons (i:=19) rfl (fun y w' hS hD K hK=>?_) ?_
    ·as_aux_lemma =>
     have e6:=isV.get (i:=6) (c:=.int .i64 t.x) (hD 6 κ);have e12:=isV.get (i:=12) (c:=.int .i64 t.y) (hD 12 κ);have e18:=isV.get (i:=18) (c:=.int .i64 t.z) (hD 18 κ);simp only [e6,e12,e18] at hK ⊢;go_simp;exact hK.out _ w' hS β isV.put δ
    refine ai.cons (i:=20) rfl (fun y w' hS hD K hK=>?_) ?_
    ·as_aux_lemma =>
     have e19:=isV.get (i:=19) (c:=.agg #[.int .i64 t.x,.int .i64 t.y,.int .i64 t.z]) (hD 19 κ);simp only [e19] at hK ⊢;go_simp;exact hK.out _ _ (hS.alloc hS.size _) (β.alloc ρ _) (isP.put ⟨_,rfl,Box.new _ _ _ _ rfl⟩) δ
    exact ai.nil
   case hend =>
    intro y w' hS hR hF;have e0:=isV.get (i:=0) (c:=ov) (hR 0 κ);obtain ⟨gb,e20,bb⟩:=isP.get (i:=20) (p:=fun v w=>∃ gb,v=.slice (some ⟨gb,0,none⟩) 1 1∧Box w gb #[.int .i64 t.x,.int .i64 t.y,.int .i64 t.z] 46) (hR 20 κ);simp only [e0,e20];have HOW:=η (HO.out.below hS);have HB6:=η (ae HR.out hS ρ);have hbs:w.heap.size≤w'.heap.size:=HB6.out.size;have hlo:((List.range k).map T).length≤10:=by simp;omega
    refine bM (i:=21) (listed2:=#[true,true,true,true,true,true,true,true,true,true,true,true,true,true,true,true,true,true,true,true,true,true,false]) κ rfl κ (fun K hK=>?_);refine step_append_lies w' rfl (.tmp 15) (.tmp 35) 22 rfl w.heap.size 46 i0 (.agg #[.int .i64 0,.int .i64 0,.int .i64 0]) 3 24 Tryz.underlying22 hinf hz0 hz1 hz2 rfl ν _ _ _ rfl HOW.out ⟨gb,0,none⟩ 1 1 [.int .i64 t.x,.int .i64 t.y,.int .i64 t.z] rfl rfl (fun j u hj=>?news) (by intro u hu;simp at hu;rcases hu with rfl | rfl | rfl <;> rfl) ω (by unfold maxLen;omega) ω hbs _ rfl ?_
    case news=>rw [lk,Nat.zero_add,bb.cell j];simpa using hj
    intro g1 cap1 w6 hown' hgrow6 _ _;have hge:=cJ HOW.out;have HO7:=η (show jU w6 w.heap.size (.slice (some ⟨g1,0,none⟩) (((List.range k).map T).length+1) cap1) ((List.range (k+1)).map T) from by
     rw [List.range_succ,List.map_append];refine dE.app rfl ?_;show w6.ownsRow _ _ _ _ _ (_ ++ v3 (T k));rw [HTK.out];exact hown')
    have HB8:=η (show Below w.heap.size w w6 from HB6.out.grown hgrow6 HB6.out.size (fun g hg=>hge g hg));clear hown' hgrow6 hge HOW;refine hK.out _ _ ?_;clear hK K;refine bM (i:=22) (listed2:=#[true,true,true,true,true,true,true,true,true,true,true,true,true,true,true,true,true,true,true,true,true,true,true]) κ rfl κ (fun K hK=>?_);go_simp;refine hK.out _ _ ?_;clear hK K;refine bq κ ?_;clear hS hR hF bb e20 e0 hbs hlo;go_wp2;go_round
    case rel=>exact ⟨k+1,_,rfl,by omega,rfl,(by have h:=HO7.out;simp only [List.length_map,List.length_range] at h;exact h),HB8.out⟩
    case measure=>show min len 10 - ((k:Int)+1).toNat<min len 10 - (k:Int).toNat;omega
end Go.Proofs.Υ
end

section
namespace Dowel
open Go Go.RowKit Go.Proofs.Υ
def pH (T:Nat→V) (len:Nat):Nat→V:=ofL ((List.range (min len 10)).map T)
theorem ptsT_at (T:Nat→V) (len i:Nat) (hi:i<min len 10):pH T len i=T i:=by
 unfold pH ofL;rw [List.getD_eq_getElem?_getD,List.getElem?_map,List.getElem?_range hi];rfl
def RetSolid (T:Nat→V) (len base:Nat) (w:World) (e:Ending):Prop:=
 ∃ p n c b,e=.returned (.tuple #[.agg #[.slice p n c],.bool b])∧(b=true→HullOk (pH T len) (min len 10)∧jU w base (.slice p n c) (cN (pH T len) (min len 10))∧(cN (pH T len) (min len 10)).length≤10)
theorem near_of {p:V} (h:LeV 128 p):jc p:=by
 obtain ⟨h1,h2,h3⟩:=h;unfold Le at h1 h2 h3;unfold jc;omega
theorem hullE_small {P:Nat→V} {N:Nat} (h:∀ i,i<N→LeV 128 (P i)) (hN:N≤10):(jw P N=0→HullOk P N∧(cN P N).length≤10):=by
 have hl:=fO (Q:=P) (p:=fun p=>cC P N (bD P N) p) N;change (cN P N).length≤N at hl;intro h0;unfold jw at h0;rw [if_neg ω,if_neg (by
  rintro ⟨i,hi,hf⟩;rw [(iu _).mpr (near_of (h i hi))] at hf;cases hf)] at h0
 split at h0
 ·omega
 ·rename_i hc
  have hc1:N≠0:=fun e=>hc (.inl e)
  have hc2:dq P N:=Classical.byContradiction fun e=>hc (.inr e)
  exact ⟨hullR_ok (fun i hi=>near_of (h i hi)) ω hc2,by omega⟩
end Dowel
namespace Go.Proofs.Υ
open Go.RowKit Dowel
set_option maxRecDepth 20000 in
theorem solid_any (a:Option Addr) (len cap:Nat) (T:Nat→V) (w:World) (hT:Pts8 w a len cap T) :
  Calls Tryz.prog 14 #[.slice a len cap] w fun e w'=>RetSolid T len w.heap.size w' e∧Below w.heap.size w w':=by
 obtain ⟨W,hW,b1,hB,hS⟩:=aG w #[.slice none 0 0] 24;have HT:=η (hT.below hB ρ);have HNR:=η hT.near;have HB:=η hB;have HS:=η hS;have B1:=η b1;clear hT hB hS b1
 go_enter Tryz.func14,Tryz.ntmps14
 go_wp2_with fail
 refine (points_any a len cap T W HT.out).mono ?_;rintro e w1 ⟨⟨v1,rfl,hv1⟩,hb1⟩;obtain ⟨pa,pc,rfl,hP⟩:=jU.pts hv1;have hl:((List.range (min len 10)).map T).length=min len 10:=by simp
 rw [hl] at hP ⊢;have HP:=η hP;have L1:=η (ae HB.out hb1 (ψ HS.out));have C1:=η (B1.out.below hb1 B1.out.lt);have SZ1:=η hb1.size;clear hv1 hb1 hP hl;obtain ⟨m,hm⟩:∃ m,min len 10=m:=⟨_,rfl⟩;have HM:=η hm;have hml:m≤10:=ω;rw [hm] at HP ⊢;clear hm
 go_wp2_with fail
 refine (rhull_any pa m pc (ofL ((List.range (min len 10)).map T)) w1 (by rw [HM.out];exact HP.out) ω).mono ?_;rintro e w2 ⟨⟨v2,rfl,he1,he2⟩,hb2⟩;have hres:=hullE_small (P:=pH T len) (N:=m) (fun i hi=>by
  rw [ptsT_at T len i (by rw [HM.out];exact hi)];exact HNR.out i (ψ HM.out)) hml
 have HRES:=η hres;have HE1:=η he1;have HE2:=η he2;obtain ⟨E,hE⟩:∃ E,jw (ofL ((List.range (min len 10)).map T)) m=E:=⟨_,rfl⟩;rw [hE] at HE1 HE2 ⊢;have HEE:=η hE;have L2:=η (ae L1.out hb2 ρ);have C2:=η (C1.out.below hb2 C1.out.lt);have SZ2:=η hb2.size;obtain ⟨p,n,c,rfl⟩:∃ p n c,v2=.slice p n c:=by
  by_cases h0:E=0
  ·obtain ⟨q,cq,hq,-⟩:=(HE2.out h0).form
   exact ⟨_,_,_,hq⟩
  ·exact ⟨_,_,_,HE1.out h0⟩
 clear he1 he2 hres hE hb2;obtain ⟨z0,z1⟩:=C2.out.one;have hlt:w.heap.size<w2.heap.size:=C2.out.lt
 go_upto_region 2 with fail
 obtain ⟨w3,hw3,b3,hb3,hs3⟩:=aG w2 #[.slice p n c] 24;rw [hw3];have L3:=η (ae L2.out hb3 ρ);have C3:=η (C2.out.below hb3 C2.out.lt);have HB3:=η hb3;clear z0 z1 hw3 hs3 hb3;obtain ⟨z0,z1⟩:=C3.out.one;obtain ⟨y0,y1⟩:=b3.one;clear b3
 go_wp2_with fail
 exact bP Tryz.results14 w.heap.size (C3.out.set 0 (.slice p n c)) _ rfl Tryz.underlying24 rfl fZ rfl ⟨⟨p,n,c,(E == 0),rfl,fun h0=>by
  have h0':E=0:=by simpa using h0
  obtain ⟨h1,h2⟩:=HRES.out (by unfold pH;rw [HEE.out];exact h0');rw [HM.out];refine ⟨h1,?_,h2⟩;exact (((HE2.out h0').below HB3.out).set C3.out ν 0 _).down (ψ L1.out.size)⟩,L3.out.setCell (p:=⟨w.heap.size,0,none⟩) ρ _⟩
end Go.Proofs.Υ
end
