/- The reference: Faces. Printed by gen/faces.py. The reference: Edges. The reference: Directions. Printed by gen/rdirs.py. The directions of edges, plainly: the shape's are the reference's; volume and centre of mass as the reference's ints. -/
import Derived.Test.YtaibkpbklfodiaaGreatDoorP32
import Derived.Test.YtaibkpbklfodiaaGreatDoorP35
import Derived.Test.YtaibkpbklfodiaaGreatDoorP19
import Derived.Test.YtaibkpbklfodiaaGreatDoorP2
set_option linter.all false
set_option maxHeartbeats 100000000
section
namespace Dowel
open Go Go.RowKit Go.Proofs.Υ
theorem Box.fiveF {w:World} {g:Nat} {v0 v1 v2 v3 v4:Value} {t:TypeId} (h:Box w g #[v0,v1,v2,v3,v4] t) :
  w.cell? ⟨g,0,none⟩=some v0∧w.cell? ⟨g,1,none⟩=some v1∧w.cell? ⟨g,2,none⟩=some v2∧w.cell? ⟨g,3,none⟩=some v3∧w.cell? ⟨g,4,none⟩=some v4∧w.frozen? ⟨g,0,none⟩=false∧w.frozen? ⟨g,1,none⟩=false∧w.frozen? ⟨g,2,none⟩=false∧w.frozen? ⟨g,3,none⟩=false∧w.frozen? ⟨g,4,none⟩=false:=
 ⟨h.cell 0,h.cell 1,h.cell 2,h.cell 3,h.cell 4,h.free 0,h.free 1,h.free 2,h.free 3,h.free 4⟩
def put5 (w:World) (g:Nat) (x y z o:Int) (v:Value):World:=((((w.setCell ⟨g,0,none⟩ (.int .i64 x)).setCell ⟨g,1,none⟩ (.int .i64 y)).setCell ⟨g,2,none⟩ (.int .i64 z)).setCell ⟨g,3,none⟩ (.int .i64 o)).setCell ⟨g,4,none⟩ v
theorem below_put5 {n:Nat} {w w':World} (h:Below n w w') {g:Nat} (hg:n≤g) (x y z o:Int) (v:Value):Below n w (put5 w' g x y z o v):=
 ((((h.setCell (p:=⟨g,0,none⟩) hg _).setCell (p:=⟨g,1,none⟩) hg _).setCell (p:=⟨g,2,none⟩) hg _).setCell (p:=⟨g,3,none⟩) hg _).setCell (p:=⟨g,4,none⟩) hg _
theorem Box.s5 {w:World} {g:Nat} {v0 v1 v2 v3 v4:Value} {t:TypeId} (h:Box w g #[v0,v1,v2,v3,v4] t) (x y z o:Int) (v:Value):Box (put5 w g x y z o v) g #[.int .i64 x,.int .i64 y,.int .i64 z,.int .i64 o,v] t:=
 ((((h.set 0 (.int .i64 x)).set 1 (.int .i64 y)).set 2 (.int .i64 z)).set 3 (.int .i64 o)).set 4 v
theorem own_put5 {w:World} {base:Nat} {u:Value} {l:List Nat} (h:bM w base u l) {g:Nat} {v0 v1 v2 v3 v4:Value} (hb:Box w g #[v0,v1,v2,v3,v4] 50) (x y z o:Int) (v:Value):bM (put5 w g x y z o v) base u l:=by
 have b1:=hb.set 0 (.int .i64 x);have b2:=b1.set 1 (.int .i64 y);have b3:=b2.set 2 (.int .i64 z);have b4:=b3.set 3 (.int .i64 o);exact ig (ig (ig (ig (ig h hb ν 0 _) b1 ν 1 _) b2 ν 2 _) b3 ν 3 _) b4 ν 4 v
theorem f5_one1 (x y z o:Int) (a:Option Addr) (n c:Nat):∀ u ∈ [Value.int .i64 x,.int .i64 y,.int .i64 z,.int .i64 o,.slice a n c],u.oneCell'=true:=fun u hu=>by
 simp only [List.mem_cons,List.not_mem_nil,or_false] at hu
 rcases hu with rfl | rfl | rfl | rfl | rfl <;> rfl
theorem stepF_take {P:Nat→V} {N:Nat} {l:List Pl} {k:Nat} (hk:k<l.length):(l.take (k+1)).foldl (fp P N) []=fp P N ((l.take k).foldl (fp P N) []) (l.getD k ⟨V.zero,0⟩):=by
 rw [List.take_succ_eq_append_getElem hk,List.foldl_append];simp [hk]
theorem pf_map (m:Pl) (v:Value) (rg:List Nat) (L:List F5) {P:Nat→V} {N:Nat} (h:rg=bS P N m):(gQ (fun f:F5=>decide (LtR f.r rg)) ⟨m,v,rg⟩ L).map F5.pf=fp P N (L.map F5.pf) m:=by
 subst h;exact insG_map F5.pf _ (fun q:PF=>decide (LtR q.2 (bS P N m))) (fun _=>rfl) _ L
theorem nF {P:Nat→V} {N:Nat} {x:PF}:∀ (l:List Pl) (out:List PF),x ∈ l.foldl (fp P N) out→x ∈ out∨∃ m ∈ l,x=(m,bS P N m)
 | [],out,h=>.inl h
 | m :: l,out,h=>by
  rw [List.foldl_cons] at h
  rcases nF l _ h with h | ⟨m',hm,e⟩
  ·rcases iQ.mp (show x ∈ gQ _ _ _ from h) with rfl | h
   ·exact .inr ⟨m,List.mem_cons_self ..,rfl⟩
   ·exact .inl h
  ·exact .inr ⟨m',List.mem_cons_of_mem _ hm,e⟩
instance : Inhabited F5 := ⟨⟨⟨V.zero, 0⟩, undef, []⟩⟩
end Dowel
namespace Go.Proofs.Υ
open Go.RowKit Dowel
theorem infoF5:(Tryz.prog.info? 50).map (fun i=>(i.zero,i.size,i.bytes))=some (some (.agg #[.int .i64 0,.int .i64 0,.int .i64 0,.int .i64 0,.slice none 0 0]),5,56):=by kernel_rfl
set_option maxRecDepth 10000 in
theorem rfaces_any (a:Option Addr) (len cap:Nat) (P:Nat→V) (w:World) (hP:Pts w a len cap P) (hlen:len≤64) (hnear:∀ i,i<len→LeV 4096 (P i)) (hw:∀ m ∈ aP P len,RingW P m.n (eo P len m) (bS P len m)) :
  Calls Tryz.prog 15 #[.agg #[.slice a len cap]] w fun e w'=>(∃ v,e=.returned v∧dC w' w.heap.size v (facesR P len))∧Below w.heap.size w w':=by
 obtain ⟨W,hW,b1,hB,hS⟩:=aG w #[.slice a len cap] 24;obtain ⟨i0,hinf,hz0,hz1,hz2⟩:=info_parts infoF5;have HP:=η (hP.below hB);have HB:=η hB;have HSZ:=η hS;have HN:=η hnear;have HLEN:=η hlen;have HW:=η hw;have B1:=η b1;obtain ⟨z0,-⟩:=b1.one;clear hP hB hS hnear hlen hw b1
 go_enter Tryz.func15,Tryz.ntmps15
 go_wp2_with fail
 refine (lE a len cap P _ HP.out HLEN.out HN.out).mono ?_;rintro e w3 ⟨⟨pv,rfl,hpv⟩,hb3⟩;have H3:=η hb3;have HPV:=η hpv;have HPL:=η (lI P len HLEN.out);clear hb3 hpv z0;obtain ⟨pl,hpl⟩:∃ pl,aP P len=pl:=⟨_,rfl⟩;have HFR:Hid (facesR P len=pl.foldl (fp P len) []):=by rw [← hpl];rfl
 have HMM:=η (show ∀ m ∈ pl,RingW P m.n (eo P len m) (bS P len m)∧LeV 1000000000 m.n from fun m hm=>by
  rw [← hpl] at hm;exact ⟨HW.out m hm,m9 HN.out hm⟩)
 rw [hpl] at HPV HPL;clear hpl;obtain ⟨NP,hNP⟩:∃ NP,pl.length=NP:=⟨_,rfl⟩;have HNP:=η hNP;have HPS:=η HPV.out.slice;obtain ⟨pa,pc,rfl,hpc,hpcc⟩:=HPV.out.slice;rw [hNP] at HPL hpc hpcc ⊢;clear hNP hpc hpcc HPV
 go_wp2_with fail
 go_loopw [3,5] (fun ov' iv wr=>∃ k ov,ov=ov'∧k≤NP∧iv=.int .i64 (k:Nat)∧Hid (dC wr w3.heap.size ov ((pl.take k).foldl (fp P len) []))∧Hid (Below w3.heap.size w3 wr)) (fun _ iv _=>NP - (intOf iv).toNat)
 case atStart=>exact ⟨0,_,rfl,Nat.zero_le _,rfl,⟨[],⟨bj.nil _ _ _ _ _,fun f hf=>absurd hf (by simp)⟩,by simp⟩,Below.refl _ _⟩
 case round =>
  obtain ⟨k,ov,rfl,hk,rfl,HO,HR⟩:=hrel;obtain ⟨w5,rfl⟩:∃ w5,w5=wr:=⟨_,rfl⟩;have HBW:=η (ac H3.out HR.out ρ);by_cases h0:k=NP
  case pos =>
   have hnl:¬ (k:Int)<(NP:Int):=ω;have HOF:=η (show dC w5 w.heap.size ov (facesR P len) from by
    obtain ⟨l,h1,h2⟩:=HO.out;refine ⟨l,h1.down (by have:=H3.out.size;have:=HSZ.out;omega),?_⟩;rw [h2,HFR.out,List.take_of_length_le (by rw [HNP.out];omega)])
   go_wp2;exact bodyPost_ret (results_tmp Tryz.results15 _ _ _) rfl ⟨⟨_,rfl,HOF.out⟩,ac HB.out HBW.out (ψ HSZ.out)⟩
  case neg =>
   have hkl:k<NP:=ω;have hlt:(k:Int)<(NP:Int):=ω;have HKL:=η hkl;have HKLI:=η hlt;obtain ⟨L,HOL,hLm⟩:=HO.out;have HLM:=η hLm;have HLL:=η (show L.length≤600000 from by
    have:=congrArg List.length hLm;rw [List.length_map,nG] at this;simp only [List.length_nil,List.length_take] at this;have:=HPL.out;omega)
   obtain ⟨_,_,e,-,hpcc⟩:=HPS.out;cases e;obtain ⟨mb,mo,rfl,hmb,m0,m1,m2,m3⟩:=hpcc k (ψ HNP.out);have hm:=HMM.out (pl.getD k ⟨V.zero,0⟩) (by
    rw [List.getD_eq_getElem?_getD,List.getElem?_eq_getElem (ψ HNP.out)];exact List.getElem_mem _)
   have hst:=stepF_take (P:=P) (N:=len) (l:=pl) (k:=k) (ψ HNP.out);generalize pl.getD k ⟨V.zero,0⟩=m at m0 m1 m2 m3 hm hst;have HST:=η hst;obtain ⟨rg,hrg⟩:∃ rg,bS P len m=rg:=⟨_,rfl⟩;rw [hrg] at hm;have HRG:=η hm.1;have HMN:=η hm.2;have HRE:=η hrg;have HRL:=η (show rg.length≤64 from by
    have h1:=hm.1.len;have h2:=jj P len m;have:=HLEN.out;omega)
   have HMC:Hid (∀ w',Below w5.heap.size w5 w'→w'.cell? ⟨mb,mo+k*4,none⟩=some (.int .i64 m.n.x)∧w'.cell? ⟨mb,mo+k*4+1,none⟩=some (.int .i64 m.n.y)∧w'.cell? ⟨mb,mo+k*4+2,none⟩=some (.int .i64 m.n.z)∧w'.cell? ⟨mb,mo+k*4+3,none⟩=some (.int .i64 m.o)):=fun w' h=>by
    have h':=ac HR.out h ρ;exact ⟨keepC m0 h' hmb,keepC m1 h' hmb,keepC m2 h' hmb,keepC m3 h' hmb⟩
   have CB:=η (B1.out.below HBW.out B1.out.lt);have HP5:=η (HP.out.below HBW.out);have HOLL:=η HOL;clear hm hst hrg m0 m1 m2 m3 hpcc hLm HOL HO h0
   go_wp2_with fail
   refine bU (rest:=1) [isV 0 (.slice (some ⟨mb,mo,none⟩) NP pc),isV 1 (.int .i64 k),isV 2 (.pointer (some ⟨mb,mo+k*4,none⟩)),isV 3 (.agg #[.int .i64 m.n.x,.int .i64 m.n.y,.int .i64 m.n.z,.int .i64 m.o]),isV 4 (.pointer (some ⟨w.heap.size,0,none⟩)),isV 5 (.slice a len cap),isV 6 (.slice (some ⟨mb,mo,none⟩) NP pc),isV 7 (.int .i64 k),isV 8 (.pointer (some ⟨mb,mo+k*4,none⟩)),isV 9 (.agg #[.int .i64 m.n.x,.int .i64 m.n.y,.int .i64 m.n.z,.int .i64 m.o]),isP 10 (fun v w=>∃ ua uc,v=.slice ua rg.length uc∧bM w w5.heap.size v rg),isP 11 (fun v w=>∃ ua uc,v=.agg #[.int .i64 m.n.x,.int .i64 m.n.y,.int .i64 m.n.z,.int .i64 m.o,.slice ua rg.length uc]∧bM w w5.heap.size (.slice ua rg.length uc) rg),isP 12 (fun v w=>∃ g,v=.pointer (some ⟨g,0,none⟩)∧w5.heap.size≤g∧Box w g (#[.int .i64 0,.int .i64 0,.int .i64 0,.int .i64 0,.slice none 0 0]) 50)] [12] ?A6 #[true,true,true,true,true,true,true,true,true,true,true,true,true,false] κ [0,1,2,3,4,5,6,7,8,9,10,11,12] κ κ κ κ κ κ ?st ?hA ?hop ?hend
   case hA =>
    intro y;simp only [aS,cK,List.getElem?_toArray,List.getElem?_cons_zero,List.getElem?_cons_succ,Option.bind_some,Act.put,List.setIfInBounds_toArray,List.set_cons_zero,List.set_cons_succ];exact rfl
   case st=>exact ae.cons isV.stab (ae.cons isV.stab (ae.cons isV.stab (ae.cons isV.stab (ae.cons isV.stab (ae.cons isV.stab (ae.cons isV.stab (ae.cons isV.stab (ae.cons isV.stab (ae.cons isV.stab (ae.cons (isP.stab (fun _ _ _ h ⟨ua,uc,e,ho⟩=>⟨ua,uc,e,aO ho h⟩)) (ae.cons (isP.stab (fun _ _ _ h ⟨ua,uc,e,ho⟩=>⟨ua,uc,e,aO ho h⟩)) (ae.cons (isP.stab (fun v w w' h ⟨g,e,h1,h2⟩=>⟨g,e,h1,h2.below h h2.lt⟩)) (ae.nil)))))))))))))
   case hop =>
    refine ah.cons (i:=0) rfl (fun y w' hS hD K hK=>?_) ?_
    ·as_aux_lemma =>
     go_simp;exact hK.out _ w' hS β isV.put δ
    refine ah.cons (i:=1) rfl (fun y w' hS hD K hK=>?_) ?_
    ·as_aux_lemma =>
     go_simp;exact hK.out _ w' hS β isV.put δ
    refine ah.cons (i:=2) rfl (fun y w' hS hD K hK=>?_) ?_
    ·as_aux_lemma =>
     have e0:=isV.get (i:=0) (c:=.slice (some ⟨mb,mo,none⟩) NP pc) (hD 0 κ);have e1:=isV.get (i:=1) (c:=.int .i64 k) (hD 1 κ);have hkl:=HKLI.out;simp only [e0,e1] at hK ⊢;go_simp;exact hK.out _ w' hS β isV.put δ
    refine ah.cons (i:=3) rfl (fun y w' hS hD K hK=>?_) ?_
    ·as_aux_lemma =>
     have e2:=isV.get (i:=2) (c:=.pointer (some ⟨mb,mo+k*4,none⟩)) (hD 2 κ);obtain ⟨c0,c1,c2,c3⟩:=HMC.out w' hS;simp only [e2] at hK ⊢;go_simp;exact hK.out _ w' hS β isV.put δ
    refine ah.cons (i:=4) rfl (fun y w' hS hD K hK=>?_) ?_
    ·as_aux_lemma =>
     go_simp;exact hK.out _ w' hS β isV.put δ
    refine ah.cons (i:=5) rfl (fun y w' hS hD K hK=>?_) ?_
    ·as_aux_lemma =>
     have e4:=isV.get (i:=4) (c:=.pointer (some ⟨w.heap.size,0,none⟩)) (hD 4 κ);have bx:=CB.out.below hS CB.out.lt;obtain ⟨c0,-⟩:=bx.one;simp only [e4] at hK ⊢;go_simp;exact hK.out _ w' hS β isV.put δ
    refine ah.cons (i:=6) rfl (fun y w' hS hD K hK=>?_) ?_
    ·as_aux_lemma =>
     go_simp;exact hK.out _ w' hS β isV.put δ
    refine ah.cons (i:=7) rfl (fun y w' hS hD K hK=>?_) ?_
    ·as_aux_lemma =>
     go_simp;exact hK.out _ w' hS β isV.put δ
    refine ah.cons (i:=8) rfl (fun y w' hS hD K hK=>?_) ?_
    ·as_aux_lemma =>
     have e6:=isV.get (i:=6) (c:=.slice (some ⟨mb,mo,none⟩) NP pc) (hD 6 κ);have e7:=isV.get (i:=7) (c:=.int .i64 k) (hD 7 κ);have hkl:=HKLI.out;simp only [e6,e7] at hK ⊢;go_simp;exact hK.out _ w' hS β isV.put δ
    refine ah.cons (i:=9) rfl (fun y w' hS hD K hK=>?_) ?_
    ·as_aux_lemma =>
     have e8:=isV.get (i:=8) (c:=.pointer (some ⟨mb,mo+k*4,none⟩)) (hD 8 κ);obtain ⟨c0,c1,c2,c3⟩:=HMC.out w' hS;simp only [e8] at hK ⊢;go_simp;exact hK.out _ w' hS β isV.put δ
    refine ah.cons (i:=10) rfl (fun y w' hS hD K hK=>?_) ?_
    ·as_aux_lemma =>
     have e5:=isV.get (i:=5) (c:=.slice a len cap) (hD 5 κ);have e9:=isV.get (i:=9) (c:=.agg #[.int .i64 m.n.x,.int .i64 m.n.y,.int .i64 m.n.z,.int .i64 m.o]) (hD 9 κ);simp only [e5,e9] at hK ⊢;go_simp;refine (rwalk_any a len cap P m rg w' (HP5.out.below hS) HLEN.out HN.out HMN.out HRG.out).mono ?_;rintro e w'' ⟨⟨v,rfl,ho⟩,hb⟩;exact hK.out v w'' (ac hS hb ρ) hb (isP.put (by obtain ⟨ua,uc,e⟩:=bM.sl ho;exact ⟨ua,uc,e,bY ho hS.size⟩)) δ
    refine ah.cons (i:=11) rfl (fun y w' hS hD K hK=>?_) ?_
    ·as_aux_lemma =>
     have e3:=isV.get (i:=3) (c:=.agg #[.int .i64 m.n.x,.int .i64 m.n.y,.int .i64 m.n.z,.int .i64 m.o]) (hD 3 κ);have e10:=isP.get (i:=10) (p:=fun v w=>∃ ua uc,v=.slice ua rg.length uc∧bM w w5.heap.size v rg) (hD 10 κ);obtain ⟨ua,uc,eq,ho⟩:=e10;rw [eq] at ho;simp only [e3,eq] at hK ⊢;refine iteInduction (motive:=fun p=>p) (fun _=>?_) (fun h=>absurd κ h);refine mC 50 #[(0,.tmp 21),(1,.tmp 28)] rfl #[.int .i64 m.n.x,.int .i64 m.n.y,.int .i64 m.n.z,.int .i64 m.o,.slice ua rg.length uc] (by rw [List.map_toArray];simp only [List.map_cons,List.map_nil,Act.eval];exact built_face m.n.x m.n.y m.n.z m.o ua rg.length uc) ?_;exact hK.out _ w' hS β (isP.put ⟨ua,uc,rfl,ho⟩) δ
    refine ah.cons (i:=12) rfl (fun y w' hS hD K hK=>?_) ?_
    ·as_aux_lemma =>
     go_simp;exact hK.out _ _ (hS.alloc hS.size _) (β.alloc ρ _) (isP.put ⟨_,rfl,hS.size,Box.new _ _ _ _ rfl⟩) (fun _ j hj hne _=>absurd (List.mem_singleton.1 hj) hne)
    exact ah.nil
   case hend =>
    intro y w' hS hR hF;obtain ⟨ua,uc,ev,ho⟩:=isP.get (i:=11) (p:=fun v w=>∃ ua uc,v=.agg #[.int .i64 m.n.x,.int .i64 m.n.y,.int .i64 m.n.z,.int .i64 m.o,.slice ua rg.length uc]∧bM w w5.heap.size (.slice ua rg.length uc) rg) (hR 11 κ);obtain ⟨g,ea,hga,bga⟩:=isP.get (i:=12) (p:=fun v w=>∃ g,v=.pointer (some ⟨g,0,none⟩)∧w5.heap.size≤g∧Box w g (#[.int .i64 0,.int .i64 0,.int .i64 0,.int .i64 0,.slice none 0 0]) 50) (hR 12 κ);simp only [ev,ea];obtain ⟨c0,c1,c2,c3,c4,f0,f1,f2,f3,f4⟩:=bga.fiveF;refine bR (i:=13) (listed2:=#[true,true,true,true,true,true,true,true,true,true,true,true,true,true]) κ rfl κ (fun K hK=>?_);go_simp;refine hK.out _ _ ?_;clear hK K;refine bm κ ?_;clear c0 c1 c2 c3 c4 f0 f1 f2 f3 f4;change Exit.then _ _ _ _ (put5 w' g m.n.x m.n.y m.n.z m.o (.slice ua rg.length uc));have H6:=η (below_put5 hS hga m.n.x m.n.y m.n.z m.o (.slice ua rg.length uc));have BF6:=η (bga.s5 m.n.x m.n.y m.n.z m.o (.slice ua rg.length uc));have OF6:=η (own_put5 ho bga m.n.x m.n.y m.n.z m.o (.slice ua rg.length uc));generalize put5 w' g m.n.x m.n.y m.n.z m.o (.slice ua rg.length uc)=w6 at *;clear hS hR hF ev ea bga ho;have H56:=H6;have HO6:=η (HOLL.out.below H6.out);have HR6:=η (ac HR.out H6.out ρ);have HGB:=η hga;have HFC:Hid (∀ w',Below w6.heap.size w6 w'→w'.cell? ⟨g,0,none⟩=some (.int .i64 m.n.x)∧w'.cell? ⟨g,1,none⟩=some (.int .i64 m.n.y)∧w'.cell? ⟨g,2,none⟩=some (.int .i64 m.n.z)∧w'.cell? ⟨g,3,none⟩=some (.int .i64 m.o)∧w'.cell? ⟨g,4,none⟩=some (.slice ua rg.length uc)):=fun w' h=>by
     obtain ⟨c0,c1,c2,c3,c4,-⟩:=(BF6.out.below h BF6.out.lt).fiveF;exact ⟨c0,c1,c2,c3,c4⟩
    have HGL:=η BF6.out.lt;obtain ⟨oa,oc,hov,hoc,hom,-⟩:=HO6.out.row.form;subst hov;obtain ⟨N,hN⟩:∃ N,L.length=N:=⟨_,rfl⟩;rw [hN] at hoc HLL ⊢;have HNN:=η hN;clear hN hom hga HOLL;have HSH:=η (show ∀ f ∈ L,f.r.length≤64 from fun f hf=>by
     have h1:f.pf ∈ L.map F5.pf:=List.mem_map.mpr ⟨f,hf,rfl⟩;rw [HLM.out] at h1
     rcases nF _ _ h1 with h | ⟨m',hm,e⟩
     ·exact absurd h (by simp)
     ·have e2:f.r=bS P len m':=congrArg Prod.snd e
      have h2:=(HMM.out m' (List.mem_of_mem_take hm)).1.len;have h3:=jj P len m';have h4:=HLEN.out;rw [e2];omega)
    go_wp2_with fail
    go_loopw [7] (fun jv wr=>∃ j,j≤N∧jv=.int .i64 (j:Nat)∧Hid (∀ q,q<j→LtR (L.getD q default).r rg)∧Hid (Below w6.heap.size w6 wr)) (fun jv _=>N - (intOf jv).toNat)
    case atStart=>exact ⟨0,Nat.zero_le _,rfl,(fun q hq=>by omega),Below.refl _ _⟩
    case round =>
     obtain ⟨j,hj,rfl,HJL,HRJ⟩:=hrel;obtain ⟨wj,rfl⟩:∃ wj,wj=wr:=⟨_,rfl⟩;obtain ⟨-,-,-,-,p4⟩:=HFC.out wj HRJ.out;have hgj:g<wj.heap.size:=by have:=HGL.out;have:=HRJ.out.size;omega
     have K4:=fun x:Later wj.heap.size wj=>keepC p4 x.h hgj
     clear p4;have HUO:=η (show ∀ u,L[j]?=some u→∃ b',oa=some ⟨b',0,none⟩∧b'<wj.heap.size∧wj.cell? ⟨b',j*5+4,none⟩=some u.v∧(∃ xa xc,u.v=.slice xa u.r.length xc)∧∀ x:Later wj.heap.size wj,Calls Tryz.prog 61 #[u.v,.slice ua rg.length uc] x.w fun e w'=>e=.returned (.bool (decide (LtR u.r rg)))∧Below x.w.heap.size x.w w' from fun u hu=>by
      obtain ⟨b',cap',e,hb',-,hob,huc⟩:=bj.at_ f5_len (bj.below HO6.out.row HRJ.out) j u hu;cases e;have hmem:=List.mem_of_getElem? hu;have ho:=aO (HO6.out.own u hmem) HRJ.out;exact ⟨b',rfl,hb',huc 4 ω,bM.sl ho,fun x=>before_any _ _ u.r rg _ _ x.w (aO ho x.h) (aO (aO OF6.out HRJ.out) x.h) (HSH.out u hmem) HRL.out⟩)
     have hcase:(∃ u,j<N∧L[j]?=some u∧LtR u.r rg)∨j=N∨(∃ u,j<N∧L[j]?=some u∧¬ LtR u.r rg):=by
      by_cases h0:j=N
      ·exact .inr (.inl h0)
      ·have hu:=getD_some default (show j<L.length by have:=HNN.out;omega)
       by_cases h1:LtR (L.getD j default).r rg
       ·exact .inl ⟨_,by omega,hu,h1⟩
       ·exact .inr (.inr ⟨_,by omega,hu,h1⟩)
     rcases hcase with ⟨u,hjN,hu,hl⟩ | h0 | ⟨u,hjN,hu,hl⟩
     ·obtain ⟨b',rfl,hb',u0,⟨xa,xc,hxv⟩,hcl⟩:=HUO.out u hu
      rw [decide_eq_true hl] at hcl;have HL:=η hl;have HCL:=η hcl;rw [hxv] at u0 HCL;have L4:=fun x:Later wj.heap.size wj=>keepC u0 x.h hb'
      have hlj:(j:Int)<(N:Int):=ω;have hdj:decide (j<N)=true:=decide_eq_true hjN;have HGU:=η (show L.getD j default=u from by rw [List.getD_eq_getElem?_getD,hu];rfl);clear u0 hu hl hcl hxv
      go_wp2_with fail
      refine aC (Below.refl wj.heap.size wj) κ κ ?_
      repeat (first
       | go_big_quiet_skip
       | (go_big_quiet_want;go_big_quiet_op;first | go_big_quiet_on | go_big_quiet_call ((go_at_call 61;exact Calls.later ρ (HCL.out _)))))
      refine wpQuiet_nil ?_;intro w8 hw';obtain ⟨x,hx⟩:=hw';have H8:=η (show Below w6.heap.size w6 w8 from by rw [hx];exact ac HRJ.out x.h ρ);clear hx x K4 L4;have hj6:j<600000:=by have:=HLL.out;omega
      go_wp2;go_round
      case rel=>exact ⟨j+1,by omega,rfl,(fun q hq=>by
       by_cases e:q=j
       ·subst e;rw [HGU.out];exact HL.out
       ·exact HJL.out q ω),H8.out⟩
      case measure=>show N - ((j:Int)+1).toNat<N - (j:Int).toNat;omega
     case' inr.inl =>
      have hlj:¬ (j:Int)<(N:Int):=ω;have hdj:decide (j<N)=false:=decide_eq_false ω;have HNL:=η (show j<L.length→¬ LtR (L.getD j default).r rg from fun h=>by have:=HNN.out;omega);clear h0
      go_wp2_with fail
      refine aC (Below.refl wj.heap.size wj) κ κ ?_
      repeat (first
       | go_big_quiet_skip
       | (go_big_quiet_want;go_big_quiet_op;first | go_big_quiet_on))
      refine wpQuiet_nil ?_;intro w8 hw';obtain ⟨x,hx⟩:=hw';have H8:=η (show Below w6.heap.size w6 w8 from by rw [hx];exact ac HRJ.out x.h ρ);clear hx x K4 hlj hdj
     case' inr.inr =>
      obtain ⟨b',rfl,hb',u0,⟨xa,xc,hxv⟩,hcl⟩:=HUO.out u hu;rw [decide_eq_false hl] at hcl;have HL:=η hl;have HCL:=η hcl;rw [hxv] at u0 HCL;have L4:=fun x:Later wj.heap.size wj=>keepC u0 x.h hb'
      have hlj:(j:Int)<(N:Int):=ω;have hdj:decide (j<N)=true:=decide_eq_true hjN;have HNL:=η (show j<L.length→¬ LtR (L.getD j default).r rg from fun _=>by rw [List.getD_eq_getElem?_getD,hu];exact HL.out);clear u0 hu hl hcl hxv
      go_wp2_with fail
      refine aC (Below.refl wj.heap.size wj) κ κ ?_
      repeat (first
       | go_big_quiet_skip
       | (go_big_quiet_want;go_big_quiet_op;first | go_big_quiet_on | go_big_quiet_call ((go_at_call 61;exact Calls.later ρ (HCL.out _)))))
      refine wpQuiet_nil ?_;intro w8 hw';obtain ⟨x,hx⟩:=hw';have H8:=η (show Below w6.heap.size w6 w8 from by rw [hx];exact ac HRJ.out x.h ρ);clear hx x K4 L4 hlj hdj hb'
     all_goals
      have hjl:j≤L.length:=by have:=HNN.out;omega
      have hjm:j≤600000:=by have:=HLL.out;omega
      have hNm:N≤600000:=HLL.out;have HR8:=η (ac HR6.out H8.out ρ);have HINS:=η (insG_at (fun f:F5=>decide (LtR f.r rg)) (⟨m,.slice ua rg.length uc,rg⟩:F5) default L j hjl (fun q hq=>decide_eq_true (HJL.out q hq)) (fun h=>decide_eq_false (HNL.out h)));obtain ⟨_,_,e,hlc,s1,hs2⟩:=bj.cuts f5_len (bj.below HO6.out.row H8.out) j hjl;cases e;have hjo:j≤oc:=ω;have hNo:N≤oc:=by have:=HNN.out;omega
      clear hlc;have S1:=η s1
      rcases hs2 with ⟨hcj,s2⟩ | ⟨hcj,g0,hoa,s2⟩
      case' inl =>
       obtain rfl:=hcj;have hN0:=HNN.out;rw [show L.length - oc=0 by omega] at s2;clear hN0
      case' inr =>
       cases hoa;rw [HNN.out] at s2
      all_goals try (exfalso;omega)
      all_goals
       have S2:=η s2;clear s1 s2
       go_wp2_with (at_builtin;refine aL _ rfl _ _ 41 rfl w8.heap.size 50 i0 (.agg #[.int .i64 0,.int .i64 0,.int .i64 0,.int .i64 0,.slice none 0 0]) 5 56 Tryz.underlying41 hinf hz0 hz1 hz2 rfl ν _ _ _ rfl (World.ownsRow_made w8 #[] 0 ρ (Nat.zero_le _) rfl) _ _ _ _ rfl (S1.out.below (β.alloc ρ _)) (f5_one fun f hf=>HO6.out.own f (List.mem_of_mem_take hf)) (by unfold maxLen;omega) ω (by simp) ?_)
       intro v1 w9 ho1 hg1;have B89:=η (show Below w8.heap.size w8 w9 from (β.alloc ρ _).grown hg1 (by simp) (fun g e=>by cases e;exact Nat.le_refl _));have HO1:=η ho1;obtain ⟨p0,p1,p2,p3,p4⟩:=HFC.out w9 (ac H8.out B89.out ρ);clear ho1 hg1
       go_wp2_with (at_builtin;refine aL _ rfl _ _ 41 rfl w8.heap.size 50 i0 (.agg #[.int .i64 0,.int .i64 0,.int .i64 0,.int .i64 0,.slice none 0 0]) 5 56 Tryz.underlying41 hinf hz0 hz1 hz2 rfl ν _ _ _ rfl (HO1.out.alloc _) _ _ _ (f5 ⟨m,.slice ua rg.length uc,rg⟩) rfl (mi w9 (f5 ⟨m,.slice ua rg.length uc,rg⟩) _ 5 1 rfl) (f5_one1 _ _ _ _ _ _ _) (by unfold maxLen;omega) ω (by have:=B89.out.size;simp;omega) ?_)
       intro v2 w10 ho2 hg2;have B810:=η (show Below w8.heap.size w8 w10 from (B89.out.alloc B89.out.size _).grown hg2 (by have:=B89.out.size;simp;omega) (fun g e=>bw HO1.out g e));have HO2:=η ho2;clear ho2 hg2
       go_wp2_with (at_builtin;refine aL _ rfl _ _ 41 rfl w8.heap.size 50 i0 (.agg #[.int .i64 0,.int .i64 0,.int .i64 0,.int .i64 0,.slice none 0 0]) 5 56 Tryz.underlying41 hinf hz0 hz1 hz2 rfl ν _ _ _ rfl HO2.out _ _ _ _ rfl (S2.out.below B810.out) (f5_one fun f hf=>HO6.out.own f (List.mem_of_mem_drop hf)) (by unfold maxLen;omega) ω B810.out.size ?_)
       intro v4 w11 ho4 hg4;have B811:=η (show Below w8.heap.size w8 w11 from B810.out.grown hg4 B810.out.size (fun g e=>bw HO2.out g e));have HO9:=η (show dC w11 w3.heap.size v4 ((pl.take (k+1)).foldl (fp P len) []) from by
        refine ⟨gQ (fun f:F5=>decide (LtR f.r rg)) ⟨m,.slice ua rg.length uc,rg⟩ L,⟨?_,fun f hf=>?_⟩,?_⟩
        ·rw [HINS.out]
         refine bj.down (base:=w8.heap.size) ?_ HR8.out.size;have e1:=HNN.out;exact bj.ins ω ω ho4 (by first | rfl | simp only [List.append_assoc])
        ·have h611:=ac H8.out B811.out ρ
         rcases iQ.mp hf with rfl | hf
         ·exact bY (aO OF6.out h611) HR.out.size
         ·exact aO (HO6.out.own f hf) h611
        ·rw [pf_map m _ rg L HRE.out.symm,HLM.out,← HST.out])
       have HB9:=η (ac HR8.out B811.out ρ);clear ho4 hg4;have hk6:k≤600000:=by have:=HPL.out;have:=HKL.out;omega
       go_wp2;go_round
       case rel=>exact ⟨k+1,v4,rfl,HKL.out,rfl,HO9.out,HB9.out⟩
       case measure=>show NP - ((k:Int)+1).toNat<NP - (k:Int).toNat;have:=HKL.out;omega
end Go.Proofs.Υ
end

section
namespace Dowel
open Go Go.RowKit Go.Proofs.Υ
structure ER where
 a:Nat
 b:Nat
 f:Nat
 g:Nat
def er4 (e:ER):List Value:=[.int .i64 (e.a:Nat),.int .i64 (e.b:Nat),.int .i64 (e.f:Nat),.int .i64 (e.g:Nat)]
theorem er4_len (e:ER):(er4 e).length=4:=rfl
def fj (rs:List (List Nat)) (a b k:Nat):List Nat:=(List.range k).filter fun i=>dH (rs.getD i []) a b
theorem fidx_succ {rs:List (List Nat)} {a b k:Nat}:fj rs a b (k+1)=if dH (rs.getD k []) a b=true then fj rs a b k ++ [k] else fj rs a b k:=by
 unfold fj;rw [List.range_succ,List.filter_append]
 split <;> rename_i h
 ·rw [List.filter_cons_of_pos (p:=fun i=>dH (rs.getD i []) a b) h];simp
 ·rw [List.filter_cons_of_neg (p:=fun i=>dH (rs.getD i []) a b) h];simp
theorem nA {l:List Nat} {x i:Nat} (h:i<l.length):(l ++ [x]).getD i 0=l.getD i 0:=by
 rw [List.getD_eq_getElem?_getD,List.getD_eq_getElem?_getD,List.getElem?_append_left h]
theorem getD_end {l:List Nat} {x i:Nat} (h:i=l.length):(l ++ [x]).getD i 0=x:=by
 rw [List.getD_eq_getElem?_getD,h];simp
theorem len_keep {l:List Nat} {x n:Nat} (h:n=min 2 l.length) (h2:2≤l.length):n=min 2 (l ++ [x]).length:=by
 rw [List.length_append,h];simp only [List.length_singleton];omega
theorem getD_out {l:List Nat} {i:Nat} (h:l.length≤i):l.getD i 0=0:=by
 rw [List.getD_eq_getElem?_getD,List.getElem?_eq_none h];rfl
def erOf (rs:List (List Nat)) (a b k:Nat):ER:=⟨a,b,(fj rs a b k).getD 0 0,(fj rs a b k).getD 1 0⟩
def gT (rs:List (List Nat)) (a k:Nat):List ER:=((List.range k).filter fun b=>decide (a<b) && decide (2≤(fj rs a b rs.length).length)).map fun b=>erOf rs a b rs.length
def gU (rs:List (List Nat)) (N k:Nat):List ER:=(List.range k).flatMap fun a=>gT rs a N
theorem eRow_start (rs:List (List Nat)) (a:Nat):gT rs a (a+1)=[]:=by
 unfold gT;rw [List.filter_eq_nil_iff.mpr fun b hb=>?_]
 ·rfl
 ·have:=List.mem_range.mp hb
  simp;intro h;omega
theorem o4 {rs:List (List Nat)} {a b:Nat} (h:a<b):gT rs a (b+1)=if 2≤(fj rs a b rs.length).length then gT rs a b ++ [erOf rs a b rs.length] else gT rs a b:=by
 unfold gT;rw [List.range_succ,List.filter_append]
 split <;> rename_i h2
 ·rw [List.filter_cons_of_pos (by simp [h,h2])];simp
 ·rw [List.filter_cons_of_neg (by simp [h2])];simp
theorem o5 (rs:List (List Nat)) (N k:Nat):gU rs N (k+1)=gU rs N k ++ gT rs k N:=by
 unfold gU;rw [List.range_succ,List.flatMap_append];simp
theorem eRow_len (rs:List (List Nat)) (a k:Nat):(gT rs a k).length≤k:=by
 unfold gT;rw [List.length_map];exact Nat.le_trans (List.length_filter_le _ _) (by simp)
theorem nI (rs:List (List Nat)) (N:Nat):∀ k,(gU rs N k).length≤k*N
 | 0=>by simp [gU]
 | k+1=>by
  rw [o5,List.length_append,Nat.succ_mul];have:=nI rs N k;have:=eRow_len rs k N;omega
theorem er4_one (e:ER):∀ u ∈ er4 e,u.oneCell'=true:=fun u hu=>by
 simp only [er4,List.mem_cons,List.not_mem_nil,or_false] at hu
 rcases hu with rfl | rfl | rfl | rfl <;> rfl
theorem dC.ring {w:World} {base:Nat} {v:Value} {fs:List PF} (h:dC w base v fs):∃ a cap,v=.slice a fs.length cap∧∀ i,i<fs.length→∃ b u ua uc,a=some ⟨b,0,none⟩∧b<w.heap.size∧w.cell? ⟨b,i*5+4,none⟩=some u∧u=.slice ua ((fs.map Prod.snd).getD i []).length uc∧bM w base u ((fs.map Prod.snd).getD i []):=by
 obtain ⟨l,ho,rfl⟩:=h;obtain ⟨a,cap,hv,hc,-,-⟩:=ho.row.form;rw [List.length_map];refine ⟨a,cap,hv,fun i hi=>?_⟩;have hu:=getD_some default hi;obtain ⟨b,cap',e,hb,-,-,hcell⟩:=bj.at_ f5_len ho.row i _ hu;rw [hv] at e;cases e;have eg:((l.map F5.pf).map Prod.snd).getD i []=(l.getD i default).r:=by
  rw [List.getD_eq_getElem?_getD,List.map_map,List.getElem?_map,hu];rfl
 have hown:=ho.own _ (List.mem_of_getElem? hu);obtain ⟨ua,uc,e2⟩:=bM.sl hown;rw [eg];exact ⟨b,_,ua,uc,rfl,hb,hcell 4 ω,e2,hown⟩
end Dowel
namespace Go.Proofs.Υ
open Go.RowKit Dowel
theorem infoER:(Tryz.prog.info? 147).map (fun i=>(i.zero,i.size,i.bytes))=some (some (.agg #[.int .i64 0,.int .i64 0,.int .i64 0,.int .i64 0]),4,32):=by kernel_rfl
set_option maxRecDepth 20000 in
theorem redges_any (pa:Option Addr) (len cap:Nat) (fv:Value) (fs:List PF) (base:Nat) (w:World) (hlen:len≤64) (hF:dC w base fv fs) (hfl:fs.length≤600000) (hrl:∀ i,((fs.map Prod.snd).getD i []).length≤64) :
  Calls Tryz.prog 36 #[.agg #[.slice pa len cap],fv] w fun e w'=>(∃ v,e=.returned v∧bj w' w.heap.size 147 4 er4 v (gU (fs.map Prod.snd) len len))∧Below w.heap.size w w':=by
 obtain ⟨W,hW,b1,hB,hS⟩:=aG w #[.slice pa len cap] 24;obtain ⟨i0,hinf,hz0,hz1,hz2⟩:=info_parts infoER;obtain ⟨fa,fc,rfl,hff⟩:=hF.ring;obtain ⟨nf,hnf⟩:∃ nf,fs.length=nf:=⟨_,rfl⟩;obtain ⟨rs,hrs⟩:∃ rs,fs.map Prod.snd=rs:=⟨_,rfl⟩;have HNR:=η (show rs.length=nf from by rw [← hrs,List.length_map,hnf]);rw [hrs] at hff hrl ⊢;rw [hnf] at hff hfl ⊢;have HFF:=η hff;have HRL:=η hrl;have HFL:=η hfl;have HB:=η hB;have HS:=η hS;have B1:=η b1;have HLEN:=η hlen;clear hff hrl hB hS b1 hrs hnf hF hfl
 go_enter Tryz.func36,Tryz.ntmps36
 go_wp2_with fail
 go_loopw [5,6] (fun ov' iv wr=>∃ a ov,ov=ov'∧a≤len∧iv=.int .i64 (a:Nat)∧Hid (bj wr W.heap.size 147 4 er4 ov (gU rs len a))∧Hid (Below W.heap.size W wr)) (fun _ iv _=>len - (intOf iv).toNat)
 case atStart=>exact ⟨0,_,rfl,Nat.zero_le _,rfl,bj.nil _ _ _ _ _,Below.refl _ _⟩
 case round =>
  obtain ⟨a,ov,rfl,ha,rfl,HO,HR⟩:=hrel;obtain ⟨w1,rfl⟩:∃ w1,w1=wr:=⟨_,rfl⟩;obtain ⟨z0,-⟩:=(B1.out.below HR.out B1.out.lt).one;by_cases h0:a=len
  ·have hnl:¬ (a:Int)<(len:Int):=ω
   have HOF:=η (show bj w1 w.heap.size 147 4 er4 ov (gU rs len len) from by
    have h:=HO.out;rw [h0] at h;exact bj.down h (ψ HS.out))
   clear h0;go_wp2;exact bodyPost_ret (results_tmp Tryz.results36 _ _ _) rfl ⟨⟨_,rfl,HOF.out⟩,ac HB.out HR.out (ψ HS.out)⟩
  have hlt:(a:Int)<(len:Int):=ω;have HAL:=η (show a<len by omega);clear h0
  go_wp2_with fail
  clear z0
  go_loopw [5,7] (fun ov' iv wr=>∃ b ov,ov=ov'∧a+1≤b∧b≤len∧iv=.int .i64 (b:Nat)∧Hid (bj wr W.heap.size 147 4 er4 ov (gU rs len a ++ gT rs a b))∧Hid (Below W.heap.size W wr)) (fun _ iv _=>len - (intOf iv).toNat)
  case atStart=>exact ⟨a+1,_,rfl,Nat.le_refl _,HAL.out,rfl,by rw [eRow_start,List.append_nil];exact HO.out,HR.out⟩
  case round =>
   clear HO HR;obtain ⟨b,ov,rfl,hab,hbl,rfl,HO,HR⟩:=hrel;obtain ⟨w2,rfl⟩:∃ w2,w2=wr:=⟨_,rfl⟩;obtain ⟨z0,-⟩:=(B1.out.below HR.out B1.out.lt).one;have ha64:a<64:=by have:=HAL.out;omega
   by_cases h0:b=len
   ·have hnl:¬ (b:Int)<(len:Int):=ω
    have HOF:=η (show bj w2 W.heap.size 147 4 er4 ov (gU rs len (a+1)) from by
     have h:=HO.out;rw [h0] at h;rw [o5];exact h)
    clear h0;go_wp2;go_round
    case rel=>exact ⟨a+1,_,rfl,HAL.out,rfl,HOF.out,HR.out⟩
    case measure=>show len - ((a:Int)+1).toNat<len - (a:Int).toNat;have:=HAL.out;omega
   have hlt:(b:Int)<(len:Int):=ω;have HBL:=η (show b<len by omega);have hb64:b<64:=ω;clear h0
   go_wp2_with fail
   clear z0;obtain ⟨w3,hw3,b3,hb3,hs3⟩:=aG w2 #[.int .i64 (a:Nat),.int .i64 (b:Nat),.int .i64 0,.int .i64 0] 147;rw [hw3];have B3:=η b3;have HB3:=η hb3;have HABL:=η (show a<b by omega);clear hw3 b3 hb3 hs3
   go_loopw [9,10] (fun nv iv wr=>∃ i n:Nat,i≤nf∧iv=.int .i64 (i:Nat)∧nv=.int .i64 (n:Nat)∧Hid (n=min 2 (fj rs a b i).length)∧Hid (Box wr w2.heap.size #[.int .i64 (a:Nat),.int .i64 (b:Nat),.int .i64 ((fj rs a b i).getD 0 0:Nat),.int .i64 ((fj rs a b i).getD 1 0:Nat)] 147)∧Hid (Below w2.heap.size w2 wr)) (fun _ iv _=>nf - (intOf iv).toNat)
   case atStart=>exact ⟨0,0,Nat.zero_le _,rfl,rfl,by exact rfl,B3.out,HB3.out⟩
   case round =>
    obtain ⟨i,n,hi,rfl,rfl,HN,HBX,HR3⟩:=hrel;obtain ⟨w4,rfl⟩:∃ w4,w4=wr:=⟨_,rfl⟩;have HR4:=η (ac HR.out HR3.out ρ);have HO4:=η (bj.below HO.out HR3.out);obtain ⟨c0,c1,c2,c3,f0,f1,f2,f3⟩:=HBX.out.four;by_cases h0:i=nf
    ·have hnl:¬ (i:Int)<(nf:Int):=ω
     subst h0;by_cases hn2:2≤(fj rs a b i).length
     ·have en:n=2:=by rw [HN.out];omega
      subst en;have HES:=η (show gT rs a (b+1)=gT rs a b ++ [erOf rs a b i] from by
       rw [o4 HABL.out,HNR.out,if_pos hn2])
      have HLL:=η (show (gU rs len a ++ gT rs a b).length≤5000 from by
       rw [List.length_append];have h1:=nI rs len a;have h2:=eRow_len rs a b;have h3:a*len≤64*64:=Nat.mul_le_mul (by have:=HAL.out;have:=HLEN.out;omega) HLEN.out;have:=HBL.out;have:=HLEN.out;omega)
      obtain ⟨oa,oc,hov,-,-,-⟩:=bj.form HO4.out;obtain ⟨M,hM⟩:∃ M,(gU rs len a ++ gT rs a b).length=M:=⟨_,rfl⟩;have HM:=η hM;have HBS:=η HR4.out.size;rw [hM] at hov HLL;subst hov;have HOW:=η (show w4.ownsRow W.heap.size 147 4 (.slice oa M oc) M ((gU rs len a ++ gT rs a b).flatMap er4) from by
       have h:World.ownsRow _ _ _ _ _ _ _:=HO4.out
       rwa [hM] at h)
      obtain ⟨F,hF⟩:∃ F,(fj rs a b i).getD 0 0=F:=⟨_,rfl⟩;obtain ⟨G,hG⟩:∃ G,(fj rs a b i).getD 1 0=G:=⟨_,rfl⟩;rw [hF] at c2;rw [hG] at c3;have HER:=η (show erOf rs a b i=⟨a,b,F,G⟩ from by unfold erOf;rw [hF,hG]);have hM5:M≤5000:=HLL.out;clear hM hF hG hn2 f0 f1 f2 f3
      go_wp2_with (at_builtin;refine aL _ rfl _ _ 81 rfl W.heap.size 147 i0 (.agg #[.int .i64 0,.int .i64 0,.int .i64 0,.int .i64 0]) 4 32 Tryz.underlying81 hinf hz0 hz1 hz2 rfl ν _ _ _ rfl (World.ownsRow.alloc HOW.out _) _ _ _ (er4 ⟨a,b,F,G⟩) rfl (mi w4 (er4 ⟨a,b,F,G⟩) _ 4 1 rfl) (er4_one _) (by unfold maxLen;omega) ω (by have:=HBS.out;simp;omega) ?_)
      intro v2 w5 ho2 hg2;have HR5:=η (show Below W.heap.size W w5 from (HR4.out.alloc HBS.out _).grown hg2 (by have:=HBS.out;simp;omega) (fun g e=>bw HOW.out g e));have HO5:=η (show bj w5 W.heap.size 147 4 er4 v2 (gU rs len a ++ gT rs a (b+1)) from by
       rw [HES.out,← List.append_assoc,HER.out];refine bj.app (n:=M+1) (by rw [HM.out];rfl) ?_;rw [List.flatMap_singleton,List.flatMap_append,List.append_assoc];exact ho2)
      clear ho2 hg2 c0 c1 c2 c3;go_wp2;go_round
      case rel=>exact ⟨b+1,v2,rfl,by omega,HBL.out,rfl,HO5.out,HR5.out⟩
      case measure=>show len - ((b:Int)+1).toNat<len - (b:Int).toNat;have:=HBL.out;omega
     ·have hne:((n:Int) == 2)=false:=beq_eq_false_iff_ne.mpr (ψ HN.out)
      have HES:=η (show gT rs a (b+1)=gT rs a b from by
       rw [o4 HABL.out,HNR.out,if_neg hn2])
      clear hn2 c0 c1 c2 c3 f0 f1 f2 f3;go_wp2;go_round
      case rel=>exact ⟨b+1,_,rfl,by omega,HBL.out,rfl,by rw [HES.out];exact HO4.out,HR4.out⟩
      case measure=>show len - ((b:Int)+1).toNat<len - (b:Int).toNat;have:=HBL.out;omega
    have hif:i<nf:=ω;have hlti:(i:Int)<(nf:Int):=ω;have HIF:=η hif;have hi6:i<600000:=by have:=HFL.out;omega
    have hb4:=ac HB.out HR4.out (ψ HS.out);obtain ⟨fb,u,ua,uc,rfl,hfb,hu,rfl,hown⟩:=HFF.out i hif;have hu4:=keepC hu hb4 hfb;have hfb4:fb<w4.heap.size:=Nat.lt_of_lt_of_le hfb hb4.size;have HFO:=η (rfollow_any _ _ base a b w4 (aO hown hb4) (HRL.out i));have HFS:=η (fidx_succ (rs:=rs) (a:=a) (b:=b) (k:=i));obtain ⟨rl,hrl⟩:∃ rl,(rs.getD i []).length=rl:=⟨_,rfl⟩;obtain ⟨fo,hfo⟩:∃ fo,dH (rs.getD i []) a b=fo:=⟨_,rfl⟩;rw [hrl] at hu4 HFO;rw [hfo] at HFO HFS;clear hu hown hb4 h0 hrl hfo hfb hfb4;cases fo
    case false =>
     go_wp2_with fail
     refine HFO.out.mono ?_;rintro e w5 ⟨rfl,hb5⟩;have H5:=η hb5;clear hb5 hu4 c0 c1 c2 c3 f0 f1 f2 f3;go_wp2;go_round
     case rel=>exact ⟨i+1,n,HIF.out,rfl,rfl,by rw [HFS.out,if_neg ν];exact HN.out,by rw [HFS.out,if_neg ν];exact HBX.out.below H5.out HBX.out.lt,ac HR3.out H5.out ρ⟩
     case measure=>show nf - ((i:Int)+1).toNat<nf - (i:Int).toNat;have:=HIF.out;omega
    case true =>
     by_cases hn:n<2
     ·have hnlt:(n:Int)<2:=ω
      have HNL:=η hn
      go_wp2_with fail
      refine HFO.out.mono ?_;rintro e w5 ⟨rfl,hb5⟩;have H5:=η hb5;have HBX5:=η (HBX.out.below H5.out HBX.out.lt);have HR5:=η (ac HR3.out H5.out ρ);clear hb5 hu4 c0 c1 c2 c3 f0 f1 f2 f3;obtain ⟨c0,c1,c2,c3,f0,f1,f2,f3⟩:=HBX5.out.four;have hnc:n=0∨n=1:=ω
      rcases hnc with rfl | rfl
      ·have HLE:=η (show (fj rs a b i).length=0 by have:=HN.out;omega)
       clear hn hnlt;go_wp2;go_round
       case rel=>exact ⟨i+1,1,HIF.out,rfl,rfl,by rw [HFS.out,if_pos trivial,List.length_append,HLE.out];rfl,by
        rw [HFS.out,if_pos trivial,getD_end HLE.out.symm,getD_out (l:=fj rs a b i ++ [i]) (by rw [List.length_append,HLE.out];exact Nat.le_refl _)];have h:=HBX5.out.set 2 (.int .i64 (i:Nat));rw [getD_out (l:=fj rs a b i) (i:=1) (by rw [HLE.out];omega)] at h;exact h,HR5.out.setCell (p:=⟨w2.heap.size,2,none⟩) ρ _⟩
       case measure=>show nf - ((i:Int)+1).toNat<nf - (i:Int).toNat;have:=HIF.out;omega
      ·have HLE:=η (show (fj rs a b i).length=1 by have:=HN.out;omega)
       clear hn hnlt;go_wp2;go_round
       case rel=>exact ⟨i+1,2,HIF.out,rfl,rfl,by rw [HFS.out,if_pos trivial,List.length_append,HLE.out];rfl,by
        rw [HFS.out,if_pos trivial,getD_end HLE.out.symm,nA (by rw [HLE.out];omega)];exact HBX5.out.set 3 (.int .i64 (i:Nat)),HR5.out.setCell (p:=⟨w2.heap.size,3,none⟩) ρ _⟩
       case measure=>show nf - ((i:Int)+1).toNat<nf - (i:Int).toNat;have:=HIF.out;omega
     ·have hnlt:¬ (n:Int)<2:=ω
      have HLE:=η (show 2≤(fj rs a b i).length by have:=HN.out;omega);clear hn
      go_wp2_with fail
      refine HFO.out.mono ?_;rintro e w5 ⟨rfl,hb5⟩;have H5:=η hb5;clear hb5 hu4 c0 c1 c2 c3 f0 f1 f2 f3;go_wp2;go_round
      case rel=>exact ⟨i+1,n,HIF.out,rfl,rfl,by rw [HFS.out,if_pos trivial];exact len_keep HN.out HLE.out,by
       rw [HFS.out,if_pos trivial,nA (ψ HLE.out),nA (ψ HLE.out)];exact HBX.out.below H5.out HBX.out.lt,ac HR3.out H5.out ρ⟩
      case measure=>show nf - ((i:Int)+1).toNat<nf - (i:Int).toNat;have:=HIF.out;omega
end Go.Proofs.Υ
end

section
namespace Dowel
open Go Go.RowKit Go.Proofs.Υ
def kf (w:World) (g:Nat) (u:V):World:=((w.setCell ⟨g,0,none⟩ (.int .i64 u.x)).setCell ⟨g,1,none⟩ (.int .i64 u.y)).setCell ⟨g,2,none⟩ (.int .i64 u.z)
theorem fP {n:Nat} {w w':World} (h:Below n w w') {g:Nat} (hg:n≤g) (u:V):Below n w (kf w' g u):=db h hg _ _ _
theorem Box.s3 {w:World} {g:Nat} {v0 v1 v2:Value} {t:TypeId} (h:Box w g #[v0,v1,v2] t) (u:V):Box (kf w g u) g #[.int .i64 u.x,.int .i64 u.y,.int .i64 u.z] t:=h.set3 _ _ _
theorem er_at {w:World} {base n cap:Nat} {a:Option Addr} {es:List ER} (h:bj w base 147 4 er4 (.slice a n cap) es) {k:Nat} (hk:k<es.length) :
  ∃ b,a=some ⟨b,0,none⟩∧b<w.heap.size∧w.cell? ⟨b,k*4,none⟩=some (.int .i64 ((es.getD k ⟨0,0,0,0⟩).a:Nat))∧w.cell? ⟨b,k*4+1,none⟩=some (.int .i64 ((es.getD k ⟨0,0,0,0⟩).b:Nat)):=by
 obtain ⟨b,cap',e,hb,-,-,hcell⟩:=bj.at_ er4_len h k _ (getD_some (⟨0,0,0,0⟩:ER) hk);injection e with e1 e2 e3
 exact ⟨b,e1,hb,hcell 0 ω,hcell 1 ω⟩
theorem V.ne_sub {a b:V} (h:a≠b):a - b≠V.zero:=fun e=>h (by
 have h1:a.x - b.x=0:=congrArg V.x e;have h2:a.y - b.y=0:=congrArg V.y e;have h3:a.z - b.z=0:=congrArg V.z e;exact V.ext' ω ω ω)
open Classical in
noncomputable def oA (u:V):V:=if Lex u V.zero then V.zero - u else u
noncomputable def dirE (P:Nat→V) (e:ER):V:=oA (aF (P e.b - P e.a))
noncomputable def lW (P:Nat→V) (es:List ER):List V:=bh (fun k=>dirE P (es.getD k ⟨0,0,0,0⟩)) (fun _=>true) es.length
end Dowel
namespace Go.Proofs.Υ
open Go.RowKit Dowel
open Classical
set_option maxRecDepth 20000 in
theorem rdirs_any (a:Option Addr) (len cap:Nat) (P:Nat→V) (base:Nat) (ev:Value) (es:List ER) (w:World) (hP:Pts w a len cap P) (hlen:len≤64) (hn:∀ i,i<len→LeV 4096 (P i)) (hE:bj w base 147 4 er4 ev es) (hel:es.length≤4096) (hes:∀ e ∈ es,e.a<len∧e.b<len∧P e.b≠P e.a) :
  Calls Tryz.prog 35 #[.agg #[.slice a len cap],ev] w fun e w'=>(∃ v,e=.returned v∧fR w' w.heap.size v (lW P es))∧Below w.heap.size w w':=by
 obtain ⟨W,hW,b1,hB,hS⟩:=aG w #[.slice a len cap] 24;obtain ⟨i0,hinf,hz0,hz1,hz2⟩:=info_parts infoVz;obtain ⟨ea,ec,rfl,hec,-,-⟩:=hE.form;have HP:=η (hP.below hB);have HE:=η (hE.below hB);have HES:=η hes;have HNR:=η hn;have HB:=η hB;have HS:=η hS;have B1:=η b1;obtain ⟨ne,hne⟩:∃ ne,es.length=ne:=⟨_,rfl⟩;obtain ⟨DQ,hDQ⟩:∃ DQ:Nat→V,DQ=fun k=>dirE P (es.getD k ⟨0,0,0,0⟩):=⟨_,rfl⟩
 obtain ⟨pf,hpf⟩:∃ pf:V→Bool,pf=fun _=>true:=⟨_,rfl⟩
 have HPF:=η hpf;have HDR:=η (show lW P es=bh DQ pf ne from by rw [hDQ,hpf,← hne];rfl);have HDQ:=η hDQ;rw [hne] at HE hec hel ⊢;have HNE:=η hne;clear hP hE hB hS b1 hn hes hDQ hpf hne
 go_enter Tryz.func35,Tryz.ntmps35
 go_wp2_with fail
 go_loopw [5,6] (fun ov' iv wr=>∃ k ov,ov=ov'∧k≤ne∧iv=.int .i64 (k:Nat)∧Hid (fR wr W.heap.size ov (bh DQ pf k))∧Hid (Below W.heap.size W wr)) (fun _ iv _=>ne - (intOf iv).toNat)
 case atStart=>exact ⟨0,_,rfl,Nat.zero_le _,rfl,bj.nil _ _ _ _ _,Below.refl _ _⟩
 case round =>
  obtain ⟨k,ov,rfl,hk,rfl,HO,HR⟩:=hrel;obtain ⟨wk,rfl⟩:∃ wk,wk=wr:=⟨_,rfl⟩;have HOL:=η (cY (Q:=DQ) (p:=pf) k);by_cases h0:k=ne
  ·have hn2:¬ (k:Int)<(ne:Int):=ω
   have HO9:=η (show fR wk w.heap.size ov (lW P es) from by
    rw [HDR.out,← h0];exact bj.down HO.out (ψ HS.out))
   clear h0;go_wp2;exact bodyPost_ret (results_tmp Tryz.results35 _ _ _) rfl ⟨⟨_,rfl,HO9.out⟩,ac HB.out HR.out (ψ HS.out)⟩
  case neg =>
   have hkl:k<ne:=ω;have hlt:(k:Int)<(ne:Int):=ω;have HKL:=η hkl;clear h0;have hu:=getD_some (⟨0,0,0,0⟩:ER) (show k<es.length by rw [HNE.out];exact hkl);obtain ⟨eb,rfl,heb,q0,q1⟩:=er_at (HE.out.below HR.out) (show k<es.length by rw [HNE.out];exact hkl);obtain ⟨hxa,hxb,hpne⟩:=HES.out _ (List.mem_of_getElem? hu);have HDK:=η (show DQ k=dirE P (es.getD k ⟨0,0,0,0⟩) from by rw [HDQ.out]);obtain ⟨er,her⟩:∃ er,es.getD k ⟨0,0,0,0⟩=er:=⟨_,rfl⟩;rw [her] at q0 q1 hxa hxb hpne HDK;obtain ⟨xa,xb,xf,xg⟩:=er;clear her hu;dsimp only at hxa hxb hpne q0 q1;obtain ⟨b,off,rfl,hb,hc,hcc⟩:=(HP.out.below HR.out).cells ω;have HEC:Hid (∀ w',Below wk.heap.size wk w'→w'.cell? ⟨eb,k*4,none⟩=some (.int .i64 (xa:Nat))∧w'.cell? ⟨eb,k*4+1,none⟩=some (.int .i64 (xb:Nat))):=fun w' h=>⟨keepC q0 h heb,keepC q1 h heb⟩
   have ca:=hcc xa hxa;have cb:=hcc xb hxb;have hpa:=HNR.out xa hxa;have hpb:=HNR.out xb hxb;have HDE:=η (show DQ k=oA (aF (P xb - P xa)) from HDK.out);obtain ⟨pa,hpa'⟩:∃ pa,P xa=pa:=⟨_,rfl⟩;obtain ⟨pb,hpb'⟩:∃ pb,P xb=pb:=⟨_,rfl⟩;rw [hpa'] at ca hpa hpne HDE;rw [hpb'] at cb hpb hpne HDE;have HpaC:Hid (∀ w',Below wk.heap.size wk w'→w'.cell? ⟨b,off+xa*3,none⟩=some (.int .i64 pa.x)∧w'.cell? ⟨b,off+xa*3+1,none⟩=some (.int .i64 pa.y)∧w'.cell? ⟨b,off+xa*3+2,none⟩=some (.int .i64 pa.z)):=fun w' h=>⟨keepC ca.1 h hb,keepC ca.2.1 h hb,keepC ca.2.2 h hb⟩
   have HpbC:Hid (∀ w',Below wk.heap.size wk w'→w'.cell? ⟨b,off+xb*3,none⟩=some (.int .i64 pb.x)∧w'.cell? ⟨b,off+xb*3+1,none⟩=some (.int .i64 pb.y)∧w'.cell? ⟨b,off+xb*3+2,none⟩=some (.int .i64 pb.z)):=fun w' h=>⟨keepC cb.1 h hb,keepC cb.2.1 h hb,keepC cb.2.2 h hb⟩
   have hdl:=hpb.sub hpa;have hd0:pb - pa≠V.zero:=V.ne_sub hpne;have HSU:=η (fun v=>dR pb pa 4096 4096 v hpb hpa ω);obtain ⟨d0,hd⟩:∃ d0,pb - pa=d0:=⟨_,rfl⟩;rw [hd] at hdl hd0 HSU HDE;have HPR:=η (fun v=>oK d0 v (hdl.mono ω) hd0);have hul:=gN hdl ω;obtain ⟨u,hu⟩:∃ u,aF d0=u:=⟨_,rfl⟩;rw [hu] at HPR hul HDE;have HUL:=η hul;have HKLI:=η hlt;have HKLN:=η hkl;have HpaI:=η (show (xa:Int)<(len:Int) by omega);have HpaN:=η hxa;have HpbI:=η (show (xb:Int)<(len:Int) by omega);have HpbN:=η hxb;have KC:=η (B1.out.below HR.out B1.out.lt);clear ca cb hpa hpb hpa' hpb' hdl hd0 hd hu hul q0 q1 hcc hpne HDK
   go_wp2_with fail
   refine bU (rest:=1) [isV 0 (.pointer (some ⟨w.heap.size,0,none⟩)),isV 1 (.slice (some ⟨b,off,none⟩) len cap),isV 2 (.slice (some ⟨eb,0,none⟩) ne ec),isV 3 (.int .i64 k),isV 4 (.pointer (some ⟨eb,k*4,none⟩)),isV 5 (.pointer (some ⟨eb,k*4+1,none⟩)),isV 6 (.int .i64 xb),isV 7 (.pointer (some ⟨b,off+xb*3,none⟩)),isV 8 (.agg #[.int .i64 pb.x,.int .i64 pb.y,.int .i64 pb.z]),isV 9 (.pointer (some ⟨w.heap.size,0,none⟩)),isV 10 (.slice (some ⟨b,off,none⟩) len cap),isV 11 (.slice (some ⟨eb,0,none⟩) ne ec),isV 12 (.int .i64 k),isV 13 (.pointer (some ⟨eb,k*4,none⟩)),isV 14 (.pointer (some ⟨eb,k*4,none⟩)),isV 15 (.int .i64 xa),isV 16 (.pointer (some ⟨b,off+xa*3,none⟩)),isV 17 (.agg #[.int .i64 pa.x,.int .i64 pa.y,.int .i64 pa.z]),isV 18 (.agg #[.int .i64 d0.x,.int .i64 d0.y,.int .i64 d0.z]),isV 19 (.agg #[.int .i64 u.x,.int .i64 u.y,.int .i64 u.z]),isP 20 (fun v w=>∃ g,v=.pointer (some ⟨g,0,none⟩)∧wk.heap.size≤g∧Box w g (#[.int .i64 0,.int .i64 0,.int .i64 0]) 46)] [20] ?A5 #[true,true,true,true,true,true,true,true,true,true,true,true,true,true,true,true,true,true,true,true,true,false] κ [0,1,2,3,4,5,6,7,8,9,10,11,12,13,14,15,16,17,18,19,20] κ κ κ κ κ κ ?st ?hA ?hop ?hend
   case hA =>
    intro y;simp only [aS,cK,List.getElem?_toArray,List.getElem?_cons_zero,List.getElem?_cons_succ,Option.bind_some,Act.put,List.setIfInBounds_toArray,List.set_cons_zero,List.set_cons_succ];exact rfl
   case st=>exact ae.cons isV.stab (ae.cons isV.stab (ae.cons isV.stab (ae.cons isV.stab (ae.cons isV.stab (ae.cons isV.stab (ae.cons isV.stab (ae.cons isV.stab (ae.cons isV.stab (ae.cons isV.stab (ae.cons isV.stab (ae.cons isV.stab (ae.cons isV.stab (ae.cons isV.stab (ae.cons isV.stab (ae.cons isV.stab (ae.cons isV.stab (ae.cons isV.stab (ae.cons isV.stab (ae.cons isV.stab (ae.cons (isP.stab (fun v w w' h ⟨g,e,h1,h2⟩=>⟨g,e,h1,h2.below h h2.lt⟩)) (ae.nil)))))))))))))))))))))
   case hop =>
    refine ah.cons (i:=0) rfl (fun y w' hS hD K hK=>?_) ?_
    ·as_aux_lemma =>
     go_simp;exact hK.out _ w' hS β isV.put δ
    refine ah.cons (i:=1) rfl (fun y w' hS hD K hK=>?_) ?_
    ·as_aux_lemma =>
     have e0:=isV.get (i:=0) (c:=.pointer (some ⟨w.heap.size,0,none⟩)) (hD 0 κ);have bx:=KC.out.below hS KC.out.lt;obtain ⟨c0,-⟩:=bx.one;simp only [e0] at hK ⊢;go_simp;exact hK.out _ w' hS β isV.put δ
    refine ah.cons (i:=2) rfl (fun y w' hS hD K hK=>?_) ?_
    ·as_aux_lemma =>
     go_simp;exact hK.out _ w' hS β isV.put δ
    refine ah.cons (i:=3) rfl (fun y w' hS hD K hK=>?_) ?_
    ·as_aux_lemma =>
     go_simp;exact hK.out _ w' hS β isV.put δ
    refine ah.cons (i:=4) rfl (fun y w' hS hD K hK=>?_) ?_
    ·as_aux_lemma =>
     have e2:=isV.get (i:=2) (c:=.slice (some ⟨eb,0,none⟩) ne ec) (hD 2 κ);have e3:=isV.get (i:=3) (c:=.int .i64 k) (hD 3 κ);have hkl:=HKLI.out;have hkn:=HKLN.out;simp only [e2,e3] at hK ⊢;go_simp;exact hK.out _ w' hS β isV.put δ
    refine ah.cons (i:=5) rfl (fun y w' hS hD K hK=>?_) ?_
    ·as_aux_lemma =>
     have e4:=isV.get (i:=4) (c:=.pointer (some ⟨eb,k*4,none⟩)) (hD 4 κ);simp only [e4] at hK ⊢;go_simp;exact hK.out _ w' hS β isV.put δ
    refine ah.cons (i:=6) rfl (fun y w' hS hD K hK=>?_) ?_
    ·as_aux_lemma =>
     have e5:=isV.get (i:=5) (c:=.pointer (some ⟨eb,k*4+1,none⟩)) (hD 5 κ);obtain ⟨q0,q1⟩:=HEC.out w' hS;simp only [e5] at hK ⊢;go_simp;exact hK.out _ w' hS β isV.put δ
    refine ah.cons (i:=7) rfl (fun y w' hS hD K hK=>?_) ?_
    ·as_aux_lemma =>
     have e1:=isV.get (i:=1) (c:=.slice (some ⟨b,off,none⟩) len cap) (hD 1 κ);have e6:=isV.get (i:=6) (c:=.int .i64 xb) (hD 6 κ);have hvl:=HpbI.out;have hvn:=HpbN.out;simp only [e1,e6] at hK ⊢;go_simp;exact hK.out _ w' hS β isV.put δ
    refine ah.cons (i:=8) rfl (fun y w' hS hD K hK=>?_) ?_
    ·as_aux_lemma =>
     have e7:=isV.get (i:=7) (c:=.pointer (some ⟨b,off+xb*3,none⟩)) (hD 7 κ);obtain ⟨c0,c1,c2⟩:=HpbC.out w' hS;simp only [e7] at hK ⊢;go_simp;exact hK.out _ w' hS β isV.put δ
    refine ah.cons (i:=9) rfl (fun y w' hS hD K hK=>?_) ?_
    ·as_aux_lemma =>
     go_simp;exact hK.out _ w' hS β isV.put δ
    refine ah.cons (i:=10) rfl (fun y w' hS hD K hK=>?_) ?_
    ·as_aux_lemma =>
     have e9:=isV.get (i:=9) (c:=.pointer (some ⟨w.heap.size,0,none⟩)) (hD 9 κ);have bx:=KC.out.below hS KC.out.lt;obtain ⟨c0,-⟩:=bx.one;simp only [e9] at hK ⊢;go_simp;exact hK.out _ w' hS β isV.put δ
    refine ah.cons (i:=11) rfl (fun y w' hS hD K hK=>?_) ?_
    ·as_aux_lemma =>
     go_simp;exact hK.out _ w' hS β isV.put δ
    refine ah.cons (i:=12) rfl (fun y w' hS hD K hK=>?_) ?_
    ·as_aux_lemma =>
     go_simp;exact hK.out _ w' hS β isV.put δ
    refine ah.cons (i:=13) rfl (fun y w' hS hD K hK=>?_) ?_
    ·as_aux_lemma =>
     have e11:=isV.get (i:=11) (c:=.slice (some ⟨eb,0,none⟩) ne ec) (hD 11 κ);have e12:=isV.get (i:=12) (c:=.int .i64 k) (hD 12 κ);have hkl:=HKLI.out;have hkn:=HKLN.out;simp only [e11,e12] at hK ⊢;go_simp;exact hK.out _ w' hS β isV.put δ
    refine ah.cons (i:=14) rfl (fun y w' hS hD K hK=>?_) ?_
    ·as_aux_lemma =>
     have e13:=isV.get (i:=13) (c:=.pointer (some ⟨eb,k*4,none⟩)) (hD 13 κ);simp only [e13] at hK ⊢;go_simp;exact hK.out _ w' hS β isV.put δ
    refine ah.cons (i:=15) rfl (fun y w' hS hD K hK=>?_) ?_
    ·as_aux_lemma =>
     have e14:=isV.get (i:=14) (c:=.pointer (some ⟨eb,k*4,none⟩)) (hD 14 κ);obtain ⟨q0,q1⟩:=HEC.out w' hS;simp only [e14] at hK ⊢;go_simp;exact hK.out _ w' hS β isV.put δ
    refine ah.cons (i:=16) rfl (fun y w' hS hD K hK=>?_) ?_
    ·as_aux_lemma =>
     have e10:=isV.get (i:=10) (c:=.slice (some ⟨b,off,none⟩) len cap) (hD 10 κ);have e15:=isV.get (i:=15) (c:=.int .i64 xa) (hD 15 κ);have hvl:=HpaI.out;have hvn:=HpaN.out;simp only [e10,e15] at hK ⊢;go_simp;exact hK.out _ w' hS β isV.put δ
    refine ah.cons (i:=17) rfl (fun y w' hS hD K hK=>?_) ?_
    ·as_aux_lemma =>
     have e16:=isV.get (i:=16) (c:=.pointer (some ⟨b,off+xa*3,none⟩)) (hD 16 κ);obtain ⟨c0,c1,c2⟩:=HpaC.out w' hS;simp only [e16] at hK ⊢;go_simp;exact hK.out _ w' hS β isV.put δ
    refine ah.cons (i:=18) rfl (fun y w' hS hD K hK=>?_) ?_
    ·as_aux_lemma =>
     have e8:=isV.get (i:=8) (c:=.agg #[.int .i64 pb.x,.int .i64 pb.y,.int .i64 pb.z]) (hD 8 κ);have e17:=isV.get (i:=17) (c:=.agg #[.int .i64 pa.x,.int .i64 pa.y,.int .i64 pa.z]) (hD 17 κ);simp only [e8,e17] at hK ⊢;go_simp;refine (HSU.out w').mono ?_;rintro e w'' ⟨rfl,hb⟩;exact hK.out _ w'' (ac hS hb ρ) hb isV.put δ
    refine ah.cons (i:=19) rfl (fun y w' hS hD K hK=>?_) ?_
    ·as_aux_lemma =>
     have e18:=isV.get (i:=18) (c:=.agg #[.int .i64 d0.x,.int .i64 d0.y,.int .i64 d0.z]) (hD 18 κ);simp only [e18] at hK ⊢;go_simp;refine (HPR.out w').mono ?_;rintro e w'' ⟨rfl,hb⟩;exact hK.out _ w'' (ac hS hb ρ) hb isV.put δ
    refine ah.cons (i:=20) rfl (fun y w' hS hD K hK=>?_) ?_
    ·as_aux_lemma =>
     go_simp;exact hK.out _ _ (hS.alloc hS.size _) (β.alloc ρ _) (isP.put ⟨_,rfl,hS.size,Box.new _ _ _ _ rfl⟩) (fun _ j hj hne _=>absurd (List.mem_singleton.1 hj) hne)
    exact ah.nil
   case hend =>
    intro y w' hS hR hF;have ev:y 19=.agg #[.int .i64 u.x,.int .i64 u.y,.int .i64 u.z]:=isV.get (i:=19) (c:=.agg #[.int .i64 u.x,.int .i64 u.y,.int .i64 u.z]) (hR 19 κ);obtain ⟨g,ea,hga,bga⟩:=isP.get (i:=20) (p:=fun v w=>∃ g,v=.pointer (some ⟨g,0,none⟩)∧wk.heap.size≤g∧Box w g (#[.int .i64 0,.int .i64 0,.int .i64 0]) 46) (hR 20 κ);simp only [ev,ea];obtain ⟨c0,c1,c2,f0,f1,f2⟩:=bga.three;refine bR (i:=21) (listed2:=#[true,true,true,true,true,true,true,true,true,true,true,true,true,true,true,true,true,true,true,true,true,true]) κ rfl κ (fun K hK=>?_);go_simp;refine hK.out _ _ ?_;clear hK K;refine bm κ ?_;clear c0 c1 c2 f0 f1 f2;change Exit.then _ _ _ _ (kf w' g u);have H6:=η (fP hS hga u);have BG6:=η (bga.s3 u);have HGA:=η hga;generalize kf w' g u=w6 at *;clear hS hR hF ev ea bga hga;have HR6:=η (ac HR.out H6.out ρ);have HGL:=η BG6.out.lt;obtain ⟨s0,s1,s2,f0,f1,f2⟩:=BG6.out.three;have HLE:=η (kT u V.zero w6)
    go_wp2_with fail
    refine HLE.out.mono ?_;rintro e w7 ⟨⟨lb,rfl,hlb⟩,hb7⟩;have H7:=η hb7;have BG7:=η (BG6.out.below H7.out BG6.out.lt);have HR7:=η (ac HR6.out H7.out ρ);clear hb7 s0 s1 s2 f0 f1 f2;obtain ⟨s0,s1,s2,f0,f1,f2⟩:=BG7.out.three;cases lb
    case' false =>
     have HDP:=η (show DQ k=u from by rw [HDE.out];unfold oA;rw [if_neg (fun h=>by cases hlb.mpr h)]);have HB4:=η (ac H6.out H7.out ρ);have BG4:=η BG7.out;have HR4:=η HR7.out;clear hlb HPR HSU HLE;obtain ⟨pk,rfl⟩:∃ pk,pk=u:=⟨_,rfl⟩;obtain ⟨w4,rfl⟩:∃ w4,w4=w7:=⟨_,rfl⟩
     go_wp2_with fail
    case' true =>
     have HDP:=η (show DQ k=V.zero - u from by rw [HDE.out];unfold oA;rw [if_pos (hlb.mp rfl)]);have HSV:=η (dR V.zero u 0 8192 w7 ⟨⟨by decide,by decide⟩,⟨by decide,by decide⟩,⟨by decide,by decide⟩⟩ (HUL.out.mono ω) ω);obtain ⟨pk,hpk⟩:∃ pk,V.zero - u=pk:=⟨_,rfl⟩;rw [hpk] at HDP HSV;unfold bA at HSV;clear hlb HPR HSU HLE hpk
     go_wp2_with fail
     refine HSV.out.mono ?_;rintro e w8 ⟨rfl,hb8⟩;have BG8:=η (BG7.out.below hb8 BG7.out.lt);have HB8:=η (ac (ac H6.out H7.out ρ) hb8 ρ);clear hb8 s0 s1 s2 f0 f1 f2;obtain ⟨s0,s1,s2,f0,f1,f2⟩:=BG8.out.three
     go_wp2_with fail
     have BG4:=η (BG8.out.s3 pk);have HB4:=η (fP HB8.out HGA.out pk);obtain ⟨w4,hw4⟩:∃ w4,kf w8 g pk=w4:=⟨_,rfl⟩;rw [hw4] at BG4 HB4;unfold kf at hw4;rw [hw4];have HR4:=η (ac HR.out HB4.out ρ);clear hw4 HSV BG8 HB8
    all_goals
     clear HDE HUL HpaC HpbC HpaI HpaN HpbI HpbN KC HEC HKLI HKLN BG6 BG7 HR6 HR7 H6 H7 s0 s1 s2 f0 f1 f2;have HTK:=η (show bh DQ pf (k+1)=jw pk (bh DQ pf k) from by
      conv=>lhs;unfold bh
      rw [if_pos (by rw [HPF.out]),HDP.out])
     obtain ⟨L,hL⟩:∃ L,bh DQ pf k=L:=⟨_,rfl⟩;rw [hL] at HO HTK HOL;have HO4:=η (HO.out.below HB4.out);have HPC:Hid (∀ w',Below w4.heap.size w4 w'→w'.cell? ⟨g,0,none⟩=some (.int .i64 pk.x)∧w'.cell? ⟨g,1,none⟩=some (.int .i64 pk.y)∧w'.cell? ⟨g,2,none⟩=some (.int .i64 pk.z)):=fun w' h=>by
      obtain ⟨s0,s1,s2,-⟩:=(BG4.out.below h BG4.out.lt).three;exact ⟨s0,s1,s2⟩
     have HBLT:=η BG4.out.lt;clear hL;obtain ⟨oa,oc,hov,hoc,hom,-⟩:=HO4.out.form;subst hov;obtain ⟨N,hN⟩:∃ N,L.length=N:=⟨_,rfl⟩;have HO4L:=η HO4.out;rw [hN] at HO4 HO hoc HOL ⊢;have HN:=η hN;have HLS:=η (fun (u:V) (lb:Bool) (hlb:lb=true↔Lex u pk) v=>(kT u pk v).mono fun e w' (h:dM e (Lex u pk)∧Below v.heap.size v w')=>(show e=.returned (.bool lb)∧Below v.heap.size v w' from by
      obtain ⟨⟨r,rfl,hr⟩,hb⟩:=h;exact ⟨by rw [Bool.eq_iff_iff.mpr (hr.trans hlb.symm)],hb⟩))
     clear hN hom hoc
     go_loopw [8] (fun jv wr=>∃ j,j≤N∧jv=.int .i64 (j:Nat)∧Hid (∀ q,q<j→Lex (L.getD q V.zero) pk)∧Hid (Below w4.heap.size w4 wr)) (fun jv _=>N - (intOf jv).toNat)
     case atStart=>exact ⟨0,Nat.zero_le _,rfl,(fun q hq=>by omega),Below.refl _ _⟩
     case round =>
      obtain ⟨j,hj,rfl,HJL,HRJ⟩:=hrel;obtain ⟨wj,rfl⟩:∃ wj,wj=wr:=⟨_,rfl⟩;obtain ⟨p0,p1,p2⟩:=HPC.out wj HRJ.out;have hbj:g<wj.heap.size:=by have:=HBLT.out;have:=HB4.out.size;have:=HRJ.out.size;omega
      have K0:=fun x:Later wj.heap.size wj=>keepC p0 x.h hbj
      have K1:=fun x:Later wj.heap.size wj=>keepC p1 x.h hbj
      have K2:=fun x:Later wj.heap.size wj=>keepC p2 x.h hbj
      clear p0 p1 p2;have HUO:=η (show ∀ u,L[j]?=some u→∃ b',oa=some ⟨b',0,none⟩∧b'<wj.heap.size∧wj.cell? ⟨b',j*3,none⟩=some (.int .i64 u.x)∧wj.cell? ⟨b',j*3+1,none⟩=some (.int .i64 u.y)∧wj.cell? ⟨b',j*3+2,none⟩=some (.int .i64 u.z) from fun u hu=>by
       obtain ⟨b',cap',e,hb',-,hob,huc⟩:=(HO4.out.below HRJ.out).at_ jG j u hu;cases e;exact ⟨b',rfl,hb',huc 0 ω,huc 1 ω,huc 2 ω⟩)
      have hcase:(∃ u,j<N∧L[j]?=some u∧Lex u pk)∨(∃ u,j<N∧L[j]?=some u∧¬ Lex u pk∧u=pk)∨j=N∨(∃ u,j<N∧L[j]?=some u∧¬ Lex u pk∧u≠pk):=by
       by_cases h0:j=N
       ·exact .inr (.inr (.inl h0))
       ·have hu:=getD_some V.zero (show j<L.length by have:=HN.out;omega)
        by_cases h1:Lex (L.getD j V.zero) pk
        ·exact .inl ⟨_,by omega,hu,h1⟩
        ·by_cases h2:L.getD j V.zero=pk
         ·exact .inr (.inl ⟨_,by omega,hu,h1,h2⟩)
         ·exact .inr (.inr (.inr ⟨_,by omega,hu,h1,h2⟩))
      rcases hcase with ⟨u,hjN,hu,hl⟩ | ⟨u,hjN,hu,hl,heq⟩ | h0 | ⟨u,hjN,hu,hl,hne⟩
      ·have HL:=η hl
       have hls:=η (HLS.out u true ⟨fun _=>HL.out,fun _=>rfl⟩);clear hl;obtain ⟨b',rfl,hb',u0,u1,u2⟩:=HUO.out u hu;have L0:=fun x:Later wj.heap.size wj=>keepC u0 x.h hb'
       have L1:=fun x:Later wj.heap.size wj=>keepC u1 x.h hb'
       have L2:=fun x:Later wj.heap.size wj=>keepC u2 x.h hb'
       have hlj:(j:Int)<(N:Int):=ω;have hdj:decide (j<N)=true:=decide_eq_true hjN;have HGU:=η (show L.getD j V.zero=u from by rw [List.getD_eq_getElem?_getD,hu];rfl);clear u0 u1 u2 hu
       go_wp2_with fail
       refine aC (Below.refl wj.heap.size wj) κ κ ?_
       repeat (first
        | go_big_quiet_skip
        | (go_big_quiet_want;go_big_quiet_op;first | go_big_quiet_on | go_big_quiet_call ((go_at_call 49;exact Calls.later ρ (hls.out _)))))
       refine wpQuiet_nil ?_;intro w5 hw';obtain ⟨x,hx⟩:=hw';have H5:=η (show Below w4.heap.size w4 w5 from by rw [hx];exact ac HRJ.out x.h ρ);have H5J:=η (show Below wj.heap.size wj w5 from by rw [hx];exact x.h);clear hx x K0 K1 K2 L0 L1 L2;have hjm:j<5000:=by have:=HOL.out;omega
       go_wp2;go_round
       case rel=>exact ⟨j+1,by omega,rfl,(fun q hq=>by
        by_cases e:q=j
        ·subst e;rw [HGU.out];exact HL.out
        ·exact HJL.out q ω),H5.out⟩
       case measure=>show N - ((j:Int)+1).toNat<N - (j:Int).toNat;omega
      ·have HL:=η hl
       have hls:=η (HLS.out u false ⟨(fun h=>by cases h),fun h=>absurd h HL.out⟩);have HEQ:=η heq;have e46:=eq46;have hbq:(u.x == pk.x && u.y == pk.y && u.z == pk.z)=true:=by rw [heq];simp
       clear hl heq;obtain ⟨b',rfl,hb',u0,u1,u2⟩:=HUO.out u hu;have L0:=fun x:Later wj.heap.size wj=>keepC u0 x.h hb'
       have L1:=fun x:Later wj.heap.size wj=>keepC u1 x.h hb'
       have L2:=fun x:Later wj.heap.size wj=>keepC u2 x.h hb'
       have hlj:(j:Int)<(N:Int):=ω;have hdj:decide (j<N)=true:=decide_eq_true hjN;have HGU:=η (show L.getD j V.zero=u from by rw [List.getD_eq_getElem?_getD,hu];rfl);have v0:=u0;have v1:=u1;have v2:=u2;clear u0 u1 u2 hu
       go_wp2_with fail
       refine aC (Below.refl wj.heap.size wj) κ κ ?_
       repeat (first
        | go_big_quiet_skip
        | (go_big_quiet_want;go_big_quiet_op;first | go_big_quiet_on | go_big_quiet_call ((go_at_call 49;exact Calls.later ρ (hls.out _)))))
       refine wpQuiet_nil ?_;intro w5 hw';obtain ⟨x,hx⟩:=hw';have H5:=η (show Below w4.heap.size w4 w5 from by rw [hx];exact ac HRJ.out x.h ρ);have H5J:=η (show Below wj.heap.size wj w5 from by rw [hx];exact x.h);clear hx x K0 K1 K2 L0 L1 L2;have hb5:g<w5.heap.size:=by have:=HBLT.out;have:=HB4.out.size;have:=H5.out.size;omega
       obtain ⟨p0,p1,p2⟩:=HPC.out w5 H5.out;have K0:=fun x:Later w5.heap.size w5=>keepC p0 x.h hb5
       have K1:=fun x:Later w5.heap.size w5=>keepC p1 x.h hb5
       have K2:=fun x:Later w5.heap.size w5=>keepC p2 x.h hb5
       have u0:=keepC v0 H5J.out hb';have u1:=keepC v1 H5J.out hb';have u2:=keepC v2 H5J.out hb';have hb2:b'<w5.heap.size:=Nat.lt_of_lt_of_le hb' H5J.out.size;have L0:=fun x:Later w5.heap.size w5=>keepC u0 x.h hb2
       have L1:=fun x:Later w5.heap.size w5=>keepC u1 x.h hb2
       have L2:=fun x:Later w5.heap.size w5=>keepC u2 x.h hb2
       clear u0 u1 u2 v0 v1 v2;clear p0 p1 p2
       go_wp2_with fail
       refine aC (Below.refl w5.heap.size w5) κ κ ?_
       repeat (first
        | go_big_quiet_skip
        | (go_big_quiet_want;go_big_quiet_op;first | go_big_quiet_on))
       refine wpQuiet_nil ?_;intro w6 hw';obtain ⟨x,hx⟩:=hw';have H6:=η (show Below w4.heap.size w4 w6 from by rw [hx];exact ac H5.out x.h ρ);clear hx x K0 K1 K2 L0 L1 L2;go_wp2;go_round
       case rel=>exact ⟨k+1,_,rfl,by have:=HKL.out;omega,rfl,by
        rw [HTK.out,fx pk L j (ψ HN.out) HJL.out (fun h=>by rw [HGU.out];exact HL.out),if_pos ⟨by have:=HN.out;omega,by rw [HGU.out];exact HEQ.out⟩,HN.out.symm];exact HO4L.out.below H6.out,ac HR4.out H6.out ρ⟩
       case measure=>show ne - ((k:Int)+1).toNat<ne - (k:Int).toNat;have:=HKL.out;omega
      case' inr.inr.inl =>
       have hdj:decide (j<N)=false:=decide_eq_false ω
       go_wp2_with fail
       refine aC (Below.refl wj.heap.size wj) κ κ ?_
       repeat (first
        | go_big_quiet_skip
        | (go_big_quiet_want;go_big_quiet_op;first | go_big_quiet_on))
       refine wpQuiet_nil ?_;intro w5 hw';obtain ⟨x,hx⟩:=hw';have H5:=η (show Below w4.heap.size w4 w5 from by rw [hx];exact ac HRJ.out x.h ρ);have H5J:=η (show Below wj.heap.size wj w5 from by rw [hx];exact x.h);clear hx x K0 K1 K2;have hb5:g<w5.heap.size:=by have:=HBLT.out;have:=HB4.out.size;have:=H5.out.size;omega
       obtain ⟨p0,p1,p2⟩:=HPC.out w5 H5.out;have K0:=fun x:Later w5.heap.size w5=>keepC p0 x.h hb5
       have K1:=fun x:Later w5.heap.size w5=>keepC p1 x.h hb5
       have K2:=fun x:Later w5.heap.size w5=>keepC p2 x.h hb5
       clear p0 p1 p2
       go_wp2_with fail
       refine aC (Below.refl w5.heap.size w5) κ κ ?_
       repeat (first
        | go_big_quiet_skip
        | (go_big_quiet_want;go_big_quiet_op;first | go_big_quiet_on))
       refine wpQuiet_nil ?_;intro w6 hw';obtain ⟨x,hx⟩:=hw';have H6:=η (show Below w4.heap.size w4 w6 from by rw [hx];exact ac H5.out x.h ρ);clear hx x K0 K1 K2;have HINS:=η (show bh DQ pf (k+1)=L.take j ++ pk :: L.drop j from by
        rw [HTK.out,fx pk L j (ψ HN.out) HJL.out (fun h=>by have:=HN.out;omega),if_neg (fun h=>by have:=HN.out;omega)])
       clear h0 hdj
      case' inr.inr.inr =>
       have HL:=η hl;have hls:=η (HLS.out u false ⟨(fun h=>by cases h),fun h=>absurd h HL.out⟩);have HNE:=η hne;have e46:=eq46;have hbq:(u.x == pk.x && u.y == pk.y && u.z == pk.z)=false:=by
        refine Bool.eq_false_iff.mpr fun h=>hne ?_
        simp only [Bool.and_eq_true,beq_iff_eq] at h;exact V.ext' h.1.1 h.1.2 h.2
       clear hl hne;obtain ⟨b',rfl,hb',u0,u1,u2⟩:=HUO.out u hu;have L0:=fun x:Later wj.heap.size wj=>keepC u0 x.h hb'
       have L1:=fun x:Later wj.heap.size wj=>keepC u1 x.h hb'
       have L2:=fun x:Later wj.heap.size wj=>keepC u2 x.h hb'
       have hlj:(j:Int)<(N:Int):=ω;have hdj:decide (j<N)=true:=decide_eq_true hjN;have HGU:=η (show L.getD j V.zero=u from by rw [List.getD_eq_getElem?_getD,hu];rfl);have v0:=u0;have v1:=u1;have v2:=u2;clear u0 u1 u2 hu
       go_wp2_with fail
       refine aC (Below.refl wj.heap.size wj) κ κ ?_
       repeat (first
        | go_big_quiet_skip
        | (go_big_quiet_want;go_big_quiet_op;first | go_big_quiet_on | go_big_quiet_call ((go_at_call 49;exact Calls.later ρ (hls.out _)))))
       refine wpQuiet_nil ?_;intro w5 hw';obtain ⟨x,hx⟩:=hw';have H5:=η (show Below w4.heap.size w4 w5 from by rw [hx];exact ac HRJ.out x.h ρ);have H5J:=η (show Below wj.heap.size wj w5 from by rw [hx];exact x.h);clear hx x K0 K1 K2 L0 L1 L2;have hb5:g<w5.heap.size:=by have:=HBLT.out;have:=HB4.out.size;have:=H5.out.size;omega
       obtain ⟨p0,p1,p2⟩:=HPC.out w5 H5.out;have K0:=fun x:Later w5.heap.size w5=>keepC p0 x.h hb5
       have K1:=fun x:Later w5.heap.size w5=>keepC p1 x.h hb5
       have K2:=fun x:Later w5.heap.size w5=>keepC p2 x.h hb5
       have u0:=keepC v0 H5J.out hb';have u1:=keepC v1 H5J.out hb';have u2:=keepC v2 H5J.out hb';have hb2:b'<w5.heap.size:=Nat.lt_of_lt_of_le hb' H5J.out.size;have L0:=fun x:Later w5.heap.size w5=>keepC u0 x.h hb2
       have L1:=fun x:Later w5.heap.size w5=>keepC u1 x.h hb2
       have L2:=fun x:Later w5.heap.size w5=>keepC u2 x.h hb2
       clear u0 u1 u2 v0 v1 v2;clear p0 p1 p2
       go_wp2_with fail
       refine aC (Below.refl w5.heap.size w5) κ κ ?_
       repeat (first
        | go_big_quiet_skip
        | (go_big_quiet_want;go_big_quiet_op;first | go_big_quiet_on))
       refine wpQuiet_nil ?_;intro w6 hw';obtain ⟨x,hx⟩:=hw';have H6:=η (show Below w4.heap.size w4 w6 from by rw [hx];exact ac H5.out x.h ρ);clear hx x K0 K1 K2 L0 L1 L2;have HINS:=η (show bh DQ pf (k+1)=L.take j ++ pk :: L.drop j from by
        rw [HTK.out,fx pk L j (ψ HN.out) HJL.out (fun h=>by rw [HGU.out];exact HL.out),if_neg (fun h=>HNE.out (by rw [← HGU.out];exact h.2))])
       clear hlj hdj hb' hbq e46
      all_goals
       have hjl:j≤L.length:=by have:=HN.out;omega
       have hjm:j≤5000:=by have:=HOL.out;omega
       have hNm:N≤5000:=by have:=HOL.out;omega
       have H63:=η (ac HR4.out H6.out ρ);obtain ⟨_,_,e,hlc,s1,hs2⟩:=bj.cuts jG (HO4L.out.below H6.out) j hjl;cases e;have hjo:j≤oc:=ω;have hNo:N≤oc:=by have:=HN.out;omega
       clear hlc;have S1:=η s1
       rcases hs2 with ⟨hcj,s2⟩ | ⟨hcj,g0,hoa,s2⟩
       case' inl =>
        obtain rfl:=hcj;have hN0:=HN.out;rw [show L.length - oc=0 by omega] at s2;clear hN0
       case' inr =>
        cases hoa;rw [HN.out] at s2
       all_goals try (exfalso;omega)
       all_goals
        have S2:=η s2;clear s1 s2
        go_wp2_with (at_builtin;refine aL _ rfl _ _ 22 rfl w6.heap.size 46 i0 (.agg #[.int .i64 0,.int .i64 0,.int .i64 0]) 3 24 Tryz.underlying22 hinf hz0 hz1 hz2 rfl ν _ _ _ rfl (World.ownsRow_made w6 #[] 0 ρ (Nat.zero_le _) rfl) _ _ _ _ rfl (S1.out.below (β.alloc ρ _)) (pF _) (by unfold maxLen;omega) ω (by simp) ?_)
        intro v1 w7 ho1 hg1;have B67:=η (show Below w6.heap.size w6 w7 from (β.alloc ρ _).grown hg1 (by simp) (fun g e=>by cases e;exact Nat.le_refl _));have HO1:=η ho1;obtain ⟨p0,p1,p2⟩:=HPC.out w7 (ac H6.out B67.out ρ);clear ho1 hg1
        go_wp2_with (at_builtin;refine aL _ rfl _ _ 22 rfl w6.heap.size 46 i0 (.agg #[.int .i64 0,.int .i64 0,.int .i64 0]) 3 24 Tryz.underlying22 hinf hz0 hz1 hz2 rfl ν _ _ _ rfl (HO1.out.alloc _) _ _ _ (v3 pk) rfl (mi w7 (v3 pk) _ 3 1 rfl) (v3_one1 pk) (by unfold maxLen;omega) ω (by have:=B67.out.size;simp;omega) ?_)
        intro v2 w8 ho2 hg2;have B68:=η (show Below w6.heap.size w6 w8 from (B67.out.alloc B67.out.size _).grown hg2 (by have:=B67.out.size;simp;omega) (fun g e=>bw HO1.out g e));have HO2:=η ho2;clear ho2 hg2
        go_wp2_with (at_builtin;refine aL _ rfl _ _ 22 rfl w6.heap.size 46 i0 (.agg #[.int .i64 0,.int .i64 0,.int .i64 0]) 3 24 Tryz.underlying22 hinf hz0 hz1 hz2 rfl ν _ _ _ rfl HO2.out _ _ _ _ rfl (S2.out.below B68.out) (pF _) (by unfold maxLen;omega) ω B68.out.size ?_)
        intro v4 w9 ho4 hg4;have B69:=η (show Below w6.heap.size w6 w9 from B68.out.grown hg4 B68.out.size (fun g e=>bw HO2.out g e));have HO9:=η (show fR w9 W.heap.size v4 (bh DQ pf (k+1)) from by
         rw [HINS.out];refine bj.down (base:=w6.heap.size) ?_ H63.out.size;have e1:=HN.out;exact bj.ins ω ω ho4 (by first | rfl | simp only [List.append_assoc]))
        have HB9:=η (ac H63.out B69.out ρ);clear ho4 hg4;go_wp2;go_round
        case rel=>exact ⟨k+1,v4,rfl,by have:=HKL.out;omega,rfl,HO9.out,HB9.out⟩
        case measure=>show ne - ((k:Int)+1).toNat<ne - (k:Int).toNat;have:=HKL.out;omega
end Go.Proofs.Υ
end

section
namespace Dowel
open V
variable {P : Nat → V} {N E : Nat} {fs : List RF}
theorem T_back (n a c q:V):T n (a - c) (q - c)=- T n (c - a) (q - a):=by
 simp only [T,dot,cross,sub_x,sub_y,sub_z];grind
theorem SideF.one_way {n:V} {b:Nat} (hF:Face P N n b) {a c:Nat} (h:SideF P N n b a c) (h':SideF P N n b c a):False:=by
 obtain ⟨t,ht,h1,h2⟩:=hF.third a c;have e1:=h.pos t ht h1 h2;have e2:=h'.pos t ht h2 h1;rw [T_back] at e2;omega
theorem fN {r:List Nat} {a b:Nat}:dH r a b=true↔(a,b) ∈ aR r∨(b,a) ∈ aR r:=by
 unfold dH aR;rw [List.any_eq_true]
 constructor
 ·rintro ⟨i,hi,h⟩
  unfold fol at h;simp only [Bool.or_eq_true,Bool.and_eq_true,decide_eq_true_eq] at h
  rcases h with ⟨h1,h2⟩ | ⟨h1,h2⟩
  ·exact .inl (List.mem_map.mpr ⟨i,hi,by rw [h1,h2]⟩)
  ·exact .inr (List.mem_map.mpr ⟨i,hi,by rw [h1,h2]⟩)
 ·rintro (h | h)
  ·obtain ⟨i,hi,e⟩:=List.mem_map.mp h
   obtain ⟨e1,e2⟩:=Prod.mk.inj e;exact ⟨i,hi,by unfold fol;rw [e1,e2];simp⟩
  ·obtain ⟨i,hi,e⟩:=List.mem_map.mp h
   obtain ⟨e1,e2⟩:=Prod.mk.inj e;exact ⟨i,hi,by unfold fol;rw [e1,e2];simp⟩
theorem RingsOk.sides (h:RingsOk P N fs E) (hV:Valid P N):∃ bs:RF→Nat,(∀ f ∈ fs,Face P N f.n (bs f)∧∀ a c,(a,c) ∈ aR f.r↔SideF P N f.n (bs f) a c)∧∀ f ∈ fs,∀ a c,(a,c) ∈ aR f.r→∃ g ∈ fs,(c,a) ∈ aR g.r:=by
 obtain ⟨bs,hbs,hp⟩:=h.polys;have key:∀ f ∈ fs,∀ a c,(a,c) ∈ aR f.r↔SideF P N f.n (bs f) a c:=fun f hf a c=>by
  obtain ⟨hF,-,hr⟩:=hbs f hf;rw [hr];exact (eG hF hV.sorted.inj hV.top).2 a c
 refine ⟨bs,fun f hf=>⟨(hbs f hf).1,key f hf⟩,fun f hf a c hs=>?_⟩;have hm:(a,c) ∈ cx P N (fs.map fun f=>(f.n,bs f)):=(fw hp hV.sorted.inj hV.top a c).mpr ⟨_,List.mem_map.mpr ⟨f,hf,rfl⟩,(key f hf a c).mp hs⟩;obtain ⟨x,hx,hs'⟩:=(fw hp hV.sorted.inj hV.top c a).mp (gF hp hV.sorted.inj hV.full hV.top hm);obtain ⟨g,hg,rfl⟩:=List.mem_map.mp hx;exact ⟨g,hg,(key g hg c a).mpr hs'⟩
theorem two_len {l:List Nat} {i j:Nat} (hi:i ∈ l) (hj:j ∈ l) (hne:i≠j):2≤l.length:=by
 match l,hi,hj with
 | [],h,_=>cases h
 | [x],hi,hj=>simp at hi hj;omega
 | _ :: _ :: _,_,_=>simp only [List.length_cons];omega
theorem iR {rs:List (List Nat)} {a b k i:Nat}:i ∈ fj rs a b k↔i<k∧dH (rs.getD i []) a b=true:=by
 unfold fj;rw [List.mem_filter,List.mem_range]
theorem getD_row {rs:List (List Nat)} {i:Nat} (h:i<rs.length):rs.getD i [] ∈ rs:=by
 rw [show rs.getD i []=rs[i] by simp [h]];exact List.getElem_mem h
theorem RingsOk.twice (h:RingsOk P N fs E) (hV:Valid P N) {a b:Nat}:2≤(fj (fs.map RF.r) a b (fs.map RF.r).length).length↔∃ r ∈ fs.map RF.r,(a,b) ∈ aR r∨(b,a) ∈ aR r:=by
 constructor
 ·intro h2
  obtain ⟨i,hi⟩:=List.exists_mem_of_length_pos (show 0<(fj (fs.map RF.r) a b (fs.map RF.r).length).length by omega);obtain ⟨h1,h3⟩:=iR.mp hi;exact ⟨_,getD_row h1,fN.mp h3⟩
 ·rintro ⟨r,hr,hs⟩
  obtain ⟨bs,hb1,hb2⟩:=h.sides hV;have main:∀ a c,(a,c) ∈ aR r→∃ i j,i≠j∧i<(fs.map RF.r).length∧j<(fs.map RF.r).length∧(a,c) ∈ aR ((fs.map RF.r).getD i [])∧(c,a) ∈ aR ((fs.map RF.r).getD j []):=fun a c hs=>by
   obtain ⟨f,hf,rfl⟩:=List.mem_map.mp hr;obtain ⟨g,hg,hs'⟩:=hb2 f hf a c hs;obtain ⟨i,hi,rfl⟩:=List.mem_iff_getElem.mp hf;obtain ⟨j,hj,rfl⟩:=List.mem_iff_getElem.mp hg;refine ⟨i,j,fun e=>?_,by simpa using hi,by simpa using hj,by simpa [hi] using hs,by simpa [hj] using hs'⟩;subst e;exact (((hb1 _ hf).2 a c).mp hs).one_way (hb1 _ hf).1 (((hb1 _ hf).2 c a).mp hs')
  rcases hs with hs | hs
  ·obtain ⟨i,j,hne,hi,hj,h1,h2⟩:=main a b hs
   exact two_len (iR.mpr ⟨hi,fN.mpr (.inl h1)⟩) (iR.mpr ⟨hj,fN.mpr (.inr h2)⟩) hne
  ·obtain ⟨i,j,hne,hi,hj,h1,h2⟩:=main b a hs
   exact two_len (iR.mpr ⟨hi,fN.mpr (.inr h1)⟩) (iR.mpr ⟨hj,fN.mpr (.inl h2)⟩) hne
theorem kj {rs:List (List Nat)} {N k:Nat} {e:ER}:e ∈ gU rs N k↔∃ a b,a<k∧b<N∧a<b∧2≤(fj rs a b rs.length).length∧e=erOf rs a b rs.length:=by
 unfold gU gT;simp only [List.mem_flatMap,List.mem_range,List.mem_map,List.mem_filter,Bool.and_eq_true,decide_eq_true_eq]
 constructor
 ·rintro ⟨a,ha,b,⟨hb,hab,h2⟩,rfl⟩;exact ⟨a,b,ha,hb,hab,h2,rfl⟩
 ·rintro ⟨a,b,ha,hb,hab,h2,rfl⟩;exact ⟨a,ha,b,⟨hb,hab,h2⟩,rfl⟩
noncomputable def dirD (P:Nat→V) (e:ED):V:=oA (aF (P e.b - P e.a))
noncomputable def dirsC (P:Nat→V) (es:List ED):List V:=bh (fun k=>dirD P (es.getD k ⟨0,0,0,0⟩)) (fun _=>true) es.length
theorem iO {α:Type} (f:α→V) (l:List α) (d:α) (x:V):x ∈ bh (fun k=>f (l.getD k d)) (fun _=>true) l.length↔∃ e ∈ l,f e=x:=by
 rw [di]
 constructor
 ·rintro ⟨i,hi,e,-⟩
  have e1:l.getD i d=l[i]:=by simp [hi]
  exact ⟨_,List.getElem_mem hi,by rw [← e1];exact e⟩
 ·rintro ⟨e,he,rfl⟩
  obtain ⟨i,hi,rfl⟩:=List.mem_iff_getElem.mp he;have e1:l.getD i d=l[i]:=by simp [hi]
  exact ⟨i,hi,by rw [e1],rfl⟩
theorem mR {a b:Nat} {s:Nat × Nat} (hab:a<b) (h:s=(a,b)∨s=(b,a)):(a,b)=cW s:=by
 unfold cW
 rcases h with rfl | rfl
 ·exact Prod.ext (by dsimp only;omega) (by dsimp only;omega)
 ·exact Prod.ext (by dsimp only;omega) (by dsimp only;omega)
theorem of_sideKey {a b:Nat} {s:Nat × Nat} (h:(a,b)=cW s) (hne:s.1≠s.2):a<b∧(s=(a,b)∨s=(b,a)):=by
 obtain ⟨x,y⟩:=s;unfold cW at h;obtain ⟨h1,h2⟩:=Prod.mk.inj h;dsimp only at h1 h2 hne;refine ⟨by omega,?_⟩;by_cases hc:x<y
 ·exact .inl (Prod.ext (by dsimp only;omega) (by dsimp only;omega))
 ·exact .inr (Prod.ext (by dsimp only;omega) (by dsimp only;omega))
theorem RingsOk.edge (h:RingsOk P N fs E) (hV:Valid P N) {es:List ED} (hE:EdgesOk (fs.map RF.r) es) {e:ED} (he:e ∈ es):e.a<e.b∧e.b<N∧2≤(fj (fs.map RF.r) e.a e.b (fs.map RF.r).length).length:=by
 obtain ⟨bs,hb1,-⟩:=h.sides hV;obtain ⟨r,hr,s,hs,ek⟩:=(hE.mem e.key).mp (List.mem_map.mpr ⟨e,he,rfl⟩);have hr0:=hr;obtain ⟨f,hf,rfl⟩:=List.mem_map.mp hr;obtain ⟨x,y⟩:=s;have hsd:=((hb1 f hf).2 x y).mp hs;obtain ⟨h1,h2⟩:=of_sideKey (show (e.a,e.b)=cW (x,y) from ek) hsd.ne;have hx:=(aj.mp hsd.ha).1;have hy:=(aj.mp hsd.hc).1;refine ⟨h1,?_,(h.twice hV).mpr ⟨_,hr0,?_⟩⟩
 ·rcases h2 with h2 | h2 <;> obtain ⟨rfl,rfl⟩:=Prod.mk.inj h2 <;> assumption
 ·rcases h2 with h2 | h2
  ·rw [h2] at hs;exact .inl hs
  ·rw [h2] at hs;exact .inr hs
theorem RingsOk.dirs (h:RingsOk P N fs E) (hV:Valid P N) {es:List ED} (hE:EdgesOk (fs.map RF.r) es):dirsC P es=lW P (gU (fs.map RF.r) N N):=by
 refine eS Lex Lex.irrefl (fun a b h1 h2=>Lex.irrefl _ (k6 h1 h2)) _ _ (cU _) (cU _) fun x=>?_
 unfold dirsC lW;rw [iO (dirD P),iO (dirE P)]
 constructor
 ·rintro ⟨e,he,rfl⟩
  obtain ⟨h1,h2,h3⟩:=h.edge hV hE he;exact ⟨_,kj.mpr ⟨e.a,e.b,by omega,h2,h1,h3,rfl⟩,rfl⟩
 ·rintro ⟨e,he,rfl⟩
  obtain ⟨a,b,ha,hb,hab,h2,rfl⟩:=kj.mp he;obtain ⟨r,hr,hs⟩:=(h.twice hV).mp h2;have hm:(a,b) ∈ es.map ED.key:=(hE.mem _).mpr (by
   rcases hs with hs | hs
   ·exact ⟨r,hr,_,hs,mR hab (.inl rfl)⟩
   ·exact ⟨r,hr,_,hs,mR hab (.inr rfl)⟩)
  obtain ⟨e,he',ek⟩:=List.mem_map.mp hm;obtain ⟨rfl,rfl⟩:=Prod.mk.inj (show (e.a,e.b)=(a,b) from ek);exact ⟨e,he',rfl⟩
theorem eAll_edge (hS:Sorted P N) {rs:List (List Nat)} {e:ER} (he:e ∈ gU rs N N):e.a<N∧e.b<N∧P e.b≠P e.a:=by
 obtain ⟨a,b,ha,hb,hab,-,rfl⟩:=kj.mp he;refine ⟨ha,hb,fun h=>?_⟩;have:=hS.inj b hb a ha h;omega
theorem RingsOk.six (h:RingsOk P N fs E) (hV:Valid P N) (hr:∀ f ∈ fs,∀ i ∈ f.r,i<N):bC (am (qAt (cG P N)) (fs.map RF.r))=((kR P (fs.map RF.r):Int):Rat):=by
 have h4:=hV.four;obtain ⟨ps,hps,hg⟩:=h.fans;have hr':∀ r ∈ fs.map RF.r,∀ i ∈ r,i<N:=fun r hm=>by
  obtain ⟨f,hf,rfl⟩:=List.mem_map.mp hm;exact hr f hf
 rw [sumD_pts (show 0<N by omega) hr',hg];unfold kR;rw [hg];exact congrArg (fun z:Int=>(z:Rat)) (six_eq hps hV.sorted.inj hV.full hV.top (P 0)).symm
theorem RingsOk.mom (h:RingsOk P N fs E) (hV:Valid P N) (hr:∀ f ∈ fs,∀ i ∈ f.r,i<N) (e:V) (f:V→Int) (hf:∀ p,dot e p=f p):dw (ptQ e) (fJ (am (qAt (cG P N)) (fs.map RF.r)))=((((fs.map RF.r).map (fan (jH f P))).sum:Int):Rat):=by
 have h4:=hV.four;obtain ⟨ps,hps,hg⟩:=h.fans;have hr':∀ r ∈ fs.map RF.r,∀ i ∈ r,i<N:=fun r hm=>by
  obtain ⟨f,hf,rfl⟩:=List.mem_map.mp hm;exact hr f hf
 rw [sumC_pts (show 0<N by omega) hr',hg,hg];refine congrArg (fun z:Int=>(z:Rat)) ?_;have:=moment_eq hps hV.sorted.inj hV.full hV.top (P 0) e;have e2:jH f P=fun a b d=>dot (P a) (cross (P b) (P d))*(dot e (P a)+dot e (P b)+dot e (P d)):=by
  funext a b d
  unfold jH triD;rw [hf,hf,hf]
 rw [e2,this]
 rfl
theorem jL {s m:Rat} (a:Rat) (hs:s≠0) (h:a=m):1 / (4*s)*a=m / (4*s):=by
 rw [h,Rat.div_def,Rat.div_def,Rat.one_mul,Rat.mul_comm]
theorem RingsOk.centre (h:RingsOk P N fs E) (hV:Valid P N) (hr:∀ f ∈ fs,∀ i ∈ f.r,i<N) :
  kR P (fs.map RF.r)≠0∧qscale (1 / (4*bC (am (qAt (cG P N)) (fs.map RF.r)))) (fJ (am (qAt (cG P N)) (fs.map RF.r))) =
   ⟨((pV P (fs.map RF.r)).x:Rat) / ((4*kR P (fs.map RF.r):Int):Rat),((pV P (fs.map RF.r)).y:Rat) / ((4*kR P (fs.map RF.r):Int):Rat),((pV P (fs.map RF.r)).z:Rat) / ((4*kR P (fs.map RF.r):Int):Rat)⟩:=by
 have h0:=(oB h hV hr).1;have hx:=h.mom hV hr ⟨1,0,0⟩ V.x (fun p=>by unfold dot;dsimp only;omega);have hy:=h.mom hV hr ⟨0,1,0⟩ V.y (fun p=>by unfold dot;dsimp only;omega);have hz:=h.mom hV hr ⟨0,0,1⟩ V.z (fun p=>by unfold dot;dsimp only;omega);rw [h.six hV hr] at h0 ⊢;have h1:kR P (fs.map RF.r)≠0:=fun e=>h0 (by rw [e];rfl)
 refine ⟨h1,?_⟩;generalize fJ (am (qAt (cG P N)) (fs.map RF.r))=c at *;have e4:((4*kR P (fs.map RF.r):Int):Rat)=4*((kR P (fs.map RF.r):Int):Rat):=by rw [Rat.intCast_mul];rfl
 rw [e4];unfold qscale;unfold dw ptQ at hx hy hz;dsimp only at hx hy hz;have ex:c.x=(((fs.map RF.r).map (fan (jH V.x P))).sum:Int):=by rw [← hx];grind
 have ey:c.y=(((fs.map RF.r).map (fan (jH V.y P))).sum:Int):=by rw [← hy];grind
 have ez:c.z=(((fs.map RF.r).map (fan (jH V.z P))).sum:Int):=by rw [← hz];grind
 show (⟨_,_,_⟩:Q3)=_;rw [jL _ h0 ex,jL _ h0 ey,jL _ h0 ez]
 rfl
end Dowel
end
