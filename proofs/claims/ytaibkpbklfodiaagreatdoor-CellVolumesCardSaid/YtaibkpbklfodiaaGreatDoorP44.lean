/- The law CellVolumes, but for the first example. Printed by gen/volumes.py. -/
import Derived.Test.YtaibkpbklfodiaaGreatDoorP32
import Derived.Test.YtaibkpbklfodiaaGreatDoorP33
import Derived.Test.YtaibkpbklfodiaaGreatDoorP35
import Derived.Test.YtaibkpbklfodiaaGreatDoorP39
import Derived.Test.YtaibkpbklfodiaaGreatDoorP43
set_option linter.all false
set_option maxHeartbeats 100000000
section
namespace Dowel
open V Go Go.RowKit
theorem dirsR_le {P:Nat→V} {N:Nat} {rs:List (List Nat)} (hn:∀ i,i<N→LeV 4096 (P i)):∀ x ∈ lW P (gU rs N N),LeV 8192 x:=fun x hx=>by
 unfold lW at hx;obtain ⟨e,he,rfl⟩:=(iO (dirE P) _ _ x).mp hx;obtain ⟨a,b,ha,hb,-,-,rfl⟩:=kj.mp he;exact qh (gN (((hn b hb).sub (hn a ha)).mono ω) ω)
theorem RingsOk.lens {P:Nat→V} {N E:Nat} {fs:List RF} (h:RingsOk P N fs E) (hV:Valid P N):∀ f ∈ fs,2≤f.r.length:=fun f hf=>by
 obtain ⟨bs,hbs,-⟩:=h.polys;obtain ⟨hF,-,hr⟩:=hbs f hf;rw [hr];exact ring_two hF hV.sorted.inj hV.top
end Dowel
namespace Go.Proofs.Υ
open Go.RowKit Dowel
set_option maxRecDepth 100000 in
theorem mf (hkn:∀ v,Tab v→Calls Tryz.prog 10 #[] v fun e w'=>e=.returned (.bool true)∧Below v.heap.size v w') (a:Option Addr) (al cap:Nat) (T:Nat→V) (w:World) (hT:Tab w) (hP:Pts8 w a al cap T) :
  Calls Tryz.prog 8 #[.slice a al cap] w fun e w'=>e=.returned (.bool true)∧Below w.heap.size w w':=by
 have HKN:=η hkn;have HT:=η hT;have HPT:=η hP;have KT:Hid (∀ w',Below w.heap.size w w'→Tab w'):=fun w' h=>HT.out.below h HT.out.1
 clear hkn hT hP
 go_enter Tryz.func8,Tryz.ntmps8
 go_wp2_with fail
 refine (solid_any a al cap T w HPT.out).mono ?_;rintro e w1 ⟨⟨pp,len,pc,ok,rfl,hok⟩,hb1⟩;have HOK:=η hok;have L1:=η hb1;have SZ1:=η hb1.size;clear hok hb1
 go_upto_region 2 with fail
 obtain ⟨w2,hw2,b2,hb2,hs2⟩:=aG w1 #[.slice pp len pc] 24;rw [hw2];have H12:=η hb2;have L2:=η (ac L1.out hb2 ρ);have D2:=η b2;clear hw2 b2 hb2 hs2
 go_wp2_with fail
 refine (HKN.out w2 (KT.out w2 L2.out)).mono ?_;rintro e w3 ⟨rfl,hb3⟩;have H23:=η hb3;have L3:=η (ac L2.out hb3 ρ);have D3:=η (D2.out.below hb3 D2.out.lt);clear hb3;cases ok
 case false =>
  go_wp2_with fail
  refine (HKN.out w3 (KT.out w3 L3.out)).mono ?_;rintro e w4 ⟨rfl,hb4⟩;have L4:=η (ac L3.out hb4 ρ)
  go_wp2_with fail
  go_ret;exact ⟨rfl,L4.out⟩
 case true =>
  obtain ⟨hH,hO,hN⟩:=HOK.out rfl;have HO3:=η ((hO.below H12.out).below H23.out);have HH:=η hH;have hn8:∀ x ∈ bZ (pK T al) (min al 10),LeV 128 x:=fun x hx=>by
   obtain ⟨j,hj,rfl,-⟩:=di.mp hx;rw [ptsT_at T al j hj];exact HPT.out.near j ω
  obtain ⟨Q,hQ⟩:∃ Q,pK T al=Q:=⟨_,rfl⟩;obtain ⟨M,hM⟩:∃ M,min al 10=M:=⟨_,rfl⟩;rw [hQ,hM] at HO3 HH hN hn8;clear hH hO HOK hQ hM;have HSH:=η (fun v (h:Below w3.heap.size w3 v)=>hull_shape Q M _ (.slice pp len pc) v (KT.out v (ac L3.out h ρ)) HH.out (HO3.out.below h) hN);have hV:=HH.out.valid ω;obtain ⟨L,hL⟩:∃ L,bZ Q M=L:=⟨_,rfl⟩;rw [hL] at HO3 HSH hN hV hn8;have hn8':∀ i,i<L.length→LeV 128 (ofL L i):=fun i hi=>hn8 _ (by
   unfold ofL;rw [show L.getD i V.zero=L[i] by simp [hi]];exact List.getElem_mem hi)
  obtain ⟨P,hP'⟩:∃ P,ofL L=P:=⟨_,rfl⟩;obtain ⟨pa,pcc,e,hpts⟩:=fR.pts HO3.out;rw [hP'] at HSH hpts hV hn8';obtain ⟨len',hlen⟩:∃ len',L.length=len':=⟨_,rfl⟩;rw [hlen] at HSH hpts hN hV hn8' e;cases e;have HN8:=η hn8';have HV:=η hV;have HPS:=η hpts;have h4:=hV.four;clear hV hpts hL hP' HO3 HH hn8 hn8';obtain ⟨s0,-⟩:=D3.out.one
  go_wp2_with fail
  refine (HSH.out w3 β).mono ?_;rintro e w4 ⟨⟨v0,v1,v2,fs,E,vrs,frs,es,rfl,hsh⟩,hb4⟩;obtain ⟨⟨pv,cv,rfl⟩,⟨pf,cf,rfl⟩,⟨pe,ce,rfl⟩⟩:=hsh.forms;obtain ⟨nf,hnf⟩:∃ nf,frs.length=nf:=⟨_,rfl⟩;obtain ⟨ne,hne⟩:∃ ne,es.length=ne:=⟨_,rfl⟩;rw [hnf,hne] at hsh ⊢;have HSP:=η hsh;have HNEE:=η hne;have L4:=η (ac L3.out hb4 ρ);have D4:=η (D3.out.below hb4 D3.out.lt);have PS4:=η (HPS.out.below hb4);clear hsh hb4 hnf hne HSH HPS s0
  go_upto_region 5 with fail
  obtain ⟨wa,hwa,ba,hba,hsa⟩:=aG w4 #[.slice pv len cv,.slice pf nf cf,.slice pe ne ce] 32;rw [hwa];have La:=η (ac L4.out hba ρ);have Da:=η (D4.out.below hba D4.out.lt);have PSa:=η (PS4.out.below hba);have Sa:=η ba;have SPa:=η (HSP.out.below hba);clear hwa ba hba hsa;obtain ⟨s0,-⟩:=Da.out.one;have hok:=SPa.out.ok;have hS0:=HV.out.sorted;have hnr:=fun j (hj:j<len)=>(hS0.near j hj).le
  have hrw:=hok.rows hS0;have hlf:frs.length=fs.length:=by have:=congrArg List.length SPa.out.val;simpa using this
  have hfew:=hok.few (show len≤16 by omega);have hfc:=hok.facesR hS0 HV.out.full HV.out.top;have hfs:(facesR P len).map Prod.snd=fs.map RF.r:=by rw [hfc,List.map_map];rfl
  have hfl:(facesR P len).length=fs.length:=by rw [hfc,List.length_map]
  have hr3:∀ r ∈ fs.map RF.r,2≤r.length∧r.length≤64∧∀ i ∈ r,i<len:=fun r hm=>by
   obtain ⟨f,hf,rfl⟩:=List.mem_map.mp hm;exact ⟨hok.lens HV.out f hf,SPa.out.rows.short f hf,(hrw f hf).2⟩
  have hgo:=rfaces_any _ len pc P wa PSa.out ω hnr (fun m hm=>hok.ringW hS0 HV.out.full HV.out.top hm);have HGO:=η hgo;have HFS:=η hfs;have HFL:=η (show (facesR P len).length≤600000 by omega);have HR3:=η hr3;have hix:=hok.six HV.out (fun f hf=>(hrw f hf).2);obtain ⟨h60,hcen⟩:=hok.centre HV.out (fun f hf=>(hrw f hf).2);have hdir:=hok.dirs HV.out SPa.out.edg;have hdle:=dirsR_le (rs:=fs.map RF.r) hnr;have HEDG:=η (show ∀ e ∈ es,e.a<len∧e.b<len∧P e.b≠P e.a from fun e he=>by
   obtain ⟨h1,h2,-⟩:=hok.edge HV.out SPa.out.edg he;exact ⟨by omega,h2,fun h=>by have:=hS0.inj e.b h2 e.a ω h;omega⟩)
  have HSML:=η (show es.length≤4096 from by have:=kQ SPa.out.edg.small SPa.out.edg.nodup;simpa using this);have HSO:=η (fun w' (h:Below wa.heap.size wa w')=>(SPa.out.below h).solid ω ω ω hnr hrw);have HNR:=η hnr;obtain ⟨el,hel⟩:∃ el,gU (fs.map RF.r) len len=el:=⟨_,rfl⟩;have HELE:Hid (∀ e ∈ el,e.a<len∧e.b<len∧P e.b≠P e.a):=fun e he=>eAll_edge hS0 (rs:=fs.map RF.r) (by rw [hel];exact he)
  have HELN:=η (show el.length≤4096 from by
   have:=nI (fs.map RF.r) len len;rw [hel] at this;have h2:len*len≤10*10:=Nat.mul_le_mul ω ω;omega)
  have HRE:=η (fun w' fv (hF:dC w' wa.heap.size fv (facesR P len))=>by
   have h:=redges_any pp len pc fv (facesR P len) wa.heap.size w' ω hF ω (fun i=>by
    rw [hfs];by_cases hi:i<(fs.map RF.r).length
    ·exact (hr3 _ (getD_row hi)).2.1
    ·rw [List.getD_eq_getElem?_getD,List.getElem?_eq_none ω];simp)
   rw [hfs,hel] at h;exact h)
  rw [hel] at hdir hdle;obtain ⟨dl,hdl⟩:∃ dl,lW P el=dl:=⟨_,rfl⟩;have HDN:=η (show dl.length≤4096 from by rw [← hdl];exact Nat.le_trans (cY _) HELN.out);have HDLE:Hid (∀ x ∈ dl,LeV 8192 x):=fun x hx=>hdle x (by rw [hdl];exact hx)
  have HCD:=η (fun w' (h:Below wa.heap.size wa w')=>by
   have h:=cdirs_any P len _ w' _ _ _ fs E vrs frs es (SPa.out.below h) ω HNR.out HEDG.out HSML.out;rw [hdir,hdl] at h;exact h)
  have HRD:=η (fun w' (h:Below wa.heap.size wa w') base ev (hE:bj w' base 147 4 er4 ev el)=>by
   have h:=rdirs_any pp len pc P base ev el w' (PSa.out.below h) ω HNR.out hE HELN.out HELE.out;rw [hdl] at h;exact h)
  obtain ⟨mom,hmom⟩:∃ mom,pV P (fs.map RF.r)=mom:=⟨_,rfl⟩;obtain ⟨six,hsix⟩:∃ six,kR P (fs.map RF.r)=six:=⟨_,rfl⟩;rw [hmom,hsix] at hcen;rw [hsix] at hix h60;have HRS:=η (fun w' (h:Below wa.heap.size wa w') fv (hF:dC w' wa.heap.size fv (facesR P len))=>by
   have h:=rsix_any pp len pc P fv (facesR P len) wa.heap.size w' (PSa.out.below h) HN8.out hF ω (by rw [hfs];exact hr3);rw [hfs,hmom,hsix] at h;exact h)
  have HIX:=η hix;have HCEN:=η hcen;have H60:=η h60;have hnz:bC (am (qAt (cG P len)) (fs.map RF.r))≠0:=by rw [hix];intro h;exact h60 (by exact_mod_cast h)
  have HNZ:=η hnz;clear hok hS0 hnr hrw hlf hfew hfc hfs hfl hr3 hgo hix h60 hcen hdir hdle hel hdl hmom hsix hnz HFS
  go_wp2_with fail
  refine HGO.out.mono ?_;rintro e w5 ⟨⟨fv,rfl,hfv⟩,hb5⟩;have H5:=η hb5;have HFV:=η hfv;have D5:=η (Da.out.below hb5 Da.out.lt);have S5:=η (Sa.out.below hb5 Sa.out.lt);clear hb5 hfv s0 HGO;obtain ⟨s0,-⟩:=D5.out.one
  go_wp2_with fail
  refine (HRS.out w5 H5.out fv HFV.out).mono ?_;rintro e w6 ⟨⟨rfl,hb60,hbm⟩,hb6⟩;obtain ⟨mx,my,mz⟩:=mom;have H6:=η (ac H5.out hb6 ρ);have HFV6:=η (show dC w6 wa.heap.size fv (facesR P len) from HFV.out.below hb6);have D6:=η (D5.out.below hb6 D5.out.lt);have S6:=η (S5.out.below hb6 S5.out.lt);unfold LeV Le at hbm;unfold Le at hb60;dsimp only at hbm;obtain ⟨s4,hs4⟩:∃ s4,4*six=s4:=⟨_,rfl⟩;have HQmx:Hid (-9223372036854775808≤mx∧mx≤9223372036854775807):=⟨by omega,by omega⟩;have HQmy:Hid (-9223372036854775808≤my∧my≤9223372036854775807):=⟨by omega,by omega⟩;have HQmz:Hid (-9223372036854775808≤mz∧mz≤9223372036854775807):=⟨by omega,by omega⟩;have HQT:Hid (-9223372036854775808≤s4∧s4≤9223372036854775807):=⟨by omega,by omega⟩;have HQ6:Hid (-9223372036854775808≤six∧six≤9223372036854775807):=⟨by omega,by omega⟩;have HTN:=η (show s4≠0 by have:=H60.out;omega);have HW4:=η (show IntKind.i64.wrap (4*six)=s4 by rw [hs4];exact IntWalk.i64_in _ ω);rw [hs4] at HCEN;clear hb6 hb60 hbm hs4 s0 HRS HFV HR3
  go_upto_region 7 with fail
  obtain ⟨w7,hw7,b7,hb7,hs7⟩:=aG w6 #[.int .i64 mx,.int .i64 my,.int .i64 mz] 46;rw [hw7];have H7:=η (ac H6.out hb7 ρ);have MB:=η b7;have HFV7:=η (show dC w7 wa.heap.size fv (facesR P len) from HFV6.out.below hb7);have D7:=η (D6.out.below hb7 D6.out.lt);have S7:=η (S6.out.below hb7 S6.out.lt);clear hw7 b7 hb7 hs7 HFV6
  go_wp2_with fail
  refine bU (rest:=1) [isV 0 (.pointer (some ⟨w6.heap.size,0,none⟩)),isV 1 (.int .i64 mx),isV 2 (.int .i64 six),isV 3 (.int .i64 s4),isP 4 (fun v w=>ak w v ((mx:Rat) / (s4:Rat))),isV 5 (.pointer (some ⟨w6.heap.size,1,none⟩)),isV 6 (.int .i64 my),isV 7 (.int .i64 six),isV 8 (.int .i64 s4),isP 9 (fun v w=>ak w v ((my:Rat) / (s4:Rat))),isV 10 (.pointer (some ⟨w6.heap.size,2,none⟩)),isV 11 (.int .i64 mz),isV 12 (.int .i64 six),isV 13 (.int .i64 s4),isP 14 (fun v w=>ak w v ((mz:Rat) / (s4:Rat))),isP 15 (fun v w=>aA w v ⟨(mx:Rat) / (s4:Rat),(my:Rat) / (s4:Rat),(mz:Rat) / (s4:Rat)⟩),isP 16 (fun v w=>∃ g,v=.pointer (some ⟨g,0,none⟩)∧w7.heap.size≤g∧Box w g (ai RC.zero RC.zero RC.zero) 58)] [16] ?A7 #[true,true,true,true,true,true,true,true,true,true,true,true,true,true,true,true,true,false] κ [0,1,2,3,4,5,6,7,8,9,10,11,12,13,14,15,16] κ κ κ κ κ κ ?st ?hA ?hop ?hend
  case hA =>
   intro y;simp only [aS,cK,List.getElem?_toArray,List.getElem?_cons_zero,List.getElem?_cons_succ,Option.bind_some,Act.put,List.setIfInBounds_toArray,List.set_cons_zero,List.set_cons_succ];exact rfl
  case st=>exact ae.cons isV.stab (ae.cons isV.stab (ae.cons isV.stab (ae.cons isV.stab (ae.cons (isP.stab (fun _ _ _ h hv=>hv.below h)) (ae.cons isV.stab (ae.cons isV.stab (ae.cons isV.stab (ae.cons isV.stab (ae.cons (isP.stab (fun _ _ _ h hv=>hv.below h)) (ae.cons isV.stab (ae.cons isV.stab (ae.cons isV.stab (ae.cons isV.stab (ae.cons (isP.stab (fun _ _ _ h hv=>hv.below h)) (ae.cons (isP.stab (fun _ _ _ h hv=>hv.below h)) (ae.cons (isP.stab (fun v w w' h ⟨g,e,h1,h2⟩=>⟨g,e,h1,h2.below h h2.lt⟩)) (ae.nil)))))))))))))))))
  case hop =>
   refine ah.cons (i:=0) rfl (fun y w' hS hD K hK=>?_) ?_
   ·as_aux_lemma =>
    go_simp;exact hK.out _ w' hS β isV.put δ
   refine ah.cons (i:=1) rfl (fun y w' hS hD K hK=>?_) ?_
   ·as_aux_lemma =>
    have e0:=isV.get (i:=0) (c:=.pointer (some ⟨w6.heap.size,0,none⟩)) (hD 0 κ);have bx:=MB.out.below hS MB.out.lt;obtain ⟨c0,c1,c2,-⟩:=bx.three;simp only [e0] at hK ⊢;go_simp;exact hK.out _ w' hS β isV.put δ
   refine ah.cons (i:=2) rfl (fun y w' hS hD K hK=>?_) ?_
   ·as_aux_lemma =>
    go_simp;exact hK.out _ w' hS β isV.put δ
   refine ah.cons (i:=3) rfl (fun y w' hS hD K hK=>?_) ?_
   ·as_aux_lemma =>
    have e2:=isV.get (i:=2) (c:=.int .i64 six) (hD 2 κ);have w4:=HW4.out;simp only [e2] at hK ⊢;go_simp;exact hK.out _ w' hS β isV.put δ
   refine ah.cons (i:=4) rfl (fun y w' hS hD K hK=>?_) ?_
   ·as_aux_lemma =>
    have e1:=isV.get (i:=1) (c:=.int .i64 mx) (hD 1 κ);have e3:=isV.get (i:=3) (c:=.int .i64 s4) (hD 3 κ);simp only [e1,e3] at hK ⊢;go_simp;refine (fu mx s4 w' HQmx.out HQT.out HTN.out).mono ?_;rintro e w'' ⟨⟨v,rfl,hv⟩,hb⟩;exact hK.out v w'' (ac hS hb ρ) hb (isP.put hv) δ
   refine ah.cons (i:=5) rfl (fun y w' hS hD K hK=>?_) ?_
   ·as_aux_lemma =>
    go_simp;exact hK.out _ w' hS β isV.put δ
   refine ah.cons (i:=6) rfl (fun y w' hS hD K hK=>?_) ?_
   ·as_aux_lemma =>
    have e5:=isV.get (i:=5) (c:=.pointer (some ⟨w6.heap.size,1,none⟩)) (hD 5 κ);have bx:=MB.out.below hS MB.out.lt;obtain ⟨c0,c1,c2,-⟩:=bx.three;simp only [e5] at hK ⊢;go_simp;exact hK.out _ w' hS β isV.put δ
   refine ah.cons (i:=7) rfl (fun y w' hS hD K hK=>?_) ?_
   ·as_aux_lemma =>
    go_simp;exact hK.out _ w' hS β isV.put δ
   refine ah.cons (i:=8) rfl (fun y w' hS hD K hK=>?_) ?_
   ·as_aux_lemma =>
    have e7:=isV.get (i:=7) (c:=.int .i64 six) (hD 7 κ);have w4:=HW4.out;simp only [e7] at hK ⊢;go_simp;exact hK.out _ w' hS β isV.put δ
   refine ah.cons (i:=9) rfl (fun y w' hS hD K hK=>?_) ?_
   ·as_aux_lemma =>
    have e6:=isV.get (i:=6) (c:=.int .i64 my) (hD 6 κ);have e8:=isV.get (i:=8) (c:=.int .i64 s4) (hD 8 κ);simp only [e6,e8] at hK ⊢;go_simp;refine (fu my s4 w' HQmy.out HQT.out HTN.out).mono ?_;rintro e w'' ⟨⟨v,rfl,hv⟩,hb⟩;exact hK.out v w'' (ac hS hb ρ) hb (isP.put hv) δ
   refine ah.cons (i:=10) rfl (fun y w' hS hD K hK=>?_) ?_
   ·as_aux_lemma =>
    go_simp;exact hK.out _ w' hS β isV.put δ
   refine ah.cons (i:=11) rfl (fun y w' hS hD K hK=>?_) ?_
   ·as_aux_lemma =>
    have e10:=isV.get (i:=10) (c:=.pointer (some ⟨w6.heap.size,2,none⟩)) (hD 10 κ);have bx:=MB.out.below hS MB.out.lt;obtain ⟨c0,c1,c2,-⟩:=bx.three;simp only [e10] at hK ⊢;go_simp;exact hK.out _ w' hS β isV.put δ
   refine ah.cons (i:=12) rfl (fun y w' hS hD K hK=>?_) ?_
   ·as_aux_lemma =>
    go_simp;exact hK.out _ w' hS β isV.put δ
   refine ah.cons (i:=13) rfl (fun y w' hS hD K hK=>?_) ?_
   ·as_aux_lemma =>
    have e12:=isV.get (i:=12) (c:=.int .i64 six) (hD 12 κ);have w4:=HW4.out;simp only [e12] at hK ⊢;go_simp;exact hK.out _ w' hS β isV.put δ
   refine ah.cons (i:=14) rfl (fun y w' hS hD K hK=>?_) ?_
   ·as_aux_lemma =>
    have e11:=isV.get (i:=11) (c:=.int .i64 mz) (hD 11 κ);have e13:=isV.get (i:=13) (c:=.int .i64 s4) (hD 13 κ);simp only [e11,e13] at hK ⊢;go_simp;refine (fu mz s4 w' HQmz.out HQT.out HTN.out).mono ?_;rintro e w'' ⟨⟨v,rfl,hv⟩,hb⟩;exact hK.out v w'' (ac hS hb ρ) hb (isP.put hv) δ
   refine ah.cons (i:=15) rfl (fun y w' hS hD K hK=>?_) ?_
   ·as_aux_lemma =>
    have e4:=isP.get (i:=4) (p:=fun v w=>ak w v ((mx:Rat) / (s4:Rat))) (hD 4 κ);have e9:=isP.get (i:=9) (p:=fun v w=>ak w v ((my:Rat) / (s4:Rat))) (hD 9 κ);have e14:=isP.get (i:=14) (p:=fun v w=>ak w v ((mz:Rat) / (s4:Rat))) (hD 14 κ);obtain ⟨r0,eq0,h0⟩:=e4.rcv;obtain ⟨r1,eq1,h1⟩:=e9.rcv;obtain ⟨r2,eq2,h2⟩:=e14.rcv;simp only [eq0,eq1,eq2] at hK ⊢;clear e4 e9 e14 eq0 eq1 eq2;refine iteInduction (motive:=fun p=>p) (fun _=>?_) (fun h=>absurd κ h);refine mC 58 #[(0,.tmp 43),(1,.tmp 48),(2,.tmp 53)] rfl #[.bool r0.s,.slice r0.a r0.n r0.c,.bool r0.t,.slice r0.b r0.m r0.d,.bool r1.s,.slice r1.a r1.n r1.c,.bool r1.t,.slice r1.b r1.m r1.d,.bool r2.s,.slice r2.a r2.n r2.c,.bool r2.t,.slice r2.b r2.m r2.d] (by rw [List.map_toArray];simp only [List.map_cons,List.map_nil,Act.eval];exact built_vec r0.s r0.t r1.s r1.t r2.s r2.t r0.a r0.b r1.a r1.b r2.a r2.b r0.n r0.c r0.m r0.d r1.n r1.c r1.m r1.d r2.n r2.c r2.m r2.d) ?_;exact hK.out (.agg #[.bool r0.s,.slice r0.a r0.n r0.c,.bool r0.t,.slice r0.b r0.m r0.d,.bool r1.s,.slice r1.a r1.n r1.c,.bool r1.t,.slice r1.b r1.m r1.d,.bool r2.s,.slice r2.a r2.n r2.c,.bool r2.t,.slice r2.b r2.m r2.d]) w' hS β (isP.put ⟨r0,r1,r2,rfl,h0,h1,h2⟩) δ
   refine ah.cons (i:=16) rfl (fun y w' hS hD K hK=>?_) ?_
   ·as_aux_lemma =>
    go_simp;exact hK.out _ _ (hS.alloc hS.size _) (β.alloc ρ _) (isP.put ⟨_,rfl,hS.size,Box.new _ _ _ _ rfl⟩) (fun _ j hj hne _=>absurd (List.mem_singleton.1 hj) hne)
   exact ah.nil
  case hend =>
   intro y w' hS hR hF;obtain ⟨m0,m1,m2,ev,hA⟩:∃ m0 m1 m2:RC,y 15=.agg #[.bool m0.s,.slice m0.a m0.n m0.c,.bool m0.t,.slice m0.b m0.m m0.d,.bool m1.s,.slice m1.a m1.n m1.c,.bool m1.t,.slice m1.b m1.m m1.d,.bool m2.s,.slice m2.a m2.n m2.c,.bool m2.t,.slice m2.b m2.m m2.d]∧aA w' (.agg (ai m0 m1 m2)) ⟨(mx:Rat) / (s4:Rat),(my:Rat) / (s4:Rat),(mz:Rat) / (s4:Rat)⟩:=by
    obtain ⟨r0,r1,r2,e,h⟩:=(isP.get (i:=15) (p:=fun v w=>aA w v ⟨(mx:Rat) / (s4:Rat),(my:Rat) / (s4:Rat),(mz:Rat) / (s4:Rat)⟩) (hR 15 κ)).rcv;exact ⟨r0,r1,r2,e,h⟩
   obtain ⟨g7,ea,hga,bga⟩:=isP.get (i:=16) (p:=fun v w=>∃ g,v=.pointer (some ⟨g,0,none⟩)∧w7.heap.size≤g∧Box w g (ai RC.zero RC.zero RC.zero) 58) (hR 16 κ);simp only [ev,ea];obtain ⟨-,f0,f1,f2,f3⟩:=bga.p0;obtain ⟨c0,c1,c2,c3⟩:=bga.p0.1;obtain ⟨-,f4,f5,f6,f7⟩:=bga.p1;obtain ⟨c4,c5,c6,c7⟩:=bga.p1.1;obtain ⟨-,f8,f9,f10,f11⟩:=bga.p2;obtain ⟨c8,c9,c10,c11⟩:=bga.p2.1;refine bR (i:=17) (listed2:=#[true,true,true,true,true,true,true,true,true,true,true,true,true,true,true,true,true,true]) κ rfl κ (fun K hK=>?_);go_simp;refine hK.out _ _ ?_;clear hK K;refine bm κ ?_;clear f0 c0 f1 c1 f2 c2 f3 c3 f4 c4 f5 c5 f6 c6 f7 c7 f8 c8 f9 c9 f10 c10 f11 c11;change Exit.then _ _ _ _ (put12 w' g7 m0 m1 m2);have H8:=η (aX hS hga m0 m1 m2);have B8:=η (bga.s12 m0 m1 m2);have V8:=η (hA.put12 bga m0 m1 m2);generalize put12 w' g7 m0 m1 m2=w8 at *;clear hS hR hF ev ea bga hA hga;obtain ⟨qm,hqm⟩:∃ q,(⟨(mx:Rat) / (s4:Rat),(my:Rat) / (s4:Rat),(mz:Rat) / (s4:Rat)⟩:Q3)=q:=⟨_,rfl⟩;have HBM:=η (bd_q3 HQmx.out HQmy.out HQmz.out HQT.out HTN.out);have HQC:=HCEN;rw [hqm] at V8 HBM HQC;clear hqm HCEN;have L8:=η (ac H7.out H8.out ρ);have FV8:=η (show dC w8 wa.heap.size fv (facesR P len) from HFV7.out.below H8.out);have D8:=η (D7.out.below H8.out D7.out.lt);have S8:=η (S7.out.below H8.out S7.out.lt);have M8:=B8;have VM8:=V8;have hre:=fun w' (h:Below w8.heap.size w8 w')=>HRE.out w' fv (FV8.out.below h)
   have hcd:=fun w' (h:Below w8.heap.size w8 w')=>HCD.out w' (ac L8.out h ρ)
   have hrd:=fun w' (h:Below w8.heap.size w8 w')=>HRD.out w' (ac L8.out h ρ)
   clear HRE HCD HRD;have HRE:=η hre;have HCD:=η hcd;have HRD:=η hrd;clear hre hcd hrd B8 V8 HFV7 H8
   go_wp2_with fail
   refine bU (rest:=2) [isV 0 (.agg #[.slice pv len cv,.slice pf nf cf,.slice pe ne ce]),isP 1 (fun v w=>∃ base qrs,VRow w base v (dl.map ptQ) qrs),isV 2 (.agg #[.slice pp len pc]),isV 3 (.agg #[.slice pp len pc]),isV 4 (fv),isP 5 (fun v w=>∃ base,bj w base 147 4 er4 v el),isP 6 (fun v w=>∃ base,fR w base v dl)] [] ?A8 #[true,true,true,true,true,true,true,false,false] κ [0,1,2,3,4,5,6] κ κ κ κ κ κ ?st ?hA ?hop ?hend
   case hA =>
    intro y;simp only [aS,cK,List.getElem?_toArray,List.getElem?_cons_zero,List.getElem?_cons_succ,Option.bind_some,Act.put,List.setIfInBounds_toArray,List.set_cons_zero,List.set_cons_succ];exact rfl
   case st=>exact ae.cons isV.stab (ae.cons (isP.stab (fun _ _ _ h ⟨b,q,hv⟩=>⟨b,q,hv.below h⟩)) (ae.cons isV.stab (ae.cons isV.stab (ae.cons isV.stab (ae.cons (isP.stab (fun _ _ _ h ⟨b,hv⟩=>⟨b,bj.below hv h⟩)) (ae.cons (isP.stab (fun _ _ _ h ⟨b,hv⟩=>⟨b,bj.below hv h⟩)) (ae.nil)))))))
   case hop =>
    refine ah.cons (i:=0) rfl (fun y w' hS hD K hK=>?_) ?_
    ·as_aux_lemma =>
     have bx:=S8.out.below hS S8.out.lt;obtain ⟨c0,c1,c2,-⟩:=bx.three;go_simp;exact hK.out _ w' hS β isV.put δ
    refine ah.cons (i:=1) rfl (fun y w' hS hD K hK=>?_) ?_
    ·as_aux_lemma =>
     have e0:=isV.get (i:=0) (c:=.agg #[.slice pv len cv,.slice pf nf cf,.slice pe ne ce]) (hD 0 κ);simp only [e0] at hK ⊢;go_simp;refine (HCD.out w' hS).mono ?_;rintro e w'' ⟨⟨v,qrs,rfl,hv⟩,hb⟩;exact hK.out v w'' (ac hS hb ρ) hb (isP.put ⟨_,qrs,hv⟩) δ
    refine ah.cons (i:=2) rfl (fun y w' hS hD K hK=>?_) ?_
    ·as_aux_lemma =>
     have bx:=D8.out.below hS D8.out.lt;obtain ⟨c0,-⟩:=bx.one;go_simp;exact hK.out _ w' hS β isV.put δ
    refine ah.cons (i:=3) rfl (fun y w' hS hD K hK=>?_) ?_
    ·as_aux_lemma =>
     have bx:=D8.out.below hS D8.out.lt;obtain ⟨c0,-⟩:=bx.one;go_simp;exact hK.out _ w' hS β isV.put δ
    refine ah.cons (i:=4) rfl (fun y w' hS hD K hK=>?_) ?_
    ·as_aux_lemma =>
     go_simp;exact hK.out _ w' hS β isV.put δ
    refine ah.cons (i:=5) rfl (fun y w' hS hD K hK=>?_) ?_
    ·as_aux_lemma =>
     have e3:=isV.get (i:=3) (c:=.agg #[.slice pp len pc]) (hD 3 κ);have e4:=isV.get (i:=4) (c:=fv) (hD 4 κ);simp only [e3,e4] at hK ⊢;go_simp;refine (HRE.out w' hS).mono ?_;rintro e w'' ⟨⟨v,rfl,hv⟩,hb⟩;exact hK.out v w'' (ac hS hb ρ) hb (isP.put ⟨_,hv⟩) δ
    refine ah.cons (i:=6) rfl (fun y w' hS hD K hK=>?_) ?_
    ·as_aux_lemma =>
     have e2:=isV.get (i:=2) (c:=.agg #[.slice pp len pc]) (hD 2 κ);have e5:=isP.get (i:=5) (p:=fun v w=>∃ base,bj w base 147 4 er4 v el) (hD 5 κ);obtain ⟨eb,e5⟩:=e5;simp only [e2] at hK ⊢;go_simp;refine (HRD.out w' hS _ _ e5).mono ?_;rintro e w'' ⟨⟨v,rfl,hv⟩,hb⟩;exact hK.out v w'' (ac hS hb ρ) hb (isP.put ⟨_,hv⟩) δ
    exact ah.nil
   case hend =>
    intro y w' hS hR hF;obtain ⟨bD,qrs,hdv⟩:=isP.get (i:=1) (p:=fun v w=>∃ base qrs,VRow w base v (dl.map ptQ) qrs) (hR 1 κ);obtain ⟨bW,hwv⟩:=isP.get (i:=6) (p:=fun v w=>∃ base,fR w base v dl) (hR 6 κ);obtain ⟨dv,edv⟩:∃ dv,y 1=dv:=⟨_,rfl⟩;obtain ⟨wv,ewv⟩:∃ wv,y 6=wv:=⟨_,rfl⟩;simp only [edv] at hdv ⊢;simp only [ewv] at hwv ⊢;refine bR (i:=7) (listed2:=#[true,true,true,true,true,true,true,true,false]) κ rfl κ (fun K hK=>?_);go_simp;refine hK.out _ _ ?_;clear hK K;refine bR (i:=8) (listed2:=#[true,true,true,true,true,true,true,true,true]) κ rfl κ (fun K hK=>?_);go_simp;refine hK.out _ _ ?_;clear hK K;refine bm κ ?_;have H9:=η hS;have HDV:=η hdv;have HWV:=η hwv;clear hS hR hF edv ewv hdv hwv;obtain ⟨w9,rfl⟩:∃ w9,w9=w':=⟨_,rfl⟩;have L9':=η (ac L8.out H9.out ρ);have L9:=η (ac La.out L9'.out ρ);have S9:=η (S8.out.below H9.out S8.out.lt);have M9:=η (M8.out.below H9.out M8.out.lt);have VM9:=η (VM8.out.below H9.out);have hso:=fun w' (h:Below w9.heap.size w9 w')=>HSO.out w' (ac L9'.out h ρ)
    clear HSO;obtain ⟨nd,hnd⟩:∃ nd,dl.length=nd:=⟨_,rfl⟩;have HND:=η hnd;have hnd4:nd≤4096:=by rw [← hnd];exact HDN.out
    obtain ⟨da,dc,rfl⟩:∃ da dc,dv=.slice da nd dc:=by
     have hl:=HDV.out.len;rw [List.length_map,hnd] at hl;obtain ⟨da,dc,e,-⟩:=Sl.of_owns HDV.out.own;exact ⟨da,dc,by rw [e,hl]⟩
    obtain ⟨wa_,wc,rfl⟩:∃ wa_ wc,wv=.slice wa_ nd wc:=by
     obtain ⟨da,dc,e,-⟩:=bj.form HWV.out;exact ⟨da,dc,by rw [e,hnd]⟩
    obtain ⟨qv,hqv⟩:∃ qv:Rat,(six:Rat) / ((6:Int):Rat)=qv:=⟨_,rfl⟩;have HQ6V:=η hqv;have HQV:=η (show bC (am (qAt (cG P len)) (fs.map RF.r)) / 6=qv from by rw [HIX.out,← hqv];rfl);have HBQ:=η (show Bd 4 qv from by rw [← hqv];exact Bd.div (bd64 HQ6.out) (bd64 ω) ν);have HC0:=η (show eQ qv qv=0 from gV.mpr rfl);have HSO:=η hso;clear hso hqv hnd
    go_wp2_with fail
    refine bU (rest:=0) [isV 0 (.int .i64 0),isV 1 (.bool false),isV 2 (.bool false),isV 3 (.agg #[.slice pv len cv,.slice pf nf cf,.slice pe ne ce]),isP 4 (fun v w=>ak w v (qv)),isV 5 (.int .i64 six),isP 6 (fun v w=>ak w v (qv)),isV 7 (.int .i64 0),isV 8 (.bool false),isV 9 (.bool false),isV 10 (.bool false),isV 11 (.agg #[.slice pv len cv,.slice pf nf cf,.slice pe ne ce]),isP 12 (fun v w=>aA w v qm),isV 13 (.agg #[.bool m0.s,.slice m0.a m0.n m0.c,.bool m0.t,.slice m0.b m0.m m0.d,.bool m1.s,.slice m1.a m1.n m1.c,.bool m1.t,.slice m1.b m1.m m1.d,.bool m2.s,.slice m2.a m2.n m2.c,.bool m2.t,.slice m2.b m2.m m2.d]),isV 14 (.bool true),isV 15 (.bool false),isV 16 (.bool false),isV 17 (.bool false),isV 18 (.slice da nd dc),isV 19 (.int .i64 nd),isV 20 (.slice wa_ nd wc),isV 21 (.int .i64 nd),isV 22 (.bool false),isV 23 (.bool false)] [] ?A9 #[true,true,true,true,true,true,true,true,true,true,true,true,true,true,true,true,true,true,true,true,true,true,true,true] κ [0,1,2,3,4,5,6,7,8,9,10,11,12,13,14,15,16,17,18,19,20,21,22,23] κ κ κ κ κ κ ?st ?hA ?hop ?hend
    case hA =>
     intro y;simp only [aS,cK,List.getElem?_toArray,List.getElem?_cons_zero,List.getElem?_cons_succ,Option.bind_some,Act.put,List.setIfInBounds_toArray,List.set_cons_zero,List.set_cons_succ];exact rfl
    case st=>exact ae.cons isV.stab (ae.cons isV.stab (ae.cons isV.stab (ae.cons isV.stab (ae.cons (isP.stab (fun _ _ _ h hv=>hv.below h)) (ae.cons isV.stab (ae.cons (isP.stab (fun _ _ _ h hv=>hv.below h)) (ae.cons isV.stab (ae.cons isV.stab (ae.cons isV.stab (ae.cons isV.stab (ae.cons isV.stab (ae.cons (isP.stab (fun _ _ _ h hv=>hv.below h)) (ae.cons isV.stab (ae.cons isV.stab (ae.cons isV.stab (ae.cons isV.stab (ae.cons isV.stab (ae.cons isV.stab (ae.cons isV.stab (ae.cons isV.stab (ae.cons isV.stab (ae.cons isV.stab (ae.cons isV.stab (ae.nil))))))))))))))))))))))))
    case hop =>
     refine ah.cons (i:=0) rfl (fun y w' hS hD K hK=>?_) ?_
     ·as_aux_lemma =>
      go_simp;exact hK.out _ w' hS β isV.put δ
     refine ah.cons (i:=1) rfl (fun y w' hS hD K hK=>?_) ?_
     ·as_aux_lemma =>
      have e0:=isV.get (i:=0) (c:=.int .i64 0) (hD 0 κ);simp only [e0] at hK ⊢;go_simp;exact hK.out _ w' hS β isV.put δ
     refine ah.cons (i:=2) rfl (fun y w' hS hD K hK=>?_) ?_
     ·as_aux_lemma =>
      have e1:=isV.get (i:=1) (c:=.bool false) (hD 1 κ);simp only [e1] at hK ⊢;go_simp;exact hK.out _ w' hS β isV.put δ
     refine ah.cons (i:=3) rfl (fun y w' hS hD K hK=>?_) ?_
     ·as_aux_lemma =>
      have e2:=isV.get (i:=2) (c:=.bool false) (hD 2 κ);have bx:=S9.out.below hS S9.out.lt;obtain ⟨c0,c1,c2,-⟩:=bx.three;simp only [e2] at hK ⊢;go_simp;exact hK.out _ w' hS β isV.put δ
     refine ah.cons (i:=4) rfl (fun y w' hS hD K hK=>?_) ?_
     ·as_aux_lemma =>
      have e2:=isV.get (i:=2) (c:=.bool false) (hD 2 κ);have e3:=isV.get (i:=3) (c:=.agg #[.slice pv len cv,.slice pf nf cf,.slice pe ne ce]) (hD 3 κ);simp only [e2,e3] at hK ⊢;go_simp;refine (mD _ _ _ (cG P len) frs (fs.map RF.r) 1 4096 w' (HSO.out w' hS)).mono ?_;rintro e w'' ⟨⟨v,rfl,hv⟩,hb⟩;exact hK.out v w'' (ac hS hb ρ) hb (isP.put (HQV.out ▸ hv)) δ
     refine ah.cons (i:=5) rfl (fun y w' hS hD K hK=>?_) ?_
     ·as_aux_lemma =>
      have e2:=isV.get (i:=2) (c:=.bool false) (hD 2 κ);simp only [e2] at hK ⊢;go_simp;exact hK.out _ w' hS β isV.put δ
     refine ah.cons (i:=6) rfl (fun y w' hS hD K hK=>?_) ?_
     ·as_aux_lemma =>
      have e2:=isV.get (i:=2) (c:=.bool false) (hD 2 κ);have e5:=isV.get (i:=5) (c:=.int .i64 six) (hD 5 κ);simp only [e2,e5] at hK ⊢;go_simp;refine (fu six 6 w' HQ6.out ω ω).mono ?_;rintro e w'' ⟨⟨v,rfl,hv⟩,hb⟩;exact hK.out v w'' (ac hS hb ρ) hb (isP.put (HQ6V.out ▸ hv)) δ
     refine ah.cons (i:=7) rfl (fun y w' hS hD K hK=>?_) ?_
     ·as_aux_lemma =>
      have e2:=isV.get (i:=2) (c:=.bool false) (hD 2 κ);have e4:=isP.get (i:=4) (p:=fun v w=>ak w v (qv)) (hD 4 κ);have e6:=isP.get (i:=6) (p:=fun v w=>ak w v (qv)) (hD 6 κ);simp only [e2] at hK ⊢;go_simp;refine (fz _ _ qv qv 4 4 w' e4 e6 HBQ.out HBQ.out ω).mono ?_;rintro e w'' ⟨he,hb⟩;rw [HC0.out] at he;subst he;exact hK.out _ w'' (ac hS hb ρ) hb isV.put δ
     refine ah.cons (i:=8) rfl (fun y w' hS hD K hK=>?_) ?_
     ·as_aux_lemma =>
      have e2:=isV.get (i:=2) (c:=.bool false) (hD 2 κ);have e7:=isV.get (i:=7) (c:=.int .i64 0) (hD 7 κ);simp only [e2,e7] at hK ⊢;go_simp;exact hK.out _ w' hS β isV.put δ
     refine ah.cons (i:=9) rfl (fun y w' hS hD K hK=>?_) ?_
     ·as_aux_lemma =>
      have e2:=isV.get (i:=2) (c:=.bool false) (hD 2 κ);have e8:=isV.get (i:=8) (c:=.bool false) (hD 8 κ);simp only [e2,e8] at hK ⊢;go_simp;exact hK.out _ w' hS β isV.put δ
     refine ah.cons (i:=10) rfl (fun y w' hS hD K hK=>?_) ?_
     ·as_aux_lemma =>
      have e9:=isV.get (i:=9) (c:=.bool false) (hD 9 κ);simp only [e9] at hK ⊢;go_simp;exact hK.out _ w' hS β isV.put δ
     refine ah.cons (i:=11) rfl (fun y w' hS hD K hK=>?_) ?_
     ·as_aux_lemma =>
      have e10:=isV.get (i:=10) (c:=.bool false) (hD 10 κ);have bx:=S9.out.below hS S9.out.lt;obtain ⟨c0,c1,c2,-⟩:=bx.three;simp only [e10] at hK ⊢;go_simp;exact hK.out _ w' hS β isV.put δ
     refine ah.cons (i:=12) rfl (fun y w' hS hD K hK=>?_) ?_
     ·as_aux_lemma =>
      have e10:=isV.get (i:=10) (c:=.bool false) (hD 10 κ);have e11:=isV.get (i:=11) (c:=.agg #[.slice pv len cv,.slice pf nf cf,.slice pe ne ce]) (hD 11 κ);simp only [e10,e11] at hK ⊢;go_simp;refine (nS _ _ _ (cG P len) frs (fs.map RF.r) 1 4096 w' (HSO.out w' hS) HNZ.out).mono ?_;rintro e w'' ⟨⟨v,rfl,hv⟩,hb⟩;exact hK.out v w'' (ac hS hb ρ) hb (isP.put (HQC.out ▸ hv)) δ
     refine ah.cons (i:=13) rfl (fun y w' hS hD K hK=>?_) ?_
     ·as_aux_lemma =>
      have e10:=isV.get (i:=10) (c:=.bool false) (hD 10 κ);have bx:=M9.out.below hS M9.out.lt;obtain ⟨c0,c1,c2,c3⟩:=bx.p0.1;obtain ⟨c4,c5,c6,c7⟩:=bx.p1.1;obtain ⟨c8,c9,c10,c11⟩:=bx.p2.1;simp only [e10] at hK ⊢;go_simp;exact hK.out _ w' hS β isV.put δ
     refine ah.cons (i:=14) rfl (fun y w' hS hD K hK=>?_) ?_
     ·as_aux_lemma =>
      have e10:=isV.get (i:=10) (c:=.bool false) (hD 10 κ);have e12:=isP.get (i:=12) (p:=fun v w=>aA w v qm) (hD 12 κ);have e13:=isV.get (i:=13) (c:=.agg #[.bool m0.s,.slice m0.a m0.n m0.c,.bool m0.t,.slice m0.b m0.m m0.d,.bool m1.s,.slice m1.a m1.n m1.c,.bool m1.t,.slice m1.b m1.m m1.d,.bool m2.s,.slice m2.a m2.n m2.c,.bool m2.t,.slice m2.b m2.m m2.d]) (hD 13 κ);simp only [e10,e13] at hK ⊢;go_simp;refine (j6 _ _ qm qm 4 4 w' e12 (VM9.out.below hS) HBM.out HBM.out ω).mono ?_;rintro e w'' ⟨⟨r,rfl,hr⟩,hb⟩;obtain rfl:r=true:=hr.mpr rfl;exact hK.out _ w'' (ac hS hb ρ) hb isV.put δ
     refine ah.cons (i:=15) rfl (fun y w' hS hD K hK=>?_) ?_
     ·as_aux_lemma =>
      have e10:=isV.get (i:=10) (c:=.bool false) (hD 10 κ);have e14:=isV.get (i:=14) (c:=.bool true) (hD 14 κ);simp only [e10,e14] at hK ⊢;go_simp;exact hK.out _ w' hS β isV.put δ
     refine ah.cons (i:=16) rfl (fun y w' hS hD K hK=>?_) ?_
     ·as_aux_lemma =>
      have e10:=isV.get (i:=10) (c:=.bool false) (hD 10 κ);have e15:=isV.get (i:=15) (c:=.bool false) (hD 15 κ);simp only [e10,e15] at hK ⊢;go_simp;exact hK.out _ w' hS β isV.put δ
     refine ah.cons (i:=17) rfl (fun y w' hS hD K hK=>?_) ?_
     ·as_aux_lemma =>
      have e16:=isV.get (i:=16) (c:=.bool false) (hD 16 κ);simp only [e16] at hK ⊢;go_simp;exact hK.out _ w' hS β isV.put δ
     refine ah.cons (i:=18) rfl (fun y w' hS hD K hK=>?_) ?_
     ·as_aux_lemma =>
      have e17:=isV.get (i:=17) (c:=.bool false) (hD 17 κ);simp only [e17] at hK ⊢;go_simp;exact hK.out _ w' hS β isV.put δ
     refine ah.cons (i:=19) rfl (fun y w' hS hD K hK=>?_) ?_
     ·as_aux_lemma =>
      have e17:=isV.get (i:=17) (c:=.bool false) (hD 17 κ);have e18:=isV.get (i:=18) (c:=.slice da nd dc) (hD 18 κ);simp only [e17,e18] at hK ⊢;go_simp;exact hK.out _ w' hS β isV.put δ
     refine ah.cons (i:=20) rfl (fun y w' hS hD K hK=>?_) ?_
     ·as_aux_lemma =>
      have e17:=isV.get (i:=17) (c:=.bool false) (hD 17 κ);simp only [e17] at hK ⊢;go_simp;exact hK.out _ w' hS β isV.put δ
     refine ah.cons (i:=21) rfl (fun y w' hS hD K hK=>?_) ?_
     ·as_aux_lemma =>
      have e17:=isV.get (i:=17) (c:=.bool false) (hD 17 κ);have e20:=isV.get (i:=20) (c:=.slice wa_ nd wc) (hD 20 κ);simp only [e17,e20] at hK ⊢;go_simp;exact hK.out _ w' hS β isV.put δ
     refine ah.cons (i:=22) rfl (fun y w' hS hD K hK=>?_) ?_
     ·as_aux_lemma =>
      have e17:=isV.get (i:=17) (c:=.bool false) (hD 17 κ);have e19:=isV.get (i:=19) (c:=.int .i64 nd) (hD 19 κ);have e21:=isV.get (i:=21) (c:=.int .i64 nd) (hD 21 κ);simp only [e17,e19,e21] at hK ⊢;go_simp;exact hK.out _ w' hS β isV.put δ
     refine ah.cons (i:=23) rfl (fun y w' hS hD K hK=>?_) ?_
     ·as_aux_lemma =>
      have e17:=isV.get (i:=17) (c:=.bool false) (hD 17 κ);have e22:=isV.get (i:=22) (c:=.bool false) (hD 22 κ);simp only [e17,e22] at hK ⊢;go_simp;exact hK.out _ w' hS β isV.put δ
     exact ah.nil
    case hend =>
     intro y w' hS hR hF;have e23:=isV.get (i:=23) (c:=.bool false) (hR 23 κ);simp only [e23];refine bm κ ?_;have H10:=η hS;clear hS hR hF;obtain ⟨wb',rfl⟩:∃ wb',wb'=w':=⟨_,rfl⟩;have HDB:=η (HDV.out.below H10.out);have HWB:=η (bj.below HWV.out H10.out);have Lb:=η (ac L9.out H10.out ρ)
     go_wp2_with fail
     go_loopw [13] (fun iv wr=>∃ i,i≤nd∧iv=.int .i64 (i:Nat)∧Hid (Below wb'.heap.size wb' wr)) (fun iv _=>nd - (intOf iv).toNat)
     case atStart=>exact ⟨0,Nat.zero_le _,rfl,Below.refl _ _⟩
     case round =>
      obtain ⟨i,hi,rfl,HR⟩:=hrel;obtain ⟨wk,rfl⟩:∃ wk,wk=wr:=⟨_,rfl⟩;have Lk:=η (ac Lb.out HR.out ρ);by_cases h0:i=nd
      ·have hnl:¬ (i:Int)<(nd:Int):=ω
       clear h0
       go_wp2_with fail
       go_ret;exact ⟨rfl,Lk.out⟩
      ·have hlt:(i:Int)<(nd:Int):=ω
       have hil:i<nd:=ω;have HIL:=η hil;have HIT:=η hlt;obtain ⟨gD,n0,n1,n2,e,hgD,hvq,hcv⟩:=(HDB.out.below HR.out).open12 i (by rw [List.length_map,HND.out];exact hil);cases e;rw [h8 (by rw [HND.out];exact hil)] at hvq;obtain ⟨xv,hxv⟩:∃ xv,dl.getD i V.zero=xv:=⟨_,rfl⟩;rw [hxv] at hvq;have HXL:=η (show LeV 9007199254740992 xv from by
        rw [← hxv];refine (HDLE.out _ ?_).mono ω;rw [show dl.getD i V.zero=dl[i]'(by rw [HND.out];exact hil) by simp [HND.out,hil]];exact List.getElem_mem _)
       obtain ⟨gW,capW,e,hgW,-,-,hcw⟩:=bj.at_ jG (bj.below HWB.out HR.out) i xv (by rw [← hxv];simp [HND.out,hil]);injection e with e1 e2 e3
       subst e1;clear e2 e3;have HVQ:=η hvq;have HDC:Hid (∀ w',Below wk.heap.size wk w'→Λ w' gD (i*12) n0 n1 n2):=fun w' h=>by
        have hc:=fun j hj=>(h.cell (p:=⟨gD,i*12+j,none⟩) hgD).trans (hcv j hj)
        exact ⟨(hc 0 ω).trans rfl,(hc 1 ω).trans rfl,(hc 2 ω).trans rfl,(hc 3 ω).trans rfl,(hc 4 ω).trans rfl,(hc 5 ω).trans rfl,(hc 6 ω).trans rfl,(hc 7 ω).trans rfl,(hc 8 ω).trans rfl,(hc 9 ω).trans rfl,(hc 10 ω).trans rfl,(hc 11 ω).trans rfl⟩
       have HWC:Hid (∀ w',Below wk.heap.size wk w'→w'.cell? ⟨gW,i*3,none⟩=some (.int .i64 xv.x)∧w'.cell? ⟨gW,i*3+1,none⟩=some (.int .i64 xv.y)∧w'.cell? ⟨gW,i*3+2,none⟩=some (.int .i64 xv.z)):=fun w' h=>by
        have hc:=fun j hj=>(h.cell (p:=⟨gW,i*3+j,none⟩) hgW).trans (hcw j hj)
        exact ⟨(hc 0 ω).trans rfl,(hc 1 ω).trans rfl,(hc 2 ω).trans rfl⟩
       have HBX:=η (gJ HXL.out);clear h0 hvq hcv hcw hgD hgW hxv
       go_wp2_with fail
       refine bU (rest:=0) [isV 0 (.slice (some ⟨gD,0,none⟩) nd dc),isV 1 (.int .i64 i),isV 2 (.pointer (some ⟨gD,i*12,none⟩)),isV 3 (.agg #[.bool n0.s,.slice n0.a n0.n n0.c,.bool n0.t,.slice n0.b n0.m n0.d,.bool n1.s,.slice n1.a n1.n n1.c,.bool n1.t,.slice n1.b n1.m n1.d,.bool n2.s,.slice n2.a n2.n n2.c,.bool n2.t,.slice n2.b n2.m n2.d]),isV 4 (.slice (some ⟨gW,0,none⟩) nd wc),isV 5 (.int .i64 i),isV 6 (.pointer (some ⟨gW,i*3,none⟩)),isV 7 (.agg #[.int .i64 xv.x,.int .i64 xv.y,.int .i64 xv.z]),isP 8 (fun v w=>aA w v (ptQ xv)),isV 9 (.bool true),isV 10 (.bool false)] [] ?A14 #[true,true,true,true,true,true,true,true,true,true,true] κ [0,1,2,3,4,5,6,7,8,9,10] κ κ κ κ κ κ ?st ?hA ?hop ?hend
       case hA =>
        intro y;simp only [aS,cK,List.getElem?_toArray,List.getElem?_cons_zero,List.getElem?_cons_succ,Option.bind_some,Act.put,List.setIfInBounds_toArray,List.set_cons_zero,List.set_cons_succ];exact rfl
       case st=>exact ae.cons isV.stab (ae.cons isV.stab (ae.cons isV.stab (ae.cons isV.stab (ae.cons isV.stab (ae.cons isV.stab (ae.cons isV.stab (ae.cons isV.stab (ae.cons (isP.stab (fun _ _ _ h hv=>hv.below h)) (ae.cons isV.stab (ae.cons isV.stab (ae.nil)))))))))))
       case hop =>
        refine ah.cons (i:=0) rfl (fun y w' hS hD K hK=>?_) ?_
        ·as_aux_lemma =>
         go_simp;exact hK.out _ w' hS β isV.put δ
        refine ah.cons (i:=1) rfl (fun y w' hS hD K hK=>?_) ?_
        ·as_aux_lemma =>
         go_simp;exact hK.out _ w' hS β isV.put δ
        refine ah.cons (i:=2) rfl (fun y w' hS hD K hK=>?_) ?_
        ·as_aux_lemma =>
         have e0:=isV.get (i:=0) (c:=.slice (some ⟨gD,0,none⟩) nd dc) (hD 0 κ);have e1:=isV.get (i:=1) (c:=.int .i64 i) (hD 1 κ);have hvl:=HIT.out;have hvn:=HIL.out;simp only [e0,e1] at hK ⊢;go_simp;exact hK.out _ w' hS β isV.put δ
        refine ah.cons (i:=3) rfl (fun y w' hS hD K hK=>?_) ?_
        ·as_aux_lemma =>
         have e2:=isV.get (i:=2) (c:=.pointer (some ⟨gD,i*12,none⟩)) (hD 2 κ);obtain ⟨c0,c1,c2,c3,c4,c5,c6,c7,c8,c9,c10,c11⟩:=HDC.out w' hS;simp only [e2] at hK ⊢;go_simp;exact hK.out _ w' hS β isV.put δ
        refine ah.cons (i:=4) rfl (fun y w' hS hD K hK=>?_) ?_
        ·as_aux_lemma =>
         go_simp;exact hK.out _ w' hS β isV.put δ
        refine ah.cons (i:=5) rfl (fun y w' hS hD K hK=>?_) ?_
        ·as_aux_lemma =>
         go_simp;exact hK.out _ w' hS β isV.put δ
        refine ah.cons (i:=6) rfl (fun y w' hS hD K hK=>?_) ?_
        ·as_aux_lemma =>
         have e4:=isV.get (i:=4) (c:=.slice (some ⟨gW,0,none⟩) nd wc) (hD 4 κ);have e5:=isV.get (i:=5) (c:=.int .i64 i) (hD 5 κ);have hvl:=HIT.out;have hvn:=HIL.out;simp only [e4,e5] at hK ⊢;go_simp;exact hK.out _ w' hS β isV.put δ
        refine ah.cons (i:=7) rfl (fun y w' hS hD K hK=>?_) ?_
        ·as_aux_lemma =>
         have e6:=isV.get (i:=6) (c:=.pointer (some ⟨gW,i*3,none⟩)) (hD 6 κ);obtain ⟨c0,c1,c2⟩:=HWC.out w' hS;simp only [e6] at hK ⊢;go_simp;exact hK.out _ w' hS β isV.put δ
        refine ah.cons (i:=8) rfl (fun y w' hS hD K hK=>?_) ?_
        ·as_aux_lemma =>
         have e7:=isV.get (i:=7) (c:=.agg #[.int .i64 xv.x,.int .i64 xv.y,.int .i64 xv.z]) (hD 7 κ);simp only [e7] at hK ⊢;go_simp;refine (mw xv w' HXL.out).mono ?_;rintro e w'' ⟨⟨v,rfl,hv⟩,hb⟩;exact hK.out v w'' (ac hS hb ρ) hb (isP.put hv) δ
        refine ah.cons (i:=9) rfl (fun y w' hS hD K hK=>?_) ?_
        ·as_aux_lemma =>
         have e3:=isV.get (i:=3) (c:=.agg #[.bool n0.s,.slice n0.a n0.n n0.c,.bool n0.t,.slice n0.b n0.m n0.d,.bool n1.s,.slice n1.a n1.n n1.c,.bool n1.t,.slice n1.b n1.m n1.d,.bool n2.s,.slice n2.a n2.n n2.c,.bool n2.t,.slice n2.b n2.m n2.d]) (hD 3 κ);have e8:=isP.get (i:=8) (p:=fun v w=>aA w v (ptQ xv)) (hD 8 κ);simp only [e3] at hK ⊢;go_simp;refine (j6 _ _ (ptQ xv) (ptQ xv) 2 2 w' (HVQ.out.below hS) e8 HBX.out HBX.out ω).mono ?_;rintro e w'' ⟨⟨r,rfl,hr⟩,hb⟩;obtain rfl:r=true:=hr.mpr rfl;exact hK.out _ w'' (ac hS hb ρ) hb isV.put δ
        refine ah.cons (i:=10) rfl (fun y w' hS hD K hK=>?_) ?_
        ·as_aux_lemma =>
         have e9:=isV.get (i:=9) (c:=.bool true) (hD 9 κ);simp only [e9] at hK ⊢;go_simp;exact hK.out _ w' hS β isV.put δ
        exact ah.nil
       case hend =>
        intro y w' hS hR hF;have e10:=isV.get (i:=10) (c:=.bool false) (hR 10 κ);simp only [e10];refine bm κ ?_;have HR2:=η (ac HR.out hS ρ);clear hS hR hF;go_wp2;go_round
        case rel=>exact ⟨i+1,HIL.out,rfl,HR2.out⟩
        case measure=>show nd - ((i:Int)+1).toNat<nd - (i:Int).toNat;have:=HIL.out;omega
end Go.Proofs.Υ
end
