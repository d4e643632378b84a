/- The reference: Six. Printed by gen/six.py. -/
import Derived.Test.YtaibkpbklfodiaaGreatDoorP38
import Derived.Test.YtaibkpbklfodiaaGreatDoorP42
import Derived.Test.YtaibkpbklfodiaaGreatDoorP32
import Derived.Test.YtaibkpbklfodiaaGreatDoorP1
set_option linter.all false
set_option maxHeartbeats 100000000
section
namespace Dowel
open Go Go.RowKit Go.Proofs.Υ
def ShV (cs:Array Value):Prop:=∃ x y z:Int,cs=#[.int .i64 x,.int .i64 y,.int .i64 z]
theorem grown_put3 (w:World) (g:Nat) (u:V):w.grownBy (kf w g u) (some g):=((bK w g 0 (.int .i64 u.x)).trans (bK _ g 1 _)).trans (bK _ g 2 _)
theorem wrG_put3 {w:World} {n g:Nat} {v0 v1 v2:Value} {t:TypeId} (hg:n≤g) (hb:Box w g #[v0,v1,v2] t) (u:V):WrG ShV n t g w (kf w g u):=⟨hg,_,_,hb,⟨u.x,u.y,u.z,rfl⟩,hb.s3 u,grown_put3 w g u⟩
theorem ne_ptr {a b:Value} {g g':Nat} (h1:a=.pointer (some ⟨g,0,none⟩)) (h2:b=.pointer (some ⟨g',0,none⟩)) (h:a≠b):g≠g':=fun e=>h (by rw [h1,h2,e])
theorem mom_wraps {n x y z m:Int} (hn:Le 12582912 n) (hx:Le 128 x) (hy:Le 128 y) (hz:Le 128 z) (hm:Le 200000000000000000 m):wrap64 (x+y)=x+y∧wrap64 (x+y+z)=x+y+z∧wrap64 (n*(x+y+z))=n*(x+y+z)∧wrap64 (m+n*(x+y+z))=m+n*(x+y+z):=by
 have h:=pU hn hx hy hz;unfold Le at *;refine ⟨IntWalk.wrap64_in _ ⟨by omega,by omega⟩,IntWalk.wrap64_in _ ⟨by omega,by omega⟩,IntWalk.wrap64_in _ ⟨by omega,by omega⟩,IntWalk.wrap64_in _ ⟨by omega,by omega⟩⟩
def V.nth (a:V):Nat→Int
 | 0=>a.x
 | 1=>a.y
 | _+2=>a.z
def vc (a:V):Array Value:=#[.int .i64 a.x,.int .i64 a.y,.int .i64 a.z]
def mTo (M M':V):Nat→V
 | 0=>M
 | 1=>⟨M'.x,M.y,M.z⟩
 | 2=>⟨M'.x,M'.y,M.z⟩
 | _+3=>M'
theorem Box.nth {w:World} {g:Nat} {a:V} {t:TypeId} (h:Box w g (vc a) t) {j:Nat} (hj:j<3):w.cell? ⟨g,j,none⟩=some (.int .i64 (a.nth j))∧w.frozen? ⟨g,j,none⟩=false:=by
 match j,hj with
 | 0,_=>exact ⟨h.cell 0,h.free 0⟩
 | 1,_=>exact ⟨h.cell 1,h.free 1⟩
 | 2,_=>exact ⟨h.cell 2,h.free 2⟩
theorem mTo_nth {M M':V} {j:Nat} (hj:j<3):(mTo M M' j).nth j=M.nth j:=by
 match j,hj with
 | 0,_=>rfl
 | 1,_=>rfl
 | 2,_=>rfl
theorem mTo_set {M M':V} {j:Nat} (hj:j<3):(vc (mTo M M' j)).setIfInBounds j (.int .i64 (M'.nth j))=vc (mTo M M' (j+1)):=by
 match j,hj with
 | 0,_=>rfl
 | 1,_=>rfl
 | 2,_=>rfl
theorem momV_nth (M:V) (n:Int) (a b d:V) (j:Nat):(momV M n a b d).nth j=M.nth j+n*(a.nth j+b.nth j+d.nth j):=by
 match j with
 | 0=>rfl
 | 1=>rfl
 | _+2=>rfl
theorem LeV.nth {k:Int} {a:V} (h:LeV k a) (j:Nat):Le k (a.nth j):=by
 match j with
 | 0=>exact h.1
 | 1=>exact h.2.1
 | _+2=>exact h.2.2
theorem ret_box1r {P:Program} {fn:Func} {R:Ending→World→Prop} {a:Act} {w:World} {p u:Tmp} {ty:TypeId} (h:fn.results=#[.tmp u,.cell p ty]) (g:Nat) {cs:Array Value} {t:TypeId}
  (hg:Box w g cs t) (d:TypeDesc) (hp:a.tmps.getD p undef=.pointer (some ⟨g,0,.none⟩)) (hu:P.underlying ty=some d)
  (hd:(match d with | .struct _ | .array _ _=>true | _=>false)=true) (hi:(P.info? ty).map (·.size)=some cs.size) (hdf:a.defers=[])
  (hR:R (.returned (.tuple #[a.tmps.getD u undef,.agg cs])) w) :
  bodyPost P fn R .ret a w:=by
 refine bodyPost_ret ?_ hdf hR;have e:a.tmps[p]?.getD undef=.pointer (some ⟨g,0,none⟩):=by simpa using hp
 simp [results,h,e,asAddr,run_loadVar_row w g t ty cs _ d hg hu hd hi]
end Dowel
namespace Go.Proofs.Υ
open Go.RowKit Dowel
theorem infoVs:(Tryz.prog.info? 46).map (·.size)=some 3:=by kernel_rfl
set_option maxRecDepth 20000 in
theorem rsix_any (a:Option Addr) (len cap:Nat) (P:Nat→V) (fv:Value) (fs:List PF) (base:Nat) (w:World) (hP:Pts w a len cap P) (hn:∀ i,i<len→LeV 128 (P i)) (hF:dC w base fv fs) (hfl:fs.length≤600000)
  (hr3:∀ r ∈ fs.map Prod.snd,2≤r.length∧r.length≤64∧∀ i ∈ r,i<len) :
  Calls Tryz.prog 33 #[.agg #[.slice a len cap],fv] w fun e w'=>(e=.returned (.tuple #[.int .i64 (kR P (fs.map Prod.snd)),.agg #[.int .i64 (pV P (fs.map Prod.snd)).x,.int .i64 (pV P (fs.map Prod.snd)).y,.int .i64 (pV P (fs.map Prod.snd)).z]])∧Le 600000000000000 (kR P (fs.map Prod.snd))∧LeV 200000000000000000 (pV P (fs.map Prod.snd)))∧Below w.heap.size w w':=by
 obtain ⟨W,hW,b1,b2,hB,hS⟩:=cP w #[.slice a len cap] #[.int .i64 0,.int .i64 0,.int .i64 0] 24 46;obtain ⟨fa,fc,rfl,hff⟩:=hF.ring;have HP:=η hP;have HFB:=η hB;have HNR:=η hn;obtain ⟨nf,hnf⟩:∃ nf,fs.length=nf:=⟨_,rfl⟩;obtain ⟨rs,hrs⟩:∃ rs,fs.map Prod.snd=rs:=⟨_,rfl⟩;have HNL:=η (show rs.length=nf from by rw [← hrs,List.length_map,hnf]);rw [hrs] at hff hr3 ⊢;rw [hnf] at hff hfl ⊢;have HFF:=η hff;have HR3:=η (show ∀ i,i<nf→2≤(rs.getD i []).length∧(rs.getD i []).length≤64∧∀ j,j<(rs.getD i []).length→(rs.getD i []).getD j 0<len from fun i hi=>by
  have hm:rs.getD i [] ∈ rs:=by
   have h:i<rs.length:=by rw [HNL.out];exact hi
   rw [show rs.getD i []=rs[i] by simp [h]];exact List.getElem_mem h
  obtain ⟨h1,h2,h3⟩:=hr3 _ hm;exact ⟨h1,h2,fun j hj=>h3 _ (ku hj)⟩)
 have HFL:=η hfl;have HB:=η hB;have HS:=η hS;have B1:=η b1;have B2:=η b2;clear hff hr3 hB hS b1 b2 hrs hnf hF hfl hP hn
 go_enter Tryz.func33,Tryz.ntmps33
 go_wp2_with fail
 go_loopw [4,6] (fun sv iv wr=>∃ (i:Nat) (s:Int) (M:V),sv=.int .i64 s∧i≤nf∧iv=.int .i64 (i:Nat)∧Hid (Acc P rs i 0 s M)∧Hid (Box wr w.heap.size #[.slice a len cap] 24)∧Hid (Box wr (w.heap.size+1) #[.int .i64 M.x,.int .i64 M.y,.int .i64 M.z] 46)∧Hid (Below w.heap.size w wr)∧Hid (w.heap.size+2≤wr.heap.size)) (fun _ iv _=>nf - (intOf iv).toNat)
 case atStart=>exact ⟨0,0,V.zero,rfl,Nat.zero_le _,rfl,Acc.start P rs,B1.out,B2.out,HB.out,by have:=HS.out;show w.heap.size+2≤W.heap.size;omega⟩
 case round =>
  clear B1 B2;obtain ⟨i,s,M,rfl,hi,rfl,HA,B1,B2,HR,HZ⟩:=hrel;obtain ⟨w1,rfl⟩:∃ w1,w1=wr:=⟨_,rfl⟩;by_cases h0:i=nf
  ·have hnl:¬ (i:Int)<(nf:Int):=ω
   have HBD:=η (HA.out.room (ψ HFL.out) ω);have HD:=η (Acc.done (P:=P) (rs:=rs) (s:=s) (M:=M) (by have h:=HA.out;rw [h0] at h;rw [HNL.out];exact h));obtain ⟨c0,c1,c2,f0,f1,f2⟩:=B2.out.three;clear h0
   go_wp2_with fail
   go_region
   go_wp2_with fail
   exact ret_box1r Tryz.results33 (w.heap.size+1) (B2.out.set3 (.int .i64 M.x) (.int .i64 M.y) (.int .i64 M.z)).drew _ rfl Tryz.underlying46 rfl infoVs rfl
    ⟨⟨by rw [← HD.out.1,← HD.out.2];rfl,by rw [← HD.out.1];exact HBD.out.1,by rw [← HD.out.2];exact HBD.out.2⟩,(db HR.out (Nat.le_succ _) _ _ _).drew⟩
  have hlt:(i:Int)<(nf:Int):=ω;have hil:i<nf:=ω;have HIL:=η hil;have hi6:i<600000:=by have:=HFL.out;omega
  clear h0;obtain ⟨fb,u,ua,uc,rfl,hfb,hcu,rfl,hown⟩:=HFF.out i hil;obtain ⟨h2,h64,hlt'⟩:=HR3.out i hil;have HRR:=η hlt';obtain ⟨pr,cr,hv,hcc⟩:=hown.cellAt;obtain ⟨r,hr⟩:∃ r,rs.getD i []=r:=⟨_,rfl⟩;rw [hr] at hv hcc h2 h64 HRR hcu;have HRI:=η hr;obtain ⟨rb,ro,e,hrb,hrc⟩:=hcc ω;rw [e] at hv;rw [hv] at hcu;obtain ⟨rl,hrl⟩:∃ rl,r.length=rl:=⟨_,rfl⟩;rw [hrl] at hcu h2 h64 HRR hrc;have HRL:=η hrl;have HRC:=η (show ∀ w',Below w.heap.size w w'→∀ j,j<rl→w'.cell? ⟨rb,ro+j,none⟩=some (.int .i64 ((r.getD j 0:Nat):Int)) from fun w' h j hj=>keepC (hrc j hj) h hrb);have qc:=keepC hcu HR.out hfb;clear hcc hrc hrl hr hv e hlt' hcu hown
  go_wp2_with fail
  clear qc
  go_loopw [4,8] (fun sv kv wr=>∃ (m kk:Nat) (s:Int) (M:V),sv=.int .i64 s∧kk=m+2∧kk≤rl∧kv=.int .i64 (kk:Nat)∧Hid (Acc P rs i m s M)∧Hid (Box wr w.heap.size #[.slice a len cap] 24)∧Hid (Box wr (w.heap.size+1) #[.int .i64 M.x,.int .i64 M.y,.int .i64 M.z] 46)∧Hid (Below w.heap.size w wr)∧Hid (w.heap.size+2≤wr.heap.size)) (fun _ kv _=>rl - (intOf kv).toNat)
  case atStart=>exact ⟨0,2,s,M,rfl,rfl,by omega,rfl,HA.out,B1.out,B2.out,HR.out,HZ.out⟩
  case round =>
   clear HA B1 B2 HR HZ;obtain ⟨m,kk,s,M,rfl,hkm,hk,rfl,HA,B1,B2,HR,HZ⟩:=hrel;obtain ⟨w5,rfl⟩:∃ w5,w5=wr:=⟨_,rfl⟩;by_cases h0:kk=rl
   ·have hnl:¬ (kk:Int)<(rl:Int):=ω
    have HD:=η (HA.out.row (by rw [HNL.out];exact HIL.out) (by rw [HRI.out,HRL.out];omega) ω);clear h0;go_wp2;go_round
    case rel=>exact ⟨i+1,s,M,rfl,HIL.out,rfl,HD.out,B1.out,B2.out,HR.out,HZ.out⟩
    case measure=>show nf - ((i:Int)+1).toNat<nf - (i:Int).toNat;have:=HIL.out;omega
   case neg =>
    have hlt2:(kk:Int)<(rl:Int):=ω;have hkl:kk<rl:=ω;have HKL:=η hkl;obtain ⟨k1,hk1⟩:∃ k1,m+1=k1:=⟨_,rfl⟩;have HKM:=η hkm;have HK1:=η hk1;have HKN:=η hkm;have hb0:=HRR.out 0 ω;have hb1:=HRR.out k1 ω;have hb2:=HRR.out kk ω;have hlen0:0<len:=ω;obtain ⟨b,off,rfl,hb,hc,hcc⟩:=HP.out.cells hlen0;obtain ⟨l0,e0⟩:∃ l0,r.getD 0 0=l0:=⟨_,rfl⟩;obtain ⟨l1,e1⟩:∃ l1,r.getD k1 0=l1:=⟨_,rfl⟩;obtain ⟨l2,e2⟩:∃ l2,r.getD kk 0=l2:=⟨_,rfl⟩;rw [e0] at hb0;rw [e1] at hb1;rw [e2] at hb2;have HRC:=η (show ∀ w',Below w5.heap.size w5 w'→w'.cell? ⟨rb,ro,none⟩=some (.int .i64 (l0:Nat))∧w'.cell? ⟨rb,ro+k1,none⟩=some (.int .i64 (l1:Nat))∧w'.cell? ⟨rb,ro+kk,none⟩=some (.int .i64 (l2:Nat)) from fun w' h=>by
     have h':=HR.out.trans (h.mono (ψ HZ.out));refine ⟨?_,?_,?_⟩
     ·have:=HRC.out w' h' 0 ω;rw [e0] at this;exact this
     ·have:=HRC.out w' h' k1 ω;rw [e1] at this;exact this
     ·have:=HRC.out w' h' kk ω;rw [e2] at this;exact this)
    have HPP:Hid (∀ j,j<len→∀ w',Below w5.heap.size w5 w'→w'.cell? ⟨b,off+j*3,none⟩=some (.int .i64 (P j).x)∧w'.cell? ⟨b,off+j*3+1,none⟩=some (.int .i64 (P j).y)∧w'.cell? ⟨b,off+j*3+2,none⟩=some (.int .i64 (P j).z)):=fun j hj w' h=>by
     have h':=HR.out.trans (h.mono (ψ HZ.out));obtain ⟨q0,q1,q2⟩:=hcc j hj;exact ⟨keepC q0 h' hb,keepC q1 h' hb,keepC q2 h' hb⟩
    have HpaC:=η (HPP.out l0 hb0);have HpbC:=η (HPP.out l1 hb1);have HpdC:=η (HPP.out l2 hb2);have hpa:=HNR.out l0 hb0;have hpb:=HNR.out l1 hb1;have hpd:=HNR.out l2 hb2;have hacc:=HA.out.next HRI.out (congrArg P e0) (congrArg P (show r.getD (m+1) 0=l1 by rw [hk1];exact e1)) (congrArg P (show r.getD (m+2) 0=l2 by rw [← hkm];exact e2)) hpa hpb hpd;have hroom:=HA.out.room ω ω;have hroom2:=hacc.room ω ω;obtain ⟨pa,ea⟩:∃ pa,P l0=pa:=⟨_,rfl⟩;obtain ⟨pb,eb⟩:∃ pb,P l1=pb:=⟨_,rfl⟩;obtain ⟨pd,ed⟩:∃ pd,P l2=pd:=⟨_,rfl⟩;rw [ea] at HpaC hpa hacc hroom2;rw [eb] at HpbC hpb hacc hroom2;rw [ed] at HpdC hpd hacc hroom2;have HDT:=η (fun v=>rdet_any pa pb pd 128 v hpa hpb hpd ω);have hdl:=det_le hpa hpb hpd;obtain ⟨n,hnn⟩:∃ n,V.dot pa (V.cross pb pd)=n:=⟨_,rfl⟩;rw [hnn] at HDT hacc hroom2 hdl;have HAN:=η hacc;have HRM:=η hroom;have HRM2:=η hroom2;have HDL:=η hdl;have HPA:=η hpa;have HPB:=η hpb;have HPD:=η hpd;have HpaI:=η (show (l0:Int)<(len:Int) by omega);have HpaN:=η hb0;have HpbI:=η (show (l1:Int)<(len:Int) by omega);have HpbN:=η hb1;have HpdI:=η (show (l2:Int)<(len:Int) by omega);have HpdN:=η hb2;have HKK:=η (show (kk:Int) - 1=(k1:Nat) by omega);have HKW:=η (show IntKind.i64.wrap (k1:Int)=(k1:Int) from IntWalk.i64_in _ ω);have HR0:=η (show (0:Int)<(rl:Int) by omega);have HR00:=η (show 0<rl by omega);have HR1:=η (show (k1:Int)<(rl:Int) by omega);have HR2:=η (show (kk:Int)<(rl:Int) by omega);have KC:=B1;clear hcc h0 hb0 hb1 hb2 hpa hpb hpd hacc hroom hroom2 hdl hnn ea eb ed e0 e1 e2 HPP hk1 hkm
    go_wp2_with fail
    refine wp_region_t ShV w5.heap.size 46 27 24 28 25 #[.int .i64 pa.x,.int .i64 pa.y,.int .i64 pa.z] #[.int .i64 pb.x,.int .i64 pb.y,.int .i64 pb.z] (rest:=1) [isV 0 (.pointer (some ⟨w.heap.size,0,none⟩)),isV 1 (.slice (some ⟨b,off,none⟩) len cap),isV 2 (.slice (some ⟨rb,ro,none⟩) rl cr),isV 3 (.pointer (some ⟨rb,ro,none⟩)),isV 4 (.int .i64 l0),isV 5 (.pointer (some ⟨b,off+l0*3,none⟩)),isV 6 (.agg #[.int .i64 pa.x,.int .i64 pa.y,.int .i64 pa.z]),isV 7 (.pointer (some ⟨w.heap.size,0,none⟩)),isV 8 (.slice (some ⟨b,off,none⟩) len cap),isV 9 (.slice (some ⟨rb,ro,none⟩) rl cr),isV 10 (.int .i64 kk),isV 11 (.int .i64 k1),isV 12 (.pointer (some ⟨rb,ro+k1,none⟩)),isV 13 (.int .i64 l1),isV 14 (.pointer (some ⟨b,off+l1*3,none⟩)),isV 15 (.agg #[.int .i64 pb.x,.int .i64 pb.y,.int .i64 pb.z]),isV 16 (.pointer (some ⟨w.heap.size,0,none⟩)),isV 17 (.slice (some ⟨b,off,none⟩) len cap),isV 18 (.slice (some ⟨rb,ro,none⟩) rl cr),isV 19 (.int .i64 kk),isV 20 (.pointer (some ⟨rb,ro+kk,none⟩)),isV 21 (.int .i64 l2),isV 22 (.pointer (some ⟨b,off+l2*3,none⟩)),isV 23 (.agg #[.int .i64 pd.x,.int .i64 pd.y,.int .i64 pd.z]),isP 24 (cd ShV w5.heap.size 46),isP 25 (cd ShV w5.heap.size 46),isP 26 (cd ShV w5.heap.size 46),isT 24 25 46 #[.int .i64 pa.x,.int .i64 pa.y,.int .i64 pa.z],isT 25 24 46 #[.int .i64 pb.x,.int .i64 pb.y,.int .i64 pb.z]] [24,25,26] ?A8 #[true,true,true,true,true,true,true,true,true,true,true,true,true,true,true,true,true,true,true,true,true,true,true,true,true,true,true,true,true,false] κ [0,1,2,3,4,5,6,7,8,9,10,11,12,13,14,15,16,17,18,19,20,21,22,23,24,25,26,27,28] κ κ κ κ κ κ rfl rfl ?st ?st2 ?hA ?hop ?hend
    case hA =>
     intro y;simp only [aS,cK,List.getElem?_toArray,List.getElem?_cons_zero,List.getElem?_cons_succ,Option.bind_some,Act.put,List.setIfInBounds_toArray,List.set_cons_zero,List.set_cons_succ];exact rfl
    case st=>exact ae.cons isV.stab (ae.cons isV.stab (ae.cons isV.stab (ae.cons isV.stab (ae.cons isV.stab (ae.cons isV.stab (ae.cons isV.stab (ae.cons isV.stab (ae.cons isV.stab (ae.cons isV.stab (ae.cons isV.stab (ae.cons isV.stab (ae.cons isV.stab (ae.cons isV.stab (ae.cons isV.stab (ae.cons isV.stab (ae.cons isV.stab (ae.cons isV.stab (ae.cons isV.stab (ae.cons isV.stab (ae.cons isV.stab (ae.cons isV.stab (ae.cons isV.stab (ae.cons isV.stab (ae.cons (isP.stab cd.stab) (ae.cons (isP.stab cd.stab) (ae.cons (isP.stab cd.stab) (ae.cons (isN.stab (i:=0)) (ae.cons (isN.stab (i:=0)) (ae.nil)))))))))))))))))))))))))))))
    case st2=>exact aq.cons isV.stabW (aq.cons isV.stabW (aq.cons isV.stabW (aq.cons isV.stabW (aq.cons isV.stabW (aq.cons isV.stabW (aq.cons isV.stabW (aq.cons isV.stabW (aq.cons isV.stabW (aq.cons isV.stabW (aq.cons isV.stabW (aq.cons isV.stabW (aq.cons isV.stabW (aq.cons isV.stabW (aq.cons isV.stabW (aq.cons isV.stabW (aq.cons isV.stabW (aq.cons isV.stabW (aq.cons isV.stabW (aq.cons isV.stabW (aq.cons isV.stabW (aq.cons isV.stabW (aq.cons isV.stabW (aq.cons isV.stabW (aq.cons (isP.stabW cd.stabW) (aq.cons (isP.stabW cd.stabW) (aq.cons (isP.stabW cd.stabW) (aq.cons (isN.stabW (i:=0)) (aq.cons (isN.stabW (i:=0)) (aq.nil)))))))))))))))))))))))))))))
    case hop =>
     refine bc.cons (i:=0) rfl (fun y w' hS hD K hK=>?_) ?_
     ·as_aux_lemma =>
      go_simp;exact hK.out _ w' hS (.inl β) isV.put δ
     refine bc.cons (i:=1) rfl (fun y w' hS hD K hK=>?_) ?_
     ·as_aux_lemma =>
      have e0:=isV.get (i:=0) (c:=.pointer (some ⟨w.heap.size,0,none⟩)) (hD 0 κ);have bx:=KC.out.below hS KC.out.lt;obtain ⟨c0,-⟩:=bx.one;simp only [e0] at hK ⊢;go_simp;exact hK.out _ w' hS (.inl β) isV.put δ
     refine bc.cons (i:=2) rfl (fun y w' hS hD K hK=>?_) ?_
     ·as_aux_lemma =>
      go_simp;exact hK.out _ w' hS (.inl β) isV.put δ
     refine bc.cons (i:=3) rfl (fun y w' hS hD K hK=>?_) ?_
     ·as_aux_lemma =>
      have e2:=isV.get (i:=2) (c:=.slice (some ⟨rb,ro,none⟩) rl cr) (hD 2 κ);have hr0:=HR0.out;have hr00:=HR00.out;simp only [e2] at hK ⊢;go_simp;exact hK.out _ w' hS (.inl β) isV.put δ
     refine bc.cons (i:=4) rfl (fun y w' hS hD K hK=>?_) ?_
     ·as_aux_lemma =>
      have e3:=isV.get (i:=3) (c:=.pointer (some ⟨rb,ro,none⟩)) (hD 3 κ);obtain ⟨q0,q1,q2⟩:=HRC.out w' hS;simp only [e3] at hK ⊢;go_simp;exact hK.out _ w' hS (.inl β) isV.put δ
     refine bc.cons (i:=5) rfl (fun y w' hS hD K hK=>?_) ?_
     ·as_aux_lemma =>
      have e1:=isV.get (i:=1) (c:=.slice (some ⟨b,off,none⟩) len cap) (hD 1 κ);have e4:=isV.get (i:=4) (c:=.int .i64 l0) (hD 4 κ);have hvl:=HpaI.out;have hvn:=HpaN.out;simp only [e1,e4] at hK ⊢;go_simp;exact hK.out _ w' hS (.inl β) isV.put δ
     refine bc.cons (i:=6) rfl (fun y w' hS hD K hK=>?_) ?_
     ·as_aux_lemma =>
      have e5:=isV.get (i:=5) (c:=.pointer (some ⟨b,off+l0*3,none⟩)) (hD 5 κ);obtain ⟨c0,c1,c2⟩:=HpaC.out w' hS;simp only [e5] at hK ⊢;go_simp;exact hK.out _ w' hS (.inl β) isV.put δ
     refine bc.cons (i:=7) rfl (fun y w' hS hD K hK=>?_) ?_
     ·as_aux_lemma =>
      go_simp;exact hK.out _ w' hS (.inl β) isV.put δ
     refine bc.cons (i:=8) rfl (fun y w' hS hD K hK=>?_) ?_
     ·as_aux_lemma =>
      have e7:=isV.get (i:=7) (c:=.pointer (some ⟨w.heap.size,0,none⟩)) (hD 7 κ);have bx:=KC.out.below hS KC.out.lt;obtain ⟨c0,-⟩:=bx.one;simp only [e7] at hK ⊢;go_simp;exact hK.out _ w' hS (.inl β) isV.put δ
     refine bc.cons (i:=9) rfl (fun y w' hS hD K hK=>?_) ?_
     ·as_aux_lemma =>
      go_simp;exact hK.out _ w' hS (.inl β) isV.put δ
     refine bc.cons (i:=10) rfl (fun y w' hS hD K hK=>?_) ?_
     ·as_aux_lemma =>
      go_simp;exact hK.out _ w' hS (.inl β) isV.put δ
     refine bc.cons (i:=11) rfl (fun y w' hS hD K hK=>?_) ?_
     ·as_aux_lemma =>
      have e10:=isV.get (i:=10) (c:=.int .i64 kk) (hD 10 κ);have ek:=HKK.out;have wz:=HKW.out;simp only [e10] at hK ⊢;go_simp;exact hK.out _ w' hS (.inl β) isV.put δ
     refine bc.cons (i:=12) rfl (fun y w' hS hD K hK=>?_) ?_
     ·as_aux_lemma =>
      have e9:=isV.get (i:=9) (c:=.slice (some ⟨rb,ro,none⟩) rl cr) (hD 9 κ);have e11:=isV.get (i:=11) (c:=.int .i64 k1) (hD 11 κ);have hr1:=HR1.out;simp only [e9,e11] at hK ⊢;go_simp;exact hK.out _ w' hS (.inl β) isV.put δ
     refine bc.cons (i:=13) rfl (fun y w' hS hD K hK=>?_) ?_
     ·as_aux_lemma =>
      have e12:=isV.get (i:=12) (c:=.pointer (some ⟨rb,ro+k1,none⟩)) (hD 12 κ);obtain ⟨q0,q1,q2⟩:=HRC.out w' hS;simp only [e12] at hK ⊢;go_simp;exact hK.out _ w' hS (.inl β) isV.put δ
     refine bc.cons (i:=14) rfl (fun y w' hS hD K hK=>?_) ?_
     ·as_aux_lemma =>
      have e8:=isV.get (i:=8) (c:=.slice (some ⟨b,off,none⟩) len cap) (hD 8 κ);have e13:=isV.get (i:=13) (c:=.int .i64 l1) (hD 13 κ);have hvl:=HpbI.out;have hvn:=HpbN.out;simp only [e8,e13] at hK ⊢;go_simp;exact hK.out _ w' hS (.inl β) isV.put δ
     refine bc.cons (i:=15) rfl (fun y w' hS hD K hK=>?_) ?_
     ·as_aux_lemma =>
      have e14:=isV.get (i:=14) (c:=.pointer (some ⟨b,off+l1*3,none⟩)) (hD 14 κ);obtain ⟨c0,c1,c2⟩:=HpbC.out w' hS;simp only [e14] at hK ⊢;go_simp;exact hK.out _ w' hS (.inl β) isV.put δ
     refine bc.cons (i:=16) rfl (fun y w' hS hD K hK=>?_) ?_
     ·as_aux_lemma =>
      go_simp;exact hK.out _ w' hS (.inl β) isV.put δ
     refine bc.cons (i:=17) rfl (fun y w' hS hD K hK=>?_) ?_
     ·as_aux_lemma =>
      have e16:=isV.get (i:=16) (c:=.pointer (some ⟨w.heap.size,0,none⟩)) (hD 16 κ);have bx:=KC.out.below hS KC.out.lt;obtain ⟨c0,-⟩:=bx.one;simp only [e16] at hK ⊢;go_simp;exact hK.out _ w' hS (.inl β) isV.put δ
     refine bc.cons (i:=18) rfl (fun y w' hS hD K hK=>?_) ?_
     ·as_aux_lemma =>
      go_simp;exact hK.out _ w' hS (.inl β) isV.put δ
     refine bc.cons (i:=19) rfl (fun y w' hS hD K hK=>?_) ?_
     ·as_aux_lemma =>
      go_simp;exact hK.out _ w' hS (.inl β) isV.put δ
     refine bc.cons (i:=20) rfl (fun y w' hS hD K hK=>?_) ?_
     ·as_aux_lemma =>
      have e18:=isV.get (i:=18) (c:=.slice (some ⟨rb,ro,none⟩) rl cr) (hD 18 κ);have e19:=isV.get (i:=19) (c:=.int .i64 kk) (hD 19 κ);have hr2:=HR2.out;simp only [e18,e19] at hK ⊢;go_simp;exact hK.out _ w' hS (.inl β) isV.put δ
     refine bc.cons (i:=21) rfl (fun y w' hS hD K hK=>?_) ?_
     ·as_aux_lemma =>
      have e20:=isV.get (i:=20) (c:=.pointer (some ⟨rb,ro+kk,none⟩)) (hD 20 κ);obtain ⟨q0,q1,q2⟩:=HRC.out w' hS;simp only [e20] at hK ⊢;go_simp;exact hK.out _ w' hS (.inl β) isV.put δ
     refine bc.cons (i:=22) rfl (fun y w' hS hD K hK=>?_) ?_
     ·as_aux_lemma =>
      have e17:=isV.get (i:=17) (c:=.slice (some ⟨b,off,none⟩) len cap) (hD 17 κ);have e21:=isV.get (i:=21) (c:=.int .i64 l2) (hD 21 κ);have hvl:=HpdI.out;have hvn:=HpdN.out;simp only [e17,e21] at hK ⊢;go_simp;exact hK.out _ w' hS (.inl β) isV.put δ
     refine bc.cons (i:=23) rfl (fun y w' hS hD K hK=>?_) ?_
     ·as_aux_lemma =>
      have e22:=isV.get (i:=22) (c:=.pointer (some ⟨b,off+l2*3,none⟩)) (hD 22 κ);obtain ⟨c0,c1,c2⟩:=HpdC.out w' hS;simp only [e22] at hK ⊢;go_simp;exact hK.out _ w' hS (.inl β) isV.put δ
     refine bc.cons (i:=24) rfl (fun y w' hS hD K hK=>?_) ?_
     ·as_aux_lemma =>
      go_simp;exact hK.out _ _ (hS.alloc hS.size _) (.inl (β.alloc ρ _)) (isP.put ⟨_,_,rfl,hS.size,⟨0,0,0,rfl⟩,Box.new _ _ _ _ rfl⟩) (fun _ j hj hne hr=>by
    have hj':j=24∨j=25∨j=26:=by simpa using hj
    rcases hj' with rfl | rfl | rfl
    ·exact absurd rfl hne
    ·obtain ⟨g,_,e,h1,_,h2⟩:=isP.get (i:=25) (p:=cd ShV w5.heap.size 46) hr
     rw [e];intro h;cases h;exact absurd h2.lt (Nat.lt_irrefl _)
    ·obtain ⟨g,_,e,h1,_,h2⟩:=isP.get (i:=26) (p:=cd ShV w5.heap.size 46) hr
     rw [e];intro h;cases h;exact absurd h2.lt (Nat.lt_irrefl _))
     refine bc.cons (i:=25) rfl (fun y w' hS hD K hK=>?_) ?_
     ·as_aux_lemma =>
      go_simp;exact hK.out _ _ (hS.alloc hS.size _) (.inl (β.alloc ρ _)) (isP.put ⟨_,_,rfl,hS.size,⟨0,0,0,rfl⟩,Box.new _ _ _ _ rfl⟩) (fun _ j hj hne hr=>by
    have hj':j=24∨j=25∨j=26:=by simpa using hj
    rcases hj' with rfl | rfl | rfl
    ·obtain ⟨g,_,e,h1,_,h2⟩:=isP.get (i:=24) (p:=cd ShV w5.heap.size 46) hr
     rw [e];intro h;cases h;exact absurd h2.lt (Nat.lt_irrefl _)
    ·exact absurd rfl hne
    ·obtain ⟨g,_,e,h1,_,h2⟩:=isP.get (i:=26) (p:=cd ShV w5.heap.size 46) hr
     rw [e];intro h;cases h;exact absurd h2.lt (Nat.lt_irrefl _))
     refine bc.cons (i:=26) rfl (fun y w' hS hD K hK=>?_) ?_
     ·as_aux_lemma =>
      go_simp;exact hK.out _ _ (hS.alloc hS.size _) (.inl (β.alloc ρ _)) (isP.put ⟨_,_,rfl,hS.size,⟨0,0,0,rfl⟩,Box.new _ _ _ _ rfl⟩) (fun _ j hj hne hr=>by
    have hj':j=24∨j=25∨j=26:=by simpa using hj
    rcases hj' with rfl | rfl | rfl
    ·obtain ⟨g,_,e,h1,_,h2⟩:=isP.get (i:=24) (p:=cd ShV w5.heap.size 46) hr
     rw [e];intro h;cases h;exact absurd h2.lt (Nat.lt_irrefl _)
    ·obtain ⟨g,_,e,h1,_,h2⟩:=isP.get (i:=25) (p:=cd ShV w5.heap.size 46) hr
     rw [e];intro h;cases h;exact absurd h2.lt (Nat.lt_irrefl _)
    ·exact absurd rfl hne)
     refine bc.cons (i:=27) rfl (fun y w' hS hD K hK=>?_) ?_
     ·as_aux_lemma =>
      have e6:=isV.get (i:=6) (c:=.agg #[.int .i64 pa.x,.int .i64 pa.y,.int .i64 pa.z]) (hD 6 κ);obtain ⟨ga,_,ea,hga,⟨x,y',z,rfl⟩,bga⟩:=isP.get (i:=24) (p:=cd ShV w5.heap.size 46) (hD 24 κ);obtain ⟨gb,_,eb,hgb,-,bgb⟩:=isP.get (i:=25) (p:=cd ShV w5.heap.size 46) (hD 25 κ);simp only [e6,ea,eb] at hK ⊢;obtain ⟨c0,c1,c2,f0,f1,f2⟩:=bga.three;go_simp;exact hK.out undef (kf w' ga pa) (fP hS hga _) (.inr (.inl ⟨rfl,ga,ea,wrG_put3 hga bga pa⟩)) (isT.put ⟨by decide,by decide⟩ ea eb (bga.s3 _)) δ
     refine bc.cons (i:=28) rfl (fun y w' hS hD K hK=>?_) ?_
     ·as_aux_lemma =>
      have e15:=isV.get (i:=15) (c:=.agg #[.int .i64 pb.x,.int .i64 pb.y,.int .i64 pb.z]) (hD 15 κ);obtain ⟨ga,_,ea,hga,⟨x,y',z,rfl⟩,bga⟩:=isP.get (i:=25) (p:=cd ShV w5.heap.size 46) (hD 25 κ);obtain ⟨gb,_,eb,hgb,-,bgb⟩:=isP.get (i:=24) (p:=cd ShV w5.heap.size 46) (hD 24 κ);simp only [e15,ea,eb] at hK ⊢;obtain ⟨c0,c1,c2,f0,f1,f2⟩:=bga.three;go_simp;exact hK.out undef (kf w' ga pb) (fP hS hga _) (.inr (.inr ⟨rfl,ga,ea,wrG_put3 hga bga pb⟩)) (isT.put ⟨by decide,by decide⟩ ea eb (bga.s3 _)) δ
     exact bc.nil
    case hend =>
     intro y w' hS hR hF;obtain ⟨ga,_,ega,hga,⟨xga,yga,zga,rfl⟩,bga⟩:=isP.get (i:=24) (p:=cd ShV w5.heap.size 46) (hR 24 κ);obtain ⟨gb,_,egb,hgb,⟨xgb,ygb,zgb,rfl⟩,bgb⟩:=isP.get (i:=25) (p:=cd ShV w5.heap.size 46) (hR 25 κ);obtain ⟨gd,_,egd,hgd,⟨xgd,ygd,zgd,rfl⟩,bgd⟩:=isP.get (i:=26) (p:=cd ShV w5.heap.size 46) (hR 26 κ);have ev:y 23=.agg #[.int .i64 pd.x,.int .i64 pd.y,.int .i64 pd.z]:=isV.get (i:=23) (c:=.agg #[.int .i64 pd.x,.int .i64 pd.y,.int .i64 pd.z]) (hR 23 κ);have nab:ga≠gb:=ne_ptr ega egb (hF 24 ν 25 ν κ κ ν);have nad:ga≠gd:=ne_ptr ega egd (hF 24 ν 26 ν κ κ ν);have nbd:gb≠gd:=ne_ptr egb egd (hF 25 ν 26 ν κ κ ν);have ba:=isT.get ega egb nab (hR 27 κ);have bb:=isT.get egb ega nab.symm (hR 28 κ);simp only [ega,egb,egd,ev];obtain ⟨c0,c1,c2,f0,f1,f2⟩:=bgd.three;refine bR (i:=29) (listed2:=#[true,true,true,true,true,true,true,true,true,true,true,true,true,true,true,true,true,true,true,true,true,true,true,true,true,true,true,true,true,true]) κ rfl κ (fun K hK=>?_);go_simp;refine hK.out _ _ ?_;clear hK K;refine bm κ ?_;clear c0 c1 c2 f0 f1 f2;change Exit.then _ _ _ _ (kf w' gd pd);have H6:=η (fP hS hgd pd);have BA:=η (ba.other3 nad (.int .i64 pd.x) (.int .i64 pd.y) (.int .i64 pd.z));have BB:=η (bb.other3 nbd (.int .i64 pd.x) (.int .i64 pd.y) (.int .i64 pd.z));have BD:=η (bgd.s3 pd);have NAB:=η nab;have NAD:=η nad;have NBD:=η nbd;have HGA:=η hga;have HGB:=η hgb;have HGD:=η hgd;change Hid (Box (kf w' gd pd) ga _ _) at BA;change Hid (Box (kf w' gd pd) gb _ _) at BB;generalize kf w' gd pd=w6 at *;clear hS hR hF ev ega egb egd bga bgb bgd ba bb nab nad nbd hga hgb hgd;have hB1:=η (B1.out.below H6.out B1.out.lt);have hB2:=η (B2.out.below H6.out B2.out.lt);have HR6:=η (HR.out.trans (H6.out.mono (ψ HZ.out)));obtain ⟨a0,a1,a2,-⟩:=BA.out.three;obtain ⟨b0,b1,b2,-⟩:=BB.out.three;obtain ⟨d0,d1,d2,-⟩:=BD.out.three;clear HpaC HpbC HpdC HRC KC B1 B2 HKK HKW
     go_wp2_with fail
     refine (HDT.out w6).mono ?_;rintro e w7 ⟨rfl,hb7⟩;have hZ6:=η (show w.heap.size+2≤w6.heap.size from Nat.le_trans HZ.out H6.out.size);have C0:=η (hB1.out.below hb7 hB1.out.lt);have BM0:=η (hB2.out.below hb7 hB2.out.lt);have BA0:=η (BA.out.below hb7 BA.out.lt);have BB0:=η (BB.out.below hb7 BB.out.lt);have BD0:=η (BD.out.below hb7 BD.out.lt);have R0:=η (HR6.out.trans (hb7.mono (ψ hZ6.out)));have Z0:=η (show w.heap.size+2≤w7.heap.size from Nat.le_trans hZ6.out hb7.size);obtain ⟨rs1,rs2⟩:=HRM2.out.1;clear hb7 a0 a1 a2 b0 b1 b2 d0 d1 d2 BA BB BD hB1 hB2 HR6 H6 HDT;have hws:wrap64 (s+n)=s+n:=IntWalk.wrap64_in _ ⟨by omega,by omega⟩
     go_wp2_with fail
     clear hws rs1 rs2;have NA:=η (show ga≠w.heap.size+1 by have:=HGA.out;have:=HZ.out;omega);have NB:=η (show gb≠w.heap.size+1 by have:=HGB.out;have:=HZ.out;omega);have ND:=η (show gd≠w.heap.size+1 by have:=HGD.out;have:=HZ.out;omega);obtain ⟨M',hM'⟩:∃ M',momV M n pa pb pd=M':=⟨_,rfl⟩;have HMV:=η (fun (j:Nat)=>(congrArg (fun u:V=>u.nth j) hM'.symm).trans (momV_nth M n pa pb pd j));rw [hM'] at HAN;have HSN:=η HAN.out;clear hM' HAN HKM HA HRM2
     go_loopw [13] (fun jv wr=>∃ (j:Nat),j≤3∧jv=.int .i64 (j:Nat)∧Hid (Box wr w.heap.size #[.slice (some ⟨b,off,none⟩) len cap] 24)∧Hid (Box wr (w.heap.size+1) (vc (mTo M M' j)) 46)∧Hid (Box wr ga (vc pa) 46)∧Hid (Box wr gb (vc pb) 46)∧Hid (Box wr gd (vc pd) 46)∧Hid (Below w.heap.size w wr)∧Hid (w.heap.size+2≤wr.heap.size)) (fun jv _=>3 - (intOf jv).toNat)
     case atStart=>exact ⟨0,by omega,rfl,C0.out,BM0.out,BA0.out,BB0.out,BD0.out,R0.out,Z0.out⟩
     case round =>
      clear C0 BM0 BA0 BB0 BD0 R0 Z0;obtain ⟨j,hj,rfl,C,BM,BA,BB,BD,R,Z⟩:=hrel;obtain ⟨wj,rfl⟩:∃ wj,wj=wr:=⟨_,rfl⟩;by_cases h3:j=3
      ·have hn3:¬ (j:Int)<3:=ω
       have BM3:=η (show Box wj (w.heap.size+1) (vc M') 46 from by have:=BM.out;rw [h3] at this;exact this);clear h3;go_wp2;go_round
       case rel=>exact ⟨m+1,kk+1,s+n,M',rfl,by have:=HKN.out;omega,HKL.out,rfl,HSN.out,C.out,BM3.out,R.out,Z.out⟩
       case measure=>show rl - ((kk:Int)+1).toNat<rl - (kk:Int).toNat;have:=HKL.out;omega
      ·have hl3:(j:Int)<3:=ω
       have hj3:j<3:=ω;have HJ3:=η hj3;obtain ⟨q1,q2,q3,q4⟩:=mom_wraps HDL.out (HPA.out.nth j) (HPB.out.nth j) (HPD.out.nth j) (HRM.out.2.nth j);have hmj:=HMV.out j;obtain ⟨a0,-⟩:=BA.out.nth hj3;obtain ⟨b0,-⟩:=BB.out.nth hj3;obtain ⟨d0,-⟩:=BD.out.nth hj3;obtain ⟨m0,m1⟩:=BM.out.nth hj3;rw [mTo_nth hj3] at m0;replace q4:=q4.trans hmj.symm;obtain ⟨xa,ea⟩:∃ xa,pa.nth j=xa:=⟨_,rfl⟩;obtain ⟨xb,eb⟩:∃ xb,pb.nth j=xb:=⟨_,rfl⟩;obtain ⟨xd,ed⟩:∃ xd,pd.nth j=xd:=⟨_,rfl⟩;obtain ⟨xm,em⟩:∃ xm,M.nth j=xm:=⟨_,rfl⟩;rw [ea] at a0 q1 q2 q3 q4;rw [eb] at b0 q1 q2 q3 q4;rw [ed] at d0 q2 q3 q4;rw [em] at m0 q4;clear ea eb ed em h3 hmj;obtain ⟨y,hy⟩:∃ y,M'.nth j=y:=⟨_,rfl⟩;rw [hy] at q4;have HY:=η hy;clear hy
       go_wp2_with fail
       go_region;clear q1 q2 q3 q4 a0 b0 d0 m0 m1
       go_wp2;go_round
       case rel =>
        exact ⟨j+1,by have:=HJ3.out;omega,rfl,(C.out.other (p:=⟨w.heap.size+1,j,none⟩) (Nat.ne_of_lt (Nat.lt_succ_self _)) _).drew,
         by have h:=(BM.out.set j (.int .i64 y)).drew;rw [← HY.out,mTo_set HJ3.out] at h;rw [← HY.out];exact h,
         (BA.out.other (p:=⟨w.heap.size+1,j,none⟩) NA.out _).drew,(BB.out.other (p:=⟨w.heap.size+1,j,none⟩) NB.out _).drew,(BD.out.other (p:=⟨w.heap.size+1,j,none⟩) ND.out _).drew,
         (R.out.setCell (p:=⟨w.heap.size+1,j,none⟩) (Nat.le_succ _) _).drew,Nat.le_trans Z.out ((Below.refl w.heap.size _).setCell (p:=⟨w.heap.size+1,j,none⟩) (Nat.le_succ _) _).size⟩
       case measure=>show 3 - ((j:Int)+1).toNat<3 - (j:Int).toNat;have:=HJ3.out;omega
end Go.Proofs.Υ
end
