/- Package cell: Directions. Printed by gen/cdirs.py. -/
import Derived.Test.YtaibkpbklfodiaaGreatDoorP32
import Derived.Test.YtaibkpbklfodiaaGreatDoorP37
import Derived.Test.YtaibkpbklfodiaaGreatDoorP38
set_option linter.all false
set_option maxHeartbeats 100000000
section
namespace Dowel
open V Go Go.RowKit Go.Proofs.Υ
theorem nN (x y:Int):eQ (x:Rat) (y:Rat)=if x<y then -1 else if y<x then 1 else 0:=by
 unfold eQ;simp only [Rat.intCast_lt_intCast]
theorem iZ {a b:V}:fe (ptQ a) (ptQ b)<0↔Lex a b:=by
 unfold fe ptQ Lex;dsimp only;rw [nN,nN,nN]
 repeat' split
 all_goals omega
theorem ptQ_inj {a b:V}:ptQ a=ptQ b↔a=b:=by
 constructor
 ·intro h
  have h1:=congrArg Q3.x h;have h2:=congrArg Q3.y h;have h3:=congrArg Q3.z h;unfold ptQ at h1 h2 h3;dsimp only at h1 h2 h3;exact V.ext' (by exact_mod_cast h1) (by exact_mod_cast h2) (by exact_mod_cast h3)
 ·rintro rfl;rfl
theorem qneg_pt (p:V):(⟨-(ptQ p).x,-(ptQ p).y,-(ptQ p).z⟩:Q3)=ptQ (V.zero - p):=by
 unfold ptQ V.zero;simp only [sub_x,sub_y,sub_z,Int.zero_sub,Rat.intCast_neg]
theorem ptQ_zero:ptQ V.zero=⟨0,0,0⟩:=rfl
theorem dirV_lex {p:V} (h:Lex p V.zero):oA p=V.zero - p:=if_pos h
theorem dirV_not {p:V} (h:¬ Lex p V.zero):oA p=p:=if_neg h
theorem qh {k:Int} {p:V} (h:LeV k p):LeV k (oA p):=by
 unfold oA
 split
 ·unfold LeV Le V.zero at *;simp only [sub_x,sub_y,sub_z];omega
 ·exact h
theorem edCells_len (e:ED):(cC e).length=4:=rfl
theorem VRow.ins {w w':World} {base:Nat} {v v':Value} {qs:List Q3} {rs:List (RC × RC × RC)} (h:VRow w base v qs rs) {r:RC × RC × RC} {q:Q3} (hq:aA w (.agg (ai r.1 r.2.1 r.2.2)) q) {i:Nat} (hi:i≤rs.length)
  (hown:w'.ownsRow base 58 12 v' (rs.length+1) ((rs.flatMap bq).take (i*12) ++ bq r ++ (rs.flatMap bq).drop (i*12))) (hg:w.grownBy w' v.ownBlock):VRow w' base v' (qs.take i ++ q :: qs.drop i) (rs.take i ++ r :: rs.drop i):=by
 have hr:=kX h.own ν;have hl:=h.len;refine ⟨?_,by simp only [List.length_append,List.length_cons,List.length_take,List.length_drop];omega,fun j r' q' h1 h2=>?_⟩
 ·rw [List.flatMap_append,List.flatMap_cons,jr fA,lc fA,← List.append_assoc,
   show (rs.take i ++ r :: rs.drop i).length=rs.length+1 by simp only [List.length_append,List.length_cons,List.length_take,List.length_drop];omega]
  exact hown
 ·by_cases hj:j<i
  ·rw [List.getElem?_append_left (by rw [List.length_take];omega),List.getElem?_take_of_lt hj] at h1 h2
   exact (h.vec j r' q' h1 h2).grown hg hr
  ·rw [List.getElem?_append_right (by rw [List.length_take];omega),List.length_take] at h1 h2
   rw [show min i rs.length=i by omega] at h1;rw [show min i qs.length=i by omega] at h2;by_cases e:j=i
   ·subst e
    rw [Nat.sub_self] at h1 h2;cases h1;cases h2;exact hq.grown hg hr
   ·obtain ⟨m,hm⟩:∃ m,j - i=m+1:=⟨j - i - 1,by omega⟩
    rw [hm,List.getElem?_cons_succ,List.getElem?_drop] at h1 h2;exact (h.vec _ r' q' h1 h2).grown hg hr
theorem dQ {w:World} {g i:Nat} {cur cs:Array Value} {t:TypeId} (hb:Box w g cur t) (v:Value):(w.setRow g cs).setCell ⟨g,i,none⟩ v=w.setRow g (cs.setIfInBounds i v):=by
 rw [setCell_eq_setRow (w.setRow g cs) g i cs t (0,0) v (setRow_heap w g cur cs t (0,0) hb),setRow_setRow]
theorem mZ {w:World} {g o:Nat} {cur cs:Array Value} {t:TypeId} (hb:Box w g cur t) (r:RC):∃ X,Dowel.put4 (w.setRow g cs) g o r=w.setRow g X:=by
 unfold Dowel.put4;rw [dQ hb,dQ hb,dQ hb,dQ hb];exact ⟨_,rfl⟩
theorem oM {w:World} {g:Nat} {r0 r1 r2:RC} {t:TypeId} (hb:Box w g (ai r0 r1 r2) t) (a b c:RC):Dowel.put12 w g a b c=w.setRow g (ai a b c):=by
 have key:∃ X,Dowel.put12 w g a b c=w.setRow g X:=by
  obtain ⟨X0,e0⟩:=mZ (cs:=ai r0 r1 r2) (o:=0) hb a;obtain ⟨X1,e1⟩:=mZ (cs:=X0) (o:=4) hb b;obtain ⟨X2,e2⟩:=mZ (cs:=X1) (o:=8) hb c;rw [setRow_self w g _ t (0,0) hb] at e0;refine ⟨X2,?_⟩;unfold Dowel.put12;rw [e0,e1,e2]
 obtain ⟨X,e⟩:=key;have h1:(Dowel.put12 w g a b c).heap[g]?=some (.cells (ai a b c) t (0,0)):=hb.s12 a b c;rw [e,setRow_heap w g _ X t (0,0) hb] at h1;injection h1 with h1
 injection h1 with h1
 rw [e,h1]
theorem VRow.put12 {w:World} {base:Nat} {v:Value} {qs:List Q3} {rs:List (RC × RC × RC)} (h:VRow w base v qs rs) {g:Nat} {cs:Array Value} {t:TypeId} (hb:Box w g cs t) (ht:t≠191) (hne:v.ownBlock≠some g) (a b c:RC):VRow (Dowel.put12 w g a b c) base v qs rs:=
 h.other (fY w g a b c) (gX hb ht) (.inr hne)
def RetVRow (base:Nat) (w:World) (e:Ending) (qs:List Q3):Prop:=∃ v rs,e=.returned v∧VRow w base v qs rs
structure DirS (W wx:World) (g:Nat) (D0 D1 D2:RC) (q:Q3) (ov:Value) (qs:List Q3) (rs:List (RC × RC × RC)):Prop where
 b:Box wx g (ai D0 D1 D2) 58
 v:aA wx (.agg (ai D0 D1 D2)) q
 r:VRow wx W.heap.size ov qs rs
 l:Below W.heap.size W wx
 g0:W.heap.size≤g
 ne:ov.ownBlock≠some g
section
variable {W wx wx' : World} {g : Nat} {D0 D1 D2 E0 E1 E2 : RC} {q q' : Q3} {ov : Value} {qs : List Q3} {rs : List (RC × RC × RC)}
theorem DirS.below (h:DirS W wx g D0 D1 D2 q ov qs rs) (hb:Below wx.heap.size wx wx'):DirS W wx' g D0 D1 D2 q ov qs rs:=
 ⟨h.b.below hb h.b.lt,h.v.below hb,h.r.below hb,ac h.l hb ρ,h.g0,h.ne⟩
theorem DirS.put (h:DirS W wx g D0 D1 D2 q ov qs rs) (hv:aA wx (.agg (ai E0 E1 E2)) q'):DirS W (Dowel.put12 wx g E0 E1 E2) g E0 E1 E2 q' ov qs rs:=
 ⟨h.b.s12 _ _ _,hv.put12 h.b _ _ _,h.r.put12 h.b ν h.ne _ _ _,aX h.l h.g0 _ _ _,h.g0,h.ne⟩
end
theorem takeV_same {DQ:Nat→V} {k i:Nat} {q:V} (hq:DQ k=q) {L:List V} (hL:bh DQ (fun _=>true) k=L) (h1:∀ j,j<i→Lex (L.getD j V.zero) q) (hi:i<L.length) (he:L.getD i V.zero=q):bh DQ (fun _=>true) (k+1)=L:=by
 show (if _ then _ else _)=L;rw [if_pos rfl,hL,hq,fx q L i ω h1 (fun _=>by rw [he];exact Lex.irrefl _),if_pos ⟨hi,he⟩]
theorem takeV_ins {DQ:Nat→V} {k i:Nat} {q:V} (hq:DQ k=q) {L:List V} (hL:bh DQ (fun _=>true) k=L) (hi:i≤L.length) (h1:∀ j,j<i→Lex (L.getD j V.zero) q) (h2:i<L.length→¬ Lex (L.getD i V.zero) q) (hne:¬ (i<L.length∧L.getD i V.zero=q)) :
  bh DQ (fun _=>true) (k+1)=L.take i ++ q :: L.drop i:=by
 show (if _ then _ else _)=_;rw [if_pos rfl,hL,hq,fx q L i hi h1 h2,if_neg hne]
theorem h8 {L:List V} {i:Nat} (h:i<L.length):qAt (L.map ptQ) i=ptQ (L.getD i V.zero):=by
 unfold qAt;rw [List.getD_eq_getElem?_getD,List.getElem?_map,List.getD_eq_getElem?_getD,List.getElem?_eq_getElem h];rfl
theorem pair_getD {L:List V} (h:L.Pairwise Lex) {i j:Nat} (hij:i<j) (hj:j<L.length):Lex (L.getD i V.zero) (L.getD j V.zero):=by
 rw [List.pairwise_iff_getElem] at h;rw [show L.getD i V.zero=L[i] by simp [show i<L.length by omega],show L.getD j V.zero=L[j] by simp [hj]];exact h i j ω hj hij
end Dowel
namespace Go.Proofs.Υ
open Go.RowKit Dowel
theorem infoEd4:(Tryz.prog.info? 96).map (·.size)=some 4:=by kernel_rfl
set_option maxRecDepth 100000 in
theorem cdirs_any (P:Nat→V) (len base:Nat) (w:World) (v0 v1 v2:Value) (fs:List RF) (E:Nat) (vrs:List (RC × RC × RC)) (frs:List FR) (es:List ED) (hSP:ShapeOk P len base w v0 v1 v2 fs E vrs frs es) (hlen:len≤64) (hnr:∀ i,i<len→LeV 4096 (P i))
  (hes:∀ e ∈ es,e.a<len∧e.b<len∧P e.b≠P e.a) (hel:es.length≤4096) :
  Calls Tryz.prog 34 #[.agg #[v0,v1,v2]] w fun e w'=>RetVRow w.heap.size w' e ((dirsC P es).map ptQ)∧Below w.heap.size w w':=by
 obtain ⟨⟨pv,cv,rfl⟩,⟨pf',cf,rfl⟩,⟨pe,ce,rfl⟩⟩:=hSP.forms;obtain ⟨ne,hne⟩:∃ ne,es.length=ne:=⟨_,rfl⟩;obtain ⟨nf,hnf⟩:∃ nf,frs.length=nf:=⟨_,rfl⟩;obtain ⟨W,hW,b1,hB,hS⟩:=aG w #[.slice pv len cv,.slice pf' frs.length cf,.slice pe es.length ce] 32;have hat:∀ q,q<len→∃ (bV:Nat) (n0 n1 n2:RC),pv=some ⟨bV,0,none⟩∧∀ w',Below w.heap.size w w'→aA w' (.agg (ai n0 n1 n2)) (ptQ (P q))∧∀ j,j<12→w'.cell? ⟨bV,q*12+j,none⟩=(ai n0 n1 n2)[j]? := fun q hq=>by
  obtain ⟨bV,n0,n1,n2,e,hb,hvq,hcv⟩:=hSP.vs.open12 q (by simp [cG,hq]);rw [ji,if_pos hq] at hvq;exact ⟨bV,n0,n1,n2,e,fun w' h=>⟨hvq.below h,fun j hj=>(h.cell (p:=⟨bV,q*12+j,none⟩) hb).trans (hcv j hj)⟩⟩
 have hed:∀ i,i<ne→∃ bE:Nat,pe=some ⟨bE,0,none⟩∧∀ w',Below w.heap.size w w'→∀ j,j<4→w'.cell? ⟨bE,i*4+j,none⟩=(cC (es.getD i ⟨0,0,0,0⟩))[j]? := fun i hi=>by
  obtain ⟨bE,cap',e,hb,-,-,hc⟩:=bj.at_ edCells_len (show bj w base 96 4 cC _ es from hSP.eds) i (es.getD i ⟨0,0,0,0⟩) (by rw [← hne] at hi;simp [hi]);cases e;exact ⟨bE,rfl,fun w' h j hj=>(h.cell (p:=⟨bE,i*4+j,none⟩) hb).trans (hc j hj)⟩
 have HAT:=η hat;have HED:=η hed;have HES:Hid (∀ i,i<ne→(es.getD i ⟨0,0,0,0⟩).a<len∧(es.getD i ⟨0,0,0,0⟩).b<len∧P (es.getD i ⟨0,0,0,0⟩).b≠P (es.getD i ⟨0,0,0,0⟩).a):=fun i hi=>hes _ (by
  rw [← hne] at hi;rw [show es.getD i ⟨0,0,0,0⟩=es[i] by simp [hi]];exact List.getElem_mem hi)
 have HNR:=η hnr;have HB:=η hB;have HSZ:=η hS;have S1:=η b1;obtain ⟨DQ,hDQ⟩:∃ DQ:Nat→V,DQ=fun k=>dirD P (es.getD k ⟨0,0,0,0⟩):=⟨_,rfl⟩
 have HDR:=η (show dirsC P es=bh DQ (fun _=>true) ne from by rw [hDQ,← hne];rfl);have HDQ:=η hDQ;have HDL:Hid (∀ k,k≤ne→∀ x ∈ bh DQ (fun _=>true) k,LeV 8192 x):=fun k hk x hx=>by
  obtain ⟨i,hi,rfl,-⟩:=di.mp hx;rw [hDQ];obtain ⟨h1,h2,-⟩:=HES.out i ω;exact qh (gN (((hnr _ h2).sub (hnr _ h1)).mono ω) ω)
 have HSO:Hid (∀ k,(bh DQ (fun _=>true) k).Pairwise Lex∧(bh DQ (fun _=>true) k).length≤k):=fun k=>⟨cU k,cY k⟩
 rw [hne,hnf] at S1 hW ⊢;rw [hne] at hel;obtain ⟨pf,hpf⟩:∃ pf:V→Bool,pf=fun _=>true:=⟨_,rfl⟩
 rw [← hpf] at HDR HDL HSO;have HPF:=η hpf;clear hat hed hes hnr hB hS b1 hDQ hpf hSP hne hnf
 go_enter Tryz.func34,Tryz.ntmps34
 obtain ⟨x0,x1,x2,-⟩:=S1.out.three
 go_wp2_with fail
 go_loopw [3,13] (fun ov' iv wr=>∃ (i:Nat) (ov:Value) (qrs:List (RC × RC × RC)),ov=ov'∧i≤ne∧iv=.int .i64 (i:Nat)∧Hid (VRow wr W.heap.size ov ((bh DQ pf i).map ptQ) qrs)∧Hid (Below W.heap.size W wr)) (fun _ iv _=>ne - (intOf iv).toNat)
 case atStart=>exact ⟨0,_,[],rfl,Nat.zero_le _,rfl,VRow.nil _ _,Below.refl _ _⟩
 case round =>
  obtain ⟨i,ov,qrs,rfl,hi,rfl,HO,HR⟩:=hrel;obtain ⟨wk,rfl⟩:∃ wk,wk=wr:=⟨_,rfl⟩;by_cases h0:i=ne
  ·have hn2:¬ (i:Int)<(ne:Int):=ω
   have HRES:=η (show VRow wk w.heap.size ov ((dirsC P es).map ptQ) qrs from by
    rw [HDR.out,← h0];exact HO.out.base (ψ HB.out.size))
   have HBF:=η (ac HB.out HR.out (ψ HB.out.size));clear h0;go_wp2;exact bodyPost_ret (results_tmp Tryz.results34 _ _ _) rfl ⟨⟨_,_,rfl,HRES.out⟩,HBF.out⟩
  ·have hlt:(i:Int)<(ne:Int):=ω
   have hil:i<ne:=ω;have HIL:=η hil;obtain ⟨bE,rfl,hE⟩:=HED.out i hil;obtain ⟨ha,hb,hab⟩:=HES.out i hil;have hdq:DQ i=dirD P (es.getD i ⟨0,0,0,0⟩):=by rw [HDQ.out]
   obtain ⟨⟨ea,eb,ef,eg⟩,he⟩:∃ e,es.getD i (⟨0,0,0,0⟩:ED)=e:=⟨_,rfl⟩;rw [he] at hE ha hb hab hdq;dsimp only at ha hb hab;obtain ⟨bV,A0,A1,A2,rfl,hA⟩:=HAT.out ea ha;obtain ⟨bV',B0,B1,B2,e,hBv⟩:=HAT.out eb hb;cases e;have HBK:=η (ac HB.out HR.out (ψ HB.out.size));obtain ⟨O,hO⟩:∃ O,i*4=O:=⟨_,rfl⟩;have DD:=η (show ∀ j,j<4→wk.cell? ⟨bE,O+j,none⟩=(#[Value.int .i64 (ea:Nat),.int .i64 (eb:Nat),.int .i64 ef,.int .i64 eg])[j]? from fun j hj=>by
    rw [← hO,hE wk HBK.out j hj];unfold cC;rw [← Array.getElem?_toList])
   have HAS:=η hA;have HBS:=η hBv;have HAI:=η (show (ea:Int)<(len:Int) by omega);have HAN:=η ha;have HBI:=η (show (eb:Int)<(len:Int) by omega);have HBN:=η hb;have HNE:=η hab;have HQ:=η hdq;clear h0 hE ha hb hab hdq he hA hBv
   go_upto_region 5 with (first | refine fi rfl _ _ rfl bE O rfl #[.int .i64 (ea:Nat),.int .i64 (eb:Nat),.int .i64 ef,.int .i64 eg] _ (fun j hj=>DD.out j hj) Tryz.underlying96 rfl infoEd4 ?_ | refine eA rfl _ _ _ rfl _ #[.int .i64 (ea:Nat),.int .i64 (eb:Nat),.int .i64 ef,.int .i64 eg] rfl rfl infoEd4 rfl rfl ?_)
   obtain ⟨w3,hW3,b3,hB3,hS3⟩:=aG wk #[.int .i64 (ea:Nat),.int .i64 (eb:Nat),.int .i64 ef,.int .i64 eg] 96;rw [hW3];have E3:=η b3;have L3:=η (ac HR.out hB3 (ψ HR.out.size));have S3:=η ((S1.out.below HR.out S1.out.lt).below hB3 (by have:=S1.out.lt;have:=HR.out.size;omega));have R3:=η (HO.out.below hB3);have HB3:=η (ac HBK.out hB3 (ψ HBK.out.size));clear hW3 b3 hB3 hS3 DD hO;have HAC:Hid (∀ w',Below w3.heap.size w3 w'→Λ w' bV (ea*12) A0 A1 A2):=fun w' h=>by
    have hc:=(HAS.out w' (ac HB3.out h (ψ HB3.out.size))).2;exact ⟨(hc 0 ω).trans rfl,(hc 1 ω).trans rfl,(hc 2 ω).trans rfl,(hc 3 ω).trans rfl,(hc 4 ω).trans rfl,(hc 5 ω).trans rfl,(hc 6 ω).trans rfl,(hc 7 ω).trans rfl,(hc 8 ω).trans rfl,(hc 9 ω).trans rfl,(hc 10 ω).trans rfl,(hc 11 ω).trans rfl⟩
   have HBC:Hid (∀ w',Below w3.heap.size w3 w'→Λ w' bV (eb*12) B0 B1 B2):=fun w' h=>by
    have hc:=(HBS.out w' (ac HB3.out h (ψ HB3.out.size))).2;exact ⟨(hc 0 ω).trans rfl,(hc 1 ω).trans rfl,(hc 2 ω).trans rfl,(hc 3 ω).trans rfl,(hc 4 ω).trans rfl,(hc 5 ω).trans rfl,(hc 6 ω).trans rfl,(hc 7 ω).trans rfl,(hc 8 ω).trans rfl,(hc 9 ω).trans rfl,(hc 10 ω).trans rfl,(hc 11 ω).trans rfl⟩
   have hla:=HNR.out ea HAN.out;have hlb:=HNR.out eb HBN.out;have hlu:=(hlb.sub hla).mono (show (4096+4096:Int)≤8192 by omega);have hu0:=V.ne_sub HNE.out;obtain ⟨u,hu⟩:∃ u,P eb - P ea=u:=⟨_,rfl⟩;have HSUB:Hid (∀ w',Below w3.heap.size w3 w'→Calls Tryz.prog 23 #[.agg (ai B0 B1 B2),.agg (ai A0 A1 A2)] w' fun e w''=>gL w'' e (ptQ u)∧Below w'.heap.size w' w''):=fun w' h=>by
    have hw:=ac HB3.out h (ψ HB3.out.size);have h1:=kH _ _ (ptQ (P eb)) (ptQ (P ea)) 2 2 w' (HBS.out w' hw).1 (HAS.out w' hw).1 (gJ (hlb.mono ω)) (gJ (hla.mono ω)) ω;rw [show (⟨(ptQ (P eb)).x - (ptQ (P ea)).x,(ptQ (P eb)).y - (ptQ (P ea)).y,(ptQ (P eb)).z - (ptQ (P ea)).z⟩:Q3)=ptQ u from by rw [← hu];exact mj _ _] at h1;exact h1
   rw [hu] at hlu hu0;obtain ⟨p,hp⟩:∃ p,aF u=p:=⟨_,rfl⟩;have hlp:=gN hlu ω;rw [hp] at hlp;have HPR:Hid (∀ w',Below w3.heap.size w3 w'→∀ va,aA w' va (ptQ u)→Calls Tryz.prog 42 #[va] w' fun e w''=>RetVecOK w'' e (ptQ p)∧Below w'.heap.size w' w''):=fun w' _ va hva=>by
    have h1:=ph va (ptQ u) 2 w' hva (gJ (hlu.mono ω)) ω (fun e=>hu0 (ptQ_inj.mp (e.trans ptQ_zero.symm)));rw [primQ_pt hu0,hp] at h1;exact h1
   have HPL:=η hlp;obtain ⟨q,hq⟩:∃ q,oA p=q:=⟨_,rfl⟩;have HDI:=η (show DQ i=q from by rw [HQ.out,← hq,← hp,← hu];rfl);have HQL:=η (show LeV 8192 q from by rw [← hq];exact qh hlp);have HQD:=η hq;clear hla hlb hlu hu0 hu hp hlp hq;unfold ai at HSUB
   go_wp2_with fail
   refine fT mg 18 58 (rest:=1) [isV 0 (.pointer (some ⟨w.heap.size,0,none⟩)),isV 1 (.slice (some ⟨bV,0,none⟩) len cv),isV 2 (.pointer (some ⟨wk.heap.size,1,none⟩)),isV 3 (.int .i64 eb),isV 4 (.pointer (some ⟨bV,eb*12,none⟩)),isV 5 (.agg #[.bool B0.s,.slice B0.a B0.n B0.c,.bool B0.t,.slice B0.b B0.m B0.d,.bool B1.s,.slice B1.a B1.n B1.c,.bool B1.t,.slice B1.b B1.m B1.d,.bool B2.s,.slice B2.a B2.n B2.c,.bool B2.t,.slice B2.b B2.m B2.d]),isV 6 (.pointer (some ⟨w.heap.size,0,none⟩)),isV 7 (.slice (some ⟨bV,0,none⟩) len cv),isV 8 (.pointer (some ⟨wk.heap.size,0,none⟩)),isV 9 (.int .i64 ea),isV 10 (.pointer (some ⟨bV,ea*12,none⟩)),isV 11 (.agg #[.bool A0.s,.slice A0.a A0.n A0.c,.bool A0.t,.slice A0.b A0.m A0.d,.bool A1.s,.slice A1.a A1.n A1.c,.bool A1.t,.slice A1.b A1.m A1.d,.bool A2.s,.slice A2.a A2.n A2.c,.bool A2.t,.slice A2.b A2.m A2.d]),isP 12 (fun v w=>aA w v (ptQ u)),isP 13 (fun v w=>∃ u,v=.tuple #[u,.int .i64 0]∧aA w u (ptQ p)),isP 14 (fun v w=>∃ u,v=.tuple #[u,.int .i64 0]∧aA w u (ptQ p)),isP 15 (fun v w=>aA w v (ptQ p)),isV 16 (.int .i64 0),isP 17 (cd mg w3.heap.size 58),isS 17 w3.heap.size 58 (fun cs w=>∃ D0 D1 D2:RC,cs=ai D0 D1 D2∧aA w (.agg (ai D0 D1 D2)) (ptQ p))] [17] ?A5 #[true,true,true,true,true,true,true,true,true,true,true,true,true,true,true,true,true,true,true,false] κ [0,1,2,3,4,5,6,7,8,9,10,11,12,13,14,15,16,17,18] κ κ κ κ κ κ ?st ?st2 ?hA ?hop ?hend
   case hA =>
    intro y;simp only [aS,cK,List.getElem?_toArray,List.getElem?_cons_zero,List.getElem?_cons_succ,Option.bind_some,Act.put,List.setIfInBounds_toArray,List.set_cons_zero,List.set_cons_succ];exact rfl
   case st=>exact ae.cons isV.stab (ae.cons isV.stab (ae.cons isV.stab (ae.cons isV.stab (ae.cons isV.stab (ae.cons isV.stab (ae.cons isV.stab (ae.cons isV.stab (ae.cons isV.stab (ae.cons isV.stab (ae.cons isV.stab (ae.cons isV.stab (ae.cons (isP.stab (fun _ _ _ h hv=>hv.below h)) (ae.cons (isP.stab (fun _ _ _ h ⟨u,e,hu⟩=>⟨u,e,hu.below h⟩)) (ae.cons (isP.stab (fun _ _ _ h ⟨u,e,hu⟩=>⟨u,e,hu.below h⟩)) (ae.cons (isP.stab (fun _ _ _ h hv=>hv.below h)) (ae.cons isV.stab (ae.cons (isP.stab cd.stab) (ae.cons (isS.stab (fun _ _ _ h ⟨D0,D1,D2,e,hr⟩=>⟨D0,D1,D2,e,hr.below h⟩)) (ae.nil)))))))))))))))))))
   case st2=>exact aq.cons isV.stabW (aq.cons isV.stabW (aq.cons isV.stabW (aq.cons isV.stabW (aq.cons isV.stabW (aq.cons isV.stabW (aq.cons isV.stabW (aq.cons isV.stabW (aq.cons isV.stabW (aq.cons isV.stabW (aq.cons isV.stabW (aq.cons isV.stabW (aq.cons (isP.stabW (fX ν)) (aq.cons (isP.stabW (fun _ _ _ h ⟨u,e,hu⟩=>⟨u,e,fX ν _ _ _ h hu⟩)) (aq.cons (isP.stabW (fun _ _ _ h ⟨u,e,hu⟩=>⟨u,e,fX ν _ _ _ h hu⟩)) (aq.cons (isP.stabW (fX ν)) (aq.cons isV.stabW (aq.cons (isP.stabW cd.stabW) (aq.cons (isN.stabW (i:=0)) (aq.nil)))))))))))))))))))
   case hop =>
    refine ah.cons (i:=0) rfl (fun y w' hS hD K hK=>?_) ?_
    ·as_aux_lemma =>
     go_simp;exact hK.out _ w' hS (aN.old β) isV.put δ
    refine ah.cons (i:=1) rfl (fun y w' hS hD K hK=>?_) ?_
    ·as_aux_lemma =>
     have e0:=isV.get (i:=0) (c:=.pointer (some ⟨w.heap.size,0,none⟩)) (hD 0 κ);have bx:=S3.out.below hS S3.out.lt;obtain ⟨c0,c1,c2,-⟩:=bx.three;simp only [e0] at hK ⊢;go_simp;exact hK.out _ w' hS (aN.old β) isV.put δ
    refine ah.cons (i:=2) rfl (fun y w' hS hD K hK=>?_) ?_
    ·as_aux_lemma =>
     go_simp;exact hK.out _ w' hS (aN.old β) isV.put δ
    refine ah.cons (i:=3) rfl (fun y w' hS hD K hK=>?_) ?_
    ·as_aux_lemma =>
     have e2:=isV.get (i:=2) (c:=.pointer (some ⟨wk.heap.size,1,none⟩)) (hD 2 κ);have bx:=E3.out.below hS E3.out.lt;obtain ⟨c0,c1,c2,c3,-⟩:=bx.four;simp only [e2] at hK ⊢;go_simp;exact hK.out _ w' hS (aN.old β) isV.put δ
    refine ah.cons (i:=4) rfl (fun y w' hS hD K hK=>?_) ?_
    ·as_aux_lemma =>
     have e1:=isV.get (i:=1) (c:=.slice (some ⟨bV,0,none⟩) len cv) (hD 1 κ);have e3:=isV.get (i:=3) (c:=.int .i64 eb) (hD 3 κ);have hvl:=HBI.out;have hvn:=HBN.out;simp only [e1,e3] at hK ⊢;go_simp;exact hK.out _ w' hS (aN.old β) isV.put δ
    refine ah.cons (i:=5) rfl (fun y w' hS hD K hK=>?_) ?_
    ·as_aux_lemma =>
     have e4:=isV.get (i:=4) (c:=.pointer (some ⟨bV,eb*12,none⟩)) (hD 4 κ);obtain ⟨c0,c1,c2,c3,c4,c5,c6,c7,c8,c9,c10,c11⟩:=HBC.out w' hS;simp only [e4] at hK ⊢;go_simp;exact hK.out _ w' hS (aN.old β) isV.put δ
    refine ah.cons (i:=6) rfl (fun y w' hS hD K hK=>?_) ?_
    ·as_aux_lemma =>
     go_simp;exact hK.out _ w' hS (aN.old β) isV.put δ
    refine ah.cons (i:=7) rfl (fun y w' hS hD K hK=>?_) ?_
    ·as_aux_lemma =>
     have e6:=isV.get (i:=6) (c:=.pointer (some ⟨w.heap.size,0,none⟩)) (hD 6 κ);have bx:=S3.out.below hS S3.out.lt;obtain ⟨c0,c1,c2,-⟩:=bx.three;simp only [e6] at hK ⊢;go_simp;exact hK.out _ w' hS (aN.old β) isV.put δ
    refine ah.cons (i:=8) rfl (fun y w' hS hD K hK=>?_) ?_
    ·as_aux_lemma =>
     go_simp;exact hK.out _ w' hS (aN.old β) isV.put δ
    refine ah.cons (i:=9) rfl (fun y w' hS hD K hK=>?_) ?_
    ·as_aux_lemma =>
     have e8:=isV.get (i:=8) (c:=.pointer (some ⟨wk.heap.size,0,none⟩)) (hD 8 κ);have bx:=E3.out.below hS E3.out.lt;obtain ⟨c0,c1,c2,c3,-⟩:=bx.four;simp only [e8] at hK ⊢;go_simp;exact hK.out _ w' hS (aN.old β) isV.put δ
    refine ah.cons (i:=10) rfl (fun y w' hS hD K hK=>?_) ?_
    ·as_aux_lemma =>
     have e7:=isV.get (i:=7) (c:=.slice (some ⟨bV,0,none⟩) len cv) (hD 7 κ);have e9:=isV.get (i:=9) (c:=.int .i64 ea) (hD 9 κ);have hvl:=HAI.out;have hvn:=HAN.out;simp only [e7,e9] at hK ⊢;go_simp;exact hK.out _ w' hS (aN.old β) isV.put δ
    refine ah.cons (i:=11) rfl (fun y w' hS hD K hK=>?_) ?_
    ·as_aux_lemma =>
     have e10:=isV.get (i:=10) (c:=.pointer (some ⟨bV,ea*12,none⟩)) (hD 10 κ);obtain ⟨c0,c1,c2,c3,c4,c5,c6,c7,c8,c9,c10,c11⟩:=HAC.out w' hS;simp only [e10] at hK ⊢;go_simp;exact hK.out _ w' hS (aN.old β) isV.put δ
    refine ah.cons (i:=12) rfl (fun y w' hS hD K hK=>?_) ?_
    ·as_aux_lemma =>
     have e5:=isV.get (i:=5) (c:=.agg #[.bool B0.s,.slice B0.a B0.n B0.c,.bool B0.t,.slice B0.b B0.m B0.d,.bool B1.s,.slice B1.a B1.n B1.c,.bool B1.t,.slice B1.b B1.m B1.d,.bool B2.s,.slice B2.a B2.n B2.c,.bool B2.t,.slice B2.b B2.m B2.d]) (hD 5 κ);have e11:=isV.get (i:=11) (c:=.agg #[.bool A0.s,.slice A0.a A0.n A0.c,.bool A0.t,.slice A0.b A0.m A0.d,.bool A1.s,.slice A1.a A1.n A1.c,.bool A1.t,.slice A1.b A1.m A1.d,.bool A2.s,.slice A2.a A2.n A2.c,.bool A2.t,.slice A2.b A2.m A2.d]) (hD 11 κ);simp only [e5,e11] at hK ⊢;go_simp;refine (HSUB.out w' hS).mono ?_;rintro e w'' ⟨⟨v,rfl,hv⟩,hb⟩;exact hK.out v w'' (ac hS hb ρ) (aN.old hb) (isP.put hv) δ
    refine ah.cons (i:=13) rfl (fun y w' hS hD K hK=>?_) ?_
    ·as_aux_lemma =>
     have e12:=isP.get (i:=12) (p:=fun v w=>aA w v (ptQ u)) (hD 12 κ);go_simp;refine (HPR.out w' hS _ e12).mono ?_;rintro e w'' ⟨⟨u,rfl,hu⟩,hb⟩;exact hK.out (.tuple #[u,.int .i64 0]) w'' (ac hS hb ρ) (aN.old hb) (isP.put ⟨u,rfl,hu⟩) δ
    refine ah.cons (i:=14) rfl (fun y w' hS hD K hK=>?_) ?_
    ·as_aux_lemma =>
     have e13:=isP.get (i:=13) (p:=fun v w=>∃ u,v=.tuple #[u,.int .i64 0]∧aA w u (ptQ p)) (hD 13 κ);obtain ⟨u,eu,hu⟩:=e13;simp only [eu] at hK ⊢;go_simp;exact hK.out _ w' hS (aN.old β) (isP.put ⟨u,rfl,hu⟩) δ
    refine ah.cons (i:=15) rfl (fun y w' hS hD K hK=>?_) ?_
    ·as_aux_lemma =>
     have e14:=isP.get (i:=14) (p:=fun v w=>∃ u,v=.tuple #[u,.int .i64 0]∧aA w u (ptQ p)) (hD 14 κ);obtain ⟨u,eu,hu⟩:=e14;simp only [eu] at hK ⊢;go_simp;exact hK.out _ w' hS (aN.old β) (isP.put hu) δ
    refine ah.cons (i:=16) rfl (fun y w' hS hD K hK=>?_) ?_
    ·as_aux_lemma =>
     have e14:=isP.get (i:=14) (p:=fun v w=>∃ u,v=.tuple #[u,.int .i64 0]∧aA w u (ptQ p)) (hD 14 κ);obtain ⟨u,eu,hu⟩:=e14;simp only [eu] at hK ⊢;go_simp;exact hK.out _ w' hS (aN.old β) isV.put δ
    refine ah.cons (i:=17) rfl (fun y w' hS hD K hK=>?_) ?_
    ·as_aux_lemma =>
     go_simp;exact hK.out _ _ (hS.alloc hS.size _) (aN.old (β.alloc ρ _)) (isP.put ⟨_,_,rfl,hS.size,sh12 RC.zero RC.zero RC.zero,Box.new _ _ _ _ rfl⟩) (fun _ j hj hne _=>absurd (List.mem_singleton.1 hj) hne)
    refine ah.cons (i:=18) rfl (fun y w' hS hD K hK=>?_) ?_
    ·as_aux_lemma =>
     have e15:=isP.get (i:=15) (p:=fun v w=>aA w v (ptQ p)) (hD 15 κ);have eb:=isP.get (i:=17) (p:=cd mg w3.heap.size 58) (hD 17 κ);obtain ⟨ga,_,ea,hga,⟨s0,s1,s2,rfl⟩,bga⟩:=eb;obtain ⟨D0,D1,D2,er,hr⟩:=e15.rcv;simp only [er,ea] at hK ⊢;refine iteInduction (motive:=fun p=>p) (fun _=>?_) (fun h=>absurd κ h);refine wp_store_row 58 _ _ rfl ga (ai D0 D1 D2) rfl rfl 58 _ bga dU rfl (jY D0 D1 D2) ?_;rw [← oM bga D0 D1 D2];exact hK.out undef (put12 w' ga D0 D1 D2) (aX hS hga _ _ _) (aN.new (Wr.put12 hga bga _ _ _)) (isS.put ν ea hga (bga.s12 _ _ _) ⟨D0,D1,D2,rfl,hr.put12 bga D0 D1 D2⟩) δ
    exact ah.nil
   case hend =>
    intro y w' hS hR hF;have e16:=isV.get (i:=16) (c:=.int .i64 0) (hR 16 κ);obtain ⟨ga,_,ega,hga,bga,D0,D1,D2,rfl,hD⟩:=isS.get (i:=17) (n:=w3.heap.size) (t:=58) (p:=fun cs w=>∃ D0 D1 D2:RC,cs=ai D0 D1 D2∧aA w (.agg (ai D0 D1 D2)) (ptQ p)) (hR 18 κ);simp only [e16,ega];refine bR (i:=19) (listed2:=#[true,true,true,true,true,true,true,true,true,true,true,true,true,true,true,true,true,true,true,true]) κ rfl κ (fun K hK=>?_);go_simp;refine hK.out _ _ ?_;clear hK K;refine bm κ ?_;have DS:=η (show DirS W w' ga D0 D1 D2 (ptQ p) ov ((bh DQ pf i).map ptQ) qrs from
     ⟨bga,hD,R3.out.below hS,ac L3.out hS (ψ L3.out.size),by have:=L3.out.size;omega,by have:=R3.out.own.lt;intro h;have:=(this _ h).2;omega⟩)
    obtain ⟨w5,rfl⟩:∃ w5,w5=w':=⟨_,rfl⟩;clear hS hR hF e16 ega hga bga hD;have HPB:=η (gJ (HPL.out.mono (show (8192:Int)≤9007199254740992 by omega)));obtain ⟨cz,hcz⟩:∃ cz,fe (ptQ p) ⟨0,0,0⟩=cz:=⟨_,rfl⟩;have hlz:cz<0↔Lex p V.zero:=by rw [← hcz,← ptQ_zero];exact iZ
    have hcv:=fun v (h:Below w5.heap.size w5 v)=>fy (.agg (ai D0 D1 D2)) (.agg (ai RC.zero RC.zero RC.zero)) (ptQ p) ⟨0,0,0⟩ 2 1 v (DS.out.v.below h) (aA.zero v) HPB.out ⟨Bd.zero,Bd.zero,Bd.zero⟩ ω
    rw [hcz] at hcv;have HCV:=η hcv;have HLZ:=η hlz;clear hcv hlz hcz HSUB HPR HAC HBC HAS HBS S3 E3 L3 R3 HB3 HO HR HBK;obtain ⟨c0,c1,c2,c3⟩:=DS.out.b.p0.1;obtain ⟨c4,c5,c6,c7⟩:=DS.out.b.p1.1;obtain ⟨c8,c9,c10,c11⟩:=DS.out.b.p2.1
    go_upto_if 37 with fail
    refine (HCV.out w5 β).mono ?_;rintro e w6 ⟨rfl,hb6⟩;have DS6:=η (DS.out.below hb6);clear c0 c1 c2 c3 c4 c5 c6 c7 c8 c9 c10 c11 hb6 HCV DS
    go_upto_if 37 with fail
    go_cut [] from 34 to 39 (fun wx=>∃ E0 E1 E2:RC,Hid (DirS W wx ga E0 E1 E2 (ptQ q) ov ((bh DQ pf i).map ptQ) qrs))
    case first =>
     by_cases hlx:Lex p V.zero
     ·have hcz:=HLZ.out.mpr hlx
      have HLX:=η hlx;clear hlx;obtain ⟨c0,c1,c2,c3⟩:=DS6.out.b.p0.1;obtain ⟨c4,c5,c6,c7⟩:=DS6.out.b.p1.1;obtain ⟨c8,c9,c10,c11⟩:=DS6.out.b.p2.1
      go_wp2_with fail
      refine (VNeg_any (.agg (ai D0 D1 D2)) (ptQ p) 2 w6 DS6.out.v HPB.out ω).mono ?_;rintro e w7 ⟨⟨v7,rfl,hv7⟩,hb7⟩;rw [qneg_pt,← dirV_lex HLX.out,HQD.out] at hv7;obtain ⟨E0,E1,E2,rfl,hE⟩:=hv7.rcv;have DS7:=η (DS6.out.below hb7);have HE7:=η hE;clear c0 c1 c2 c3 c4 c5 c6 c7 c8 c9 c10 c11 hb7 hv7 hE DS6
      go_wp2_with (refine wpList_store_row rfl 58 _ _ rfl ga (ai E0 E1 E2) rfl rfl 58 _ DS7.out.b dU rfl (jY E0 E1 E2) ?_)
      rw [← oM DS7.out.b E0 E1 E2]
      go_wp2_with fail
      go_meet;exact ⟨E0,E1,E2,DS7.out.put HE7.out⟩
     ·have hcz:¬ cz<0:=fun h=>hlx (HLZ.out.mp h)
      have HQP:=η (show p=q from by rw [← HQD.out,dirV_not hlx]);clear hlx
      go_wp2_with fail
      go_meet;exact ⟨D0,D1,D2,by rw [← HQP.out];exact DS6.out⟩
    case rest =>
     obtain ⟨E0,E1,E2,HX⟩:=hcut;obtain ⟨L,hL⟩:∃ L,bh DQ pf i=L:=⟨_,rfl⟩;have hso:=HSO.out i;have hdl:=HDL.out i hi;rw [hL] at hso hdl HX;have HQB:=η (gJ (HQL.out.mono (show (8192:Int)≤9007199254740992 by omega)));have HLL:=η hL;have HLS:=η hso.1;have hll:L.length≤4096:=by have:=hso.2;omega
     have HLN:=η hll;have hbs:=ql ov (.agg (ai E0 E1 E2)) (L.map ptQ) qrs (ptQ q) W.heap.size 2 2 wc HX.out.r (fun j hj=>by
      rw [List.length_map] at hj;rw [h8 hj];refine gJ ((hdl _ ?_).mono ω);rw [show L.getD j V.zero=L[j] by simp [hj]];exact List.getElem_mem hj) HX.out.v HQB.out ω (by rw [List.length_map];omega) (fun j1 j2 h12 h2 hlt=>by
      rw [List.length_map] at h2;rw [h8 h2,iZ] at hlt;rw [h8 ω,iZ];by_cases e:j1=j2
      ·rw [e];exact hlt
      ·exact k6 (pair_getD HLS.out ω h2) hlt)
     have HBS:=η hbs;obtain ⟨c0,c1,c2,c3⟩:=HX.out.b.p0.1;obtain ⟨c4,c5,c6,c7⟩:=HX.out.b.p1.1;obtain ⟨c8,c9,c10,c11⟩:=HX.out.b.p2.1;clear hbs hso hdl hL hll
     go_wp2_with fail
     refine HBS.out.mono ?_;rintro e w8 ⟨⟨k,hk,rfl,hlo,hhi⟩,hb8⟩;rw [List.length_map] at hk hhi ⊢;have HX8:=η (HX.out.below hb8);have HK:=η hk;have HLO:=η (show ∀ j,j<k→Lex (L.getD j V.zero) q from fun j hj=>by
      have:=hlo j hj
      rwa [h8 ω,iZ] at this)
     have HHI:=η (show k<L.length→¬ Lex (L.getD k V.zero) q from fun hl=>by
      have:=hhi k ρ hl
      rwa [h8 hl,iZ] at this)
     have HEQ:=η (show ∀ h:k<L.length,(fe (qAt (L.map ptQ) k) (ptQ q)=0↔L.getD k V.zero=q) from fun hl=>by
      rw [h8 hl,lh,ptQ_inj])
     obtain ⟨fd,hfd⟩:∃ fd,(decide (k<L.length) && decide (fe (qAt (L.map ptQ) k) (ptQ q)=0))=fd:=⟨_,rfl⟩;rw [hfd];have HFD:=η hfd;clear hk hlo hhi hb8 hfd c0 c1 c2 c3 c4 c5 c6 c7 c8 c9 c10 c11 HBS HX;cases fd
     case true =>
      have HNX:=η (show VRow w8 W.heap.size ov ((bh DQ pf (i+1)).map ptQ) qrs from by
       have h:=HFD.out;rw [Bool.and_eq_true,decide_eq_true_iff,decide_eq_true_iff] at h;rw [HPF.out,takeV_same HDI.out (by rw [← HPF.out];exact HLL.out) HLO.out h.1 ((HEQ.out h.1).mp h.2)];exact HX8.out.r)
      go_wp2_with fail
      go_round
      case rel=>exact ⟨i+1,ov,qrs,rfl,HIL.out,rfl,HNX.out,HX8.out.l⟩
      case measure=>show ne - ((i:Int)+1).toNat<ne - (i:Int).toNat;have:=HIL.out;omega
     case false =>
      have HNI:=η (show bh DQ pf (i+1)=L.take k ++ q :: L.drop k from by
       rw [HPF.out];refine takeV_ins HDI.out (by rw [← HPF.out];exact HLL.out) HK.out HLO.out HHI.out (fun h=>?_);have h2:=HFD.out;rw [decide_eq_true h.1,decide_eq_true ((HEQ.out h.1).mpr h.2)] at h2;cases h2)
      obtain ⟨c0,c1,c2,c3⟩:=HX8.out.b.p0.1;obtain ⟨c4,c5,c6,c7⟩:=HX8.out.b.p1.1;obtain ⟨c8,c9,c10,c11⟩:=HX8.out.b.p2.1
      go_wp2_with fail
      obtain ⟨w9,hw9,b9,hb9,hs9⟩:=aG w8 (ai E0 E1 E2) 58;unfold ai at hw9;rw [hw9];have hX9:=HX8.out.r.below hb9;have hlen9:qrs.length=L.length:=by have:=hX9.len;rwa [List.length_map] at this
      have hlt9:=hX9.own.lt;have hvq:=HX8.out.v.below hb9;have hL9:=ac HX8.out.l hb9 ρ;have hlt8:=HX8.out.r.own.lt;have hkl:=HK.out;have hll:=HLN.out;have hins:=insertV_any ov qrs.length k (qrs.flatMap bq) (E0,E1,E2) W.heap.size w8.heap.size 1 w9 hX9.own (fun u hu=>by
       obtain ⟨r,-,hr⟩:=List.mem_flatMap.mp hu;exact jc r u hr) b9 (fun h=>by have:=(hlt8 _ h).2;omega) (ψ hL9.size) ω ω
      refine hins.mono ?_;rintro e w10 ⟨v',rfl,hown,hg⟩;have HNX:=η (show VRow w10 W.heap.size v' ((bh DQ pf (i+1)).map ptQ) (qrs.take k ++ (E0,E1,E2) :: qrs.drop k) from by
       have h:=hX9.ins (r:=(E0,E1,E2)) (q:=ptQ q) hvq (i:=k) ω hown hg;rw [HNI.out,List.map_append,List.map_cons,List.map_take,List.map_drop];exact h)
      have HLX:=η (show Below W.heap.size W w10 from hL9.grown hg (ψ hL9.size) (fun g e=>(hlt9 g e).1));clear hins hown hg hX9 hlen9 hlt9 hvq hL9 hlt8 hkl hll hw9 b9 hb9 hs9 c0 c1 c2 c3 c4 c5 c6 c7 c8 c9 c10 c11
      go_wp2_with fail
      go_round
      case rel=>exact ⟨i+1,_,_,rfl,HIL.out,rfl,HNX.out,HLX.out⟩
      case measure=>show ne - ((i:Int)+1).toNat<ne - (i:Int).toNat;have:=HIL.out;omega
end Go.Proofs.Υ
end
