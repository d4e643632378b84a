/- Whole vectors stored at once. Package motion: Turn. Package motion: Apply. Printed by gen/motion.py. Motions keep products, volumes and extents, and move centres (plain). The rotations of quaternions (plain). Package cell: Place. Printed by gen/place.py. Shapes of points and what moves them (plain). -/
import Derived.Test.YtaibkpbklfodiaaGreatDoorP34
import Derived.Test.YtaibkpbklfodiaaGreatDoorP32
import Derived.Test.YtaibkpbklfodiaaGreatDoorP21
import Derived.Test.YtaibkpbklfodiaaGreatDoorP29
import Derived.Test.YtaibkpbklfodiaaGreatDoorP30
import Derived.Test.YtaibkpbklfodiaaGreatDoorP36
set_option linter.all false
set_option maxHeartbeats 100000000
section
namespace Dowel
open V Go Go.RowKit Go.Proofs.Υ
theorem eL {w:World} {g i:Nat} {cur cs:Array Value} {t:TypeId} (hb:Box w g cur t) (v:Value):(w.setRow g cs).setCell ⟨g,i,none⟩ v=w.setRow g (cs.setIfInBounds i v):=by
 rw [setCell_eq_setRow (w.setRow g cs) g i cs t (0,0) v (setRow_heap w g cur cs t (0,0) hb),setRow_setRow]
theorem mS {w:World} {g o:Nat} {cur cs:Array Value} {t:TypeId} (hb:Box w g cur t) (r:RC):∃ X,Dowel.put4 (w.setRow g cs) g o r=w.setRow g X:=by
 unfold Dowel.put4;rw [eL hb,eL hb,eL hb,eL hb];exact ⟨_,rfl⟩
theorem jh {w:World} {g:Nat} {r0 r1 r2:RC} {t:TypeId} (hb:Box w g (ah r0 r1 r2) t) (a b c:RC):Dowel.put12 w g a b c=w.setRow g (ah a b c):=by
 have key:∃ X,Dowel.put12 w g a b c=w.setRow g X:=by
  obtain ⟨X0,e0⟩:=mS (cs:=ah r0 r1 r2) (o:=0) hb a;obtain ⟨X1,e1⟩:=mS (cs:=X0) (o:=4) hb b;obtain ⟨X2,e2⟩:=mS (cs:=X1) (o:=8) hb c;rw [setRow_self w g _ t (0,0) hb] at e0;refine ⟨X2,?_⟩;unfold Dowel.put12;rw [e0,e1,e2]
 obtain ⟨X,e⟩:=key;have h1:(Dowel.put12 w g a b c).heap[g]?=some (.cells (ah a b c) t (0,0)):=hb.s12 a b c;rw [e,setRow_heap w g _ X t (0,0) hb] at h1;injection h1 with h1
 injection h1 with h1
 rw [e,h1]
end Dowel
end

section
namespace Dowel
open Go Go.RowKit Go.Proofs.Υ
structure Mo where
 a:Q3
 b:Q3
 c:Q3
 s:Q3
def Mo.row (m:Mo):Nat→Q3
 | 0=>m.a
 | 1=>m.b
 | _+2=>m.c
def fP (a b c:RC × RC × RC):Array Value:=(bO a ++ bO b ++ bO c).toArray
def aC (a b c s:RC × RC × RC):Array Value:=(bO a ++ bO b ++ bO c ++ bO s).toArray
def rc3 (r:RC × RC × RC):Value:=.agg (ah r.1 r.2.1 r.2.2)
def pickR (a b c:RC × RC × RC):Nat→RC × RC × RC
 | 0=>a
 | 1=>b
 | _+2=>c
structure MotR (w:World) (a b c s:RC × RC × RC) (m:Mo):Prop where
 a:aA w (rc3 a) m.a
 b:aA w (rc3 b) m.b
 c:aA w (rc3 c) m.c
 s:aA w (rc3 s) m.s
def IsMot (w:World) (v:Value) (m:Mo):Prop:=∃ a b c s,v=.agg (aC a b c s)∧MotR w a b c s m
theorem MotR.below {w w':World} {a b c s:RC × RC × RC} {m:Mo} (h:MotR w a b c s m) (hb:Below w.heap.size w w'):MotR w' a b c s m:=⟨h.a.below hb,h.b.below hb,h.c.below hb,h.s.below hb⟩
theorem MotR.put4 {w:World} {a b c s:RC × RC × RC} {m:Mo} (h:MotR w a b c s m) {g o:Nat} {r:RC} (ha:At4 w g o r) (r':RC):MotR (Dowel.put4 w g o r') a b c s m:=⟨h.a.put4 ha r',h.b.put4 ha r',h.c.put4 ha r',h.s.put4 ha r'⟩
theorem MotR.row {w:World} {a b c s:RC × RC × RC} {m:Mo} (h:MotR w a b c s m) (k:Nat):aA w (rc3 (pickR a b c k)) (m.row k):=by
 match k with
 | 0=>exact h.a
 | 1=>exact h.b
 | _+2=>exact h.c
def aM (m:Mo) (v:Q3):Q3:=⟨bt m.a v,bt m.b v,bt m.c v⟩
theorem qi (a b c:RC × RC × RC):(fP a b c).size=36:=rfl
theorem qh (a b c s:RC × RC × RC):(aC a b c s).size=48:=rfl
theorem Box.rows {w:World} {g:Nat} {a b c s:RC × RC × RC} {t:TypeId} (h:Box w g (aC a b c s) t) (j:Nat) (hj:j<(fP a b c).size):w.cell? ⟨g,0+j,none⟩=(fP a b c)[j]? := by
 rw [h.cell,Nat.zero_add];unfold aC fP;rw [List.getElem?_toArray,List.getElem?_toArray,List.getElem?_append_left (by rw [qi] at hj;exact hj)]
theorem Box.shift {w:World} {g:Nat} {a b c s:RC × RC × RC} {t:TypeId} (h:Box w g (aC a b c s) t) (j:Nat) (_:j<(ah s.1 s.2.1 s.2.2).size):w.cell? ⟨g,36+j,none⟩=(ah s.1 s.2.1 s.2.2)[j]? := by
 rw [h.cell];unfold aC;rw [List.getElem?_toArray,List.getElem?_append_right (by show 36≤36+j;omega),show 36+j - (bO a ++ bO b ++ bO c).length=j from by show 36+j - 36=j;omega];unfold bO;rw [Array.getElem?_toList]
theorem Box.whole {w:World} {g:Nat} {cs:Array Value} {t:TypeId} (h:Box w g cs t) (j:Nat) (_:j<cs.size):w.cell? ⟨g,0+j,none⟩=cs[j]? := by rw [h.cell,Nat.zero_add]
def kE (w:World) (g k:Nat) (q:Nat→Rat) (t:TypeId):Prop:=∃ o0 o1 o2:RC,Box w g (ah o0 o1 o2) t∧(0<k→am w o0.agg (q 0))∧(1<k→am w o1.agg (q 1))∧(2<k→am w o2.agg (q 2))
theorem kE.below {w w':World} {g k:Nat} {q:Nat→Rat} {t:TypeId} (h:kE w g k q t) (hb:Below w.heap.size w w'):kE w' g k q t:=by
 obtain ⟨o0,o1,o2,h1,h2,h3,h4⟩:=h;exact ⟨o0,o1,o2,h1.below hb h1.lt,fun h=>(h2 h).below hb,fun h=>(h3 h).below hb,fun h=>(h4 h).below hb⟩
theorem kE.at4 {w:World} {g k:Nat} {q:Nat→Rat} {t:TypeId} (h:kE w g k q t) (hk:k<3):∃ r,At4 w g (k*4) r:=by
 obtain ⟨o0,o1,o2,h1,-⟩:=h
 match k,hk with
 | 0,_=>exact ⟨_,h1.p0⟩
 | 1,_=>exact ⟨_,h1.p1⟩
 | 2,_=>exact ⟨_,h1.p2⟩
theorem kE.put {w:World} {g k:Nat} {q:Nat→Rat} {t:TypeId} (h:kE w g k q t) (hk:k<3) {r:RC} (hr:am w r.agg (q k)):kE (put4 w g (k*4) r) g (k+1) q t:=by
 obtain ⟨o0,o1,o2,h1,h2,h3,h4⟩:=h;have h5:=hk;obtain rfl | rfl | rfl:k=0∨k=1∨k=2:=ω
 ·refine ⟨r,o1,o2,h1.s0 r,fun _=>hr.put4 h1.p0 r,fun h=>absurd h ω,fun h=>absurd h ω⟩
 ·refine ⟨o0,r,o2,h1.s1 r,fun _=>(h2 ω).put4 h1.p1 r,fun _=>hr.put4 h1.p1 r,fun h=>absurd h ω⟩
 ·refine ⟨o0,o1,r,h1.s2 r,fun _=>(h2 ω).put4 h1.p2 r,fun _=>(h3 ω).put4 h1.p2 r,fun _=>hr.put4 h1.p2 r⟩
end Dowel
namespace Go.Proofs.Υ
open Go.RowKit Dowel
theorem dc:(Tryz.prog.info? 89).map (·.size)=some 48:=by kernel_rfl
theorem index_row (a b c:RC × RC × RC) (k:Nat) (hk:k<3) (w:World):(Instr.index 87 (.agg (fP a b c)) (.int .i64 (k:Nat))).run Tryz.prog w=.ok (rc3 (pickR a b c k)) w:=by
 have h0:∀ w,(Instr.index 87 (.agg (fP a b c)) (.int .i64 0)).run Tryz.prog w=.ok (rc3 a) w:=fun _=>by kernel_rfl
 have h1:∀ w,(Instr.index 87 (.agg (fP a b c)) (.int .i64 1)).run Tryz.prog w=.ok (rc3 b) w:=fun _=>by kernel_rfl
 have h2:∀ w,(Instr.index 87 (.agg (fP a b c)) (.int .i64 2)).run Tryz.prog w=.ok (rc3 c) w:=fun _=>by kernel_rfl
 obtain rfl | rfl | rfl:k=0∨k=1∨k=2:=ω
 ·exact h0 w
 ·exact h1 w
 ·exact h2 w
theorem infoRow3:(Tryz.prog.info? 87).map (·.size)=some 36:=by kernel_rfl
set_option maxRecDepth 100000 in
theorem jY (vm vv:Value) (m:Mo) (v:Q3) (k l:Nat) (w:World) (hm:IsMot w vm m) (hv:aA w vv v) (hk:∀ i,BdV k (m.row i)) (hl:BdV l v) (h1:k+l<200000) :
  Calls Tryz.prog 43 #[vm,vv] w fun e w'=>gV w' e (aM m v)∧Below w.heap.size w w':=by
 obtain ⟨a,b,c,s,rfl,hmr⟩:=hm;obtain ⟨v0,v1,v2,rfl,hv0,hv1,hv2⟩:=hv;have hvv:aA w (.agg (ah v0 v1 v2)) v:=⟨v0,v1,v2,rfl,hv0,hv1,hv2⟩;obtain ⟨W,hW,b1,b2,b3,b4,hB,hS⟩:=lf w (aC a b c s) (ah v0 v1 v2) (ah RC.zero RC.zero RC.zero) (ah RC.zero RC.zero RC.zero) 89 58 58 58;have HM:=η (hmr.below hB);have HV:=η (hvv.below hB);have HB:=η hB;have HSZ:=η hS;have B1:=η b1;have B2:=η b2;have B3:=η b3;have B4:=η b4;have HK:=η hk;have HL:=η hl;clear hmr hvv hv0 hv1 hv2 hB hS b1 b2 b3 b4 hk hl;rw [ol] at hW
 go_enter Tryz.func43,Tryz.ntmps43
 go_wp2_with (refine aq rfl _ _ rfl w.heap.size 0 rfl (fP a b c) _ (fun j hj=>B1.out.rows j hj) Tryz.underlying87 rfl infoRow3 ?_)
 go_loopw [10] (fun kv wr=>∃ k:Nat,k≤3∧kv=.int .i64 (k:Nat)∧Hid (kE wr (w.heap.size+3) k (fun i=>bt (m.row i) v) 58)∧Hid (Box wr (w.heap.size+2) (ah RC.zero RC.zero RC.zero) 58)∧Hid (Below (w.heap.size+2) W wr)∧Hid (MotR wr a b c s m)∧Hid (aA wr (.agg (ah v0 v1 v2)) v)) (fun kv _=>3 - (intOf kv).toNat)
 case atStart=>exact ⟨0,by omega,rfl,⟨_,_,_,B4.out,fun h=>absurd h ω,fun h=>absurd h ω,fun h=>absurd h ω⟩,B3.out,Below.refl _ _,HM.out,HV.out⟩
 case round =>
  clear HM HV;obtain ⟨k,hk,rfl,HO,HZ,HR,HM,HV⟩:=hrel;obtain ⟨wk,rfl⟩:∃ wk,wk=wr:=⟨_,rfl⟩;by_cases h0:k=3
  ·have hnl:¬ (k:Int)<3:=ω
   have HD:=η (show kE wk (w.heap.size+3) 3 (fun i=>bt (m.row i) v) 58 from h0 ▸ HO.out);obtain ⟨o0,o1,o2,hb,h2,h3,h4⟩:=HD.out;have HBO:=η hb;have HQ:=η (show aA wk (.agg (ah o0 o1 o2)) (aM m v) from ⟨o0,o1,o2,rfl,h2 ω,h3 ω,h4 ω⟩);clear h0 hb h2 h3 h4
   go_wp2_with (first | refine aq rfl _ _ rfl (w.heap.size+3) 0 rfl (ah o0 o1 o2) _ (fun j hj=>HBO.out.whole j hj) Tryz.underlying58 rfl aK ?_ | refine wpList_store_row rfl 58 _ _ rfl (w.heap.size+2) (ah o0 o1 o2) rfl rfl 58 _ HZ.out aK rfl (bU o0 o1 o2) ?_)
   rw [← jh HZ.out o0 o1 o2];exact aS Tryz.results43 (w.heap.size+2) (HZ.out.s12 o0 o1 o2) _ rfl Tryz.underlying58 rfl aK rfl ⟨⟨_,rfl,HQ.out.put12 HZ.out o0 o1 o2⟩,bw (HB.out.trans (HR.out.mono ω)) ω o0 o1 o2⟩
  ·have hlt:(k:Int)<3:=ω
   have hk3:k<3:=ω;have HK3:=η hk3;have hrow:=HM.out.row k;have hix:=fun w=>index_row a b c k hk3 w
   obtain ⟨⟨R0,R1,R2⟩,hR⟩:∃ R,pickR a b c k=R:=⟨_,rfl⟩;rw [hR] at hrow;simp only [hR,rc3] at hix;have HRW:=η (show aA wk (.agg (ah R0 R1 R2)) (m.row k) from hrow);clear h0 hR hrow
   go_upto_region 5 with (refine aB rfl _ _ _ rfl _ (ah R0 R1 R2) rfl rfl aK rfl (bU R0 R1 R2) ?_)
   obtain ⟨w3,hW3,b3,hB3,hS3⟩:=aG wk (ah R0 R1 R2) 58;rw [hW3];have HR3:=η (HR.out.trans (hB3.mono (by have:=HO.out;obtain ⟨_,_,_,h,-⟩:=this;have:=h.lt;omega)));have R3:=η b3;have HO3:=η (HO.out.below hB3);have HZ3:=η (HZ.out.below hB3 HZ.out.lt);have V3:=η (B2.out.below HR3.out ω);have HC:=η (gF (.agg (ah R0 R1 R2)) (.agg (ah v0 v1 v2)) (m.row k) v _ l w3 (HRW.out.below hB3) (HV.out.below hB3) (HK.out k) HL.out h1);have HM3:=η (HM.out.below hB3);have HV3:=η (HV.out.below hB3);clear hW3 b3 hB3 hS3 hix HM HV HRW HO HZ
   go_wp2_with (first | refine aq rfl _ _ rfl wk.heap.size 0 rfl (ah R0 R1 R2) _ (fun j hj=>R3.out.whole j hj) Tryz.underlying58 rfl aK ?_ | refine aq rfl _ _ rfl (w.heap.size+1) 0 rfl (ah v0 v1 v2) _ (fun j hj=>V3.out.whole j hj) Tryz.underlying58 rfl aK ?_)
   refine HC.out.mono ?_;rintro e w4 ⟨⟨u,rfl,hu⟩,hb4⟩;obtain ⟨r,rfl,hr⟩:=hu.rcv;have HO4:=η (HO3.out.below hb4);obtain ⟨r0,hat⟩:=HO4.out.at4 hk3;have HAT:=η hat;have HRR:=η hr;have HZ4:=η (HZ3.out.below hb4 HZ3.out.lt);have HR4:=η (HR3.out.trans (hb4.mono (ψ HZ3.out.lt)));have HM4:=η (HM3.out.below hb4);have HV4:=η (HV3.out.below hb4);obtain ⟨⟨x0,x1,x2,x3⟩,x4,x5,x6,x7⟩:=hat;clear hb4 hu hr HC
   go_wp2_with fail
   clear x0 x1 x2 x3 x4 x5 x6 x7;go_round
   case rel =>
    change ∃ k',k'≤3∧_∧Hid (kE (put4 w4 (w.heap.size+3) (k*4) r) _ _ _ _)∧_;exact ⟨k+1,HK3.out,rfl,HO4.out.put HK3.out HRR.out,HZ4.out.oput4 ω _ _,aX HR4.out ω _ _,HM4.out.put4 HAT.out r,HV4.out.put4 HAT.out r⟩
   case measure=>show 3 - ((k:Int)+1).toNat<3 - (k:Int).toNat;have:=HK3.out;omega
end Go.Proofs.Υ
end

section
namespace Dowel
open Go Go.RowKit
section
variable {P : Program}
theorem aZ {op:Oper} {a:Act} {w:World} {K:Act→World→Prop} {Q:Exit→Act→World→Prop} (ty:TypeId) (x:Operand) (ho:op.op=.load ty x) (b o:Nat) (hx:a.eval x=.pointer (some ⟨b,o,none⟩)) (cs:Array Value) (d:TypeDesc)
  (hc:∀ j,j<cs.size→w.cell? ⟨b,o+j,none⟩=cs[j]?) (hu:P.underlying ty=some d) (hd:d.isRow=true) (hi:(P.info? ty).map (·.size)=some cs.size)
  (h:K (a.put op.dst (.agg cs)) w):op.wp P a w K Q:=
 wp_load_mid ty x ho b o hx cs.toList d (fun j v hv=>by
  rw [Array.getElem?_toList] at hv;rw [hc j (Array.getElem?_eq_some_iff.1 hv).1,hv]) hu hd (by rw [hi,Array.length_toList]) h
end
def aE (m:Mo) (v:Q3):Q3:=qadd (aM m v) m.s
theorem BdV.turn {m:Mo} {v:Q3} {k l:Nat} (hk:∀ i,BdV k (m.row i)) (hl:BdV l v):BdV (3*(k+l+1)+1) (aM m v):=⟨Bd.dot (hk 0) hl,Bd.dot (hk 1) hl,Bd.dot (hk 2) hl⟩
end Dowel
namespace Go.Proofs.Υ
open Go.RowKit Dowel
set_option maxRecDepth 100000 in
theorem li (vm vv:Value) (m:Mo) (v:Q3) (k l:Nat) (w:World) (hm:IsMot w vm m) (hv:aA w vv v) (hk:∀ i,BdV k (m.row i)) (hs:BdV k m.s) (hl:BdV l v) (h1:4*(k+l)<100000) :
  Calls Tryz.prog 41 #[vm,vv] w fun e w'=>gV w' e (aE m v)∧Below w.heap.size w w':=by
 obtain ⟨a,b,c,s,rfl,hmr⟩:=hm;obtain ⟨v0,v1,v2,rfl,hv0,hv1,hv2⟩:=hv;have hvv:aA w (.agg (ah v0 v1 v2)) v:=⟨v0,v1,v2,rfl,hv0,hv1,hv2⟩;obtain ⟨W,hW,b1,b2,b3,hB,hS⟩:=cW w (aC a b c s) (ah v0 v1 v2) (ah RC.zero RC.zero RC.zero) 89 58 58;have HT:=η (fun w' (h:Below W.heap.size W w')=>jY (.agg (aC a b c s)) (.agg (ah v0 v1 v2)) m v k l w' ⟨a,b,c,s,rfl,(hmr.below hB).below h⟩ ((hvv.below hB).below h) hk hl ω);have HA:=η (fun w' (h:Below W.heap.size W w') vt (ht:aA w' vt (aM m v))=>jb vt (.agg (ah s.1 s.2.1 s.2.2)) (aM m v) m.s _ k w' ht (((hmr.below hB).below h).s) (BdV.turn hk hl) hs ω);have HB:=η hB;have HSZ:=η hS;have B1:=η b1;have B2:=η b2;have B3:=η b3;clear hmr hvv hv0 hv1 hv2 hB hS b1 b2 b3 hk hl hs;rw [ol] at hW
 go_enter Tryz.func41,Tryz.ntmps41
 go_wp2_with fail
 refine bK (rest:=1) [isV 0 (.agg (aC a b c s)),isV 1 (.agg (ah v0 v1 v2)),isP 2 (fun u w=>aA w u (aM m v)),isV 3 (.pointer (some ⟨w.heap.size,36,none⟩)),isV 4 (.agg (ah s.1 s.2.1 s.2.2)),isP 5 (fun u w=>aA w u (aE m v))] [] ?A1 #[true,true,true,true,true,true,false] κ [0,1,2,3,4,5] κ κ κ κ κ κ ?st ?hA ?hop ?hend
 case hA =>
  intro y;simp only [bj,cU,List.getElem?_toArray,List.getElem?_cons_zero,List.getElem?_cons_succ,Option.bind_some,Act.put,List.setIfInBounds_toArray,List.set_cons_zero,List.set_cons_succ];exact rfl
 case st=>exact aj.cons isV.stab (aj.cons isV.stab (aj.cons (isP.stab (fun _ _ _ h hv=>hv.below h)) (aj.cons isV.stab (aj.cons isV.stab (aj.cons (isP.stab (fun _ _ _ h hv=>hv.below h)) (aj.nil))))))
 case hop =>
  refine ai.cons (i:=0) rfl (fun y w' hS hD K hK=>?_) ?_
  ·as_aux_lemma =>
   refine iteInduction (motive:=fun p=>p) (fun _=>?_) (fun h=>absurd κ h);refine aZ 89 _ rfl w.heap.size 0 rfl (aC a b c s) _ (fun j hj=>(B1.out.below hS B1.out.lt).whole j hj) Tryz.underlying89 rfl dc ?_;exact hK.out _ w' hS β isV.put δ
  refine ai.cons (i:=1) rfl (fun y w' hS hD K hK=>?_) ?_
  ·as_aux_lemma =>
   refine iteInduction (motive:=fun p=>p) (fun _=>?_) (fun h=>absurd κ h);refine aZ 58 _ rfl (w.heap.size+1) 0 rfl (ah v0 v1 v2) _ (fun j hj=>(B2.out.below hS B2.out.lt).whole j hj) Tryz.underlying58 rfl aK ?_;exact hK.out _ w' hS β isV.put δ
  refine ai.cons (i:=2) rfl (fun y w' hS hD K hK=>?_) ?_
  ·as_aux_lemma =>
   have e0:=isV.get (i:=0) (c:=.agg (aC a b c s)) (hD 0 κ);have e1:=isV.get (i:=1) (c:=.agg (ah v0 v1 v2)) (hD 1 κ);simp only [e0,e1] at hK ⊢;go_simp;refine (HT.out w' hS).mono ?_;rintro e w'' ⟨⟨v,rfl,hv⟩,hb⟩;exact hK.out v w'' (ae hS hb ρ) hb (isP.put hv) δ
  refine ai.cons (i:=3) rfl (fun y w' hS hD K hK=>?_) ?_
  ·as_aux_lemma =>
   go_simp;exact hK.out _ w' hS β isV.put δ
  refine ai.cons (i:=4) rfl (fun y w' hS hD K hK=>?_) ?_
  ·as_aux_lemma =>
   have e3:=isV.get (i:=3) (c:=.pointer (some ⟨w.heap.size,36,none⟩)) (hD 3 κ);simp only [e3] at hK ⊢;refine iteInduction (motive:=fun p=>p) (fun _=>?_) (fun h=>absurd κ h);refine aZ 58 _ rfl w.heap.size 36 rfl (ah s.1 s.2.1 s.2.2) _ (fun j hj=>(B1.out.below hS B1.out.lt).shift j hj) Tryz.underlying58 rfl aK ?_;exact hK.out _ w' hS β isV.put δ
  refine ai.cons (i:=5) rfl (fun y w' hS hD K hK=>?_) ?_
  ·as_aux_lemma =>
   have e2:=isP.get (i:=2) (p:=fun u w=>aA w u (aM m v)) (hD 2 κ);have e4:=isV.get (i:=4) (c:=.agg (ah s.1 s.2.1 s.2.2)) (hD 4 κ);simp only [e4] at hK ⊢;go_simp;refine (HA.out w' hS _ e2).mono ?_;rintro e w'' ⟨⟨v,rfl,hv⟩,hb⟩;exact hK.out v w'' (ae hS hb ρ) hb (isP.put hv) δ
  exact ai.nil
 case hend =>
  intro y w' hS hR hF;obtain ⟨D0,D1,D2,ev,hD⟩:=(isP.get (i:=5) (p:=fun u w=>aA w u (aE m v)) (hR 5 κ)).rcv;have bg:=B3.out.below hS B3.out.lt;simp only [ev];refine bM (i:=6) (listed2:=#[true,true,true,true,true,true,true]) κ rfl κ (fun K hK=>?_);refine iteInduction (motive:=fun p=>p) (fun _=>?_) (fun h=>absurd κ h);refine wp_store_row 58 _ _ rfl (w.heap.size+2) (ah D0 D1 D2) rfl rfl 58 _ bg aK rfl (bU D0 D1 D2) ?_;rw [← jh bg D0 D1 D2];refine hK.out _ _ ?_;clear hK K;refine bq κ ?_;have HF:=η (bw (ae HB.out hS (ψ HSZ.out)) (Nat.le_add_right _ 2) D0 D1 D2);have BF:=η (bg.s12 D0 D1 D2);have VF:=η (hD.put12 bg D0 D1 D2);clear hS hR hF ev hD bg;generalize put12 w' (w.heap.size+2) D0 D1 D2=w9 at *
  go_wp2_with fail
  exact aS Tryz.results41 (w.heap.size+2) BF.out _ rfl Tryz.underlying58 rfl aK rfl ⟨⟨_,rfl,VF.out⟩,HF.out⟩
end Go.Proofs.Υ
end

section
namespace Dowel
structure Rot (m:Mo):Prop where
 xx:m.a.x*m.a.x+m.b.x*m.b.x+m.c.x*m.c.x=1
 yy:m.a.y*m.a.y+m.b.y*m.b.y+m.c.y*m.c.y=1
 zz:m.a.z*m.a.z+m.b.z*m.b.z+m.c.z*m.c.z=1
 xy:m.a.x*m.a.y+m.b.x*m.b.y+m.c.x*m.c.y=0
 xz:m.a.x*m.a.z+m.b.x*m.b.z+m.c.x*m.c.z=0
 yz:m.a.y*m.a.z+m.b.y*m.b.z+m.c.y*m.c.z=0
 det:bt m.a (dT m.b m.c)=1
variable {m : Mo}
theorem turn_dot (h:Rot m) (u v:Q3):bt (aM m u) (aM m v)=bt u v:=by
 have e:bt (aM m u) (aM m v)=(m.a.x*m.a.x+m.b.x*m.b.x+m.c.x*m.c.x)*(u.x*v.x)+(m.a.y*m.a.y+m.b.y*m.b.y+m.c.y*m.c.y)*(u.y*v.y)+(m.a.z*m.a.z+m.b.z*m.b.z+m.c.z*m.c.z)*(u.z*v.z)+(m.a.x*m.a.y+m.b.x*m.b.y+m.c.x*m.c.y)*(u.x*v.y+u.y*v.x)+(m.a.x*m.a.z+m.b.x*m.b.z+m.c.x*m.c.z)*(u.x*v.z+u.z*v.x)+(m.a.y*m.a.z+m.b.y*m.b.z+m.c.y*m.c.z)*(u.y*v.z+u.z*v.y):=by
  unfold bt aM bt;grind
 rw [e,h.xx,h.yy,h.zz,h.xy,h.xz,h.yz];unfold bt;grind
theorem turn_det (h:Rot m) (u v w:Q3):bt (aM m u) (dT (aM m v) (aM m w))=bt u (dT v w):=by
 have e:bt (aM m u) (dT (aM m v) (aM m w))=bt m.a (dT m.b m.c)*bt u (dT v w):=by
  unfold aM dT bt;grind
 rw [e,h.det,Rat.one_mul]
theorem lh (a t:Q3):qsub (aE m a) (aE m t)=aM m (qsub a t):=by
 unfold qsub aE qadd aM bt;simp only [Q3.mk.injEq];refine ⟨?_,?_,?_⟩ <;> grind
theorem pieceD_move (h:Rot m) (t a b c:Q3):fJ (aE m t) (aE m a) (aE m b) (aE m c)=fJ t a b c:=by
 unfold fJ;rw [lh,lh,lh,turn_det h]
theorem pieceC_move (t a b c:Q3):fX (aE m t) (aE m a) (aE m b) (aE m c)=qadd (aM m (fX t a b c)) (qscale 4 m.s):=by
 unfold fX aE qadd aM bt qscale;simp only [Q3.mk.injEq];refine ⟨?_,?_,?_⟩ <;> grind
theorem eM {qs:List Q3} {i:Nat} (h:i<qs.length):qAt (qs.map (aE m)) i=aE m (qAt qs i):=by
 unfold qAt;simp [h]
def movP (m:Mo) (x:Rat × Q3):Rat × Q3:=(x.1,qadd (aM m x.2) (qscale 4 m.s))
theorem pieces_move (h:Rot m) {qs:List Q3} {rs:List (List Nat)} (h0:0<qs.length) (hr:∀ r ∈ rs,∀ i ∈ r,i<qs.length):ak (qAt (qs.map (aE m))) rs=(ak (qAt qs) rs).map (movP m):=by
 unfold ak
 induction rs with
 | nil=>rfl
 | cons r rs ih =>
  rw [List.flatMap_cons,List.flatMap_cons,List.map_append,ih fun r h=>hr r (List.mem_cons_of_mem _ h)]
  congr 1
  unfold lX;rw [List.map_map];refine List.map_congr_left fun k hk=>?_
  have hk:=List.mem_range.1 hk;have hr0:=hr r (List.mem_cons_self ..);have a1:=hr0 _ (h8 (show 0<r.length by omega));have a2:=hr0 _ (h8 (show k+1<r.length by omega));have a3:=hr0 _ (h8 (show k+2<r.length by omega));unfold gK movP;simp only [Function.comp];rw [eM h0,eM a1,eM a2,eM a3,pieceD_move h,pieceC_move]
theorem kJ:∀ l:List (Rat × Q3),bB (l.map (movP m))=bB l:=by
 refine iL rfl fun l x ih=>?_
 rw [List.map_append,List.map_cons,List.map_nil,dN,dN,ih];rfl
theorem sumC_move:∀ l:List (Rat × Q3),dW (l.map (movP m))=qadd (aM m (dW l)) (qscale (4*bB l) m.s):=by
 refine iL ?_ fun l x ih=>?_
 ·show (⟨0,0,0⟩:Q3)=qadd (aM m ⟨0,0,0⟩) (qscale (4*0) m.s)
  unfold qadd aM bt qscale;simp only [Q3.mk.injEq];refine ⟨?_,?_,?_⟩ <;> grind
 ·rw [List.map_append,List.map_cons,List.map_nil,je,je,dN,ih]
  unfold movP qadd aM bt qscale;simp only [Q3.mk.injEq];refine ⟨?_,?_,?_⟩ <;> grind
theorem centre_move (C:Q3) {S:Rat} (h:S≠0):qscale (1 / (4*S)) (qadd (aM m C) (qscale (4*S) m.s))=aE m (qscale (1 / (4*S)) C):=by
 have h4:4*S≠0:=fun e=>h (by grind)
 have e:1 / (4*S)*(4*S)=1:=by rw [Rat.div_mul_cancel h4]
 generalize 4*S=T at *;generalize 1 / T=U at *;unfold aE qadd aM bt qscale;simp only [Q3.mk.injEq];refine ⟨?_,?_,?_⟩ <;> grind
theorem dot_move (h:Rot m) (n v:Q3):bt (aM m n) (aE m v)=bt n v+bt (aM m n) m.s:=by
 rw [← turn_dot h n v];unfold aE qadd bt;grind
theorem ext_move (h:Rot m) {qs:List Q3} {n:Q3}:∀ i,0<i→i≤qs.length→dD (qs.map (aE m)) (aM m n) i=((dD qs n i).1+bt (aM m n) m.s,(dD qs n i).2+bt (aM m n) m.s)
 | 0,h0,_=>absurd h0 ω
 | i+1,_,hi=>by
  unfold dD;rw [eM (show i<qs.length by omega),dot_move h];by_cases h0:i=0
  ·simp only [h0,true_or,if_true]
  ·have e:=ext_move h (qs:=qs) (n:=n) i ω ω
   simp only [h0,false_or,e];generalize dD qs n i=x at *;generalize bt n (qAt qs i)=y at *;generalize bt (aM m n) m.s=z at *;refine Prod.ext ?_ ?_
   ·show (if y+z<x.1+z then y+z else x.1+z)=(if y<x.1 then y else x.1)+z
    split <;> split <;> grind
   ·show (if x.2+z<y+z then y+z else x.2+z)=(if x.2<y then y else x.2)+z
    split <;> split <;> grind
theorem turn_ne (h:Rot m) {n:Q3} (hn:n≠⟨0,0,0⟩):aM m n≠⟨0,0,0⟩:=fun e=>by
 have h1:=turn_dot h n n;rw [e] at h1;have h2:n.x*n.x+n.y*n.y+n.z*n.z=0:=by unfold bt at h1;grind
 have sq:∀ x:Rat,0≤x*x:=fun x=>by
  by_cases hx:0≤x
  ·exact Rat.mul_nonneg hx hx
  ·have:=Rat.mul_nonneg (show 0 ≤ -x by grind) (show 0 ≤ -x by grind)
   grind
 have hx:=sq n.x;have hy:=sq n.y;have hz:=sq n.z;refine hn ?_;obtain ⟨x,y,z⟩:=n;simp only at h2 hx hy hz;have z0:∀ x:Rat,x*x=0→x=0:=fun x h=>by rcases Rat.mul_eq_zero.1 h with h | h <;> exact h
 rw [z0 x (by grind),z0 y (by grind),z0 z (by grind)]
end Dowel
end

section
namespace Dowel
structure Q4 where
 a:Int
 b:Int
 c:Int
 d:Int
def Q4.at (q:Q4):Nat→Int
 | 0=>q.a
 | 1=>q.b
 | 2=>q.c
 | _+3=>q.d
def gsQ (q:Q4):Nat→Nat × Int
 | 0=>(0,0)
 | k+1=>(Nat.gcd (gsQ q k).1 (q.at k).natAbs,if (gsQ q k).2=0 then q.at k else (gsQ q k).2)
def nF (q:Q4):Nat:=if q.a=0∧q.b=0∧q.c=0∧q.d=0 then 19 else if (gsQ q 4).1≠1∨(gsQ q 4).2<0 then 3 else 0
def Q4.sq (q:Q4):Int:=q.a*q.a+q.b*q.b+q.c*q.c+q.d*q.d
def Q4.row (q:Q4):Nat→V
 | 0=>⟨q.a*q.a+q.b*q.b - q.c*q.c - q.d*q.d,2*(q.b*q.c - q.a*q.d),2*(q.b*q.d+q.a*q.c)⟩
 | 1=>⟨2*(q.b*q.c+q.a*q.d),q.a*q.a - q.b*q.b+q.c*q.c - q.d*q.d,2*(q.c*q.d - q.a*q.b)⟩
 | _+2=>⟨2*(q.b*q.d - q.a*q.c),2*(q.c*q.d+q.a*q.b),q.a*q.a - q.b*q.b - q.c*q.c+q.d*q.d⟩
def fz (q:Q4) (s:Q3):Mo:=⟨qscale (1 / (q.sq:Rat)) (ptQ (q.row 0)),qscale (1 / (q.sq:Rat)) (ptQ (q.row 1)),qscale (1 / (q.sq:Rat)) (ptQ (q.row 2)),s⟩
theorem rot_of (a b c d p:Rat) (s:Q3) (hp:p*(a*a+b*b+c*c+d*d)=1):Rot ⟨qscale p ⟨a*a+b*b - c*c - d*d,2*(b*c - a*d),2*(b*d+a*c)⟩,qscale p ⟨2*(b*c+a*d),a*a - b*b+c*c - d*d,2*(c*d - a*b)⟩,qscale p ⟨2*(b*d - a*c),2*(c*d+a*b),a*a - b*b - c*c+d*d⟩,s⟩:=by
 have e1:∀ x:Rat,x=p*(a*a+b*b+c*c+d*d)*(p*(a*a+b*b+c*c+d*d))→x=1:=fun x h=>by rw [h,hp,Rat.mul_one]
 refine ⟨e1 _ ?_,e1 _ ?_,e1 _ ?_,?_,?_,?_,?_⟩
 ·simp only [qscale];grind
 ·simp only [qscale];grind
 ·simp only [qscale];grind
 ·simp only [qscale];grind
 ·simp only [qscale];grind
 ·simp only [qscale];grind
 ·have e:∀ x:Rat,x=p*(a*a+b*b+c*c+d*d)*(p*(a*a+b*b+c*c+d*d))*(p*(a*a+b*b+c*c+d*d))→x=1:=fun x h=>by rw [h,hp,Rat.mul_one,Rat.mul_one]
  refine e _ ?_;simp only [bt,dT,qscale];clear e1 e hp;grind
theorem rot_mot (q:Q4) (s:Q3) (h:q.sq≠0):Rot (fz q s):=by
 have h0:(q.sq:Rat)≠0:=fun e=>h (by exact_mod_cast e)
 have hp:1 / (q.sq:Rat)*(q.sq:Rat)=1:=by rw [Rat.div_mul_cancel h0]
 unfold fz;generalize 1 / (q.sq:Rat)=p at *;obtain ⟨a,b,c,d⟩:=q;simp only [Q4.sq,Rat.intCast_add,Rat.intCast_mul] at hp;have r:=rot_of a b c d p s hp;simp only [Q4.row,ptQ,Rat.intCast_add,Rat.intCast_mul,Rat.intCast_sub];exact r
def iQ (n:Nat):Q4:=⟨(n:Int) / 27 - 1,(n:Int) / 9 % 3 - 1,(n:Int) / 3 % 3 - 1,(n:Int) % 3 - 1⟩
def jx (n:Nat):Bool:=(iQ n).sq != 3 && nF (iQ n) == 0
def fI (n:Nat):List Q4:=((List.range n).filter jx).map iQ
theorem gJ (n:Nat):fI (n+1)=if jx n=true then fI n ++ [iQ n] else fI n:=by
 unfold fI;rw [List.range_succ,List.filter_append,List.map_append];by_cases h:jx n=true
 ·rw [if_pos h,List.filter_cons_of_pos h];rfl
 ·rw [if_neg h,List.filter_cons_of_neg h];simp
def pg:List Q4:=fI 81 ++ [⟨2,1,0,0⟩,⟨1,1,1,0⟩,⟨1,0,2,0⟩,⟨3,1,1,1⟩]
def okQ (q:Q4):Bool:=decide (q.a.natAbs≤3∧q.b.natAbs≤3∧q.c.natAbs≤3∧q.d.natAbs≤3∧0<q.sq∧q.sq ∣ 60∧nF q=0)
structure OkQ (q:Q4):Prop where
 le:∀ i,(q.at i).natAbs≤3
 pos:0<q.sq
 dvd:q.sq ∣ 60
 chk:nF q=0
theorem OkQ.of {q:Q4} (h:okQ q=true):OkQ q:=by
 obtain ⟨h1,h2,h3,h4,h5,h6,h7⟩:=of_decide_eq_true h;refine ⟨fun i=>?_,h5,h6,h7⟩
 match i with
 | 0=>exact h1
 | 1=>exact h2
 | 2=>exact h3
 | _+3=>exact h4
theorem sq_le {x y:Int} (hx:x.natAbs≤3) (hy:y.natAbs≤3):-9≤x*y∧x*y≤9:=by
 have h:=Nat.mul_le_mul hx hy;rw [← Int.natAbs_mul] at h;omega
theorem OkQ.prods {q:Q4} (h:OkQ q) (i j:Nat):-9≤q.at i*q.at j∧q.at i*q.at j≤9:=sq_le (h.le i) (h.le j)
theorem quarts24:(fI 81).length=24:=by decide +kernel
theorem turns_ok:∀ q ∈ pg,okQ q=true:=by decide +kernel
theorem dQ {q:Q4} (h:OkQ q) (z:Int) (hz:z.natAbs≤36):cO 60 2160 (1 / (q.sq:Rat)*(z:Rat)):=by
 obtain ⟨k,hk⟩:=h.dvd;have h0:(q.sq:Rat)≠0:=fun e=>absurd h.pos (by
  have:q.sq=0:=by exact_mod_cast e
  omega)
 have e60:((60:Nat):Rat)=(q.sq:Rat)*(k:Rat):=by rw [← Rat.intCast_mul,← hk];rfl
 have hk2:k.natAbs≤60:=by
  have:=congrArg Int.natAbs hk;rw [Int.natAbs_mul] at this;have hp:0<q.sq.natAbs:=by have:=h.pos;omega
  have:k.natAbs≤q.sq.natAbs*k.natAbs:=Nat.le_mul_of_pos_left _ hp;omega
 refine ⟨z*k,?_,?_⟩
 ·rw [e60,Rat.intCast_mul]
  have e1:1 / (q.sq:Rat)*(q.sq:Rat)=1:=Rat.div_mul_cancel h0;generalize 1 / (q.sq:Rat)=p at *
  grind
 ·rw [Int.natAbs_mul];exact Nat.mul_le_mul hz hk2
theorem m8 {q:Q4} (h:OkQ q) (s:Q3) (i:Nat):bN 60 2160 ((fz q s).row i):=by
 have p:∀ x y,-9≤q.at x*q.at y∧q.at x*q.at y≤9:=h.prods;have aa:=p 0 0;have bb:=p 1 1;have cc:=p 2 2;have dd:=p 3 3;have ab:=p 0 1;have ac:=p 0 2;have ad:=p 0 3;have bc:=p 1 2;have bd:=p 1 3;have cd:=p 2 3;simp only [Q4.at] at aa bb cc dd ab ac ad bc bd cd;clear p
 match i with
 | 0=>exact ⟨dQ h _ (by simp only [Q4.row];omega),dQ h _ (by simp only [Q4.row];omega),dQ h _ (by simp only [Q4.row];omega)⟩
 | 1=>exact ⟨dQ h _ (by simp only [Q4.row];omega),dQ h _ (by simp only [Q4.row];omega),dQ h _ (by simp only [Q4.row];omega)⟩
 | _+2=>exact ⟨dQ h _ (by simp only [Q4.row];omega),dQ h _ (by simp only [Q4.row];omega),dQ h _ (by simp only [Q4.row];omega)⟩
theorem frac_move {q:Q4} (h:OkQ q) {s v:Q3} (hs:bN 60 100000 s) (hv:bN 1 4096 v):bN 60 100000000 (aE (fz q s) v):=by
 have r:=fun i=>(m8 h s i).dot hv
 have r0:=r 0;have r1:=r 1;have r2:=r 2;exact ⟨(r0.add hs.1).mono ν,(r1.add hs.2.1).mono ν,(r2.add hs.2.2).mono ν⟩
end Dowel
end

section
namespace Dowel
open Go Go.RowKit Go.Proofs.Υ
def oH (m:Mo) (qs:List Q3) (k:Nat):List Q3:=(qs.take k).map (aE m)
structure PlaS (w wr:World) (g5:Nat) (v0 v1 v2:Value) (a b c s:RC × RC × RC) (u0 u1 u2:Value):Prop where
 sb:Box wr w.heap.size #[v0,v1,v2] 32
 mb:Box wr (w.heap.size+1) (aC a b c s) 89
 ob:Box wr g5 #[u0,u1,u2] 32
 zb:Box wr (w.heap.size+2) #[.slice none 0 0,.slice none 0 0,.slice none 0 0] 32
 bel:Below w.heap.size w wr
 far:w.heap.size+2<g5
theorem PlaS.below {w wr wx:World} {g5:Nat} {v0 v1 v2:Value} {a b c s:RC × RC × RC} {u0 u1 u2:Value} (h:PlaS w wr g5 v0 v1 v2 a b c s u0 u1 u2) (hb:Below wr.heap.size wr wx):PlaS w wx g5 v0 v1 v2 a b c s u0 u1 u2:=
 ⟨h.sb.below hb h.sb.lt,h.mb.below hb h.mb.lt,h.ob.below hb h.ob.lt,h.zb.below hb h.zb.lt,ae h.bel hb ρ,h.far⟩
theorem PlaS.grown {w wr wx:World} {g5:Nat} {v0 v1 v2:Value} {a b c s:RC × RC × RC} {u0 u1 u2:Value} (h:PlaS w wr g5 v0 v1 v2 a b c s u0 u1 u2) {e k n:Nat} {v:Value} {xs:List Value} (ho:wr.ownsRow w.heap.size e k v n xs) (hs:e≠32) (hm:e≠89) (hg:wr.grownBy wx v.ownBlock):PlaS w wx g5 v0 v1 v2 a b c s u0 u1 u2:=
 ⟨h.sb.grown hg (aW ho h.sb hs),h.mb.grown hg (aW ho h.mb hm),h.ob.grown hg (aW ho h.ob hs),h.zb.grown hg (aW ho h.zb hs),h.bel.grown hg h.bel.size (fun g e=>cJ ho g e),h.far⟩
theorem PlaS.set {w wr:World} {g5:Nat} {v0 v1 v2:Value} {a b c s:RC × RC × RC} {u0 u1 u2:Value} (h:PlaS w wr g5 v0 v1 v2 a b c s u0 u1 u2) (i:Nat) (v x0 x1 x2:Value) (hx:(#[u0,u1,u2]:Array Value).setIfInBounds i v=#[x0,x1,x2]):PlaS w (wr.setCell ⟨g5,i,none⟩ v) g5 v0 v1 v2 a b c s x0 x1 x2:=
 ⟨h.sb.grown (bS _ _ _ _) (fun e=>by cases e;exact absurd h.far ω),h.mb.grown (bS _ _ _ _) (fun e=>by cases e;exact absurd h.far ω),hx ▸ h.ob.set i v,h.zb.grown (bS _ _ _ _) (fun e=>by cases e;exact absurd h.far ω),h.bel.setCell (show w.heap.size≤g5 from by have:=h.far;omega) _,h.far⟩
theorem PlaS.app {w wr wx:World} {g5:Nat} {v0 v1 v2:Value} {a b c s:RC × RC × RC} {u0 u1 u2 v:Value} (h:PlaS w wr g5 v0 v1 v2 a b c s u0 u1 u2) {Q:List Q3} {rs:List (RC × RC × RC)} (hv:VRow wr w.heap.size u0 Q rs) {nE:Nat} {es:List ED} (hE:eV wr nE u2 es) {r:RC × RC × RC} {q:Q3} (hq:aA wr (.agg (ah r.1 r.2.1 r.2.2)) q)
  (ho:wx.ownsRow w.heap.size 58 12 v (rs.length+1) (rs.flatMap bO ++ bO r)) (hg:wr.grownBy wx u0.ownBlock) :
  VRow (wx.setCell ⟨g5,0,none⟩ v) w.heap.size v (Q ++ [q]) (rs ++ [r])∧PlaS w (wx.setCell ⟨g5,0,none⟩ v) g5 v0 v1 v2 a b c s v u1 u2∧eV (wx.setCell ⟨g5,0,none⟩ v) nE u2 es:=by
 have h1:=h.grown hv.own ν ν hg;have h2:eV wx nE u2 es:=World.ownsRow.kept hE hg (io hE hv.own ν);exact ⟨(hv.app hq ho hg).set h1.ob ν ν 0 _,h1.set 0 v _ _ _ rfl,World.ownsRow.kept h2 (bS _ _ _ _) (.inr (fun e=>aW h2 h1.ob ν e.symm))⟩
theorem moveV_succ (m:Mo) (qs:List Q3) (i:Nat) (hi:i<qs.length):oH m qs (i+1)=oH m qs i ++ [aE m (qAt qs i)]:=by
 unfold oH qAt;rw [List.take_add_one,List.map_append,List.getElem?_eq_getElem hi,List.getD_eq_getElem?_getD,List.getElem?_eq_getElem hi];rfl
structure PlaF (w:World) (base:Nat) (v1:Value) (fqs:List (Q3 × Rat)) (frs:List FR) (rns:List (List Nat)) (N:Nat) (m:Mo) (k kp:Nat):Prop where
 row:FRow w base v1 fqs frs
 ints:∀ (i:Nat) (f:FR) (r:List Nat),frs[i]?=some f→rns[i]?=some r→∃ base,dr w base f.v r
 len:rns.length=frs.length
 max:frs.length≤262144
 ring:∀ r ∈ rns,r.length≤262144∧r≠[]∧∀ i ∈ r,i<N
 kk:6*k+4≤10000
 kpm:kp≤50000
 nor:∀ f ∈ fqs,BdV k f.1∧aM m f.1≠⟨0,0,0⟩∧BdV kp (cI (aM m f.1))
theorem PlaF.below {w w':World} {base:Nat} {v1:Value} {fqs:List (Q3 × Rat)} {frs:List FR} {rns:List (List Nat)} {N:Nat} {m:Mo} {k kp:Nat} (h:PlaF w base v1 fqs frs rns N m k kp) (hb:Below w.heap.size w w'):PlaF w' base v1 fqs frs rns N m k kp:=
 ⟨h.row.below hb,fun i f r h1 h2=>(h.ints i f r h1 h2).imp (fun _ h=>aF h hb),h.len,h.max,h.ring,h.kk,h.kpm,h.nor⟩
theorem PlaF.open {w:World} {base:Nat} {pa:Option Addr} {F pc:Nat} {fqs:List (Q3 × Rat)} {frs:List FR} {rns:List (List Nat)} {N:Nat} {m:Mo} {k kp:Nat} (h:PlaF w base (.slice pa F pc) fqs frs rns N m k kp) (i:Nat) (hi:i<frs.length) :
  ∃ (b:Nat) (n0 n1 n2 ro:RC) (g fc:Nat) (f:Q3 × Rat) (r:List Nat) (b2:Nat),pa=some ⟨b,0,none⟩∧fqs[i]?=some f∧rns[i]?=some r∧aA w (.agg (ah n0 n1 n2)) f.1∧dr w b2 (.slice (some ⟨g,0,none⟩) r.length fc) r∧(∀ j,j<17→w.cell? ⟨b,i*17+j,none⟩=(aL n0 n1 n2 ro (some ⟨g,0,none⟩) r.length fc)[j]?)∧w.cell? ⟨g,0,none⟩=some (.int .i64 (r.headD 0:Nat))∧r.headD 0<N∧0<r.length:=by
 obtain ⟨b,cap',r,e,hb,hr,hc⟩:=h.row.at_ i hi;obtain ⟨f,hf⟩:∃ f,fqs[i]?=some f:=⟨_,List.getElem?_eq_getElem (by rw [← h.row.len];exact hi)⟩;obtain ⟨h1,h2⟩:=h.row.vec i r f hr hf;obtain ⟨rn,hrn⟩:∃ rn,rns[i]?=some rn:=⟨_,List.getElem?_eq_getElem (by rw [h.len];exact hi)⟩;obtain ⟨b2,ho⟩:=h.ints i r rn hr hrn;obtain ⟨-,hne,hlt⟩:=h.ring rn (List.mem_of_getElem? hrn);obtain ⟨hd,tl,rfl⟩:∃ hd tl,rn=hd :: tl:=by
  cases rn with
  | nil=>exact absurd rfl hne
  | cons x y=>exact ⟨x,y,rfl⟩
 cases e;obtain ⟨⟨n0,n1,n2⟩,ro,fv⟩:=r;simp only at ho h1 h2;have ho2:=ho;obtain ⟨hl,⟨_,h0⟩ | ⟨g,cap,cur,rfl,hg,hh,hn,hm,hs,ht⟩⟩:=ho2
 ·simp at h0
 ·refine ⟨b,n0,n1,n2,ro,g,cap,f,hd :: tl,b2,rfl,hf,hrn,h1,ho,fun j hj=>(hc j hj).trans (Array.getElem?_toList (xs:=aL n0 n1 n2 ro _ _ _)),?_,hlt hd (by simp),by simp⟩
  have e:=World.ownsRow.cellAt ho 0 (by simp);exact e
def oI (m:Mo) (qs:List Q3) (f:Q3 × Rat) (r:List Nat):Q3 × Rat:=(cI (aM m f.1),bt (cI (aM m f.1)) (aE m (qAt qs (r.headD 0))))
def fd (m:Mo) (qs:List Q3) (fqs:List (Q3 × Rat)) (rns:List (List Nat)) (j:Nat):List (Q3 × Rat):=((fqs.zip rns).take j).map fun x=>oI m qs x.1 x.2
def eJ (w:World) (base:Nat) (grs:List FR) (rns:List (List Nat)):Prop:=∀ (i:Nat) (f:FR) (r:List Nat),grs[i]?=some f→rns[i]?=some r→dr w base f.v r
def RetPla (base:Nat) (m:Mo) (qs:List Q3) (fqs:List (Q3 × Rat)) (rns:List (List Nat)) (es:List ED) (w:World) (e:Ending):Prop:=
 ∃ v0 v1 v2 rs grs,e=.returned (.agg #[v0,v1,v2])∧VRow w base v0 (qs.map (aE m)) rs∧FRow w base v1 (fd m qs fqs rns fqs.length) grs∧eJ w base grs rns∧eV w base v2 es
theorem eJ.below {w w':World} {base:Nat} {grs:List FR} {rns:List (List Nat)} (h:eJ w base grs rns) (hb:Below w.heap.size w w'):eJ w' base grs rns:=fun k f r h1 h2=>aF (h k f r h1 h2) hb
theorem Box.nor17 {w:World} {g:Nat} {n0 n1 n2 ro:RC} {fa:Option Addr} {fl fc:Nat} {t:TypeId} (h:Box w g (aL n0 n1 n2 ro fa fl fc) t) (j:Nat) (hj:j<(ah n0 n1 n2).size):w.cell? ⟨g,0+j,none⟩=(ah n0 n1 n2)[j]? := by
 have h12:j<12:=hj;rw [h.cell,Nat.zero_add];obtain rfl | rfl | rfl | rfl | rfl | rfl | rfl | rfl | rfl | rfl | rfl | rfl:j=0∨j=1∨j=2∨j=3∨j=4∨j=5∨j=6∨j=7∨j=8∨j=9∨j=10∨j=11:=ω
 all_goals rfl
theorem eJ.set {w:World} {base:Nat} {grs:List FR} {rns:List (List Nat)} (h:eJ w base grs rns) {g:Nat} {cs:Array Value} (hb:Box w g cs 32) (i:Nat) (u:Value):eJ (w.setCell ⟨g,i,none⟩ u) base grs rns:=fun k f r h1 h2=>im (h k f r h1 h2) hb ν i u
theorem PlaS.appF {w wr wx:World} {g5:Nat} {v0 v1 v2:Value} {a b c s:RC × RC × RC} {u0 u1 u2 v:Value} (h:PlaS w wr g5 v0 v1 v2 a b c s u0 u1 u2) {fq:List (Q3 × Rat)} {grs:List FR} (hf:FRow wr w.heap.size u1 fq grs) {Q:List Q3} {rs:List (RC × RC × RC)} (hv:VRow wr w.heap.size u0 Q rs) {nE:Nat} {es:List ED} (hE:eV wr nE u2 es) {rns:List (List Nat)} (hi:eJ wr w.heap.size grs rns) {r:FR} {q:Q3 × Rat} (hn:aA wr (.agg (ah r.n.1 r.n.2.1 r.n.2.2)) q.1) (ho:am wr r.o.agg q.2)
  {rn:List Nat} (hrn:rns[grs.length]?=some rn) (hN:dr wr w.heap.size r.v rn) (hw:wx.ownsRow w.heap.size 98 17 v (grs.length+1) (grs.flatMap dj ++ dj r)) (hg:wr.grownBy wx u1.ownBlock) :
  VRow (wx.setCell ⟨g5,1,none⟩ v) w.heap.size u0 Q rs∧PlaS w (wx.setCell ⟨g5,1,none⟩ v) g5 v0 v1 v2 a b c s u0 v u2∧eV (wx.setCell ⟨g5,1,none⟩ v) nE u2 es∧FRow (wx.setCell ⟨g5,1,none⟩ v) w.heap.size v (fq ++ [q]) (grs ++ [r])∧eJ (wx.setCell ⟨g5,1,none⟩ v) w.heap.size (grs ++ [r]) rns:=by
 have h1:=h.grown hf.own ν ν hg;have hl:=kR hf.own ν;have hi1:eJ wx w.heap.size (grs ++ [r]) rns:=fun k f x hk hx=>by
  by_cases hlt:k<grs.length
  ·rw [List.getElem?_append_left hlt] at hk
   have:=hi k f x hk hx;exact World.ownsRow.kept this hg (io this hf.own ν)
  ·by_cases e:k=grs.length
   ·subst e
    rw [List.getElem?_append_right ρ,Nat.sub_self] at hk;simp at hk;subst hk;rw [hrn] at hx;cases hx;exact World.ownsRow.kept hN hg (io hN hf.own ν)
   ·rw [List.getElem?_eq_none (by simp;omega)] at hk;cases hk
 exact ⟨(hv.other hg hl (io hv.own hf.own ν)).set h1.ob ν ν 1 _,h1.set 1 v _ _ _ rfl,im (World.ownsRow.kept hE hg (io hE hf.own ν)) h1.ob ν 1 v,(hf.app hn ho hw hg).set h1.ob ν ν 1 _,hi1.set h1.ob 1 v⟩
theorem moveFs_succ (m:Mo) (qs:List Q3) {fqs:List (Q3 × Rat)} {rns:List (List Nat)} {j:Nat} {f:Q3 × Rat} {r:List Nat} (hf:fqs[j]?=some f) (hr:rns[j]?=some r):fd m qs fqs rns (j+1)=fd m qs fqs rns j ++ [oI m qs f r]:=by
 unfold fd;have e:(fqs.zip rns)[j]?=some (f,r):=List.getElem?_zip_eq_some.2 ⟨hf,hr⟩;rw [List.take_add_one,List.map_append,e];rfl
theorem Box.src17 {w:World} {g:Nat} {r:FR} {t:TypeId} (h:Box w g (dj r).toArray t) (j:Nat) (u:Value) (hu:(dj r)[j]?=some u):w.cell? ⟨g,j,none⟩=some u:=by
 rw [h.cell,List.getElem?_toArray,hu]
theorem face17_one (n0 n1 n2 ro:RC) (fa:Option Addr) (fl fc:Nat):∀ u ∈ dj ⟨(n0,n1,n2),ro,.slice fa fl fc⟩,u.oneCell'=true:=fun u hu=>by
 have h:=eH n0 n1 n2 ro fa fl fc;rw [Array.all_eq_true] at h;obtain ⟨j,hj,rfl⟩:=List.mem_iff_getElem.1 hu;exact h j hj
theorem pla_ret {w wj:World} {g5:Nat} {v0 v1 v2:Value} {a b c s:RC × RC × RC} {u0 u1 u2:Value} {base:Nat} {m:Mo} {qs:List Q3} {fqs:List (Q3 × Rat)} {rns:List (List Nat)} {es:List ED} {rs:List (RC × RC × RC)} {grs:List FR} {nE:Nat} (h:PlaS w wj g5 v0 v1 v2 a b c s u0 u1 u2) (hv:VRow wj base u0 (qs.map (aE m)) rs)
  (hf:FRow wj base u1 (fd m qs fqs rns fqs.length) grs) (hi:eJ wj base grs rns) (he:eV wj nE u2 es) (hn:base≤nE) (x y z:Value) :
  VRow (((wj.setCell ⟨w.heap.size+2,0,none⟩ x).setCell ⟨w.heap.size+2,1,none⟩ y).setCell ⟨w.heap.size+2,2,none⟩ z) base u0 (qs.map (aE m)) rs∧FRow (((wj.setCell ⟨w.heap.size+2,0,none⟩ x).setCell ⟨w.heap.size+2,1,none⟩ y).setCell ⟨w.heap.size+2,2,none⟩ z) base u1 (fd m qs fqs rns fqs.length) grs ∧
  eJ (((wj.setCell ⟨w.heap.size+2,0,none⟩ x).setCell ⟨w.heap.size+2,1,none⟩ y).setCell ⟨w.heap.size+2,2,none⟩ z) base grs rns∧eV (((wj.setCell ⟨w.heap.size+2,0,none⟩ x).setCell ⟨w.heap.size+2,1,none⟩ y).setCell ⟨w.heap.size+2,2,none⟩ z) base u2 es:=by
 have b0:=h.zb;have b1:=b0.set 0 x;have b2:=b1.set 1 y;exact ⟨((hv.set b0 ν ν 0 x).set b1 ν ν 1 y).set b2 ν ν 2 z,((hf.set b0 ν ν 0 x).set b1 ν ν 1 y).set b2 ν ν 2 z,((hi.set b0 0 x).set b1 1 y).set b2 2 z,
  cj (im (im (im he b0 ν 0 x) b1 ν 1 y) b2 ν 2 z) hn⟩
end Dowel
namespace Go.Proofs.Υ
open Go.RowKit Dowel
theorem bslice_vec (D0 D1 D2:RC) (w:World):(Instr.buildSlice 28 1 #[(0,.agg (ah D0 D1 D2))]).run Tryz.prog w=.ok (.slice (some ⟨w.heap.size,0,none⟩) 1 1) (w.alloc (.cells (ah D0 D1 D2) 58)):=by kernel_rfl
theorem bslice_face (n0 n1 n2 ro:RC) (fa:Option Addr) (fl fc:Nat) (w:World):(Instr.buildSlice 29 1 #[(0,.agg (aL n0 n1 n2 ro fa fl fc))]).run Tryz.prog w=.ok (.slice (some ⟨w.heap.size,0,none⟩) 1 1) (w.alloc (.cells (aL n0 n1 n2 ro fa fl fc) 98)):=by kernel_rfl
theorem build_face (n0 n1 n2 ro:RC) (fa:Option Addr) (fl fc:Nat) (w:World):(Instr.build 98 #[(0,.agg (ah n0 n1 n2)),(1,ro.agg),(2,.slice fa fl fc)]).run Tryz.prog w=.ok (.agg (aL n0 n1 n2 ro fa fl fc)) w:=by kernel_rfl
theorem mm {o:Oper} {a:Act} {w:World} {K:Act→World→Prop} {Q:Exit→Act→World→Prop} (x:Operand) (n0 n1 n2 ro:RC) (fa:Option Addr) (fl fc:Nat) (ho:o.op=.buildSlice 29 1 #[(0,x)]) (hx:a.eval x=.agg (aL n0 n1 n2 ro fa fl fc))
  (h:K (a.put o.dst (.slice (some ⟨w.heap.size,0,none⟩) 1 1)) (w.alloc (.cells (aL n0 n1 n2 ro fa fl fc) 98))):o.wp Tryz.prog a w K Q:=by
 unfold Oper.wp execOp;simp only [ho,Sem.run_bind,Sem.run_pure,Result.andThen_ok,List.map_toArray,List.map_cons,List.map_nil,hx,bslice_face];exact h
theorem nQ {o:Oper} {a:Act} {w:World} {K:Act→World→Prop} {Q:Exit→Act→World→Prop} (x y z:Operand) (n0 n1 n2 ro:RC) (fa:Option Addr) (fl fc:Nat) (ho:o.op=.build 98 #[(0,x),(1,y),(2,z)]) (hx:a.eval x=.agg (ah n0 n1 n2)) (hy:a.eval y=ro.agg) (hz:a.eval z=.slice fa fl fc)
  (h:K (a.put o.dst (.agg (aL n0 n1 n2 ro fa fl fc))) w):o.wp Tryz.prog a w K Q:=by
 unfold Oper.wp execOp;simp only [ho,Sem.run_bind,Sem.run_pure,Result.andThen_ok,List.map_toArray,List.map_cons,List.map_nil,hx,hy,hz,build_face];exact h
theorem nR {o:Oper} {a:Act} {w:World} {K:Act→World→Prop} {Q:Exit→Act→World→Prop} (x:Operand) (D0 D1 D2:RC) (ho:o.op=.buildSlice 28 1 #[(0,x)]) (hx:a.eval x=.agg (ah D0 D1 D2))
  (h:K (a.put o.dst (.slice (some ⟨w.heap.size,0,none⟩) 1 1)) (w.alloc (.cells (ah D0 D1 D2) 58))):o.wp Tryz.prog a w K Q:=by
 unfold Oper.wp execOp;simp only [ho,Sem.run_bind,Sem.run_pure,Result.andThen_ok,List.map_toArray,List.map_cons,List.map_nil,hx,bslice_vec];exact h
set_option maxRecDepth 100000 in
theorem place_any (vm:Value) (m:Mo) (k l:Nat) (v0 v1 v2:Value) (qs:List Q3) (base:Nat) (vrs:List (RC × RC × RC)) (es:List ED) (w:World) (hm:IsMot w vm m) (hk:∀ i,BdV k (m.row i)) (hs:BdV k m.s) (hV:VRow w base v0 qs vrs) (hl:∀ i,BdV l (qAt qs i)) (h1:4*(k+l)<100000) (hq:qs.length≤262144) (hE:eV w base v2 es) (hel:es.length≤262144) (fqs:List (Q3 × Rat)) (frs:List FR) (rns:List (List Nat)) (kp:Nat) (hF:PlaF w base v1 fqs frs rns qs.length m k kp) :
  Calls Tryz.prog 40 #[.agg #[v0,v1,v2],vm] w fun e w'=>RetPla w.heap.size m qs fqs rns es w' e∧Below w.heap.size w w':=by
 obtain ⟨a,b,c,s,rfl,hmr⟩:=hm;obtain ⟨W,hW,b1,b2,b3,hB,hS⟩:=cW w #[v0,v1,v2] (aC a b c s) #[.slice none 0 0,.slice none 0 0,.slice none 0 0] 32 89 32;have HM0:=η hmr;have HV0:=η hV;have HF0:=η hF;have HK:=η (show (∀ i,BdV k (m.row i))∧BdV k m.s∧(∀ i,BdV l (qAt qs i))∧4*(k+l)<100000 from ⟨hk,hs,hl,h1⟩);have HE:=η (aF hE hB);have HB:=η hB;have HSZ:=η hS;have B1:=η b1;have B2:=η b2;have B3:=η b3;obtain ⟨x0,x1,x2,-⟩:=b1.three;clear hF hmr hV hE hB hS b1 b2 b3 hk hs hl h1
 go_enter Tryz.func40,Tryz.ntmps40
 go_wp2_with fail
 refine (cloneE_any v2 es base W HE.out hel).mono ?_;rintro e w2 ⟨⟨v2',rfl,hE2⟩,hb2⟩;have L2:=η (ae HB.out hb2 (ψ HSZ.out));have S2:=η (B1.out.below hb2 B1.out.lt);have M2:=η (B2.out.below hb2 B2.out.lt);have Z2:=η (B3.out.below hb2 B3.out.lt);have E2:=η hE2;obtain ⟨ea,ec,rfl,-⟩:=dB hE2;clear hb2 hE2 x0 x1 x2
 go_upto_region 2 with fail
 obtain ⟨w4,hw4,b4,hb4,hs4⟩:=aG w2 #[.slice none 0 0,.slice none 0 0,.slice ea es.length ec] 32;rw [hw4];have L4:=η (ae L2.out hb4 ρ);have S4:=η (S2.out.below hb4 S2.out.lt);have M4:=η (M2.out.below hb4 M2.out.lt);have Z4:=η (Z2.out.below hb4 Z2.out.lt);have E4:=η (aF E2.out hb4);have O4:=η b4;have GG:=η (show w.heap.size+3≤w2.heap.size∧w4.heap.size=w2.heap.size+1 from ⟨by have:=Z2.out.lt;omega,hs4⟩);obtain ⟨g5,hg5⟩:∃ g5,w2.heap.size=g5:=⟨_,rfl⟩;rw [hg5] at O4 GG ⊢;clear hw4 b4 hb4 hs4 hg5;obtain ⟨N,hN⟩:∃ N,qs.length=N:=⟨_,rfl⟩;obtain ⟨pa,pc,e,-⟩:=dB HV0.out.own;rw [HV0.out.len,hN] at e;have HNN:=η hN;rw [hN] at hq;subst e;obtain ⟨x0,x1,x2,-⟩:=S4.out.three;clear hN;obtain ⟨i0,hinf,hz0,hz1,hz2⟩:=info_parts infoVecR
 go_wp2_with fail
 go_loopw [19] (fun iv wr=>∃ (i:Nat) (ov:Value) (rs:List (RC × RC × RC)),i≤N∧iv=.int .i64 (i:Nat)∧Hid (VRow wr w.heap.size ov (oH m qs i) rs)∧Hid (PlaS w wr g5 (.slice pa N pc) v1 v2 a b c s ov (.slice none 0 0) (.slice ea es.length ec))∧Hid (eV wr W.heap.size (.slice ea es.length ec) es)) (fun iv _=>N - (intOf iv).toNat)
 case atStart=>exact ⟨0,_,[],by omega,rfl,VRow.nil _ _,⟨S4.out,M4.out,O4.out,Z4.out,L4.out,by have:=GG.out;omega⟩,E4.out⟩
 case round =>
  clear S2 M2 Z2 Z4 S4 M4 O4 L4 L2 E2 E4 HE B1 B2 B3 HB x0 x1 x2;obtain ⟨i,ov,rs,hi,rfl,HR,HS,HEE⟩:=hrel;obtain ⟨wk,rfl⟩:∃ wk,wk=wr:=⟨_,rfl⟩;by_cases h0:i=N
  ·have hnl:¬ (i:Int)<(N:Int):=ω
   have HV1:=η (show VRow wk w.heap.size ov (qs.map (aE m)) rs from by have:=HR.out;unfold oH at this;rwa [h0,List.take_of_length_le (Nat.le_of_eq HNN.out)] at this);obtain ⟨F,hF⟩:∃ F,frs.length=F:=⟨_,rfl⟩;obtain ⟨fa,fc,ef,-⟩:=dB HF0.out.row.own;rw [hF] at ef;have HFF:=η hF;subst ef;obtain ⟨x0,x1,x2,-⟩:=HS.out.sb.three;clear hF h0 HR
   go_wp2_with fail
   go_loopw [35] (fun jv wr=>∃ (j:Nat) (fv:Value) (grs:List FR),j≤F∧jv=.int .i64 (j:Nat)∧Hid (VRow wr w.heap.size ov (qs.map (aE m)) rs)∧Hid (PlaS w wr g5 (.slice pa N pc) (.slice fa F fc) v2 a b c s ov fv (.slice ea es.length ec))∧Hid (eV wr W.heap.size (.slice ea es.length ec) es)∧Hid (FRow wr w.heap.size fv (fd m qs fqs rns j) grs)∧Hid (eJ wr w.heap.size grs rns)) (fun jv _=>F - (intOf jv).toNat)
   case atStart=>exact ⟨0,_,[],by omega,rfl,HV1.out,HS.out,HEE.out,FRow.nil _ _,fun _ _ _ h=>by simp at h⟩
   case round =>
    clear HV1 HS HEE x0 x1 x2;obtain ⟨j,fv,grs,hj,rfl,HV1,HS,HEE,HFR,HIN⟩:=hrel;obtain ⟨wj,rfl⟩:∃ wj,wj=wr:=⟨_,rfl⟩;by_cases h0:j=F
    ·have hnl2:¬ (j:Int)<(F:Int):=ω
     have HFL:=η (show FRow wj w.heap.size fv (fd m qs fqs rns fqs.length) grs from by rw [← HF0.out.row.len,HFF.out,← h0];exact HFR.out);have HEN:=η (show w.heap.size≤W.heap.size from by have:=HSZ.out;omega);obtain ⟨o0,o1,o2,-⟩:=HS.out.ob.three;have r0:=HS.out.zb.cell 0;have r1:=HS.out.zb.cell 1;have r2:=HS.out.zb.cell 2;have z0:=HS.out.zb.free 0;have z1:=HS.out.zb.free 1;have z2:=HS.out.zb.free 2;obtain ⟨oa,oc,eo,-⟩:=dB HV1.out.own;obtain ⟨pf,fn,eg,-⟩:=dB HFR.out.own;subst eo;subst eg;clear h0 HFR
     go_wp2_with fail
     exact aS Tryz.results40 (w.heap.size+2) (HS.out.zb.set3 _ _ _) _ rfl Tryz.underlying32 rfl oN rfl ⟨⟨_,_,_,_,_,rfl,pla_ret HS.out HV1.out HFL.out HIN.out HEE.out HEN.out _ _ _⟩,((HS.out.bel.setCell (p:=⟨w.heap.size+2,0,none⟩) (by show w.heap.size≤w.heap.size+2;omega) _).setCell (p:=⟨w.heap.size+2,1,none⟩) (by show w.heap.size≤w.heap.size+2;omega) _).setCell (p:=⟨w.heap.size+2,2,none⟩) (by show w.heap.size≤w.heap.size+2;omega) _⟩
    ·have hlt:(j:Int)<(F:Int):=ω
     have HJ:=η (show j<F from by omega);obtain ⟨pb,n0,n1,n2,ro,gi,ci,f,rn,b2,efa,hf,hrn,hnv,hon,hc17,hhd,hhN,hrl⟩:=(HF0.out.below HS.out.bel).open j (by have:=HFF.out;have:=HJ.out;omega);subst efa;have HLD:=η (fun j' (hj':j'<(aL n0 n1 n2 ro (some ⟨gi,0,none⟩) rn.length ci).size)=>hc17 j' hj');have HNV:=η hnv;have HON:=η hon;have HFQ:=η (show fqs[j]?=some f∧rns[j]?=some rn from ⟨hf,hrn⟩);have HHD:=η (show wj.cell? ⟨gi,0,none⟩=some (.int .i64 (rn.headD 0:Nat))∧rn.headD 0<N∧0<rn.length from ⟨hhd,HNN.out ▸ hhN,hrl⟩);clear h0 hf hrn hnv hon hc17 hhd hhN hrl
     go_upto_region 10 with (first | refine aq rfl _ _ rfl pb (j*17) rfl (aL n0 n1 n2 ro (some ⟨gi,0,none⟩) rn.length ci) _ (fun j hj=>HLD.out j hj) Tryz.underlying98 rfl fu ?_ | refine aB rfl _ _ _ rfl _ (aL n0 n1 n2 ro (some ⟨gi,0,none⟩) rn.length ci) rfl rfl fu rfl (eH n0 n1 n2 ro (some ⟨gi,0,none⟩) rn.length ci) ?_)
     obtain ⟨w5,hW5,b5,hB5,hS5⟩:=aG wj (aL n0 n1 n2 ro (some ⟨gi,0,none⟩) rn.length ci) 98;rw [hW5];have HS5:=η (HS.out.below hB5);have HV5:=η (HV1.out.below hB5);have HE5:=η (aF HEE.out hB5);have HFR5:=η (HFR.out.below hB5);have HIN5:=η (HIN.out.below hB5);have F5:=η b5;have ON5:=η (aF HON.out hB5);have HNF:=η (HF0.out.nor f (List.mem_of_getElem? HFQ.out.1));have HTU:=η (jY (.agg (aC a b c s)) (.agg (ah n0 n1 n2)) m f.1 k k w5 ⟨a,b,c,s,rfl,HM0.out.below HS5.out.bel⟩ (HNV.out.below hB5) HK.out.1 HNF.out.1 (ψ HK.out.2.2.2));have HPR:=η (fun x v h=>lm x (aM m f.1) _ v h (BdV.turn HK.out.1 HNF.out.1) (ψ HF0.out.kk) HNF.out.2.1);clear hW5 b5 hB5 hS5 HLD HNV HON HS HV1 HEE HFR HIN hlt
     go_wp2_with (first | refine aq rfl _ _ rfl (w.heap.size+1) 0 rfl (aC a b c s) _ (fun j hj=>HS5.out.mb.whole j hj) Tryz.underlying89 rfl dc ?_ | refine aq rfl _ _ rfl wj.heap.size 0 rfl (ah n0 n1 n2) _ (fun j hj=>F5.out.nor17 j hj) Tryz.underlying58 rfl aK ?_)
     refine HTU.out.mono ?_;rintro e w6 ⟨⟨v6,rfl,hv6⟩,hb6⟩;have HS6:=η (HS5.out.below hb6);have HV6:=η (HV5.out.below hb6);have HE6:=η (aF HE5.out hb6);have HFR6:=η (HFR5.out.below hb6);have HIN6:=η (HIN5.out.below hb6);have F6:=η (F5.out.below hb6 F5.out.lt);have ON6:=η (aF ON5.out hb6);clear hb6 HTU HS5 HV5 HE5 HFR5 HIN5 F5 ON5
     go_wp2_with fail
     refine (HPR.out _ _ hv6).mono ?_;rintro e w7 ⟨⟨v7,rfl,hv7⟩,hb7⟩;obtain ⟨p0,p1,p2,rfl,hpv⟩:=hv7.rcv;have HS7:=η (HS6.out.below hb7);have HV7:=η (HV6.out.below hb7);have HE7:=η (aF HE6.out hb7);have HFR7:=η (HFR6.out.below hb7);have HIN7:=η (HIN6.out.below hb7);have F7:=η (F6.out.below hb7 F6.out.lt);have ON7:=η (aF ON6.out hb7);have PV7:=η hpv;clear hv6 hv7 hpv hb7 HPR HS6 HV6 HE6 HFR6 HIN6 F6 ON6
     go_upto_region 11 with (refine aB rfl _ _ _ rfl _ (ah p0 p1 p2) rfl rfl aK rfl (bU p0 p1 p2) ?_)
     obtain ⟨w8,hW8,b8,hB8,hS8⟩:=aG w7 (ah p0 p1 p2) 58;rw [hW8];have P8:=η b8;have HS8:=η (HS7.out.below hB8);have HV8:=η (HV7.out.below hB8);have HE8:=η (aF HE7.out hB8);have HFR8:=η (HFR7.out.below hB8);have HIN8:=η (HIN7.out.below hB8);have F8:=η (F7.out.below hB8 F7.out.lt);have ON8:=η (aF ON7.out hB8);have PV8:=η (PV7.out.below hB8);have SB8:=η HS8.out.ob;obtain ⟨hd,hhd⟩:∃ hd,rn.headD 0=hd:=⟨_,rfl⟩;have HHDE:=η hhd;have hgl:grs.length=j:=by have:=HFR8.out.len;unfold fd at this;rw [List.length_map,List.length_take,List.length_zip] at this;have:=HF0.out.len;have:=HF0.out.row.len;have:=HJ.out;have:=HFF.out;omega
     have HGL:=η (show grs.length≤262144 from by have:=HF0.out.max;have:=HFF.out;have:=HJ.out;omega);have HRJ:=η (show rns[grs.length]?=some rn from by rw [hgl];exact HFQ.out.2);clear hgl;have HD8:Hid (hd<N∧0<rn.length∧w8.cell? ⟨gi,0,none⟩=some (.int .i64 (hd:Nat))):=by
      have h:=HHD.out;rw [hhd] at h;refine ⟨h.2.1,h.2.2,?_⟩;obtain ⟨x,y,hxy⟩:∃ x y,rn=x :: y:=by
       cases rn with
       | nil=>exact absurd h.2.2 (by simp)
       | cons x y=>exact ⟨x,y,rfl⟩
      have e:=World.ownsRow.cellAt ON8.out 0 (ψ h.2.2);rw [hxy] at e hhd;cases hhd;exact e
     have hvq:(qs.map (aE m))[hd]?=some (aE m (qAt qs hd)):=by
      have h:=HD8.out.1;rw [← HNN.out] at h;rw [List.getElem?_map,List.getElem?_eq_getElem h];unfold qAt;rw [List.getD_eq_getElem?_getD,List.getElem?_eq_getElem h];rfl
     obtain ⟨vb,vc,⟨D0,D1,D2⟩,ev,hvb,hvc,hob,hr,hrv,hcc⟩:=HV8.out.at_ hd _ hvq;have HLD:=η (fun j (hj:j<(ah D0 D1 D2).size)=>show w8.cell? ⟨vb,hd*12+j,none⟩=(ah D0 D1 D2)[j]? from by
      rw [hcc j hj];unfold bO;rw [Array.getElem?_toList])
     have HRV:=η hrv;have HDL:=η (show hd<qs.length from by rw [HNN.out];exact HD8.out.1);have HGI:=η (show gi<w8.heap.size from by have:=ON8.out.lt _ rfl;exact this.2);have HLDS:=η (fun w' (h:Below w8.heap.size w8 w') j (hj:j<(ah D0 D1 D2).size)=>(h.cell (p:=⟨vb,hd*12+j,none⟩) hvb).trans (HLD.out j hj));have HDT:=η (fun w' (h:Below w8.heap.size w8 w')=>gF (.agg (ah p0 p1 p2)) (.agg (ah D0 D1 D2)) _ _ kp _ w' (PV8.out.below h) (HRV.out.below h) HNF.out.2.2 ((BdV.turn HK.out.1 (HK.out.2.2.1 hd)).qadd HK.out.2.1) (by have:=HF0.out.kpm;have:=HK.out.2.2.2;omega));have HCL:=η (fun w' (h:Below w8.heap.size w8 w')=>cloneN_any _ rn b2 w' (aF ON8.out h) (HF0.out.ring rn (List.mem_of_getElem? HFQ.out.2)).1);clear hW8 b8 hB8 hS8 HS7 HV7 HE7 HFR7 HIN7 F7 ON7 PV7 hrv hcc hr hob hvq hvb HHD;refine bK (rest:=3) [isV 0 (.pointer (some ⟨g5,1,none⟩)),isV 1 (fv),isV 2 (.agg (ah p0 p1 p2)),isV 3 (.agg (ah p0 p1 p2)),isV 4 (.pointer (some ⟨g5,0,none⟩)),isV 5 (.slice (some ⟨vb,0,none⟩) qs.length vc),isV 6 (.pointer (some ⟨wj.heap.size,16,none⟩)),isV 7 (.slice (some ⟨gi,0,none⟩) rn.length ci),isV 8 (.pointer (some ⟨gi,0,none⟩)),isV 9 (.int .i64 hd),isV 10 (.pointer (some ⟨vb,hd*12,none⟩)),isV 11 (.agg (ah D0 D1 D2)),isP 12 (fun u w=>am w u (bt (cI (aM m f.1)) (aE m (qAt qs hd)))),isV 13 (.pointer (some ⟨wj.heap.size,16,none⟩)),isV 14 (.slice (some ⟨gi,0,none⟩) rn.length ci),isP 15 (fun u w=>dr w w8.heap.size u rn),isP 16 (fun u w=>∃ (ro:RC) (fa:Option Addr) (fc:Nat),u=.agg (aL p0 p1 p2 ro fa rn.length fc)∧am w ro.agg (bt (cI (aM m f.1)) (aE m (qAt qs hd)))∧dr w w8.heap.size (.slice fa rn.length fc) rn),isP 17 (fun u w=>∃ (g:Nat) (ro:RC) (fa:Option Addr) (fc:Nat),u=.slice (some ⟨g,0,none⟩) 1 1∧w8.heap.size≤g∧Box w g (aL p0 p1 p2 ro fa rn.length fc) 98∧am w ro.agg (bt (cI (aM m f.1)) (aE m (qAt qs hd)))∧dr w w8.heap.size (.slice fa rn.length fc) rn)] [17] ?A2 #[true,true,true,true,true,true,true,true,true,true,true,true,true,true,true,true,true,true,false,false,false] κ [0,1,2,3,4,5,6,7,8,9,10,11,12,13,14,15,16,17] κ κ κ κ κ κ ?st ?hA ?hop ?hend
     case hA =>
      intro y;simp only [bj,cU,List.getElem?_toArray,List.getElem?_cons_zero,List.getElem?_cons_succ,Option.bind_some,Act.put,List.setIfInBounds_toArray,List.set_cons_zero,List.set_cons_succ];exact rfl
     case st=>exact aj.cons isV.stab (aj.cons isV.stab (aj.cons isV.stab (aj.cons isV.stab (aj.cons isV.stab (aj.cons isV.stab (aj.cons isV.stab (aj.cons isV.stab (aj.cons isV.stab (aj.cons isV.stab (aj.cons isV.stab (aj.cons isV.stab (aj.cons (isP.stab (fun _ _ _ h hv=>hv.below h)) (aj.cons isV.stab (aj.cons isV.stab (aj.cons (isP.stab (fun _ _ _ h hv=>aF hv h)) (aj.cons (isP.stab (fun _ _ _ h ⟨ro,fa,fc,e,h1,h2⟩=>⟨ro,fa,fc,e,h1.below h,aF h2 h⟩)) (aj.cons (isP.stab (fun _ _ _ h ⟨g,ro,fa,fc,e,h0,h1,h2,h3⟩=>⟨g,ro,fa,fc,e,h0,h1.below h h1.lt,h2.below h,aF h3 h⟩)) (aj.nil))))))))))))))))))
     case hop =>
      refine ai.cons (i:=0) rfl (fun y w' hS hD K hK=>?_) ?_
      ·as_aux_lemma =>
       go_simp;exact hK.out _ w' hS β isV.put δ
      refine ai.cons (i:=1) rfl (fun y w' hS hD K hK=>?_) ?_
      ·as_aux_lemma =>
       have e0:=isV.get (i:=0) (c:=.pointer (some ⟨g5,1,none⟩)) (hD 0 κ);have bx:=SB8.out.below hS SB8.out.lt;obtain ⟨c0,c1,c2,-⟩:=bx.three;simp only [e0] at hK ⊢;go_simp;exact hK.out _ w' hS β isV.put δ
      refine ai.cons (i:=2) rfl (fun y w' hS hD K hK=>?_) ?_
      ·as_aux_lemma =>
       refine iteInduction (motive:=fun p=>p) (fun _=>?_) (fun h=>absurd κ h);refine aZ 58 _ rfl w7.heap.size 0 rfl (ah p0 p1 p2) _ (fun j hj=>(P8.out.below hS P8.out.lt).whole j hj) Tryz.underlying58 rfl aK ?_;exact hK.out _ w' hS β isV.put δ
      refine ai.cons (i:=3) rfl (fun y w' hS hD K hK=>?_) ?_
      ·as_aux_lemma =>
       refine iteInduction (motive:=fun p=>p) (fun _=>?_) (fun h=>absurd κ h);refine aZ 58 _ rfl w7.heap.size 0 rfl (ah p0 p1 p2) _ (fun j hj=>(P8.out.below hS P8.out.lt).whole j hj) Tryz.underlying58 rfl aK ?_;exact hK.out _ w' hS β isV.put δ
      refine ai.cons (i:=4) rfl (fun y w' hS hD K hK=>?_) ?_
      ·as_aux_lemma =>
       go_simp;exact hK.out _ w' hS β isV.put δ
      refine ai.cons (i:=5) rfl (fun y w' hS hD K hK=>?_) ?_
      ·as_aux_lemma =>
       have e4:=isV.get (i:=4) (c:=.pointer (some ⟨g5,0,none⟩)) (hD 4 κ);have bx:=SB8.out.below hS SB8.out.lt;obtain ⟨c0,c1,c2,-⟩:=bx.three;simp only [e4] at hK ⊢;go_simp;exact hK.out _ w' hS β isV.put δ
      refine ai.cons (i:=6) rfl (fun y w' hS hD K hK=>?_) ?_
      ·as_aux_lemma =>
       go_simp;exact hK.out _ w' hS β isV.put δ
      refine ai.cons (i:=7) rfl (fun y w' hS hD K hK=>?_) ?_
      ·as_aux_lemma =>
       have e6:=isV.get (i:=6) (c:=.pointer (some ⟨wj.heap.size,16,none⟩)) (hD 6 κ);have bx:=F8.out.below hS F8.out.lt;have c0:w'.cell? ⟨wj.heap.size,16,none⟩=some (.slice (some ⟨gi,0,none⟩) rn.length ci):=bx.cell 16;simp only [e6] at hK ⊢;go_simp;exact hK.out _ w' hS β isV.put δ
      refine ai.cons (i:=8) rfl (fun y w' hS hD K hK=>?_) ?_
      ·as_aux_lemma =>
       have e7:=isV.get (i:=7) (c:=.slice (some ⟨gi,0,none⟩) rn.length ci) (hD 7 κ);have hl0:=HD8.out.2.1;simp only [e7] at hK ⊢;go_simp;exact hK.out _ w' hS β isV.put δ
      refine ai.cons (i:=9) rfl (fun y w' hS hD K hK=>?_) ?_
      ·as_aux_lemma =>
       have e8:=isV.get (i:=8) (c:=.pointer (some ⟨gi,0,none⟩)) (hD 8 κ);have c0:=(hS.cell (p:=⟨gi,0,none⟩) HGI.out).trans HD8.out.2.2;simp only [e8] at hK ⊢;go_simp;exact hK.out _ w' hS β isV.put δ
      refine ai.cons (i:=10) rfl (fun y w' hS hD K hK=>?_) ?_
      ·as_aux_lemma =>
       have e5:=isV.get (i:=5) (c:=.slice (some ⟨vb,0,none⟩) qs.length vc) (hD 5 κ);have e9:=isV.get (i:=9) (c:=.int .i64 hd) (hD 9 κ);have hlt:=HDL.out;simp only [e5,e9] at hK ⊢;go_simp;exact hK.out _ w' hS β isV.put δ
      refine ai.cons (i:=11) rfl (fun y w' hS hD K hK=>?_) ?_
      ·as_aux_lemma =>
       have e10:=isV.get (i:=10) (c:=.pointer (some ⟨vb,hd*12,none⟩)) (hD 10 κ);simp only [e10] at hK ⊢;refine iteInduction (motive:=fun p=>p) (fun _=>?_) (fun h=>absurd κ h);refine aZ 58 _ rfl vb (hd*12) rfl (ah D0 D1 D2) _ (fun j hj=>HLDS.out w' hS j hj) Tryz.underlying58 rfl aK ?_;exact hK.out _ w' hS β isV.put δ
      refine ai.cons (i:=12) rfl (fun y w' hS hD K hK=>?_) ?_
      ·as_aux_lemma =>
       have e3:=isV.get (i:=3) (c:=.agg (ah p0 p1 p2)) (hD 3 κ);have e11:=isV.get (i:=11) (c:=.agg (ah D0 D1 D2)) (hD 11 κ);simp only [e3,e11] at hK ⊢;go_simp;refine (HDT.out w' hS).mono ?_;rintro e w'' ⟨⟨v,rfl,hv⟩,hb⟩;exact hK.out v w'' (ae hS hb ρ) hb (isP.put hv) δ
      refine ai.cons (i:=13) rfl (fun y w' hS hD K hK=>?_) ?_
      ·as_aux_lemma =>
       go_simp;exact hK.out _ w' hS β isV.put δ
      refine ai.cons (i:=14) rfl (fun y w' hS hD K hK=>?_) ?_
      ·as_aux_lemma =>
       have e13:=isV.get (i:=13) (c:=.pointer (some ⟨wj.heap.size,16,none⟩)) (hD 13 κ);have bx:=F8.out.below hS F8.out.lt;have c0:w'.cell? ⟨wj.heap.size,16,none⟩=some (.slice (some ⟨gi,0,none⟩) rn.length ci):=bx.cell 16;simp only [e13] at hK ⊢;go_simp;exact hK.out _ w' hS β isV.put δ
      refine ai.cons (i:=15) rfl (fun y w' hS hD K hK=>?_) ?_
      ·as_aux_lemma =>
       have e14:=isV.get (i:=14) (c:=.slice (some ⟨gi,0,none⟩) rn.length ci) (hD 14 κ);simp only [e14] at hK ⊢;go_simp;refine (HCL.out w' hS).mono ?_;rintro e w'' ⟨⟨v,rfl,hv⟩,hb⟩;exact hK.out v w'' (ae hS hb ρ) hb (isP.put (cj hv hS.size)) δ
      refine ai.cons (i:=16) rfl (fun y w' hS hD K hK=>?_) ?_
      ·as_aux_lemma =>
       have e2:=isV.get (i:=2) (c:=.agg (ah p0 p1 p2)) (hD 2 κ);have e12:=isP.get (i:=12) (p:=fun u w=>am w u (bt (cI (aM m f.1)) (aE m (qAt qs hd)))) (hD 12 κ);have e15:=isP.get (i:=15) (p:=fun u w=>dr w w8.heap.size u rn) (hD 15 κ);obtain ⟨ro,er,hr⟩:=e12.rcv;obtain ⟨fa,fc,ef,-⟩:=dB e15;simp only [e2,er,ef] at hK ⊢;rw [er] at e12;rw [ef] at e15;refine iteInduction (motive:=fun p=>p) (fun _=>?_) (fun h=>absurd κ h);refine nQ _ _ _ p0 p1 p2 ro fa rn.length fc rfl rfl rfl rfl ?_;exact hK.out _ w' hS β (isP.put ⟨ro,fa,fc,rfl,hr,e15⟩) δ
      refine ai.cons (i:=17) rfl (fun y w' hS hD K hK=>?_) ?_
      ·as_aux_lemma =>
       have e16:=isP.get (i:=16) (p:=fun u w=>∃ (ro:RC) (fa:Option Addr) (fc:Nat),u=.agg (aL p0 p1 p2 ro fa rn.length fc)∧am w ro.agg (bt (cI (aM m f.1)) (aE m (qAt qs hd)))∧dr w w8.heap.size (.slice fa rn.length fc) rn) (hD 16 κ);obtain ⟨ro,fa,fc,eq,hr,ho⟩:=e16;simp only [eq] at hK ⊢;refine iteInduction (motive:=fun p=>p) (fun _=>?_) (fun h=>absurd κ h);refine mm _ p0 p1 p2 ro fa rn.length fc rfl rfl ?_;exact hK.out _ _ (hS.alloc hS.size _) (β.alloc ρ _) (isP.put ⟨_,ro,fa,fc,rfl,hS.size,Box.new _ _ _ _ rfl,hr.below (β.alloc ρ _),aF ho (β.alloc ρ _)⟩) (fun _ j hj hne _=>absurd (List.mem_singleton.1 hj) hne)
      exact ai.nil
     case hend =>
      intro y w' hS hR hF;have e1:=isV.get (i:=1) (c:=fv) (hR 1 κ);obtain ⟨gn,ro,fa,fc,e17,hgn,bgn,hro,hfo⟩:=isP.get (i:=17) (p:=fun u w=>∃ (g:Nat) (ro:RC) (fa:Option Addr) (fc:Nat),u=.slice (some ⟨g,0,none⟩) 1 1∧w8.heap.size≤g∧Box w g (aL p0 p1 p2 ro fa rn.length fc) 98∧am w ro.agg (bt (cI (aM m f.1)) (aE m (qAt qs hd)))∧dr w w8.heap.size (.slice fa rn.length fc) rn) (hR 17 κ);simp only [e1,e17];refine bM (i:=18) (listed2:=#[true,true,true,true,true,true,true,true,true,true,true,true,true,true,true,true,true,true,true,false,false]) κ rfl κ (fun K hK=>?_);refine iteInduction (motive:=fun p=>p) (fun _=>?_) (fun h=>absurd κ h);have FRS:=HFR8.out.below hS;obtain ⟨j0,jinf,jz0,jz1,jz2⟩:=info_parts infoFace;refine gP w' _ _ 29 rfl w.heap.size 98 j0 (.agg #[.bool false,.slice none 0 0,.bool false,.slice none 0 0,.bool false,.slice none 0 0,.bool false,.slice none 0 0,.bool false,.slice none 0 0,.bool false,.slice none 0 0,.bool false,.slice none 0 0,.bool false,.slice none 0 0,.slice none 0 0]) 17 280 Tryz.underlying29 jinf jz0 jz1 jz2 rfl ν fv grs.length (grs.flatMap dj) rfl FRS.own (some ⟨gn,0,none⟩) 1 1 (dj ⟨(p0,p1,p2),ro,.slice fa rn.length fc⟩) rfl ⟨rfl,.inr ⟨_,rfl,fun j u hu=>by rw [lk,Nat.zero_add];exact Box.src17 (r:=⟨(p0,p1,p2),ro,.slice fa rn.length fc⟩) bgn j u hu⟩⟩ (face17_one _ _ _ _ _ _ _) (by have:=HGL.out;unfold maxLen;omega) (ψ HGL.out) (by have:=HS8.out.bel.size;have:=hS.size;omega) ?_;intro v' w5 hown hgrow;obtain ⟨va,vc,rfl,-⟩:=dB hown;refine hK.out _ _ ?_;clear hK K jinf jz0 jz1 jz2 j0;have HFIN:=η ((HS8.out.below hS).appF FRS (HV8.out.below hS) (aF HE8.out hS) (HIN8.out.below hS) (r:=⟨(p0,p1,p2),ro,.slice fa rn.length fc⟩) (q:=(cI (aM m f.1),bt (cI (aM m f.1)) (aE m (qAt qs hd)))) (PV8.out.below hS) hro HRJ.out (cj hfo HS8.out.bel.size) hown hgrow);have SB5:=η (((HS8.out.below hS).grown FRS.own ν ν hgrow).ob);clear hS hR hF e1 e17 hgn bgn hro hfo FRS hown hgrow;refine bM (i:=19) (listed2:=#[true,true,true,true,true,true,true,true,true,true,true,true,true,true,true,true,true,true,true,true,false]) κ rfl κ (fun K hK=>?_);go_simp;refine hK.out _ _ ?_;clear hK K;refine bM (i:=20) (listed2:=#[true,true,true,true,true,true,true,true,true,true,true,true,true,true,true,true,true,true,true,true,true]) κ rfl κ (fun K hK=>?_);have f0:=SB5.out.free 1;have c0:=SB5.out.cell 1;go_simp;refine hK.out _ _ ?_;clear hK K f0 c0;refine bq κ ?_;have hF2:F≤262144:=by have:=HF0.out.max;have:=HFF.out;omega
      go_wp2_with fail
      go_round
      case rel =>
       refine ⟨j+1,_,grs ++ [(⟨(p0,p1,p2),ro,.slice fa rn.length fc⟩:FR)],HJ.out,rfl,HFIN.out.1,HFIN.out.2.1,HFIN.out.2.2.1,?_,HFIN.out.2.2.2.2⟩;show FRow _ _ _ _ _;rw [moveFs_succ m qs HFQ.out.1 HFQ.out.2];unfold oI;rw [HHDE.out];exact HFIN.out.2.2.2.1
      case measure=>show F - ((j:Int)+1).toNat<F - (j:Int).toNat;have:=HJ.out;omega
  ·have hlt:(i:Int)<(N:Int):=ω
   have HI:=η (show i<N from by omega);have hqi:qs[i]?=some (qAt qs i):=by
    have h:=HI.out;rw [← HNN.out] at h;unfold qAt;rw [List.getD_eq_getElem?_getD,List.getElem?_eq_getElem h];rfl
   obtain ⟨pb,cap,⟨R0,R1,R2⟩,ev,hpb,hcap,hob,hr,hrv,hcc⟩:=(HV0.out.below HS.out.bel).at_ i _ hqi;obtain ⟨rfl,rfl⟩:pa=some ⟨pb,0,none⟩∧pc=cap:=by injection ev with e1 e2 e3;exact ⟨e1,e3⟩
   have HLD:=η (fun j (hj:j<(ah R0 R1 R2).size)=>show wk.cell? ⟨pb,i*12+j,none⟩=(ah R0 R1 R2)[j]? from by
    rw [hcc j hj];unfold bO;rw [Array.getElem?_toList])
   have HRV:=η hrv;clear h0 ev hob hr hrv hcc hqi
   go_upto_region 5 with (first | refine aq rfl _ _ rfl pb (i*12) rfl (ah R0 R1 R2) _ (fun j hj=>HLD.out j hj) Tryz.underlying58 rfl aK ?_ | refine aB rfl _ _ _ rfl _ (ah R0 R1 R2) rfl rfl aK rfl (bU R0 R1 R2) ?_)
   obtain ⟨w3,hW3,b3,hB3,hS3⟩:=aG wk (ah R0 R1 R2) 58;rw [hW3];have R3:=η b3;have HS3:=η (HS.out.below hB3);have SB3:=η HS3.out.ob;have MB3:=η HS3.out.mb;have OV3:=η (HR.out.below hB3);have E3:=η (aF HEE.out hB3);have HRV3:=η (HRV.out.below hB3);have HAP:=η (fun w' (h:Below w3.heap.size w3 w')=>li (.agg (aC a b c s)) (.agg (ah R0 R1 R2)) m (qAt qs i) k l w' ⟨a,b,c,s,rfl,(HM0.out.below HS3.out.bel).below h⟩ (HRV3.out.below h) HK.out.1 HK.out.2.1 (HK.out.2.2.1 i) HK.out.2.2.2);have hrl:rs.length=i:=by have:=HR.out.len;unfold oH at this;rw [List.length_map,List.length_take] at this;have:=HI.out;have:=HNN.out;omega
   clear hW3 b3 hB3 hS3 HLD HRV HR HS HEE hlt;refine bK (rest:=3) [isV 0 (.pointer (some ⟨g5,0,none⟩)),isV 1 (ov),isV 2 (.agg (aC a b c s)),isV 3 (.agg (ah R0 R1 R2)),isP 4 (fun u w=>aA w u (aE m (qAt qs i))),isP 5 (fun u w=>∃ (g:Nat) (D0 D1 D2:RC),u=.slice (some ⟨g,0,none⟩) 1 1∧w3.heap.size≤g∧Box w g (ah D0 D1 D2) 58∧aA w (.agg (ah D0 D1 D2)) (aE m (qAt qs i)))] [5] ?A1 #[true,true,true,true,true,true,false,false,false] κ [0,1,2,3,4,5] κ κ κ κ κ κ ?st ?hA ?hop ?hend
   case hA =>
    intro y;simp only [bj,cU,List.getElem?_toArray,List.getElem?_cons_zero,List.getElem?_cons_succ,Option.bind_some,Act.put,List.setIfInBounds_toArray,List.set_cons_zero,List.set_cons_succ];exact rfl
   case st=>exact aj.cons isV.stab (aj.cons isV.stab (aj.cons isV.stab (aj.cons isV.stab (aj.cons (isP.stab (fun _ _ _ h hv=>hv.below h)) (aj.cons (isP.stab (fun _ _ _ h ⟨g,D0,D1,D2,e,h1,h2,h3⟩=>⟨g,D0,D1,D2,e,h1,h2.below h h2.lt,h3.below h⟩)) (aj.nil))))))
   case hop =>
    refine ai.cons (i:=0) rfl (fun y w' hS hD K hK=>?_) ?_
    ·as_aux_lemma =>
     go_simp;exact hK.out _ w' hS β isV.put δ
    refine ai.cons (i:=1) rfl (fun y w' hS hD K hK=>?_) ?_
    ·as_aux_lemma =>
     have e0:=isV.get (i:=0) (c:=.pointer (some ⟨g5,0,none⟩)) (hD 0 κ);have bx:=SB3.out.below hS SB3.out.lt;obtain ⟨c0,c1,c2,-⟩:=bx.three;simp only [e0] at hK ⊢;go_simp;exact hK.out _ w' hS β isV.put δ
    refine ai.cons (i:=2) rfl (fun y w' hS hD K hK=>?_) ?_
    ·as_aux_lemma =>
     refine iteInduction (motive:=fun p=>p) (fun _=>?_) (fun h=>absurd κ h);refine aZ 89 _ rfl (w.heap.size+1) 0 rfl (aC a b c s) _ (fun j hj=>(MB3.out.below hS MB3.out.lt).whole j hj) Tryz.underlying89 rfl dc ?_;exact hK.out _ w' hS β isV.put δ
    refine ai.cons (i:=3) rfl (fun y w' hS hD K hK=>?_) ?_
    ·as_aux_lemma =>
     refine iteInduction (motive:=fun p=>p) (fun _=>?_) (fun h=>absurd κ h);refine aZ 58 _ rfl wk.heap.size 0 rfl (ah R0 R1 R2) _ (fun j hj=>(R3.out.below hS R3.out.lt).whole j hj) Tryz.underlying58 rfl aK ?_;exact hK.out _ w' hS β isV.put δ
    refine ai.cons (i:=4) rfl (fun y w' hS hD K hK=>?_) ?_
    ·as_aux_lemma =>
     have e2:=isV.get (i:=2) (c:=.agg (aC a b c s)) (hD 2 κ);have e3:=isV.get (i:=3) (c:=.agg (ah R0 R1 R2)) (hD 3 κ);simp only [e2,e3] at hK ⊢;go_simp;refine (HAP.out w' hS).mono ?_;rintro e w'' ⟨⟨v,rfl,hv⟩,hb⟩;exact hK.out v w'' (ae hS hb ρ) hb (isP.put hv) δ
    refine ai.cons (i:=5) rfl (fun y w' hS hD K hK=>?_) ?_
    ·as_aux_lemma =>
     have e4:=isP.get (i:=4) (p:=fun u w=>aA w u (aE m (qAt qs i))) (hD 4 κ);obtain ⟨D0,D1,D2,eq,hq⟩:=e4.rcv;simp only [eq] at hK ⊢;have HQQ:=η hq;clear eq hq;refine iteInduction (motive:=fun p=>p) (fun _=>?_) (fun h=>absurd κ h);refine nR _ D0 D1 D2 rfl rfl ?_;exact hK.out _ _ (hS.alloc hS.size _) (β.alloc ρ _) (isP.put ⟨_,D0,D1,D2,rfl,hS.size,Box.new _ _ _ _ rfl,HQQ.out.below (β.alloc ρ _)⟩) (fun _ j hj hne _=>absurd (List.mem_singleton.1 hj) hne)
    exact ai.nil
   case hend =>
    intro y w' hS hR hF;have e1:=isV.get (i:=1) (c:=ov) (hR 1 κ);obtain ⟨gn,D0,D1,D2,e5,hgn,bgn,hD⟩:=isP.get (i:=5) (p:=fun u w=>∃ (g:Nat) (D0 D1 D2:RC),u=.slice (some ⟨g,0,none⟩) 1 1∧w3.heap.size≤g∧Box w g (ah D0 D1 D2) 58∧aA w (.agg (ah D0 D1 D2)) (aE m (qAt qs i))) (hR 5 κ);simp only [e1,e5];refine bM (i:=6) (listed2:=#[true,true,true,true,true,true,true,false,false]) κ rfl κ (fun K hK=>?_);refine iteInduction (motive:=fun p=>p) (fun _=>?_) (fun h=>absurd κ h);have OVS:=OV3.out.below hS;refine gP w' _ _ 28 rfl w.heap.size 58 i0 (.agg (ah RC.zero RC.zero RC.zero)) 12 192 Tryz.underlying28 hinf hz0 hz1 hz2 rfl ν ov rs.length (rs.flatMap bO) rfl OVS.own (some ⟨gn,0,none⟩) 1 1 (bO (D0,D1,D2)) rfl ⟨rfl,.inr ⟨_,rfl,fun j u hu=>by rw [lk,Nat.zero_add];exact bgn.src12 (r:=(D0,D1,D2)) j u hu⟩⟩ (vec12_one _) (by unfold maxLen;omega) ω (by have:=HS3.out.bel.size;have:=hS.size;omega) ?_;intro v' w5 hown hgrow;obtain ⟨va,vc,rfl,-⟩:=dB hown;refine hK.out _ _ ?_;clear hK K;have HFIN:=η ((HS3.out.below hS).app OVS (aF E3.out hS) (r:=(D0,D1,D2)) hD hown hgrow);rw [hrl] at HFIN;have SB5:=η (((HS3.out.below hS).grown OVS.own ν ν hgrow).ob);clear hS hR hF e1 e5 hgn bgn hD OVS hown hgrow;refine bM (i:=7) (listed2:=#[true,true,true,true,true,true,true,true,false]) κ rfl κ (fun K hK=>?_);go_simp;refine hK.out _ _ ?_;clear hK K;refine bM (i:=8) (listed2:=#[true,true,true,true,true,true,true,true,true]) κ rfl κ (fun K hK=>?_);have f0:=SB5.out.free 0;have c0:=SB5.out.cell 0;go_simp;refine hK.out _ _ ?_;clear hK K f0 c0;refine bq κ ?_
    go_wp2_with fail
    go_round
    case rel =>
     refine ⟨i+1,_,rs ++ [(D0,D1,D2)],HI.out,rfl,?_,HFIN.out.2.1,HFIN.out.2.2⟩;show VRow _ _ _ _ _;rw [moveV_succ m qs i (by have:=HI.out;have:=HNN.out;omega)];exact HFIN.out.1
    case measure=>show N - ((i:Int)+1).toNat<N - (i:Int).toNat;have:=HI.out;omega
end Go.Proofs.Υ
end

section
namespace Dowel
open V Go Go.Proofs.Υ
section
variable {P : Nat → V} {N E : Nat} {fs : List RF}
theorem RingsOk.sum_ne (h:RingsOk P N fs E) (hV:Valid P N) (hr:∀ f ∈ fs,∀ i ∈ f.r,i<N):bB (ak (qAt (dU P N)) (fs.map RF.r))≠0:=by
 have h4:=hV.four;obtain ⟨ps,hps,hg⟩:=h.fans;have e1:=sumD_pts (P:=P) (N:=N) (rs:=fs.map RF.r) ω (fun r hm=>by
  obtain ⟨f,hf,rfl⟩:=List.mem_map.mp hm;exact hr f hf)
 rw [hg] at e1;have hp:=fans_pos hps hV.sorted.inj hV.full hV.top (show 0<N by omega);have hpq:(0:Rat)<bB (ak (qAt (dU P N)) (fs.map RF.r)):=by rw [e1];exact_mod_cast hp
 exact Rat.ne_of_gt hpq
theorem turn_bd {q:Q4} {s:Q3} (hq:OkQ q) {n:V} (hn:LeV 134217728 n):BdV 2 (aM (fz q s) (ptQ n)):=by
 have hf:bN 1 134217728 (ptQ n):=⟨cO.int _ _ (by have:=hn.1;unfold Le at this;omega),cO.int _ _ (by have:=hn.2.1;unfold Le at this;omega),cO.int _ _ (by have:=hn.2.2;unfold Le at this;omega)⟩;have r:=fun i=>(m8 hq s i).dot hf
 have h:bN 60 1000000000000 (aM (fz q s) (ptQ n)):=⟨(r 0).mono ν,(r 1).mono ν,(r 2).mono ν⟩;exact h.bd ν ν ν
theorem pt_zero {p:V} (h:ptQ p=⟨0,0,0⟩):p=V.zero:=by
 injection h with h1 h2 h3
 obtain ⟨x,y,z⟩:=p;have e1:x=0:=by exact_mod_cast h1
 have e2:y=0:=by exact_mod_cast h2
 have e3:z=0:=by exact_mod_cast h3
 rw [e1,e2,e3];rfl
theorem RingsOk.turned (h:RingsOk P N fs E) (hS:Sorted P N) (hn:∀ i,i<N→LeV 4096 (P i)) {q:Q4} (hq:OkQ q) (s:Q3):∀ f ∈ fs.map (gM P),BdV 2 f.1∧aM (fz q s) f.1≠⟨0,0,0⟩∧BdV 18 (cI (aM (fz q s) f.1)):=fun g hg=>by
 have hb:=h.bd hS hn g hg;obtain ⟨f,hf,rfl⟩:=List.mem_map.mp hg;obtain ⟨b,hF,-,-,-⟩:=h.pl hS hf;obtain ⟨h1,-⟩:=h.face hS hf;have hl:LeV 134217728 (aQ f.n):=j6 (pV hn hF) ω;rw [h1] at hb ⊢;have hb2:BdV 2 (aM (fz q s) (ptQ (aQ f.n))):=turn_bd hq hl;have h0:aM (fz q s) (ptQ (aQ f.n))≠⟨0,0,0⟩:=turn_ne (rot_mot q s (ψ hq.pos)) (fun e=>iS hF.n0 (pt_zero e));exact ⟨hb.1,h0,bd_primQ ⟨hb2,h0⟩⟩
end
theorem SolidF.moved {w w':World} {v0 v1 u0 u1:Value} {qs:List Q3} {frs grs:List FR} {rns:List (List Nat)} {q:Q4} {s:Q3} (h:SolidF w v0 v1 qs frs rns 1 4096) (hq:OkQ q) (hs:bN 60 100000 s) {b1 b2 b3:Nat} {vrs:List (RC × RC × RC)} {fq:List (Q3 × Rat)}
  (hV:VRow w' b1 u0 (qs.map (aE (fz q s))) vrs) (hF:FRow w' b2 u1 fq grs) (hI:eJ w' b3 grs rns) (hl:grs.length=frs.length):SolidF w' u0 u1 (qs.map (aE (fz q s))) grs rns 60 100000000:=by
 have hfr:∀ i,bN 60 100000000 (qAt (qs.map (aE (fz q s))) i):=fun i=>by
  by_cases hi:i<qs.length
  ·rw [eM hi];exact frac_move hq hs (h.frac i)
  ·have z:∀ M,cO 60 M 0:=fun M=>(cO.zero 60).mono (Nat.zero_le _)
   have e:qAt (qs.map (aE (fz q s))) i=⟨0,0,0⟩:=by
    unfold qAt;rw [List.getD_eq_getElem?_getD,List.getElem?_eq_none (by simp;omega)];rfl
   rw [e];exact ⟨z _,z _,z _⟩
 have hlq:(qs.map (aE (fz q s))).length=qs.length:=List.length_map ..;refine ⟨⟨⟨_,_,hV⟩,⟨_,_,hF⟩,fun i f r h1 h2=>⟨_,hI i f r h1 h2⟩,by rw [hl];exact h.sol.len,by rw [hl];exact h.sol.max,by rw [hlq];exact h.sol.vmax,fun r hr=>⟨(h.sol.ring r hr).1,(h.sol.ring r hr).2.1,by rw [hlq];exact (h.sol.ring r hr).2.2⟩,fun x hx=>?_⟩,by decide,by decide,by decide,hfr⟩;obtain ⟨i,hi,rfl⟩:=List.mem_iff_getElem.1 hx;have e:qAt (qs.map (aE (fz q s))) i=(qs.map (aE (fz q s)))[i]:=by
  unfold qAt;rw [List.getD_eq_getElem?_getD,List.getElem?_eq_getElem hi];rfl
 rw [← e];exact (hfr i).bd ν ν ν
end Dowel
end
