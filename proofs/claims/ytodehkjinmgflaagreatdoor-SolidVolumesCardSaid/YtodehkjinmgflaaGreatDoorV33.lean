/- Lemmas. -/
import Derived.Test.YtodehkjinmgflaaGreatDoorV29
import Derived.Test.YtodehkjinmgflaaGreatDoorV36
set_option linter.all false
set_option maxHeartbeats 0
set_option maxRecDepth 99999
namespace Go.Proofs.Υ
open Go Go.RowKit Tryz
section
open V
theorem fx{w:World}{g i:Nat}{e cs:Array Value}{t:TypeId}(hb:Box w g e t)(v:Value):(w.setRow g cs).setCell ⟨g,i,none⟩ v=w.setRow g (cs.setIfInBounds i v):=by
 rw[setCell_eq_setRow (w.setRow g cs) g i cs t (0,0) v (setRow_heap w g e cs t (0,0) hb),setRow_setRow]
theorem me{w:World}{g o:Nat}{e cs:Array Value}{t:TypeId}(hb:Box w g e t)(r:RC):∃X,Υ.put4 (w.setRow g cs) g o r=w.setRow g X:=by
 unfold Υ.put4;rw[fx hb,fx hb,fx hb,fx hb];exact⟨_,rfl⟩
theorem fh{w:World}{g:Nat}{u A C:RC}{t:TypeId}(hb:Box w g (ah u A C) t)(a b c:RC):Υ.put12 w g a b c=w.setRow g (ah a b c):=by
 have key:∃X,Υ.put12 w g a b c=w.setRow g X:=by
  obtain⟨F,j⟩:=me (cs:=ah u A C) (o:=0) hb a;obtain⟨G,J⟩:=me (cs:=F) (o:=4) hb b;obtain⟨H,L⟩:=me (cs:=G) (o:=8) hb c;rw[setRow_self w g _ t (0,0) hb]at j;refine⟨H,?_⟩;unfold Υ.put12;rw[j,J,L]
 obtain⟨X,e⟩:=key;have i:(Υ.put12 w g a b c).heap[g]?=some (.cells (ah a b c) t (0,0)):=hb.s12 a b c;rw[e,setRow_heap w g _ X t (0,0) hb]at i;injection i with i
 injection i with i
 rw[e,i]
end
structure Mo where
 a:Q3
 b:Q3
 c:Q3
 s:Q3
def Mo.row(m:Mo):Nat->Q3
 | 0=>m.a
 | 1=>m.b
 | _+2=>m.c
def ic(a b c:RC×RC×RC):Array Value:=(bQ a++bQ b++bQ c).toArray
def aJ(a b c s:RC×RC×RC):Array Value:=(bQ a++bQ b++bQ c++bQ s).toArray
def rc3(r:RC×RC×RC):Value:=.agg (ah r.1 r.2.1 r.2.2)
def pickR(a b c:RC×RC×RC):Nat->RC×RC×RC
 | 0=>a
 | 1=>b
 | _+2=>c
structure MotR (w:World) (a b c s:RC × RC × RC) (m:Mo):Prop where
 a:am w (rc3 a) m.a
 b:am w (rc3 b) m.b
 c:am w (rc3 c) m.c
 s:am w (rc3 s) m.s
def sX(w:World)(v:Value)(m:Mo):Prop:=∃a b c s,v=.agg (aJ a b c s)/\MotR w a b c s m
theorem MotR.below{w w':World}{a b c s:RC×RC×RC}{m:Mo}(h:MotR w a b c s m)(hb:Bl w w'):MotR w' a b c s m:=⟨h.a.below hb,h.b.below hb,h.c.below hb,h.s.below hb⟩
theorem MotR.put4{w:World}{a b c s:RC×RC×RC}{m:Mo}(h:MotR w a b c s m){g o:Nat}{r:RC}(ha:At4 w g o r)(e:RC):MotR (Υ.put4 w g o e) a b c s m:=⟨h.a.put4 ha e,h.b.put4 ha e,h.c.put4 ha e,h.s.put4 ha e⟩
theorem MotR.row{w:World}{a b c s:RC×RC×RC}{m:Mo}(h:MotR w a b c s m)(k:Nat):am w (rc3 (pickR a b c k)) (m.row k):=by
 match k with
 | 0=>exact h.a
 | 1=>exact h.b
 | _+2=>exact h.c
def bH(m:Mo)(v:Q3):Q3:=⟨aT m.a v,aT m.b v,aT m.c v⟩
theorem tW(a b c:RC×RC×RC):(ic a b c).size=36:=rfl
theorem tV(a b c s:RC×RC×RC):(aJ a b c s).size=48:=rfl
theorem Box.rows{w:World}{g:Nat}{a b c s:RC×RC×RC}{t:TypeId}(h:Box w g (aJ a b c s) t)(j:Nat)(e:j<(ic a b c).size):w.cell? ⟨g,0+j,none⟩=(ic a b c)[j]? := by
 rw[h.cell,Nat.zero_add];unfold aJ ic;rw[List.getElem?_toArray,List.getElem?_toArray,List.getElem?_append_left (by rw[tW]at e;exact e)]
theorem Box.shift{w:World}{g:Nat}{a b c s:RC×RC×RC}{t:TypeId}(h:Box w g (aJ a b c s) t)(j:Nat)(_:j<(ah s.1 s.2.1 s.2.2).size):w.cell? ⟨g,36+j,none⟩=(ah s.1 s.2.1 s.2.2)[j]? := by
 rw[h.cell];unfold aJ;rw[List.getElem?_toArray,List.getElem?_append_right (by show 36<=36+j;omega),show 36+j-(bQ a++bQ b++bQ c).length=j from by show 36+j-36=j;omega];unfold bQ;rw[Array.getElem?_toList]
theorem Box.whole{w:World}{g:Nat}{cs:Array Value}{t:TypeId}(h:Box w g cs t)(j:Nat)(_:j<cs.size):w.cell? ⟨g,0+j,none⟩=cs[j]? := by rw[h.cell,Nat.zero_add]
def mO(w:World)(g k:Nat)(q:Nat->Rat)(t:TypeId):Prop:=∃o0 o1 o2:RC,Box w g (ah o0 o1 o2) t/\(0<k->ak w o0.agg (q 0))/\(1<k->ak w o1.agg (q 1))/\(2<k->ak w o2.agg (q 2))
theorem mO.below{w w':World}{g k:Nat}{q:Nat->Rat}{t:TypeId}(h:mO w g k q t)(hb:Bl w w'):mO w' g k q t:=by
 obtain⟨A,C,F,e,i,j,u⟩:=h;exact⟨A,C,F,e.to hb,fun h=>(i h).below hb,fun h=>(j h).below hb,fun h=>(u h).below hb⟩
theorem mO.at4{w:World}{g k:Nat}{q:Nat->Rat}{t:TypeId}(h:mO w g k q t)(i:k<3):∃r,At4 w g (k*4) r:=by
 obtain⟨j,u,A,e,-⟩:=h
 match k,i with
 | 0,_=>exact⟨_,e.p0⟩
 | 1,_=>exact⟨_,e.p1⟩
 | 2,_=>exact⟨_,e.p2⟩
theorem mO.put{w:World}{g k:Nat}{q:Nat->Rat}{t:TypeId}(h:mO w g k q t)(G:k<3){r:RC}(i:ak w r.agg (q k)):mO (put4 w g (k*4) r) g (k+1) q t:=by
 obtain⟨u,A,C,e,j,F,H⟩:=h;have J:=G;obtain rfl|rfl|rfl:k=0\/k=1\/k=2:=I
 ·refine⟨r,A,C,e.s0 r,fun _=>i.put4 e.p0 r,fun h=>absurd h I,fun h=>absurd h I⟩
 ·refine⟨u,r,C,e.s1 r,fun _=>(j I).put4 e.p1 r,fun _=>i.put4 e.p1 r,fun h=>absurd h I⟩
 ·refine⟨u,A,r,e.s2 r,fun _=>(j I).put4 e.p2 r,fun _=>(F I).put4 e.p2 r,fun _=>i.put4 e.p2 r⟩
theorem gt:(prog.info? 60).map (·.size)=some 48:=by kernel_rfl
theorem index_row(a b c:RC×RC×RC)(k:Nat)(j:k<3)(w:World):(Instr.index 58 (.agg (ic a b c)) (.int .i64 (k:Nat))).run prog w=.ok (rc3 (pickR a b c k)) w:=by
 have h0:∀w,(Instr.index 58 (.agg (ic a b c)) (.int .i64 0)).run prog w=.ok (rc3 a) w:=fun _=>by kernel_rfl
 have e:∀w,(Instr.index 58 (.agg (ic a b c)) (.int .i64 1)).run prog w=.ok (rc3 b) w:=fun _=>by kernel_rfl
 have i:∀w,(Instr.index 58 (.agg (ic a b c)) (.int .i64 2)).run prog w=.ok (rc3 c) w:=fun _=>by kernel_rfl
 obtain rfl|rfl|rfl:k=0\/k=1\/k=2:=I
 ·exact h0 w
 ·exact e w
 ·exact i w
theorem infoRow3:(prog.info? 58).map (·.size)=some 36:=by kernel_rfl
theorem turn_any(vm vv:Value)(m:Mo)(v:Q3)(k l:Nat)(w:World)(hm:sX w vm m)(hv:am w vv v)(hk:∀i,BdV k (m.row i))(hl:BdV l v)(h1:k+l<200000):
 Calls prog 61 #[vm,vv] w fun e w'=>gU w' e (bH m v)/\Bl w w':=by
 obtain⟨a,b,c,s,rfl,ap⟩:=hm;obtain⟨v0,v1,v2,rfl,ar,au,av⟩:=hv;have aw:am w (.agg (ah v0 v1 v2)) v:=⟨v0,v1,v2,rfl,ar,au,av⟩;obtain⟨W,hW,b1,b2,b3,b4,hB,hS⟩:=nC w (aJ a b c s) (ah v0 v1 v2) (ah RC.zero RC.zero RC.zero) (ah RC.zero RC.zero RC.zero) 60 57 57 57;obtain⟨HM,HV,HB,a8,B1,B2,B3,B4,HK⟩:=η9 (ap.below hB) (aw.below hB) hB hS b1 b2 b3 b4 hk;have HL:=O hl;clear ap aw ar au av hB hS b1 b2 b3 b4 hk hl;rw[lS]at hW
 go_enter func61,ntmps61
 go_wp2_with (refine aj rfl _ _ rfl w.heap.size 0 rfl (ic a b c) _ (fun j Y=>B1.o.rows j Y) underlying58 rfl infoRow3 ?_)
 go_loopw [10] (fun kv wr=>∃k:Nat,k<=3/\kv=.int .i64 (k:Nat)/\Hid (mO wr (w.heap.size+3) k (fun i=>aT (m.row i) v) 57)/\Hid (Box wr (w.heap.size+2) (ah RC.zero RC.zero RC.zero) 57)/\Hid (Below (w.heap.size+2) W wr)/\Hid (MotR wr a b c s m)/\Hid (am wr (.agg (ah v0 v1 v2)) v)) (fun kv _=>3-(intOf kv).toNat)
 case atStart=>exact⟨0,by omega,rfl,⟨_,_,_,B4.o,fun h=>absurd h I,fun h=>absurd h I,fun h=>absurd h I⟩,B3.o,Below.refl _ _,HM.o,HV.o⟩
 case round =>
  clear HM HV;obtain⟨k,hk,rfl,HO,U,HR,HM,HV⟩:=hrel;obtain⟨wk,rfl⟩:=φ wr;by_cases h0:k=3
  ·have ba:¬ (k:Int)<3:=I
   have HD:=O (show mO wk (w.heap.size+3) 3 (fun i=>aT (m.row i) v) 57 from h0▸HO.o);obtain⟨G,H,J,hb,h2,h3,h4⟩:=HD.o;obtain⟨ay,HQ⟩:=η2 hb (show am wk (.agg (ah G H J)) (bH m v)from⟨G,H,J,rfl,h2 I,h3 I,h4 I⟩);clear h0 hb h2 h3 h4
   go_wp2_with (first|refine aj rfl _ _ rfl (w.heap.size+3) 0 rfl (ah G H J) _ (fun j Y=>ay.o.whole j Y) underlying57 rfl aZ ?_|refine wpList_store_row rfl 57 _ _ rfl (w.heap.size+2) (ah G H J) rfl rfl 57 _ U.o aZ rfl (bC G H J) ?_)
   rw[<-fh U.o G H J];exact aK results61 (w.heap.size+2) (U.o.s12 G H J) _ rfl underlying57 rfl aZ rfl ⟨⟨_,rfl,HQ.o.put12 U.o G H J⟩,aX (HB.o.trans (HR.o.mono I)) I G H J⟩
  ·have a9:(k:Int)<3:=I
   have aa:k<3:=I;have L:=O aa;have F:=HM.o.row k;have ao:=fun w=>index_row a b c k aa w
   obtain⟨⟨R0,R1,R2⟩,hR⟩:∃R,pickR a b c k=R:=ξ;rw[hR]at F;simp only[hR,rc3]at ao;have af:=O (show am wk (.agg (ah R0 R1 R2)) (m.row k)from F);clear h0 hR F
   go_upto_region 5 with(refine aA rfl _ _ _ rfl _ (ah R0 R1 R2) rfl rfl aZ rfl (bC R0 R1 R2) ?_)
   obtain⟨w3,ag,b3,A,a7⟩:=aB wk (ah R0 R1 R2) 57;rw[ag];have ad:=O (HR.o.trans (A.mono (by have:=HO.o;obtain⟨_,_,_,h,-⟩:=this;have:=h.lt;omega)));obtain⟨R3,a1,X,V3,HC,az,a4⟩:=η7 b3 (HO.o.below A) (U.o.to A) (B2.o.below ad.o I) (ji (.agg (ah R0 R1 R2)) (.agg (ah v0 v1 v2)) (m.row k) v _ l w3 (af.o.below A) (HV.o.below A) (HK.o k) HL.o h1) (HM.o.below A) (HV.o.below A);clear ag b3 A a7 ao HM HV af HO U
   go_wp2_with (first|refine aj rfl _ _ rfl wk.heap.size 0 rfl (ah R0 R1 R2) _ (fun j Y=>R3.o.whole j Y) underlying57 rfl aZ ?_|refine aj rfl _ _ rfl (w.heap.size+1) 0 rfl (ah v0 v1 v2) _ (fun j Y=>V3.o.whole j Y) underlying57 rfl aZ ?_)
   refine HC.o.mono ?_;rintro e w4 ⟨⟨u,rfl,hu⟩,C⟩;obtain⟨r,rfl,hr⟩:=hu.rcv;have ac:=O (a1.o.below C);obtain⟨r0,an⟩:=ac.o.at4 aa;obtain⟨ab,a3,a6,a2,a0,a5⟩:=η6 an hr (X.o.to C) (ad.o.trans (C.mono (ψ X.o.lt))) (az.o.below C) (a4.o.below C);obtain⟨⟨x0,x1,x2,x3⟩,x4,x5,x6,x7⟩:=an;clear C hu hr HC
   go_wp2_with fail
   clear x0 x1 x2 x3 x4 x5 x6 x7;go_round
   case rel =>
    change ∃k',k'<=3/\_/\Hid (mO (put4 w4 (w.heap.size+3) (k*4) r) _ _ _ _)/\_;exact⟨k+1,L.o,rfl,ac.o.put L.o a3.o,a6.o.oput4 I _ _,bj a2.o I _ _,a0.o.put4 ab.o r,a5.o.put4 ab.o r⟩
   case measure=>exact μ (ψ L.o)
section
section
variable {P : Program}
theorem aV{i:Oper}{a:Act}{w:World}{K:Act->World->Prop}{Q:Exit->Act->World->Prop}(ty:TypeId)(x:Operand)(A:i.op=.load ty x)(b o:Nat)(F:a.eval x=.pointer (some ⟨b,o,none⟩))(cs:Array Value)(d:TypeDesc)(hc:∀j,j<cs.size->w.cell? ⟨b,o+j,none⟩=cs[j]?)(C:P.underlying ty=some d)(u:d.isRow=true)(hi:(P.info? ty).map (·.size)=some cs.size)(h:K (a.put i.dst (.agg cs)) w):i.wp P a w K Q:=
 wp_load_mid ty x A b o F cs.toList d (fun j v e=>by
  rw[Array.getElem?_toList]at e;rw[hc j (Array.getElem?_eq_some_iff.1 e).1,e]) C u (by rw[hi,Array.length_toList]) h
end
def aQ(m:Mo)(v:Q3):Q3:=qadd (bH m v) m.s
theorem BdV.turn{m:Mo}{v:Q3}{k l:Nat}(e:∀i,BdV k (m.row i))(j:BdV l v):BdV (3*(k+l+1)+1) (bH m v):=⟨Bd.dot (e 0) j,Bd.dot (e 1) j,Bd.dot (e 2) j⟩
end
theorem apply_any(vm vv:Value)(m:Mo)(v:Q3)(k l:Nat)(w:World)(hm:sX w vm m)(A:am w vv v)(hk:∀i,BdV k (m.row i))(hs:BdV k m.s)(hl:BdV l v)(h1:4*(k+l)<100000):
 Calls prog 16 #[vm,vv] w fun e w'=>gU w' e (aQ m v)/\Bl w w':=by
 obtain⟨a,b,c,s,rfl,G⟩:=hm;obtain⟨J,L,R,rfl,aa,ab,ac⟩:=A;have ad:am w (.agg (ah J L R)) v:=⟨J,L,R,rfl,aa,ab,ac⟩;obtain⟨W,hW,b1,b2,b3,X,hS⟩:=cC w (aJ a b c s) (ah J L R) (ah RC.zero RC.zero RC.zero) 60 57 57;obtain⟨HT,HA,HB,af,B1,B2,B3⟩:=η7 (fun w' (h:Bl W w')=>turn_any (.agg (aJ a b c s)) (.agg (ah J L R)) m v k l w' ⟨a,b,c,s,rfl,(G.below X).below h⟩ ((ad.below X).below h) hk hl I) (fun w' (h:Bl W w') vt (ht:am w' vt (bH m v))=>iz vt (.agg (ah s.1 s.2.1 s.2.2)) (bH m v) m.s _ k w' ht (((G.below X).below h).s) (BdV.turn hk hl) hs I) X hS b1 b2 b3;clear G ad aa ab ac X hS b1 b2 b3 hk hl hs;rw[lS]at hW
 go_enter func16,ntmps16
 go_wp2_with fail
 refine aU (rest:=1) [isV 0 (.agg (aJ a b c s)),isV 1 (.agg (ah J L R)),isP 2 (fun u w=>am w u (bH m v)),isV 3 (.pointer (some ⟨w.heap.size,36,none⟩)),isV 4 (.agg (ah s.1 s.2.1 s.2.2)),isP 5 (fun u w=>am w u (aQ m v))] [] ?A1 (τ 6 1) Z [0,1,2,3,4,5] Z Z Z Z Z Z ?st ?hA ?hop ?hend
 case hA=>exact cZ
 case st=>exact aq.cons isV.stab (aq.cons isV.stab (aq.cons (isP.stab (fun _ _ _ h A=>A.below h)) (aq.cons isV.stab (aq.cons isV.stab (aq.cons (isP.stab (fun _ _ _ h A=>A.below h)) (aq.nil))))))
 case hop =>
  refine ai.cons rfl (fun y w' hS hD K hK=>?_) ?_
  ·as_aux_lemma =>
   refine bJ ?_;refine aV 60 _ rfl w.heap.size 0 rfl (aJ a b c s) _ (fun j Y=>(B1.o.to hS).whole j Y) underlying60 rfl gt ?_;exact hK.out _ w' hS β isV.put δ
  refine ai.cons rfl (fun y w' hS hD K hK=>?_) ?_
  ·as_aux_lemma =>
   refine bJ ?_;refine aV 57 _ rfl (w.heap.size+1) 0 rfl (ah J L R) _ (fun j Y=>(B2.o.to hS).whole j Y) underlying57 rfl aZ ?_;exact hK.out _ w' hS β isV.put δ
  refine ai.cons rfl (fun y w' hS hD K hK=>?_) ?_
  ·simp only[isV.get (hD 0 Z),isV.get (hD 1 Z)]at hK⊢
   as_aux_lemma =>
   go_simp;refine(HT.o w' hS).mono ?_
   rintro e H ⟨⟨v,rfl,A⟩,hb⟩;exact hK.out v H (ae hS hb ρ) hb (isP.put A) δ
  refine ai.cons rfl (fun y w' hS hD K hK=>?_) ?_
  ·as_aux_lemma =>
   go_simp;exact hK.out _ w' hS β isV.put δ
  refine ai.cons rfl (fun y w' hS hD K hK=>?_) ?_
  ·simp only[isV.get (hD 3 Z)]at hK⊢
   as_aux_lemma =>
   refine bJ ?_;refine aV 57 _ rfl w.heap.size 36 rfl (ah s.1 s.2.1 s.2.2) _ (fun j Y=>(B1.o.to hS).shift j Y) underlying57 rfl aZ ?_;exact hK.out _ w' hS β isV.put δ
  refine ai.cons rfl (fun y w' hS hD K hK=>?_) ?_
  ·simp only[isV.get (hD 4 Z)]at hK⊢
   as_aux_lemma =>
   have e2:=isP.get (hD 2 Z);go_simp;refine(HA.o w' hS _ e2).mono ?_;rintro e H ⟨⟨v,rfl,A⟩,hb⟩;exact hK.out v H (ae hS hb ρ) hb (isP.put A) δ
  exact ai.nil
 case hend =>
  intro y w' hS hR hF;obtain⟨D0,C,F,ev,hD⟩:=(isP.get (i:=5) (p:=fun u w=>am w u (aQ m v)) (hR 5 Z)).rcv;have U:=B3.o.to hS;simp only[ev];refine aL (i:=6) (listed2:=τ 7 0) Z rfl Z (fun K hK=>?_);refine bJ ?_;refine wp_store_row 57 _ _ rfl (w.heap.size+2) (ah D0 C F) rfl rfl 57 _ U aZ rfl (bC D0 C F) ?_;rw[<-fh U D0 C F];refine hK.out _ _ ?_;clear hK K;refine aP Z ?_;obtain⟨HF,BF,VF⟩:=η3 (aX (ae HB.o hS (ψ af.o)) (Nat.le_add_right _ 2) D0 C F) (U.s12 D0 C F) (hD.put12 U D0 C F);clear hS hR hF ev hD U;generalize put12 w' (w.heap.size+2) D0 C F=w9 at *
  go_wp2_with fail
  exact aK results16 (w.heap.size+2) BF.o _ rfl underlying57 rfl aZ rfl ⟨⟨_,rfl,VF.o⟩,HF.o⟩
section
structure Rot (m:Mo):Prop where
 xx:m.a.x*m.a.x+m.b.x*m.b.x+m.c.x*m.c.x=1
 yy:m.a.y*m.a.y+m.b.y*m.b.y+m.c.y*m.c.y=1
 zz:m.a.z*m.a.z+m.b.z*m.b.z+m.c.z*m.c.z=1
 xy:m.a.x*m.a.y+m.b.x*m.b.y+m.c.x*m.c.y=0
 xz:m.a.x*m.a.z+m.b.x*m.b.z+m.c.x*m.c.z=0
 yz:m.a.y*m.a.z+m.b.y*m.b.z+m.c.y*m.c.z=0
 det:aT m.a (eL m.b m.c)=1
variable {m : Mo}
theorem turn_dot(h:Rot m)(u v:Q3):aT (bH m u) (bH m v)=aT u v:=by
 have e:aT (bH m u) (bH m v)=(m.a.x*m.a.x+m.b.x*m.b.x+m.c.x*m.c.x)*(u.x*v.x)+(m.a.y*m.a.y+m.b.y*m.b.y+m.c.y*m.c.y)*(u.y*v.y)+(m.a.z*m.a.z+m.b.z*m.b.z+m.c.z*m.c.z)*(u.z*v.z)+(m.a.x*m.a.y+m.b.x*m.b.y+m.c.x*m.c.y)*(u.x*v.y+u.y*v.x)+(m.a.x*m.a.z+m.b.x*m.b.z+m.c.x*m.c.z)*(u.x*v.z+u.z*v.x)+(m.a.y*m.a.z+m.b.y*m.b.z+m.c.y*m.c.z)*(u.y*v.z+u.z*v.y):=by
  unfold aT bH aT;grind
 rw[e,h.xx,h.yy,h.zz,h.xy,h.xz,h.yz];unfold aT;grind
theorem turn_det(h:Rot m)(u v w:Q3):aT (bH m u) (eL (bH m v) (bH m w))=aT u (eL v w):=by
 have e:aT (bH m u) (eL (bH m v) (bH m w))=aT m.a (eL m.b m.c)*aT u (eL v w):=by
  unfold bH eL aT;grind
 rw[e,h.det,Rat.one_mul]
theorem kQ(a t:Q3):qsub (aQ m a) (aQ m t)=bH m (qsub a t):=by
 unfold qsub aQ qadd bH aT;simp only[Q3.mk.injEq];refine⟨?_,?_,?_⟩<;>grind
theorem pieceD_move(h:Rot m)(t a b c:Q3):io (aQ m t) (aQ m a) (aQ m b) (aQ m c)=io t a b c:=by
 unfold io;rw[kQ,kQ,kQ,turn_det h]
theorem pieceC_move(t a b c:Q3):jt (aQ m t) (aQ m a) (aQ m b) (aQ m c)=qadd (bH m (jt t a b c)) (qscale 4 m.s):=by
 unfold jt aQ qadd bH aT qscale;simp only[Q3.mk.injEq];refine⟨?_,?_,?_⟩<;>grind
theorem i6{qs:List Q3}{i:Nat}(h:i<qs.length):qAt (qs.map (aQ m)) i=aQ m (qAt qs i):=by
 unfold qAt;simp[h]
def movP(m:Mo)(x:Rat×Q3):Rat×Q3:=(x.1,qadd (bH m x.2) (qscale 4 m.s))
theorem n9(h:Rot m){qs:List Q3}{rs:List (List Nat)}(h0:0<qs.length)(u:∀r∈rs,∀i∈r,i<qs.length):aD (qAt (qs.map (aQ m))) rs=(aD (qAt qs) rs).map (movP m):=by
 unfold aD
 induction rs with
 | nil=>rfl
 | cons r rs ih =>
  rw[List.flatMap_cons,List.flatMap_cons,List.map_append,ih fun r h=>u r (List.mem_cons_of_mem _ h)]
  congr 1
  unfold oH;rw[List.map_map];refine List.map_congr_left fun k j=>?_
  have j:=List.mem_range.1 j;have e:=u r (List.mem_cons_self ..);have A:=e _ (jd (show 0<r.length by omega));have C:=e _ (jd (show k+1<r.length by omega));have F:=e _ (jd (show k+2<r.length by omega));unfold iF movP;simp only[Function.comp];rw[i6 h0,i6 A,i6 C,i6 F,pieceD_move h,pieceC_move]
theorem sumD_move:∀l:List (Rat×Q3),cK (l.map (movP m))=cK l:=by
 refine iX rfl fun l x e=>?_
 rw[List.map_append,List.map_cons,List.map_nil,eC,eC,e];rfl
theorem sumC_move:∀l:List (Rat×Q3),dC (l.map (movP m))=qadd (bH m (dC l)) (qscale (4*cK l) m.s):=by
 refine iX ?_ fun l x e=>?_
 ·show(⟨0,0,0⟩:Q3)=qadd (bH m ⟨0,0,0⟩) (qscale (4*0) m.s)
  unfold qadd bH aT qscale;simp only[Q3.mk.injEq];refine⟨?_,?_,?_⟩<;>grind
 ·rw[List.map_append,List.map_cons,List.map_nil,fL,fL,eC,e]
  unfold movP qadd bH aT qscale;simp only[Q3.mk.injEq];refine⟨?_,?_,?_⟩<;>grind
theorem centre_move(C:Q3){S:Rat}(h:S≠0):qscale (1 / (4*S)) (qadd (bH m C) (qscale (4*S) m.s))=aQ m (qscale (1 / (4*S)) C):=by
 have i:4*S≠0:=fun e=>h (by grind)
 have e:1 / (4*S)*(4*S)=1:=by rw[Rat.div_mul_cancel i]
 generalize 4*S=T at *;generalize 1 / T=U at *;unfold aQ qadd bH aT qscale;simp only[Q3.mk.injEq];refine⟨?_,?_,?_⟩<;>grind
theorem lX(h:Rot m){n:Q3}(C:n≠⟨0,0,0⟩):bH m n≠⟨0,0,0⟩:=fun e=>by
 have u:=turn_dot h n n;rw[e]at u;have A:n.x*n.x+n.y*n.y+n.z*n.z=0:=by unfold aT at u;grind
 have sq:∀x:Rat,0<=x*x:=fun x=>by
  by_cases i:0<=x
  ·exact Rat.mul_nonneg i i
  ·have:=Rat.mul_nonneg (show 0 <= -x by grind) (show 0 <= -x by grind)
   grind
 have i:=sq n.x;have F:=sq n.y;have G:=sq n.z;refine C ?_;obtain⟨x,y,z⟩:=n;simp only at A i F G;have j:∀x:Rat,x*x=0->x=0:=fun x h=>by rcases Rat.mul_eq_zero.1 h with h|h<;>exact h
 rw[j x (by grind),j y (by grind),j z (by grind)]
end
structure Q4 where
 a:Int
 b:Int
 c:Int
 d:Int
def Q4.at(q:Q4):Nat->Int
 | 0=>q.a
 | 1=>q.b
 | 2=>q.c
 | _+3=>q.d
def gsQ(q:Q4):Nat->Nat×Int
 | 0=>(0,0)
 | k+1=>(Nat.gcd (gsQ q k).1 (q.at k).natAbs,if(gsQ q k).2=0 then q.at k else(gsQ q k).2)
def tS(q:Q4):Nat:=if q.a=0/\q.b=0/\q.c=0/\q.d=0 then 19 else if(gsQ q 4).1≠1\/(gsQ q 4).2<0 then 3 else 0
def Q4.sq(q:Q4):Int:=q.a*q.a+q.b*q.b+q.c*q.c+q.d*q.d
def Q4.row(q:Q4):Nat->V
 | 0=>⟨q.a*q.a+q.b*q.b-q.c*q.c-q.d*q.d,2*(q.b*q.c-q.a*q.d),2*(q.b*q.d+q.a*q.c)⟩
 | 1=>⟨2*(q.b*q.c+q.a*q.d),q.a*q.a-q.b*q.b+q.c*q.c-q.d*q.d,2*(q.c*q.d-q.a*q.b)⟩
 | _+2=>⟨2*(q.b*q.d-q.a*q.c),2*(q.c*q.d+q.a*q.b),q.a*q.a-q.b*q.b-q.c*q.c+q.d*q.d⟩
def cS(q:Q4)(s:Q3):Mo:=⟨qscale (1 / (q.sq:Rat)) (ptQ (q.row 0)),qscale (1 / (q.sq:Rat)) (ptQ (q.row 1)),qscale (1 / (q.sq:Rat)) (ptQ (q.row 2)),s⟩
theorem rot_of(a b c d p:Rat)(s:Q3)(j:p*(a*a+b*b+c*c+d*d)=1):Rot ⟨qscale p ⟨a*a+b*b-c*c-d*d,2*(b*c-a*d),2*(b*d+a*c)⟩,qscale p ⟨2*(b*c+a*d),a*a-b*b+c*c-d*d,2*(c*d-a*b)⟩,qscale p ⟨2*(b*d-a*c),2*(c*d+a*b),a*a-b*b-c*c+d*d⟩,s⟩:=by
 have i:∀x:Rat,x=p*(a*a+b*b+c*c+d*d)*(p*(a*a+b*b+c*c+d*d))->x=1:=fun x h=>by rw[h,j,Rat.mul_one]
 refine⟨i _ ?_,i _ ?_,i _ ?_,?_,?_,?_,?_⟩
 ·simp only[qscale];grind
 ·simp only[qscale];grind
 ·simp only[qscale];grind
 ·simp only[qscale];grind
 ·simp only[qscale];grind
 ·simp only[qscale];grind
 ·have e:∀x:Rat,x=p*(a*a+b*b+c*c+d*d)*(p*(a*a+b*b+c*c+d*d))*(p*(a*a+b*b+c*c+d*d))->x=1:=fun x h=>by rw[h,j,Rat.mul_one,Rat.mul_one]
  refine e _ ?_;simp only[aT,eL,qscale];clear i e j;grind
theorem l9(q:Q4)(s:Q3)(h:q.sq≠0):Rot (cS q s):=by
 have h0:(q.sq:Rat)≠0:=fun e=>h (by exact_mod_cast e)
 have i:1 / (q.sq:Rat)*(q.sq:Rat)=1:=by rw[Rat.div_mul_cancel h0]
 unfold cS;generalize 1 / (q.sq:Rat)=p at *;obtain⟨a,b,c,d⟩:=q;simp only[Q4.sq,Rat.intCast_add,Rat.intCast_mul]at i;have r:=rot_of a b c d p s i;simp only[Q4.row,ptQ,Rat.intCast_add,Rat.intCast_mul,Rat.intCast_sub];exact r
def okQ(q:Q4):Bool:=decide (q.a.natAbs<=12/\q.b.natAbs<=12/\q.c.natAbs<=12/\q.d.natAbs<=12/\0<q.sq/\tS q=0)
structure OkQ (q:Q4):Prop where
 le:∀ i,(q.at i).natAbs<=12
 pos:0<q.sq
 chk:tS q=0
theorem OkQ.of{q:Q4}(h:okQ q=true):OkQ q:=by
 obtain⟨e,j,u,A,C,F⟩:=of_decide_eq_true h;refine⟨fun i=>?_,C,F⟩
 match i with
 | 0=>exact e
 | 1=>exact j
 | 2=>exact u
 | _+3=>exact A
theorem sq_le{x y:Int}(e:x.natAbs<=12)(i:y.natAbs<=12):-144<=x*y/\x*y<=144:=by
 have h:=Nat.mul_le_mul e i;rw[<-Int.natAbs_mul]at h;omega
theorem OkQ.prods{q:Q4}(h:OkQ q)(i j:Nat):-144<=q.at i*q.at j/\q.at i*q.at j<=144:=sq_le (h.le i) (h.le j)
def sqn(q:Q4):Nat:=q.sq.toNat
theorem OkQ.sqn{q:Q4}(h:OkQ q):0<sqn q/\sqn q<=576/\(sqn q:Int)=q.sq:=by
 have p:∀x y,-144<=q.at x*q.at y/\q.at x*q.at y<=144:=h.prods;have e:=p 0 0;have bb:=p 1 1;have i:=p 2 2;have j:=p 3 3;have h0:=h.pos;simp only[Q4.at]at e bb i j;unfold Υ.sqn Q4.sq at *;omega
theorem eG{q:Q4}(h:OkQ q)(z:Int)(i:z.natAbs<=576):cP (sqn q) 576 (1 / (q.sq:Rat)*(z:Rat)):=by
 have h0:(q.sq:Rat)≠0:=fun e=>absurd h.pos (by
  have:q.sq=0:=by exact_mod_cast e
  omega)
 refine⟨z,?_,i⟩;rw[show((sqn q:Nat):Rat)=(q.sq:Rat) by rw[<-h.sqn.2.2];rfl];have j:1 / (q.sq:Rat)*(q.sq:Rat)=1:=Rat.div_mul_cancel h0;generalize 1 / (q.sq:Rat)=p at *
 grind
theorem qu{q:Q4}(h:OkQ q)(s:Q3)(i:Nat):bA (sqn q) 576 ((cS q s).row i):=by
 have p:∀x y,-144<=q.at x*q.at y/\q.at x*q.at y<=144:=h.prods;have e:=p 0 0;have bb:=p 1 1;have F:=p 2 2;have H:=p 3 3;have j:=p 0 1;have u:=p 0 2;have A:=p 0 3;have C:=p 1 2;have bd:=p 1 3;have G:=p 2 3;simp only[Q4.at]at e bb F H j u A C bd G;clear p
 match i with
 | 0=>exact⟨eG h _ (by simp only[Q4.row];omega),eG h _ (by simp only[Q4.row];omega),eG h _ (by simp only[Q4.row];omega)⟩
 | 1=>exact⟨eG h _ (by simp only[Q4.row];omega),eG h _ (by simp only[Q4.row];omega),eG h _ (by simp only[Q4.row];omega)⟩
 | _+2=>exact⟨eG h _ (by simp only[Q4.row];omega),eG h _ (by simp only[Q4.row];omega),eG h _ (by simp only[Q4.row];omega)⟩
theorem cP.lift{d M:Nat}{x:Rat}(h:cP d M x)(k:Nat):cP (d*k) (M*k) x:=by
 obtain⟨z,e,i⟩:=h;refine⟨z*k,?_,?_⟩
 ·rw[Rat.natCast_mul,Rat.intCast_mul,<-e]
  show x*(_*_)=x*_*((k:Int):Rat);rw[Rat.mul_assoc];rfl
 ·rw[Int.natAbs_mul];exact Nat.mul_le_mul_right _ i
theorem bA.lift{d M:Nat}{x:Q3}(h:bA d M x)(k:Nat):bA (d*k) (M*k) x:=⟨h.1.lift k,h.2.1.lift k,h.2.2.lift k⟩
theorem frac_move{q:Q4}(h:OkQ q){s v:Q3}{d M S:Nat}(j:bA d S s)(u:bA d M v):bA (sqn q*d) (1728*M+S*sqn q) (aQ (cS q s) v):=by
 have r:=fun i=>((qu h s i).dot u).mono (show 3*(576*M)<=1728*M by omega)
 have e:=j.lift (sqn q);rw[Nat.mul_comm d]at e;exact⟨(r 0).add e.1,(r 1).add e.2.1,(r 2).add e.2.2⟩
def sA(m:Mo)(qs:List Q3)(k:Nat):List Q3:=(qs.take k).map (aQ m)
structure PlaS (w wr:World) (g5:Nat) (v0 v1 v2:Value) (a b c s:RC × RC × RC) (u0 u1 u2:Value):Prop where
 sb:Box wr w.heap.size #[v0,v1,v2] 86
 mb:Box wr (w.heap.size+1) (aJ a b c s) 60
 ob:Box wr g5 #[u0,u1,u2] 86
 zb:Box wr (w.heap.size+2) #[.slice none 0 0,.slice none 0 0,.slice none 0 0] 86
 bel:Bl w wr
 far:w.heap.size+2<g5
theorem PlaS.below{w wr wx:World}{e:Nat}{i j u:Value}{a b c s:RC×RC×RC}{u0 u1 u2:Value}(h:PlaS w wr e i j u a b c s u0 u1 u2)(hb:Bl wr wx):PlaS w wx e i j u a b c s u0 u1 u2:=
 ⟨h.sb.to hb,h.mb.to hb,h.ob.to hb,h.zb.to hb,ae h.bel hb ρ,h.far⟩
theorem PlaS.grown{w wr wx:World}{A:Nat}{C F G:Value}{a b c s:RC×RC×RC}{u0 u1 u2:Value}(h:PlaS w wr A C F G a b c s u0 u1 u2){e k n:Nat}{v:Value}{xs:List Value}(j:wr.ownsRow w.heap.size e k v n xs)(u:e≠86)(H:e≠60)(i:wr.grownBy wx v.ownBlock):PlaS w wx A C F G a b c s u0 u1 u2:=
 ⟨h.sb.grown i (aH j h.sb u),h.mb.grown i (aH j h.mb H),h.ob.grown i (aH j h.ob u),h.zb.grown i (aH j h.zb u),h.bel.grown i h.bel.size (fun g e=>cz j g e),h.far⟩
theorem PlaS.set{w wr:World}{j:Nat}{u A C:Value}{a b c s:RC×RC×RC}{u0 u1 u2:Value}(h:PlaS w wr j u A C a b c s u0 u1 u2)(i:Nat)(v F G H:Value)(J:(#[u0,u1,u2]:Array Value).setIfInBounds i v=#[F,G,H]):PlaS w (wr.setCell ⟨j,i,none⟩ v) j u A C a b c s F G H:=
 ⟨h.sb.grown (bE _ _ _ _) (fun e=>by cases e;exact absurd h.far I),h.mb.grown (bE _ _ _ _) (fun e=>by cases e;exact absurd h.far I),J▸h.ob.set i v,h.zb.grown (bE _ _ _ _) (fun e=>by cases e;exact absurd h.far I),h.bel.setCell (show w.heap.size<=j from by have:=h.far;omega) _,h.far⟩
theorem PlaS.app{w wr wx:World}{i:Nat}{H J L:Value}{a b c s:RC×RC×RC}{u0 u1 u2 v:Value}(h:PlaS w wr i H J L a b c s u0 u1 u2){Q:List Q3}{rs:List (RC×RC×RC)}(A:VRow wr w.heap.size u0 Q rs){C:Nat}{es:List ED}(G:eI wr C u2 es){r:RC×RC×RC}{q:Q3}(U:am wr (.agg (ah r.1 r.2.1 r.2.2)) q)(R:wx.ownsRow w.heap.size 57 12 v (rs.length+1) (rs.flatMap bQ++bQ r))(u:wr.grownBy wx u0.ownBlock):
 VRow (wx.setCell ⟨i,0,none⟩ v) w.heap.size v (Q++[q]) (rs++[r])/\PlaS w (wx.setCell ⟨i,0,none⟩ v) i H J L a b c s v u1 u2/\eI (wx.setCell ⟨i,0,none⟩ v) C u2 es:=by
 have j:=h.grown A.own ν ν u;have F:eI wx C u2 es:=World.ownsRow.kept G u (iO G A.own ν);exact⟨(A.app U R u).set j.ob ν ν 0 _,j.set 0 v _ _ _ rfl,World.ownsRow.kept F (bE _ _ _ _) (.inr (fun e=>aH F j.ob ν e.symm))⟩
theorem moveV_succ(m:Mo)(qs:List Q3)(i:Nat)(hi:i<qs.length):sA m qs (i+1)=sA m qs i++[aQ m (qAt qs i)]:=by
 unfold sA qAt;rw[List.take_add_one,List.map_append,List.getElem?_eq_getElem hi,List.getD_eq_getElem?_getD,List.getElem?_eq_getElem hi];rfl
structure PlaF (w:World) (base:Nat) (v1:Value) (fqs:List (Q3 × Rat)) (frs:List FR) (rns:List (List Nat)) (N:Nat) (m:Mo) (k kp:Nat):Prop where
 row:FRow w base v1 fqs frs
 ints:∀ (i:Nat) (f:FR) (r:List Nat),frs[i]?=some f→rns[i]?=some r→∃ base,bo w base f.v r
 len:rns.length=frs.length
 max:frs.length<=262144
 ring:∀ r ∈ rns,r.length<=262144/\r≠[]/\∀ i ∈ r,i<N
 kk:6*k+4<=10000
 kpm:kp<=50000
 nor:∀ f ∈ fqs,BdV k f.1/\bH m f.1≠⟨0,0,0⟩/\BdV kp (cE (bH m f.1))
theorem PlaF.below{w w':World}{base:Nat}{u:Value}{fqs:List (Q3×Rat)}{e:List FR}{rns:List (List Nat)}{N:Nat}{m:Mo}{k j:Nat}(h:PlaF w base u fqs e rns N m k j)(hb:Bl w w'):PlaF w' base u fqs e rns N m k j:=
 ⟨h.row.below hb,fun i f r A C=>(h.ints i f r A C).imp (fun _ h=>aC h hb),h.len,h.max,h.ring,h.kk,h.kpm,h.nor⟩
theorem PlaF.open{w:World}{base:Nat}{pa:Option Addr}{F pc:Nat}{fqs:List (Q3×Rat)}{C:List FR}{rns:List (List Nat)}{N:Nat}{m:Mo}{k kp:Nat}(h:PlaF w base (.slice pa F pc) fqs C rns N m k kp)(i:Nat)(hi:i<C.length):
 ∃(b:Nat) (n0 G H R:RC) (g fc:Nat) (f:Q3×Rat) (r:List Nat) (b2:Nat),pa=some ⟨b,0,none⟩/\fqs[i]?=some f/\rns[i]?=some r/\am w (.agg (ah n0 G H)) f.1/\bo w b2 (.slice (some ⟨g,0,none⟩) r.length fc) r/\(∀j,j<17->w.cell? ⟨b,i*17+j,none⟩=(aS n0 G H R (some ⟨g,0,none⟩) r.length fc)[j]?)/\w.cell? ⟨g,0,none⟩=some (.int .i64 (r.headD 0:Nat))/\r.headD 0<N/\0<r.length:=by
 obtain⟨b,aa,r,e,hb,hr,hc⟩:=h.row.at_ i hi;obtain⟨f,hf⟩:∃f,fqs[i]?=some f:=⟨_,List.getElem?_eq_getElem (by rw[<-h.row.len];exact hi)⟩;obtain⟨h1,h2⟩:=h.row.vec i r f hr hf;obtain⟨A,u⟩:∃A,rns[i]?=some A:=⟨_,List.getElem?_eq_getElem (by rw[h.len];exact hi)⟩;obtain⟨b2,L⟩:=h.ints i r A hr u;obtain⟨-,X,W⟩:=h.ring A (List.mem_of_getElem? u);obtain⟨J,tl,rfl⟩:∃J tl,A=J::tl:=by
  cases A with
  | nil=>exact absurd rfl X
  | cons x y=>exact⟨x,y,rfl⟩
 cases e;obtain⟨⟨n0,G,H⟩,R,fv⟩:=r;simp only at L h1 h2;have Y:=L;obtain⟨hl,⟨_,h0⟩|⟨g,U,ab,rfl,hg,hh,hn,hm,hs,ht⟩⟩:=Y
 ·simp at h0
 ·refine⟨b,n0,G,H,R,g,U,f,J::tl,b2,rfl,hf,u,h1,L,fun j hj=>(hc j hj).trans (Array.getElem?_toList (xs:=aS n0 G H R _ _ _)),?_,W J (by simp),by simp⟩
  have e:=World.ownsRow.cellAt L 0 (by simp);exact e
def qi(m:Mo)(qs:List Q3)(f:Q3×Rat)(r:List Nat):Q3×Rat:=(cE (bH m f.1),aT (cE (bH m f.1)) (aQ m (qAt qs (r.headD 0))))
def dn(m:Mo)(qs:List Q3)(fqs:List (Q3×Rat))(rns:List (List Nat))(j:Nat):List (Q3×Rat):=((fqs.zip rns).take j).map fun x=>qi m qs x.1 x.2
def fH(w:World)(base:Nat)(grs:List FR)(rns:List (List Nat)):Prop:=∀(i:Nat) (f:FR) (r:List Nat),grs[i]?=some f->rns[i]?=some r->bo w base f.v r
def RetPla(base:Nat)(m:Mo)(qs:List Q3)(fqs:List (Q3×Rat))(rns:List (List Nat))(es:List ED)(w:World)(e:Ending):Prop:=
 ∃v0 v1 v2 rs grs,e=.returned (.agg #[v0,v1,v2])/\VRow w base v0 (qs.map (aQ m)) rs/\FRow w base v1 (dn m qs fqs rns fqs.length) grs/\fH w base grs rns/\eI w base v2 es
theorem fH.below{w w':World}{base:Nat}{e:List FR}{rns:List (List Nat)}(h:fH w base e rns)(hb:Bl w w'):fH w' base e rns:=fun k f r i j=>aC (h k f r i j) hb
theorem Box.nor17{w:World}{g:Nat}{n0 e i H:RC}{u:Option Addr}{C A:Nat}{t:TypeId}(h:Box w g (aS n0 e i H u C A) t)(j:Nat)(G:j<(ah n0 e i).size):w.cell? ⟨g,0+j,none⟩=(ah n0 e i)[j]? := by
 have F:j<12:=G;rw[h.cell,Nat.zero_add];obtain rfl|rfl|rfl|rfl|rfl|rfl|rfl|rfl|rfl|rfl|rfl|rfl:j=0\/j=1\/j=2\/j=3\/j=4\/j=5\/j=6\/j=7\/j=8\/j=9\/j=10\/j=11:=I
 all_goals rfl
theorem fH.set{w:World}{base:Nat}{e:List FR}{rns:List (List Nat)}(h:fH w base e rns){g:Nat}{cs:Array Value}(hb:Box w g cs 86)(i:Nat)(u:Value):fH (w.setCell ⟨g,i,none⟩ u) base e rns:=fun k f r j A=>eE (h k f r j A) hb ν i u
theorem PlaS.appF{w wr wx:World}{j:Nat}{v0 v1 v2:Value}{a b c s:RC×RC×RC}{u0 u1 u2 v:Value}(h:PlaS w wr j v0 v1 v2 a b c s u0 u1 u2){R:List (Q3×Rat)}{i:List FR}(u:FRow wr w.heap.size u1 R i){Q:List Q3}{rs:List (RC×RC×RC)}(X:VRow wr w.heap.size u0 Q rs){Y:Nat}{es:List ED}(U:eI wr Y u2 es){rns:List (List Nat)}(hi:fH wr w.heap.size i rns){r:FR}{q:Q3×Rat}(hn:am wr (.agg (ah r.n.1 r.n.2.1 r.n.2.2)) q.1)(ho:ak wr r.o.agg q.2){rn:List Nat}(J:rns[i.length]?=some rn)(W:bo wr w.heap.size r.v rn)(hw:wx.ownsRow w.heap.size 155 17 v (i.length+1) (i.flatMap cI++cI r))(C:wr.grownBy wx u1.ownBlock):
 VRow (wx.setCell ⟨j,1,none⟩ v) w.heap.size u0 Q rs/\PlaS w (wx.setCell ⟨j,1,none⟩ v) j v0 v1 v2 a b c s u0 v u2/\eI (wx.setCell ⟨j,1,none⟩ v) Y u2 es/\FRow (wx.setCell ⟨j,1,none⟩ v) w.heap.size v (R++[q]) (i++[r])/\fH (wx.setCell ⟨j,1,none⟩ v) w.heap.size (i++[r]) rns:=by
 have F:=h.grown u.own ν ν C;have hl:=ja u.own ν;have G:fH wx w.heap.size (i++[r]) rns:=fun k f x A L=>by
  by_cases H:k<i.length
  ·rw[List.getElem?_append_left H]at A
   have:=hi k f x A L;exact World.ownsRow.kept this C (iO this u.own ν)
  ·by_cases e:k=i.length
   ·subst e
    rw[List.getElem?_append_right ρ,Nat.sub_self]at A;simp at A;subst A;rw[J]at L;cases L;exact World.ownsRow.kept W C (iO W u.own ν)
   ·rw[List.getElem?_eq_none (by simp;omega)]at A;cases A
 exact⟨(X.other C hl (iO X.own u.own ν)).set F.ob ν ν 1 _,F.set 1 v _ _ _ rfl,eE (World.ownsRow.kept U C (iO U u.own ν)) F.ob ν 1 v,(u.app hn ho hw C).set F.ob ν ν 1 _,G.set F.ob 1 v⟩
theorem moveFs_succ(m:Mo)(qs:List Q3){fqs:List (Q3×Rat)}{rns:List (List Nat)}{j:Nat}{f:Q3×Rat}{r:List Nat}(i:fqs[j]?=some f)(u:rns[j]?=some r):dn m qs fqs rns (j+1)=dn m qs fqs rns j++[qi m qs f r]:=by
 unfold dn;have e:(fqs.zip rns)[j]?=some (f,r):=List.getElem?_zip_eq_some.2 ⟨i,u⟩;rw[List.take_add_one,List.map_append,e];rfl
theorem Box.src17{w:World}{g:Nat}{r:FR}{t:TypeId}(h:Box w g (cI r).toArray t)(j:Nat)(u:Value)(e:(cI r)[j]?=some u):w.cell? ⟨g,j,none⟩=some u:=by
 rw[h.cell,List.getElem?_toArray,e]
theorem face17_one(n0 C F G:RC)(e:Option Addr)(A i:Nat):∀u∈cI ⟨(n0,C,F),G,.slice e A i⟩,u.oneCell'=true:=fun u J=>by
 have h:=dK n0 C F G e A i;rw[Array.all_eq_true]at h;obtain⟨j,H,rfl⟩:=List.mem_iff_getElem.1 J;exact h j H
theorem pla_ret{w i:World}{A:Nat}{J L R:Value}{a b c s:RC×RC×RC}{u0 u1 u2:Value}{base:Nat}{m:Mo}{qs:List Q3}{fqs:List (Q3×Rat)}{rns:List (List Nat)}{es:List ED}{rs:List (RC×RC×RC)}{e:List FR}{u:Nat}(h:PlaS w i A J L R a b c s u0 u1 u2)(H:VRow i base u0 (qs.map (aQ m)) rs)(F:FRow i base u1 (dn m qs fqs rns fqs.length) e)(hi:fH i base e rns)(C:eI i u u2 es)(G:base<=u)(x y z:Value):
 VRow (((i.setCell ⟨w.heap.size+2,0,none⟩ x).setCell ⟨w.heap.size+2,1,none⟩ y).setCell ⟨w.heap.size+2,2,none⟩ z) base u0 (qs.map (aQ m)) rs/\FRow (((i.setCell ⟨w.heap.size+2,0,none⟩ x).setCell ⟨w.heap.size+2,1,none⟩ y).setCell ⟨w.heap.size+2,2,none⟩ z) base u1 (dn m qs fqs rns fqs.length) e /\
 fH (((i.setCell ⟨w.heap.size+2,0,none⟩ x).setCell ⟨w.heap.size+2,1,none⟩ y).setCell ⟨w.heap.size+2,2,none⟩ z) base e rns/\eI (((i.setCell ⟨w.heap.size+2,0,none⟩ x).setCell ⟨w.heap.size+2,1,none⟩ y).setCell ⟨w.heap.size+2,2,none⟩ z) base u2 es:=by
 have j:=h.zb;have b1:=j.set 0 x;have b2:=b1.set 1 y;exact⟨((H.set j ν ν 0 x).set b1 ν ν 1 y).set b2 ν ν 2 z,((F.set j ν ν 0 x).set b1 ν ν 1 y).set b2 ν ν 2 z,((hi.set j 0 x).set b1 1 y).set b2 2 z,
  bX (eE (eE (eE C j ν 0 x) b1 ν 1 y) b2 ν 2 z) G⟩
theorem bslice_vec(D0 e i:RC)(w:World):(Instr.buildSlice 82 1 #[(0,.agg (ah D0 e i))]).run prog w=.ok (.slice (some ⟨w.heap.size,0,none⟩) 1 1) (w.alloc (.cells (ah D0 e i) 57)):=by kernel_rfl
theorem bslice_face(n0 u A C:RC)(e:Option Addr)(j i:Nat)(w:World):(Instr.buildSlice 83 1 #[(0,.agg (aS n0 u A C e j i))]).run prog w=.ok (.slice (some ⟨w.heap.size,0,none⟩) 1 1) (w.alloc (.cells (aS n0 u A C e j i) 155)):=by kernel_rfl
theorem build_face(n0 u A C:RC)(e:Option Addr)(j i:Nat)(w:World):(Instr.build 155 #[(0,.agg (ah n0 u A)),(1,C.agg),(2,.slice e j i)]).run prog w=.ok (.agg (aS n0 u A C e j i)) w:=by kernel_rfl
theorem o5{o:Oper}{a:Act}{w:World}{K:Act->World->Prop}{Q:Exit->Act->World->Prop}(x:Operand)(n0 u A C:RC)(e:Option Addr)(j i:Nat)(F:o.op=.buildSlice 83 1 #[(0,x)])(G:a.eval x=.agg (aS n0 u A C e j i))(h:K (a.put o.dst (.slice (some ⟨w.heap.size,0,none⟩) 1 1)) (w.alloc (.cells (aS n0 u A C e j i) 155))):o.wp prog a w K Q:=by
 unfold Oper.wp execOp;simp only[F,Sem.run_bind,Sem.run_pure,Result.andThen_ok,List.map_toArray,List.map_cons,List.map_nil,G,bslice_face];exact h
theorem rg{o:Oper}{a:Act}{w:World}{K:Act->World->Prop}{Q:Exit->Act->World->Prop}(x y z:Operand)(n0 u A C:RC)(e:Option Addr)(j i:Nat)(F:o.op=.build 155 #[(0,x),(1,y),(2,z)])(G:a.eval x=.agg (ah n0 u A))(H:a.eval y=C.agg)(J:a.eval z=.slice e j i)(h:K (a.put o.dst (.agg (aS n0 u A C e j i))) w):o.wp prog a w K Q:=by
 unfold Oper.wp execOp;simp only[F,Sem.run_bind,Sem.run_pure,Result.andThen_ok,List.map_toArray,List.map_cons,List.map_nil,G,H,J,build_face];exact h
theorem rh{o:Oper}{a:Act}{w:World}{K:Act->World->Prop}{Q:Exit->Act->World->Prop}(x:Operand)(D0 e i:RC)(j:o.op=.buildSlice 82 1 #[(0,x)])(u:a.eval x=.agg (ah D0 e i))(h:K (a.put o.dst (.slice (some ⟨w.heap.size,0,none⟩) 1 1)) (w.alloc (.cells (ah D0 e i) 57))):o.wp prog a w K Q:=by
 unfold Oper.wp execOp;simp only[j,Sem.run_bind,Sem.run_pure,Result.andThen_ok,List.map_toArray,List.map_cons,List.map_nil,u,bslice_vec];exact h
theorem place_any(vm:Value)(m:Mo)(k l:Nat)(v0 v1 v2:Value)(qs:List Q3)(base:Nat)(f2:List (RC×RC×RC))(es:List ED)(w:World)(hm:sX w vm m)(hk:∀i,BdV k (m.row i))(hs:BdV k m.s)(hV:VRow w base v0 qs f2)(hl:∀i,BdV l (qAt qs i))(h1:4*(k+l)<100000)(hq:qs.length<=262144)(hE:eI w base v2 es)(fb:es.length<=262144)(fqs:List (Q3×Rat))(de:List FR)(rns:List (List Nat))(kp:Nat)(hF:PlaF w base v1 fqs de rns qs.length m k kp):
 Calls prog 37 #[.agg #[v0,v1,v2],vm] w fun e w'=>RetPla w.heap.size m qs fqs rns es w' e/\Bl w w':=by
 obtain⟨a,b,c,s,rfl,dz⟩:=hm;obtain⟨W,hW,b1,b2,b3,hB,hS⟩:=cC w #[v0,v1,v2] (aJ a b c s) #[.slice none 0 0,.slice none 0 0,.slice none 0 0] 86 60 86;obtain⟨cp,bI,U,HK,HE,HB,cB,B1,B2⟩:=η9 dz hV hF (show(∀i,BdV k (m.row i))/\BdV k m.s/\(∀i,BdV l (qAt qs i))/\4*(k+l)<100000 from⟨hk,hs,hl,h1⟩) (aC hE hB) hB hS b1 b2;have B3:=O b3;obtain⟨x0,x1,x2,-⟩:=b1.three;clear hF dz hV hE hB hS b1 b2 b3 hk hs hl h1
 go_enter func37,ntmps37
 go_wp2_with fail
 refine(cloneE_any v2 es base W HE.o fb).mono ?_;rintro e w2 ⟨⟨ga,rfl,b6⟩,a4⟩;obtain⟨L2,S2,M2,Z2,E2⟩:=η5 (ae HB.o a4 (ψ cB.o)) (B1.o.to a4) (B2.o.to a4) (B3.o.to a4) b6;obtain⟨ea,ec,rfl,-⟩:=eU b6;clear a4 b6 x0 x1 x2
 go_upto_region 2 with fail
 obtain⟨w4,ee,b4,av,d7⟩:=aB w2 #[.slice none 0 0,.slice none 0 0,.slice ea es.length ec] 86;rw[ee];obtain⟨L4,S4,M4,Z4,E4,O4⟩:=η6 (ae L2.o av ρ) (S2.o.to av) (M2.o.to av) (Z2.o.to av) (aC E2.o av) b4;have GG:=O (show w.heap.size+3<=w2.heap.size/\w4.heap.size=w2.heap.size+1 from⟨by have:=Z2.o.lt;omega,d7⟩);obtain⟨g5,du⟩:=χ w2.heap.size;(try unfold Bl at O4);(try unfold Bl at GG);rw[du]at O4 GG⊢;clear ee b4 av d7 du;obtain⟨N,hN⟩:=χ qs.length;obtain⟨pa,pc,e,-⟩:=eU bI.o.own;rw[bI.o.len,hN]at e;have ao:=O hN;rw[hN]at hq;subst e;obtain⟨x0,x1,x2,-⟩:=S4.o.three;clear hN;obtain⟨i0,dy,fq,fr,f1⟩:=info_parts infoVecR
 go_wp2_with fail
 go_loopw [19] (fun iv wr=>∃(i:Nat) (ov:Value) (rs:List (RC×RC×RC)),i<=N/\iv=.int .i64 (i:Nat)/\Hid (VRow wr w.heap.size ov (sA m qs i) rs)/\Hid (PlaS w wr g5 (.slice pa N pc) v1 v2 a b c s ov (.slice none 0 0) (.slice ea es.length ec))/\Hid (eI wr W.heap.size (.slice ea es.length ec) es)) (fun iv _=>N-(intOf iv).toNat)
 case atStart=>exact⟨0,_,[],by omega,rfl,VRow.nil _ _,⟨S4.o,M4.o,O4.o,Z4.o,L4.o,by have:=GG.o;omega⟩,E4.o⟩
 case round =>
  clear S2 M2 Z2 Z4 S4 M4 O4 L4 L2 E2 E4 HE B1 B2 B3 HB x0 x1 x2;obtain⟨i,ov,rs,hi,rfl,HR,HS,ac⟩:=hrel;obtain⟨wk,rfl⟩:=φ wr;by_cases h0:i=N
  ·have f7:¬ (i:Int)<(N:Int):=I
   have ap:=O (show VRow wk w.heap.size ov (qs.map (aQ m)) rs from by have:=HR.o;unfold sA at this;rwa [h0,List.take_of_length_le (Nat.le_of_eq ao.o)]at this);obtain⟨F,hF⟩:=χ de.length;obtain⟨L,R,ef,-⟩:=eU U.o.row.own;rw[hF]at ef;have aw:=O hF;subst ef;obtain⟨x0,x1,x2,-⟩:=HS.o.sb.three;clear hF h0 HR
   go_wp2_with fail
   go_loopw [35] (fun jv wr=>∃(j:Nat) (fv:Value) (aa:List FR),j<=F/\jv=.int .i64 (j:Nat)/\Hid (VRow wr w.heap.size ov (qs.map (aQ m)) rs)/\Hid (PlaS w wr g5 (.slice pa N pc) (.slice L F R) v2 a b c s ov fv (.slice ea es.length ec))/\Hid (eI wr W.heap.size (.slice ea es.length ec) es)/\Hid (FRow wr w.heap.size fv (dn m qs fqs rns j) aa)/\Hid (fH wr w.heap.size aa rns)) (fun jv _=>F-(intOf jv).toNat)
   case atStart=>exact⟨0,_,[],by omega,rfl,ap.o,HS.o,ac.o,FRow.nil _ _,fun _ _ _ h=>by simp at h⟩
   case round =>
    clear ap HS ac x0 x1 x2;obtain⟨j,fv,aa,J,rfl,ap,HS,ac,az,bF⟩:=hrel;obtain⟨wj,rfl⟩:=φ wr;by_cases h0:j=F
    ·have f4:¬ (j:Int)<(F:Int):=I
     have ex:=O (show FRow wj w.heap.size fv (dn m qs fqs rns fqs.length) aa from by rw[<-U.o.row.len,aw.o,<-h0];exact az.o);have eu:=O (show w.heap.size<=W.heap.size from by have:=cB.o;omega);obtain⟨o0,o1,o2,-⟩:=HS.o.ob.three;have r0:=HS.o.zb.cell 0;have r1:=HS.o.zb.cell 1;have r2:=HS.o.zb.cell 2;have z0:=HS.o.zb.free 0;have z1:=HS.o.zb.free 1;have z2:=HS.o.zb.free 2;obtain⟨oa,oc,eo,-⟩:=eU ap.o.own;obtain⟨pf,fn,eg,-⟩:=eU az.o.own;subst eo;subst eg;clear h0 az
     go_wp2_with fail
     exact aK results37 (w.heap.size+2) (HS.o.zb.set3 _ _ _) _ rfl underlying86 rfl m9 rfl ⟨⟨_,_,_,_,_,rfl,pla_ret HS.o ap.o ex.o bF.o ac.o eu.o _ _ _⟩,((HS.o.bel.setCell (p:=⟨w.heap.size+2,0,none⟩) (by show w.heap.size<=w.heap.size+2;omega) _).setCell (p:=⟨w.heap.size+2,1,none⟩) (by show w.heap.size<=w.heap.size+2;omega) _).setCell (p:=⟨w.heap.size+2,2,none⟩) (by show w.heap.size<=w.heap.size+2;omega) _⟩
    ·have bi:(j:Int)<(F:Int):=I
     have HJ:=O (show j<F from by omega);obtain⟨pb,n0,n1,n2,H,gi,ci,f,A,b2,e6,hf,d5,dA,dB,bv,ar,dx,bk⟩:=(U.o.below HS.o.bel).open j (by have:=aw.o;have:=HJ.o;omega);subst e6;obtain⟨an,cq,cr,ay,ch⟩:=η5 (fun j' (fl:j'<(aS n0 n1 n2 H (some ⟨gi,0,none⟩) A.length ci).size)=>bv j' fl) dA dB (show fqs[j]?=some f/\rns[j]?=some A from⟨hf,d5⟩) (show wj.cell? ⟨gi,0,none⟩=some (.int .i64 (A.headD 0:Nat))/\A.headD 0<N/\0<A.length from⟨ar,ao.o▸dx,bk⟩);clear h0 hf d5 dA dB bv ar dx bk
     go_upto_region 10 with(first|refine aj rfl _ _ rfl pb (j*17) rfl (aS n0 n1 n2 H (some ⟨gi,0,none⟩) A.length ci) _ (fun j J=>an.o j J) underlying155 rfl iG ?_|refine aA rfl _ _ _ rfl _ (aS n0 n1 n2 H (some ⟨gi,0,none⟩) A.length ci) rfl rfl iG rfl (dK n0 n1 n2 H (some ⟨gi,0,none⟩) A.length ci) ?_)
     obtain⟨w5,dl,b5,ad,e8⟩:=aB wj (aS n0 n1 n2 H (some ⟨gi,0,none⟩) A.length ci) 155;rw[dl];obtain⟨be,cF,cc,bl,bs,F5,c5,ba⟩:=η8 (HS.o.below ad) (ap.o.below ad) (aC ac.o ad) (az.o.below ad) (bF.o.below ad) b5 (aC cr.o ad) (U.o.nor f (List.mem_of_getElem? ay.o.1));obtain⟨cD,cs⟩:=η2 (turn_any (.agg (aJ a b c s)) (.agg (ah n0 n1 n2)) m f.1 k k w5 ⟨a,b,c,s,rfl,cp.o.below be.o.bel⟩ (cq.o.below ad) HK.o.1 ba.o.1 (ψ HK.o.2.2.2)) (fun x v h=>sV x (bH m f.1) _ v h (BdV.turn HK.o.1 ba.o.1) (ψ U.o.kk) ba.o.2.1);clear dl b5 ad e8 an cq cr HS ap ac az bF bi
     go_wp2_with (first|refine aj rfl _ _ rfl (w.heap.size+1) 0 rfl (aJ a b c s) _ (fun j J=>be.o.mb.whole j J) underlying60 rfl gt ?_|refine aj rfl _ _ rfl wj.heap.size 0 rfl (ah n0 n1 n2) _ (fun j J=>F5.o.nor17 j J) underlying57 rfl aZ ?_)
     refine cD.o.mono ?_;rintro e w6 ⟨⟨v6,rfl,d8⟩,af⟩;obtain⟨cv,cU,cd,bm,bt,F6,c6⟩:=η7 (be.o.below af) (cF.o.below af) (aC cc.o af) (bl.o.below af) (bs.o.below af) (F5.o.to af) (aC c5.o af);clear af cD be cF cc bl bs F5 c5
     go_wp2_with fail
     refine(cs.o _ _ d8).mono ?_;rintro e w7 ⟨⟨v7,rfl,d9⟩,ag⟩;obtain⟨p0,p1,p2,rfl,d0⟩:=d9.rcv;obtain⟨cy,cV,ce,bp,bu,F7,c7,c8⟩:=η8 (cv.o.below ag) (cU.o.below ag) (aC cd.o ag) (bm.o.below ag) (bt.o.below ag) (F6.o.to ag) (aC c6.o ag) d0;clear d8 d9 d0 ag cs cv cU cd bm bt F6 c6
     go_upto_region 11 with(refine aA rfl _ _ _ rfl _ (ah p0 p1 p2) rfl rfl aZ rfl (bC p0 p1 p2) ?_)
     obtain⟨w8,dm,b8,ab,e9⟩:=aB w7 (ah p0 p1 p2) 57;rw[dm];obtain⟨P8,a0,c3,et,br,cm,F8,bV,c9⟩:=η9 b8 (cy.o.below ab) (cV.o.below ab) (aC ce.o ab) (bp.o.below ab) (bu.o.below ab) (F7.o.to ab) (aC c7.o ab) (c8.o.below ab);have bg:=O a0.o.ob;obtain⟨hd,ar⟩:=χ (A.headD 0);have cl:=O ar;have dv:aa.length=j:=by have:=br.o.len;unfold dn at this;rw[List.length_map,List.length_take,List.length_zip]at this;have:=U.o.len;have:=U.o.row.len;have:=HJ.o;have:=aw.o;omega
     have cg:=O (show aa.length<=262144 from by have:=U.o.max;have:=aw.o;have:=HJ.o;omega);have eB:=O (show rns[aa.length]?=some A from by rw[dv];exact ay.o.2);clear dv;have a9:Hid (hd<N/\0<A.length/\w8.cell? ⟨gi,0,none⟩=some (.int .i64 (hd:Nat))):=by
      have h:=ch.o;rw[ar]at h;refine⟨h.2.1,h.2.2,?_⟩;obtain⟨x,y,fo⟩:∃x y,A=x::y:=by
       cases A with
       | nil=>exact absurd h.2.2 (by simp)
       | cons x y=>exact⟨x,y,rfl⟩
      have e:=World.ownsRow.cellAt bV.o 0 (ψ h.2.2);rw[fo]at e ar;cases ar;exact e
     have ed:(qs.map (aQ m))[hd]?=some (aQ m (qAt qs hd)):=by
      have h:=a9.o.1;rw[<-ao.o]at h;rw[List.getElem?_map,List.getElem?_eq_getElem h];unfold qAt;rw[List.getD_eq_getElem?_getD,List.getElem?_eq_getElem h];rfl
     obtain⟨vb,vc,⟨D0,Y,D2⟩,ev,eb,f9,ca,hr,a6,a5⟩:=c3.o.at_ hd _ ed;have an:=O (fun j (J:j<(ah D0 Y D2).size)=>show w8.cell? ⟨vb,hd*12+j,none⟩=(ah D0 Y D2)[j]? from by
      rw[a5 j J];unfold bQ;rw[Array.getElem?_toList])
     have bc:=O a6;have en:=O (show hd<qs.length from by rw[ao.o];exact a9.o.1);have ey:=O (show gi<w8.heap.size from by have:=bV.o.lt _ rfl;exact this.2);have cn:=O (fun w' (h:Bl w8 w') j (J:j<(ah D0 Y D2).size)=>(h.cell (p:=⟨vb,hd*12+j,none⟩) eb).trans (an.o j J));have ep:=O (fun w' (h:Bl w8 w')=>ji (.agg (ah p0 p1 p2)) (.agg (ah D0 Y D2)) _ _ kp _ w' (c9.o.below h) (bc.o.below h) ba.o.2.2 ((BdV.turn HK.o.1 (HK.o.2.2.1 hd)).qadd HK.o.2.1) (by have:=U.o.kpm;have:=HK.o.2.2.2;omega));have em:=O (fun w' (h:Bl w8 w')=>cloneN_any _ A b2 w' (aC bV.o h) (U.o.ring A (List.mem_of_getElem? ay.o.2)).1);clear dm b8 ab e9 cy cV ce bp bu F7 c7 c8 a6 a5 hr ca ed eb ch;refine aU (rest:=3) [isV 0 (.pointer (some ⟨g5,1,none⟩)),isV 1 (fv),isV 2 (.agg (ah p0 p1 p2)),isV 3 (.agg (ah p0 p1 p2)),isV 4 (.pointer (some ⟨g5,0,none⟩)),isV 5 (.slice (some ⟨vb,0,none⟩) qs.length vc),isV 6 (.pointer (some ⟨wj.heap.size,16,none⟩)),isV 7 (.slice (some ⟨gi,0,none⟩) A.length ci),isV 8 (.pointer (some ⟨gi,0,none⟩)),isV 9 (.int .i64 hd),isV 10 (.pointer (some ⟨vb,hd*12,none⟩)),isV 11 (.agg (ah D0 Y D2)),isP 12 (fun u w=>ak w u (aT (cE (bH m f.1)) (aQ m (qAt qs hd)))),isV 13 (.pointer (some ⟨wj.heap.size,16,none⟩)),isV 14 (.slice (some ⟨gi,0,none⟩) A.length ci),isP 15 (fun u w=>bo w w8.heap.size u A),isP 16 (fun u w=>∃(H:RC) (L:Option Addr) (R:Nat),u=.agg (aS p0 p1 p2 H L A.length R)/\ak w H.agg (aT (cE (bH m f.1)) (aQ m (qAt qs hd)))/\bo w w8.heap.size (.slice L A.length R) A),isP 17 (fun u w=>∃(g:Nat) (H:RC) (L:Option Addr) (R:Nat),u=.slice (some ⟨g,0,none⟩) 1 1/\w8.heap.size<=g/\Box w g (aS p0 p1 p2 H L A.length R) 155/\ak w H.agg (aT (cE (bH m f.1)) (aQ m (qAt qs hd)))/\bo w w8.heap.size (.slice L A.length R) A)] [17] ?A2 (τ 18 3) Z [0,1,2,3,4,5,6,7,8,9,10,11,12,13,14,15,16,17] Z Z Z Z Z Z ?st ?hA ?hop ?hend
     case hA=>exact cZ
     case st=>(iterate 12 refine aq.cons isV.stab ?_);refine aq.cons (isP.stab (fun _ _ _ h hv=>hv.below h)) ?_;(iterate 2 refine aq.cons isV.stab ?_);refine aq.cons (isP.stab (fun _ _ _ h hv=>aC hv h)) ?_;refine aq.cons (isP.stab (fun _ _ _ h ⟨H,L,R,e,h1,h2⟩=>⟨H,L,R,e,h1.below h,aC h2 h⟩)) ?_;refine aq.cons (isP.stab (fun _ _ _ h ⟨g,H,L,R,e,h0,h1,h2,h3⟩=>⟨g,H,L,R,e,h0,h1.to h,h2.below h,aC h3 h⟩)) ?_;exact aq.nil
     case hop =>
      refine ai.cons rfl (fun y w' hS hD K hK=>?_) ?_
      ·as_aux_lemma =>
       go_simp;exact hK.out _ w' hS β isV.put δ
      refine ai.cons rfl (fun y w' hS hD K hK=>?_) ?_
      ·simp only[isV.get (hD 0 Z)]at hK⊢
       as_aux_lemma =>
       have bx:=bg.o.to hS;obtain⟨c0,c1,c2,-⟩:=bx.three;go_simp;exact hK.out _ w' hS β isV.put δ
      iterate 2
       refine ai.cons rfl (fun y w' hS hD K hK=>?_) ?_
       ·as_aux_lemma =>
        refine bJ ?_;refine aV 57 _ rfl w7.heap.size 0 rfl (ah p0 p1 p2) _ (fun j J=>(P8.o.to hS).whole j J) underlying57 rfl aZ ?_;exact hK.out _ w' hS β isV.put δ
      refine ai.cons rfl (fun y w' hS hD K hK=>?_) ?_
      ·as_aux_lemma =>
       go_simp;exact hK.out _ w' hS β isV.put δ
      refine ai.cons rfl (fun y w' hS hD K hK=>?_) ?_
      ·simp only[isV.get (hD 4 Z)]at hK⊢
       as_aux_lemma =>
       have bx:=bg.o.to hS;obtain⟨c0,c1,c2,-⟩:=bx.three;go_simp;exact hK.out _ w' hS β isV.put δ
      refine ai.cons rfl (fun y w' hS hD K hK=>?_) ?_
      ·as_aux_lemma =>
       go_simp;exact hK.out _ w' hS β isV.put δ
      refine ai.cons rfl (fun y w' hS hD K hK=>?_) ?_
      ·simp only[isV.get (hD 6 Z)]at hK⊢
       as_aux_lemma =>
       have bx:=F8.o.to hS;have c0:w'.cell? ⟨wj.heap.size,16,none⟩=some (.slice (some ⟨gi,0,none⟩) A.length ci):=bx.cell 16;go_simp;exact hK.out _ w' hS β isV.put δ
      refine ai.cons rfl (fun y w' hS hD K hK=>?_) ?_
      ·simp only[isV.get (hD 7 Z)]at hK⊢
       as_aux_lemma =>
       have f6:=a9.o.2.1;go_simp;exact hK.out _ w' hS β isV.put δ
      refine ai.cons rfl (fun y w' hS hD K hK=>?_) ?_
      ·simp only[isV.get (hD 8 Z)]at hK⊢
       as_aux_lemma =>
       have c0:=(hS.cell (p:=⟨gi,0,none⟩) ey.o).trans a9.o.2.2;go_simp;exact hK.out _ w' hS β isV.put δ
      refine ai.cons rfl (fun y w' hS hD K hK=>?_) ?_
      ·simp only[isV.get (hD 5 Z),isV.get (hD 9 Z)]at hK⊢
       as_aux_lemma =>
       have bi:=en.o;go_simp;exact hK.out _ w' hS β isV.put δ
      refine ai.cons rfl (fun y w' hS hD K hK=>?_) ?_
      ·simp only[isV.get (hD 10 Z)]at hK⊢
       as_aux_lemma =>
       refine bJ ?_;refine aV 57 _ rfl vb (hd*12) rfl (ah D0 Y D2) _ (fun j J=>cn.o w' hS j J) underlying57 rfl aZ ?_;exact hK.out _ w' hS β isV.put δ
      refine ai.cons rfl (fun y w' hS hD K hK=>?_) ?_
      ·simp only[isV.get (hD 3 Z),isV.get (hD 11 Z)]at hK⊢
       as_aux_lemma =>
       go_simp;refine(ep.o w' hS).mono ?_
       rintro e a7 ⟨⟨v,rfl,hv⟩,hb⟩;exact hK.out v a7 (ae hS hb ρ) hb (isP.put hv) δ
      refine ai.cons rfl (fun y w' hS hD K hK=>?_) ?_
      ·as_aux_lemma =>
       go_simp;exact hK.out _ w' hS β isV.put δ
      refine ai.cons rfl (fun y w' hS hD K hK=>?_) ?_
      ·simp only[isV.get (hD 13 Z)]at hK⊢
       as_aux_lemma =>
       have bx:=F8.o.to hS;have c0:w'.cell? ⟨wj.heap.size,16,none⟩=some (.slice (some ⟨gi,0,none⟩) A.length ci):=bx.cell 16;go_simp;exact hK.out _ w' hS β isV.put δ
      refine ai.cons rfl (fun y w' hS hD K hK=>?_) ?_
      ·simp only[isV.get (hD 14 Z)]at hK⊢
       as_aux_lemma =>
       go_simp;refine(em.o w' hS).mono ?_
       rintro e a7 ⟨⟨v,rfl,hv⟩,hb⟩;exact hK.out v a7 (ae hS hb ρ) hb (isP.put (bX hv hS.size)) δ
      refine ai.cons (i:=16) rfl (fun y w' hS hD K hK=>?_) ?_
      ·as_aux_lemma =>
       have e2:=isV.get (hD 2 Z);have db:=isP.get (hD 12 Z);have b0:=isP.get (hD 15 Z);obtain⟨H,er,hr⟩:=db.rcv;obtain⟨L,R,ef,-⟩:=eU b0;simp only[e2,er,ef]at hK⊢;rw[er]at db;rw[ef]at b0;refine bJ ?_;refine rg _ _ _ p0 p1 p2 H L A.length R rfl rfl rfl rfl ?_;exact hK.out _ w' hS β (isP.put ⟨H,L,R,rfl,hr,b0⟩) δ
      refine ai.cons rfl (fun y w' hS hD K hK=>?_) ?_
      ·as_aux_lemma =>
       have e0:=isP.get (hD 16 Z);obtain⟨H,L,R,eq,hr,ho⟩:=e0;simp only[eq]at hK⊢;refine bJ ?_;refine o5 _ p0 p1 p2 H L A.length R rfl rfl ?_;exact hK.out _ _ (hS.alloc hS.size _) (β.alloc ρ _) (isP.put ⟨_,H,L,R,rfl,hS.size,Box.new _ _ _ _ rfl,hr.below (β.alloc ρ _),aC ho (β.alloc ρ _)⟩) (fun _ j J b9 _=>absurd (List.mem_singleton.1 J) b9)
      exact ai.nil
     case hend =>
      intro y w' hS hR hF;have e1:=isV.get (hR 1 Z);obtain⟨gn,H,L,R,dd,b7,a2,d6,ds⟩:=isP.get (i:=17) (p:=fun u w=>∃(g:Nat) (H:RC) (L:Option Addr) (R:Nat),u=.slice (some ⟨g,0,none⟩) 1 1/\w8.heap.size<=g/\Box w g (aS p0 p1 p2 H L A.length R) 155/\ak w H.agg (aT (cE (bH m f.1)) (aQ m (qAt qs hd)))/\bo w w8.heap.size (.slice L A.length R) A) (hR 17 Z);simp only[e1,dd];refine aL (i:=18) (listed2:=τ 19 2) Z rfl Z (fun K hK=>?_);refine bJ ?_;have a8:=br.o.below hS;obtain⟨j0,bz,ei,ej,ek⟩:=info_parts infoFace;refine eN w' _ _ 83 rfl w.heap.size 155 j0 (.agg #[.bool false,.slice none 0 0,.bool false,.slice none 0 0,.bool false,.slice none 0 0,.bool false,.slice none 0 0,.bool false,.slice none 0 0,.bool false,.slice none 0 0,.bool false,.slice none 0 0,.bool false,.slice none 0 0,.slice none 0 0]) 17 280 underlying83 bz ei ej ek rfl ν fv aa.length (aa.flatMap cI) rfl a8.own (some ⟨gn,0,none⟩) 1 1 (cI ⟨(p0,p1,p2),H,.slice L A.length R⟩) rfl ⟨rfl,.inr ⟨_,rfl,fun j u hu=>by rw[nF,Nat.zero_add];exact Box.src17 (r:=⟨(p0,p1,p2),H,.slice L A.length R⟩) a2 j u hu⟩⟩ (face17_one _ _ _ _ _ _ _) (by have:=cg.o;unfold maxLen;omega) (ψ cg.o) (by have:=a0.o.bel.size;have:=hS.size;omega) ?_;intro v' w5 X G;obtain⟨va,vc,rfl,-⟩:=eU X;refine hK.out _ _ ?_;clear hK K bz ei ej ek j0;obtain⟨C,a1⟩:=η2 ((a0.o.below hS).appF a8 (c3.o.below hS) (aC et.o hS) (cm.o.below hS) (r:=⟨(p0,p1,p2),H,.slice L A.length R⟩) (q:=(cE (bH m f.1),aT (cE (bH m f.1)) (aQ m (qAt qs hd)))) (c9.o.below hS) d6 eB.o (bX ds a0.o.bel.size) X G) (((a0.o.below hS).grown a8.own ν ν G).ob);clear hS hR hF e1 dd b7 a2 d6 ds a8 X G;refine aL (i:=19) (listed2:=τ 20 1) Z rfl Z (fun K hK=>?_);go_simp;refine hK.out _ _ ?_;clear hK K;refine aL (i:=20) (listed2:=τ 21 0) Z rfl Z (fun K hK=>?_);have f0:=a1.o.free 1;have c0:=a1.o.cell 1;go_simp;refine hK.out _ _ ?_;clear hK K f0 c0;refine aP Z ?_;have f5:F<=262144:=by have:=U.o.max;have:=aw.o;omega
      go_wp2_with fail
      go_round
      case rel =>
       refine⟨j+1,_,aa++[(⟨(p0,p1,p2),H,.slice L A.length R⟩:FR)],HJ.o,rfl,C.o.1,C.o.2.1,C.o.2.2.1,?_,C.o.2.2.2.2⟩;show FRow _ _ _ _ _;rw[moveFs_succ m qs ay.o.1 ay.o.2];unfold qi;rw[cl.o];exact C.o.2.2.2.1
      case measure=>exact μ (ψ HJ.o)
  ·have bi:(i:Int)<(N:Int):=I
   have HI:=O (show i<N from by omega);have d4:qs[i]?=some (qAt qs i):=by
    have h:=HI.o;rw[<-ao.o]at h;unfold qAt;rw[List.getD_eq_getElem?_getD,List.getElem?_eq_getElem h];rfl
   obtain⟨pb,eT,⟨R0,R1,R2⟩,ev,f8,f3,ca,hr,a6,a5⟩:=(bI.o.below HS.o.bel).at_ i _ d4;obtain⟨rfl,rfl⟩:pa=some ⟨pb,0,none⟩/\pc=eT:=by injection ev with e1 e2 e3;exact⟨e1,e3⟩
   have an:=O (fun j (J:j<(ah R0 R1 R2).size)=>show wk.cell? ⟨pb,i*12+j,none⟩=(ah R0 R1 R2)[j]? from by
    rw[a5 j J];unfold bQ;rw[Array.getElem?_toList])
   have bc:=O a6;clear h0 ev ca hr a6 a5 d4
   go_upto_region 5 with(first|refine aj rfl _ _ rfl pb (i*12) rfl (ah R0 R1 R2) _ (fun j J=>an.o j J) underlying57 rfl aZ ?_|refine aA rfl _ _ _ rfl _ (ah R0 R1 R2) rfl rfl aZ rfl (bC R0 R1 R2) ?_)
   obtain⟨w3,dk,b3,a3,e7⟩:=aB wk (ah R0 R1 R2) 57;rw[dk];obtain⟨R3,au⟩:=η2 b3 (HS.o.below a3);obtain⟨da,c4,eD,E3,cu⟩:=η5 au.o.ob au.o.mb (HR.o.below a3) (aC ac.o a3) (bc.o.below a3);have el:=O (fun w' (h:Bl w3 w')=>apply_any (.agg (aJ a b c s)) (.agg (ah R0 R1 R2)) m (qAt qs i) k l w' ⟨a,b,c,s,rfl,(cp.o.below au.o.bel).below h⟩ (cu.o.below h) HK.o.1 HK.o.2.1 (HK.o.2.2.1 i) HK.o.2.2.2);have bk:rs.length=i:=by have:=HR.o.len;unfold sA at this;rw[List.length_map,List.length_take]at this;have:=HI.o;have:=ao.o;omega
   clear dk b3 a3 e7 an bc HR HS ac bi;refine aU (rest:=3) [isV 0 (.pointer (some ⟨g5,0,none⟩)),isV 1 (ov),isV 2 (.agg (aJ a b c s)),isV 3 (.agg (ah R0 R1 R2)),isP 4 (fun u w=>am w u (aQ m (qAt qs i))),isP 5 (fun u w=>∃(g:Nat) (D0 Y D2:RC),u=.slice (some ⟨g,0,none⟩) 1 1/\w3.heap.size<=g/\Box w g (ah D0 Y D2) 57/\am w (.agg (ah D0 Y D2)) (aQ m (qAt qs i)))] [5] ?A1 (τ 6 3) Z [0,1,2,3,4,5] Z Z Z Z Z Z ?st ?hA ?hop ?hend
   case hA=>exact cZ
   case st=>(iterate 4 refine aq.cons isV.stab ?_);refine aq.cons (isP.stab (fun _ _ _ h hv=>hv.below h)) ?_;refine aq.cons (isP.stab (fun _ _ _ h ⟨g,D0,Y,D2,e,h1,h2,h3⟩=>⟨g,D0,Y,D2,e,h1,h2.to h,h3.below h⟩)) ?_;exact aq.nil
   case hop =>
    refine ai.cons rfl (fun y w' hS hD K hK=>?_) ?_
    ·as_aux_lemma =>
     go_simp;exact hK.out _ w' hS β isV.put δ
    refine ai.cons rfl (fun y w' hS hD K hK=>?_) ?_
    ·simp only[isV.get (hD 0 Z)]at hK⊢
     as_aux_lemma =>
     have bx:=da.o.to hS;obtain⟨c0,c1,c2,-⟩:=bx.three;go_simp;exact hK.out _ w' hS β isV.put δ
    refine ai.cons rfl (fun y w' hS hD K hK=>?_) ?_
    ·as_aux_lemma =>
     refine bJ ?_;refine aV 60 _ rfl (w.heap.size+1) 0 rfl (aJ a b c s) _ (fun j J=>(c4.o.to hS).whole j J) underlying60 rfl gt ?_;exact hK.out _ w' hS β isV.put δ
    refine ai.cons rfl (fun y w' hS hD K hK=>?_) ?_
    ·as_aux_lemma =>
     refine bJ ?_;refine aV 57 _ rfl wk.heap.size 0 rfl (ah R0 R1 R2) _ (fun j J=>(R3.o.to hS).whole j J) underlying57 rfl aZ ?_;exact hK.out _ w' hS β isV.put δ
    refine ai.cons rfl (fun y w' hS hD K hK=>?_) ?_
    ·simp only[isV.get (hD 2 Z),isV.get (hD 3 Z)]at hK⊢
     as_aux_lemma =>
     go_simp;refine(el.o w' hS).mono ?_
     rintro e a7 ⟨⟨v,rfl,hv⟩,hb⟩;exact hK.out v a7 (ae hS hb ρ) hb (isP.put hv) δ
    refine ai.cons rfl (fun y w' hS hD K hK=>?_) ?_
    ·as_aux_lemma =>
     have e4:=isP.get (hD 4 Z);obtain⟨D0,Y,D2,eq,hq⟩:=e4.rcv;simp only[eq]at hK⊢;have ez:=O hq;clear eq hq;refine bJ ?_;refine rh _ D0 Y D2 rfl rfl ?_;exact hK.out _ _ (hS.alloc hS.size _) (β.alloc ρ _) (isP.put ⟨_,D0,Y,D2,rfl,hS.size,Box.new _ _ _ _ rfl,ez.o.below (β.alloc ρ _)⟩) (fun _ j J b9 _=>absurd (List.mem_singleton.1 J) b9)
    exact ai.nil
   case hend =>
    intro y w' hS hR hF;have e1:=isV.get (hR 1 Z);obtain⟨gn,D0,Y,D2,e5,b7,a2,hD⟩:=isP.get (i:=5) (p:=fun u w=>∃(g:Nat) (D0 Y D2:RC),u=.slice (some ⟨g,0,none⟩) 1 1/\w3.heap.size<=g/\Box w g (ah D0 Y D2) 57/\am w (.agg (ah D0 Y D2)) (aQ m (qAt qs i))) (hR 5 Z);simp only[e1,e5];refine aL (i:=6) (listed2:=τ 7 2) Z rfl Z (fun K hK=>?_);refine bJ ?_;have bf:=eD.o.below hS;refine eN w' _ _ 82 rfl w.heap.size 57 i0 (.agg (ah RC.zero RC.zero RC.zero)) 12 192 underlying82 dy fq fr f1 rfl ν ov rs.length (rs.flatMap bQ) rfl bf.own (some ⟨gn,0,none⟩) 1 1 (bQ (D0,Y,D2)) rfl ⟨rfl,.inr ⟨_,rfl,fun j u hu=>by rw[nF,Nat.zero_add];exact a2.src12 (r:=(D0,Y,D2)) j u hu⟩⟩ (vec12_one _) (by unfold maxLen;omega) I (by have:=au.o.bel.size;have:=hS.size;omega) ?_;intro v' w5 X G;obtain⟨va,vc,rfl,-⟩:=eU X;refine hK.out _ _ ?_;clear hK K;have C:=O ((au.o.below hS).app bf (aC E3.o hS) (r:=(D0,Y,D2)) hD X G);rw[bk]at C;have a1:=O (((au.o.below hS).grown bf.own ν ν G).ob);clear hS hR hF e1 e5 b7 a2 hD bf X G;refine aL (i:=7) (listed2:=τ 8 1) Z rfl Z (fun K hK=>?_);go_simp;refine hK.out _ _ ?_;clear hK K;refine aL (i:=8) (listed2:=τ 9 0) Z rfl Z (fun K hK=>?_);have f0:=a1.o.free 0;have c0:=a1.o.cell 0;go_simp;refine hK.out _ _ ?_;clear hK K f0 c0;refine aP Z ?_
    go_wp2_with fail
    go_round
    case rel =>
     refine⟨i+1,_,rs++[(D0,Y,D2)],HI.o,rfl,?_,C.o.2.1,C.o.2.2⟩;show VRow _ _ _ _ _;rw[moveV_succ m qs i (by have:=HI.o;have:=ao.o;omega)];exact C.o.1
    case measure=>exact μ (ψ HI.o)
section
open V
section
variable {P : Nat → V} {N E : Nat} {fs : List RF}
theorem RingsOk.sum_pos(h:RingsOk P N fs E)(e:Valid P N)(H:∀f∈fs,∀i∈f.r,i<N):0<cK (aD (qAt (cR P N)) (fs.map RF.r)):=by
 have J:=e.four;obtain⟨ps,j,C⟩:=h.fans;have u:=sumD_pts (P:=P) (N:=N) (rs:=fs.map RF.r) I (fun r F=>by
  obtain⟨f,A,rfl⟩:=List.mem_map.mp F;exact H f A)
 rw[C]at u;have G:=fans_pos j e.sorted.inj e.full e.top (show 0<N by omega);rw[u];exact_mod_cast G
theorem pt_zero{p:V}(h:ptQ p=⟨0,0,0⟩):p=V.zero:=by
 injection h with h1 h2 h3
 obtain⟨x,y,z⟩:=p;have e:x=0:=by exact_mod_cast h1
 have i:y=0:=by exact_mod_cast h2
 have j:z=0:=by exact_mod_cast h3
 rw[e,i,j];rfl
end
end
section
theorem denQ_pos(a:Q3):0<bT a 3:=by
 have h:∀i,0<(a.at i).den:=fun i=>Nat.pos_of_ne_zero (a.at i).den_nz
 have l:∀(x:Int) (n:Nat),0<x->0<n->0<rA x n:=fun x n j e=>(lcmI_pos j e).1
 unfold bT bT bT bT;exact l _ _ (l _ _ (l _ _ ν (h 0)) (h 1)) (h 2)
theorem nZ{a:Q3}(h:a≠⟨0,0,0⟩):∃c:Rat,0<c/\cE a=qscale c a:=by
 have A:0<bT a 3:=denQ_pos a;have i:(0:Rat)<(bT a 3:Rat):=by exact_mod_cast A
 have hb:(⟨(bT a 3:Rat)*a.x,(bT a 3:Rat)*a.y,(bT a 3:Rat)*a.z⟩:Q3)≠⟨0,0,0⟩:=fun e=>h (by
  obtain⟨x,y,z⟩:=a;simp only[Q3.mk.injEq]at e;have n:((bT ⟨x,y,z⟩ 3:Int):Rat)≠0:=fun u=>by rw[u]at i;exact absurd i ν
  rw[(Rat.mul_eq_zero.mp e.1).resolve_left n,(Rat.mul_eq_zero.mp e.2.1).resolve_left n,(Rat.mul_eq_zero.mp e.2.2).resolve_left n])
 have C:=qt hb;have j:(0:Rat)<Rat.divInt 1 (gR ⟨(bT a 3:Rat)*a.x,(bT a 3:Rat)*a.y,(bT a 3:Rat)*a.z⟩ 3:Nat):=by
  rw[Rat.divInt_eq_div];have:(0:Rat)<((gR ⟨(bT a 3:Rat)*a.x,(bT a 3:Rat)*a.y,(bT a 3:Rat)*a.z⟩ 3:Nat):Int):=by exact_mod_cast C
  rw[Rat.intCast_one,Rat.div_def,Rat.one_mul];exact Rat.inv_pos.mpr this
 refine⟨_,Rat.mul_pos j i,?_⟩;unfold cE qscale;simp only[Rat.mul_assoc]
theorem tp(c:Rat)(a b:Q3):aT (qscale c a) b=c*aT a b:=by unfold aT qscale;grind
theorem rY(a b c:Q3):aT a (qsub b c)=aT a b-aT a c:=by unfold aT qsub;grind
theorem moveF_lt{m:Mo}(h:Rot m){n:Q3}(F:n≠⟨0,0,0⟩)(p v:Q3):(aT (cE (bH m n)) (aQ m v)<aT (cE (bH m n)) (aQ m p)↔aT n v<aT n p)/\(aT (cE (bH m n)) (aQ m p)=aT (cE (bH m n)) (aQ m v)↔aT n p=aT n v):=by
 obtain⟨c,hc,e⟩:=nZ (lX h F);have d:∀x y:Q3,aT (cE (bH m n)) (aQ m x)-aT (cE (bH m n)) (aQ m y)=c*(aT n x-aT n y):=fun x y=>by
  rw[<-rY,kQ,e,tp,turn_dot h,rY]
 have d1:=d p v
 constructor
 ·constructor
  ·intro i
   refine Classical.byContradiction fun C=>?_
   have A:aT n p-aT n v<=0:=by grind
   have j:c*(aT n p-aT n v)<=0:=by
    have:=Rat.mul_le_mul_of_nonneg_left A (Rat.le_of_lt hc)
    rwa [Rat.mul_zero]at this
   grind
  ·intro i
   have j:0<c*(aT n p-aT n v):=Rat.mul_pos hc (by grind)
   grind
 ·constructor
  ·intro i
   have j:c*(aT n p-aT n v)=0:=by grind
   have:=(Rat.mul_eq_zero.mp j).resolve_left (fun u=>by rw[u]at hc;exact absurd hc ν)
   grind
  ·intro i
   have:c*(aT n p-aT n v)=0:=by rw[i,Rat.sub_self,Rat.mul_zero]
   grind
def oA(qs:List Q3)(fqs:List (Q3×Rat))(rns:List (List Nat)):Prop:=
 fqs.length=rns.length/\∀(i:Nat) (f:Q3×Rat) (r:List Nat),fqs[i]?=some f->rns[i]?=some r->f.1≠⟨0,0,0⟩/\r.headD 0<qs.length/\f.2=aT f.1 (qAt qs (r.headD 0))
theorem lE{m:Mo}{qs:List Q3}{fqs:List (Q3×Rat)}{rns:List (List Nat)}{g:Q3×Rat}:g∈dn m qs fqs rns fqs.length↔∃(i:Nat) (f:Q3×Rat) (r:List Nat),fqs[i]?=some f/\rns[i]?=some r/\g=qi m qs f r:=by
 unfold dn;rw[List.take_of_length_le (by rw[List.length_zip];omega),List.mem_map]
 constructor
 ·rintro⟨⟨f,r⟩,u,rfl⟩
  obtain⟨i,hi⟩:=List.getElem?_of_mem u;rw[List.getElem?_zip_eq_some]at hi;exact⟨i,f,r,hi.1,hi.2,rfl⟩
 ·rintro⟨i,f,r,e,j,rfl⟩
  exact⟨(f,r),List.mem_of_getElem? (i:=i) (List.getElem?_zip_eq_some.mpr ⟨e,j⟩),rfl⟩
theorem locR_move{m:Mo}(h:Rot m){qs:List Q3}{fqs:List (Q3×Rat)}{rns:List (List Nat)}(u:oA qs fqs rns)(p:Q3):mt (dn m qs fqs rns fqs.length) (aQ m p)=mt fqs p:=by
 have key:∀(A C:Q3×Rat->Bool),(∀(i:Nat) (f:Q3×Rat) (r:List Nat),fqs[i]?=some f->rns[i]?=some r->A (qi m qs f r)=C f)->(dn m qs fqs rns fqs.length).any A=fqs.any C:=fun A C F=>by
  rw[Bool.eq_iff_iff,List.any_eq_true,List.any_eq_true]
  constructor
  ·rintro⟨g,J,L⟩
   obtain⟨i,f,r,e,j,rfl⟩:=lE.mp J;exact⟨f,List.mem_of_getElem? e,(F i f r e j).symm.trans L⟩
  ·rintro⟨f,H,R⟩
   obtain⟨i,hi⟩:=List.getElem?_of_mem H;obtain⟨r,G⟩:∃r,rns[i]?=some r:=⟨_,List.getElem?_eq_getElem (by rw[<-u.1];exact(List.getElem?_eq_some_iff.1 hi).1)⟩;exact⟨_,lE.mpr ⟨i,f,r,hi,G,rfl⟩,(F i f r hi G).trans R⟩
 unfold mt;rw[key _ (fun f=>decide (f.2<aT f.1 p)) fun i f r e j=>?_,key _ (fun f=>decide (aT f.1 p=f.2)) fun i f r e j=>?_]
 ·obtain⟨a,b,c⟩:=u.2 i f r e j
  unfold qi;dsimp only;rw[c,decide_eq_decide];exact(moveF_lt h a p _).2
 ·obtain⟨a,b,c⟩:=u.2 i f r e j
  unfold qi;dsimp only;rw[c,decide_eq_decide];exact(moveF_lt h a p _).1
theorem oA.move{m:Mo}(h:Rot m){qs:List Q3}{fqs:List (Q3×Rat)}{rns:List (List Nat)}(F:oA qs fqs rns):oA (qs.map (aQ m)) (dn m qs fqs rns fqs.length) rns:=by
 have U:(dn m qs fqs rns fqs.length).length=rns.length:=by unfold dn;rw[List.length_map,List.length_take,List.length_zip,F.1];omega
 refine⟨U,fun i g r A L=>?_⟩;unfold dn at A;rw[List.take_of_length_le (by rw[List.length_zip];omega),List.getElem?_map,Option.map_eq_some_iff]at A;obtain⟨⟨f,H⟩,W,rfl⟩:=A;obtain⟨R,C⟩:=List.getElem?_zip_eq_some.mp W;obtain rfl:H=r:=Option.some.inj (C.symm.trans L);obtain⟨a,b,c⟩:=F.2 i f H R C;refine⟨?_,by rw[List.length_map];exact b,by show _=aT _ _;rw[i6 b];rfl⟩;obtain⟨k,G,e⟩:=nZ (lX h a);show cE (bH m f.1)≠_;rw[e];intro u;refine lX h a ?_;have j:k≠0:=fun J=>by rw[J]at G;exact absurd G ν
 generalize bH m f.1=t at u;obtain⟨x,y,z⟩:=t;unfold qscale at u;simp only[Q3.mk.injEq]at u;rw[(Rat.mul_eq_zero.mp u.1).resolve_left j,(Rat.mul_eq_zero.mp u.2.1).resolve_left j,(Rat.mul_eq_zero.mp u.2.2).resolve_left j]
open V in
theorem RingsOk.off{P:Nat->V}{N E:Nat}{fs:List RF}(h:RingsOk P N fs E)(hS:Sorted P N):oA (cR P N) (fs.map (fj P)) (fs.map RF.r):=by
 refine⟨by rw[List.length_map,List.length_map],fun i f r u j=>?_⟩;rw[List.getElem?_map,Option.map_eq_some_iff]at u j;obtain⟨g,C,rfl⟩:=u;obtain⟨g',A,rfl⟩:=j;obtain rfl:g'=g:=Option.some.inj (A.symm.trans C);obtain⟨b,hF,-,G,-⟩:=h.pl hS (List.mem_of_getElem? C);have F:g'.r.headD 0<N:=by
  obtain⟨u,j⟩:=Face.ring_hd hS hF;have:g'.r.headD 0∈g'.r:=by
   rw[<-G]at j
   cases hr':g'.r with
   | nil=>exact absurd hr' j
   | cons x l=>simp
  exact(aG.mp ((hF.ring_mem hS _).mp (G▸this)).1).1
 refine⟨?_,by simpa[cR]using F,?_⟩
 ·unfold fj
  dsimp only;rw[pW hF.n0];intro e;exact im hF.n0 (pt_zero e)
 ·unfold fj qAt cR
  dsimp only;rw[List.getD_eq_getElem?_getD,List.getElem?_map,List.getElem?_range F]
  rfl
end
section
open V
theorem num_eq(q:Rat):(q.num:Rat)=q*(q.den:Rat):=by
 have j:(q.den:Rat)≠0:=fun e=>q.den_nz (by exact_mod_cast e)
 have h:=Rat.num_divInt_den q;rw[Rat.divInt_eq_div]at h;have i:(q.num:Rat) / (((q.den:Nat):Int):Rat)*(q.den:Rat)=q*(q.den:Rat):=by rw[h]
 rw[<-i,show(((q.den:Nat):Int):Rat)=(q.den:Rat)from rfl,Rat.div_mul_cancel j]
theorem tN{q:Rat}{D:Nat}{z:Int}(h:q*(D:Rat)=(z:Rat)):q.den∣D:=by
 have F:(q.den:Rat)≠0:=fun e=>q.den_nz (by exact_mod_cast e)
 have i:=num_eq q;have j:(q.num:Rat)*(D:Rat)=(z:Rat)*(q.den:Rat):=by
  rw[i,<-h];grind
 have u:q.num*(D:Int)=z*(q.den:Int):=by exact_mod_cast j
 have A:(q.den:Int)∣q.num*(D:Int):=⟨z,by rw[u,Int.mul_comm]⟩;have C:q.den∣q.num.natAbs*D:=by
  have:=Int.natAbs_dvd_natAbs.mpr A
  rwa [Int.natAbs_mul,Int.natAbs_natCast,Int.natAbs_natCast]at this
 exact(Nat.Coprime.dvd_of_dvd_mul_left q.reduced.symm C)
theorem qk(x n:Nat):rA (x:Int) n=((Nat.lcm x n:Nat):Int):=by
 unfold rA Nat.lcm;rw[Int.gcd_natCast_natCast];have e:(x:Int) / ((Nat.gcd x n:Nat):Int)=((x / Nat.gcd x n:Nat):Int):=I;rw[e,<-Int.natCast_mul,Nat.div_mul_right_comm (Nat.gcd_dvd_left x n)]
theorem denQ_nat(a:Q3):∃L:Nat,bT a 3=(L:Int)/\0<L/\(∀i,i<3->(a.at i).den∣L)/\∀D:Nat,(∀i,i<3->(a.at i).den∣D)->L∣D:=by
 have e:bT a 3=((Nat.lcm (Nat.lcm (Nat.lcm 1 (a.at 0).den) (a.at 1).den) (a.at 2).den:Nat):Int):=by
  unfold bT bT bT bT;rw[show(1:Int)=((1:Nat):Int)from rfl,qk,qk,qk]
 have j:=denQ_pos a;rw[e]at j;refine⟨_,e,by omega,fun i hi=>?_,fun D hD=>Nat.lcm_dvd (Nat.lcm_dvd (Nat.lcm_dvd (Nat.one_dvd _) (hD 0 I)) (hD 1 I)) (hD 2 I)⟩;obtain rfl|rfl|rfl:i=0\/i=1\/i=2:=I
 ·exact Nat.dvd_trans (Nat.dvd_trans (Nat.dvd_lcm_right _ _) (Nat.dvd_lcm_left _ _)) (Nat.dvd_lcm_left _ _)
 ·exact Nat.dvd_trans (Nat.dvd_lcm_right _ _) (Nat.dvd_lcm_left _ _)
 ·exact Nat.dvd_lcm_right _ _
theorem int_of{q:Rat}{L D:Nat}{z:Int}{M:Nat}(h:q*(D:Rat)=(z:Rat))(U:z.natAbs<=M)(G:q.den∣L)(F:L∣D)(hD:0<D):∃y:Int,((L:Int):Rat)*q=(y:Rat)/\y.natAbs<=M:=by
 obtain⟨u,rfl⟩:=G;obtain⟨t,rfl⟩:=F;have R:(q.den:Rat)≠0:=fun e=>q.den_nz (by exact_mod_cast e)
 have j:=num_eq q;have i:(((q.den*u:Nat):Int):Rat)*q=((u*q.num:Int):Rat):=by
  rw[Rat.intCast_mul,j,Rat.intCast_natCast,Rat.natCast_mul,Rat.intCast_natCast];grind
 refine⟨u*q.num,i,?_⟩;have A:((u*q.num*t:Int):Rat)=(z:Rat):=by
  rw[Rat.intCast_mul,<-i,<-h,Rat.natCast_mul (q.den*u) t,Rat.intCast_natCast,Rat.intCast_natCast];grind
 have C:(u:Int)*q.num*(t:Int)=z:=by exact_mod_cast A
 have H:0<t:=Nat.pos_of_ne_zero fun e=>by rw[e,Nat.mul_zero]at hD;omega
 have J:((u:Int)*q.num).natAbs*t=z.natAbs:=by rw[<-C,Int.natAbs_mul _ (t:Int),Int.natAbs_natCast]
 have:=Nat.le_mul_of_pos_right ((u:Int)*q.num).natAbs H;omega
theorem prim_int{a:Q3}{D M:Nat}(h:bA D M a)(h0:a≠⟨0,0,0⟩)(hD:0<D):∃y:V,cE a=ptQ (aR y)/\LeV M y/\y≠V.zero:=by
 obtain⟨⟨z1,Y,l1⟩,⟨z2,e2,l2⟩,z3,e3,l3⟩:=h;obtain⟨L,hL,aa,F,G⟩:=denQ_nat a;have C:L∣D:=G D fun i hi=>by
  obtain rfl|rfl|rfl:i=0\/i=1\/i=2:=I
  ·exact tN Y
  ·exact tN e2
  ·exact tN e3
 obtain⟨j,J,m1⟩:=int_of Y l1 (F 0 I) C hD;obtain⟨u,R,m2⟩:=int_of e2 l2 (F 1 I) C hD;obtain⟨A,U,m3⟩:=int_of e3 l3 (F 2 I) C hD;have H:(⟨j,u,A⟩:V)≠V.zero:=fun e=>by
  obtain⟨rfl,rfl,rfl⟩:j=0/\u=0/\A=0:=⟨congrArg V.x e,congrArg V.y e,congrArg V.z e⟩;have X:(((L:Nat):Int):Rat)≠0:=fun e=>by
   have:L=0:=by exact_mod_cast e
   omega
  refine h0 ?_;obtain⟨x,y,z⟩:=a;simp only[Rat.intCast_zero]at J R U;rw[(Rat.mul_eq_zero.mp J).resolve_left X,(Rat.mul_eq_zero.mp R).resolve_left X,(Rat.mul_eq_zero.mp U).resolve_left X]
 refine⟨⟨j,u,A⟩,?_,⟨by show -(M:Int)<=j/\j<=M;omega,by show -(M:Int)<=u/\u<=M;omega,by show -(M:Int)<=A/\A<=M;omega⟩,H⟩;have hg:gR (ptQ ⟨j,u,A⟩) 3=cO ⟨j,u,A⟩:=by
  unfold gR gR gR gR cO Q3.at ptQ;simp[Int.gcd]
 have ab:=fB H;obtain⟨n1,n2,n3⟩:=i7 ⟨j,u,A⟩;have W:(cO ⟨j,u,A⟩:Int)≠0:=I;unfold cE;rw[hL];simp only[J,R,U];rw[show(⟨(j:Rat),(u:Rat),(A:Rat)⟩:Q3)=ptQ ⟨j,u,A⟩ from rfl,hg];show(⟨_,_,_⟩:Q3)=⟨_,_,_⟩;rw[fX W n1,fX W n2,fX W n3]
end
structure ShD where
 qs:List Q3
 fqs:List (Q3 × Rat)
 rns:List (List Nat)
 es:List ED
structure ShV where
 a:Value
 b:Value
 c:Value
def sh3(s:ShV):List Value:=[s.a,s.b,s.c]
theorem sh3_len(s:ShV):(sh3 s).length=3:=rfl
structure ShM (w:World) (s:ShV) (d:ShD):Prop where
 vs:∃ base vrs,VRow w base s.a d.qs vrs
 fs:∃ base frs,FRow w base s.b d.fqs frs/\∃ base2,fH w base2 frs d.rns
 es:∃ base,eI w base s.c d.es
theorem ShM.below{w w':World}{s:ShV}{d:ShD}(h:ShM w s d)(hb:Bl w w'):ShM w' s d:=by
 obtain⟨⟨b1,F,j⟩,⟨b2,G,u,e,A⟩,i,C⟩:=h;exact⟨⟨b1,F,j.below hb⟩,⟨b2,G,u.below hb,e,A.below hb⟩,i,aC C hb⟩
theorem ju{w:World}{base i e u k R:Nat}{v C:Value}{n U:Nat}{xs j:List Value}(h:w.ownsRow base e k v n xs)(H:w.ownsRow i u R C U j)(L:e≠u):v.ownBlock=none\/v.ownBlock≠C.ownBlock:=by
 cases hv:v.ownBlock with
 | none=>exact .inl rfl
 | some g =>
  right
  intro G;obtain⟨cs,J⟩:=fP h g hv;obtain⟨F,A⟩:=fP H g G.symm;rw[J]at A;cases A;exact L rfl
theorem ShM.grown{w w':World}{s:ShV}{d:ShD}(h:ShM w s d){e Y n':Nat}{U:Value}{A:List Value}(j:w.ownsRow e 86 Y U n' A)(u:w.grownBy w' U.ownBlock):ShM w' s d:=by
 obtain⟨⟨b1,r1,G⟩,⟨b2,r2,H,W,J⟩,X,L⟩:=h;have R:=ja j ν;exact⟨⟨b1,r1,G.other u R (ju G.own j ν)⟩,⟨b2,r2,H.other u R (ju H.own j ν),W,fun i f r C F=>World.ownsRow.kept (J i f r C F) u (ju (J i f r C F) j ν)⟩,X,World.ownsRow.kept L u (ju L j ν)⟩
structure ShL (w:World) (base:Nat) (v:Value) (vs:List ShV) (ds:List ShD):Prop where
 own:w.ownsRow base 86 3 v vs.length (vs.flatMap sh3)
 len:vs.length=ds.length
 sh:∀ (i:Nat) (s:ShV) (d:ShD),vs[i]?=some s→ds[i]?=some d→ShM w s d
theorem ShL.below{w w':World}{base:Nat}{v:Value}{vs:List ShV}{e:List ShD}(h:ShL w base v vs e)(hb:Bl w w'):ShL w' base v vs e:=
 ⟨aC h.own hb,h.len,fun i s d j u=>(h.sh i s d j u).below hb⟩
theorem ShL.nil(w:World)(base:Nat):ShL w base (.slice none 0 0) [] []:=⟨World.ownsRow_nil _ _ _ _,rfl,fun i s d h=>by simp at h⟩
theorem ShL.app{w w':World}{base:Nat}{v G:Value}{vs:List ShV}{C:List ShD}(h:ShL w base v vs C){s:ShV}{d:ShD}(J:ShM w s d)(A:w'.ownsRow base 86 3 G (vs.length+1) (vs.flatMap sh3++sh3 s))(F:w.grownBy w' v.ownBlock):ShL w' base G (vs++[s]) (C++[d]):=by
 refine⟨by rw[List.length_append,List.flatMap_append];simpa using A,by simp[h.len],fun i L H j u=>?_⟩;by_cases hi:i<vs.length
 ·rw[List.getElem?_append_left hi]at j
  rw[List.getElem?_append_left (by rw[<-h.len];exact hi)]at u;exact(h.sh i L H j u).grown h.own F
 ·by_cases e:i=vs.length
  ·subst e
   rw[List.getElem?_append_right ρ,Nat.sub_self]at j;rw[List.getElem?_append_right (by rw[h.len];exact Nat.le_refl _),h.len,Nat.sub_self]at u;simp at j u;subst j;subst u;exact J.grown h.own F
  ·rw[List.getElem?_eq_none (by simp;omega)]at j;cases j
theorem ShL.at_{w:World}{base:Nat}{v:Value}{vs:List ShV}{A:List ShD}(h:ShL w base v vs A)(i:Nat)(d:ShD)(G:A[i]?=some d):
 ∃b u s,v=.slice (some ⟨b,0,none⟩) A.length u/\b<w.heap.size/\vs[i]?=some s/\ShM w s d/\∀j,j<3->w.cell? ⟨b,i*3+j,none⟩=(sh3 s)[j]? := by
 have hi:i<vs.length:=by rw[h.len];exact(List.getElem?_eq_some_iff.1 G).1
 obtain⟨U,⟨_,h0⟩|⟨g,u,H,rfl,R,J,X,W,Y,ht⟩⟩:=h.own
 ·omega
 ·obtain⟨r,F⟩:∃r,vs[i]?=some r:=⟨_,List.getElem?_eq_getElem hi⟩
  refine⟨g,u,r,by rw[h.len],(Array.getElem?_eq_some_iff.1 J).1,F,h.sh i r d F G,fun j L=>?_⟩;have C:i*3+j<vs.length*3:=I;have e:=World.ownsRow.cellAt h.own (i*3+j) C;rw[e];exact dQ sh3 3 sh3_len vs i j r F L
def ShD.of(P:Nat->V)(N:Nat)(fs:List RF)(es:List ED):ShD:=⟨cR P N,fs.map (fj P),fs.map RF.r,es⟩
def ShD.move(m:Mo)(d:ShD):ShD:=⟨d.qs.map (aQ m),dn m d.qs d.fqs d.rns d.fqs.length,d.rns,d.es⟩
theorem ShapeOk.shm{P:Nat->V}{len base:Nat}{w:World}{G H J:Value}{fs:List RF}{E:Nat}{u:List (RC×RC×RC)}{j:List FR}{es:List ED}(h:ShapeOk P len base w G H J fs E u j es):ShM w ⟨G,H,J⟩ (ShD.of P len fs es):=
 ⟨⟨_,_,h.vs⟩,⟨_,_,h.fcs,base,fun i f r L R=>by
  have A:(j.map FR.v)[i]?=some f.v:=by rw[List.getElem?_map,L];rfl
  rw[h.val,List.getElem?_map,Option.map_eq_some_iff]at A;obtain⟨g,F,e⟩:=A;have C:(fs.map RF.r)[i]?=some r:=R;rw[List.getElem?_map,F]at C;cases C;rw[<-e];exact h.rows.own g (List.mem_of_getElem? F)⟩,_,h.eds⟩
def nAt(frs:List FR)(i:Nat):Value:=rc3 (frs.getD i ⟨(RC.zero,RC.zero,RC.zero),RC.zero,undef⟩).n
theorem infoSh:(prog.info? 86).map (·.size)=some 3:=by kernel_rfl
theorem axes_any(i j u A b1 b2:Value)(w:World):Calls prog 141 #[.agg #[i,j,u],.agg #[A,b1,b2]] w fun e w'=>e=.returned (.func (.func 183) #[] #[.pointer (some ⟨w.heap.size,0,none⟩),.pointer (some ⟨w.heap.size+1,0,none⟩)])/\w'=(w.alloc (.cells #[i,j,u] 86)).alloc (.cells #[A,b1,b2] 86):=by
 go_enter func141,ntmps141
 go_wp2_with fail
 go_ret;exact⟨rfl,rfl⟩
theorem build_sh2(e i j u b1 b2:Value)(w:World):(Instr.build 263 #[(0,.agg #[e,i,j]),(1,.agg #[u,b1,b2])]).run prog w=.ok (.agg #[e,i,j,u,b1,b2]) w:=by kernel_rfl
theorem index_sh2(e i j u b1 b2:Value)(w:World):(Instr.index 263 (.agg #[e,i,j,u,b1,b2]) (.int .i64 0)).run prog w=.ok (.agg #[e,i,j]) w:=by kernel_rfl
theorem axes1_ret(n:Nat)(hn:1<=n)(a0 a1 a2 b0 b1 b2:Value)(B1 B2 base:Nat)(fqs:List (Q3×Rat))(u:List FR)(s n0:Nat)(X:Nat->Prop)(w:World)(aa:Box w B1 #[a0,a1,a2] 86)(af:Box w B2 #[b0,b1,b2] 86)(hF:FRow w base a1 fqs u)(a7:∀r∈u,∃a n c,r.v=.slice a n c)(bs:∃p n c,a0=.slice p n c)(bt:∃p n c,a2=.slice p n c)(hs:s<u.length)(ca:u.length<=262144)(b3:n0<=w.heap.size)(hX:∀k,X k->k<w.heap.size/\k≠B1/\k≠B2/\a1.ownBlock≠some k):
 SeqR Fence.wide n prog 183 #[.pointer (some ⟨B1,0,none⟩),.pointer (some ⟨B2,0,none⟩)] (fun i=>#[nAt u i]) s n0 X w:=by
 intro l J Jx W U hJ hY h0;refine callsIn_wide.2 ?_;have bu:∃b ad,a1=.slice (some ⟨b,0,none⟩) u.length ad/\b<w.heap.size/\∀i,i<u.length->∃r,u[i]?=some r/\∀j,j<17->w.cell? ⟨b,i*17+j,none⟩=(cI r)[j]? := by
  obtain⟨b,ad,r,e,hb,-,-⟩:=hF.at_ 0 I;refine⟨b,ad,e,hb,fun i hi=>?_⟩;obtain⟨b',b9,r',e',-,b4,bz⟩:=hF.at_ i hi;rw[e]at e';cases e';exact⟨r',b4,bz⟩
 obtain⟨R,fc,rfl,bF,Y⟩:=bu;obtain⟨p0,l0,c0,rfl⟩:=bs;obtain⟨p2,l2,c2,rfl⟩:=bt;have b6:=U.size;have br:=Array.getElem?_eq_some_iff.1 aa;obtain⟨bl,bm⟩:=η2 (fun W' (h:KeepC n0 X W W')=>show Box W' B1 #[.slice p0 l0 c0,.slice (some ⟨R,0,none⟩) u.length fc,.slice p2 l2 c2] 86 from h.same B1 _ _ _ (fun hx=>(hX B1 hx).2.1 rfl) (aa.to U)) (fun W' (h:KeepC n0 X W W')=>show Box W' B2 #[b0,b1,b2] 86 from h.same B2 _ _ _ (fun hx=>(hX B2 hx).2.2.1 rfl) (af.to U));obtain⟨fcs,cc,cd,an⟩:∃cs t z,w.heap[R]?=some (.cells cs t z):=by
  obtain⟨r,hr,hc⟩:=Y 0 I;have h1:=hc 0 I;unfold World.cell? at h1;simp only at h1
  split at h1
  ·exact⟨_,_,_,by assumption⟩
  ·cases h1
 have KF:=O (fun W' (h:KeepC n0 X W W') i (hi:i<u.length)=>show ∃r,u[i]?=some r/\∀j,j<17->W'.cell? ⟨R,i*17+j,none⟩=(cI r)[j]? from by
  obtain⟨r,hr,hc⟩:=Y i hi;refine⟨r,hr,fun j hj=>?_⟩;rw[<-hc j hj];have e2:=h.same R _ _ _ (fun hx=>(hX R hx).2.2.2 rfl) ((U.block R bF).trans an);unfold World.cell?;simp only;rw[e2,an])
 obtain⟨HY,HJ,ar,HS,az,be⟩:=η6 hY hJ h0 hs (show n0<=W.heap.size from Nat.le_trans b3 b6) a7;have bv:=build_sh2;have bI:=index_sh2;clear hY hJ h0 hF Y an hX aa af a7 br U;have q1:=bl.o W (KeepC.refl _ _ _);have q2:=bm.o W (KeepC.refl _ _ _);have x0:W.cell? ⟨B1,0,none⟩=some (.slice p0 l0 c0):=q1.cell 0;have x1:W.cell? ⟨B1,1,none⟩=some (.slice (some ⟨R,0,none⟩) u.length fc):=q1.cell 1;have x2:W.cell? ⟨B1,2,none⟩=some (.slice p2 l2 c2):=q1.cell 2;have y0:W.cell? ⟨B2,0,none⟩=some b0:=q2.cell 0;have y1:W.cell? ⟨B2,1,none⟩=some b1:=q2.cell 1;have y2:W.cell? ⟨B2,2,none⟩=some b2:=q2.cell 2;clear q1 q2
 go_enter func183,ntmps183
 go_wp2_with fail
 go_loopw [17] (fun iv wr=>iv=.int .i64 0/\wr=W) (fun _ _=>0)
 case atStart=>exact⟨rfl,rfl⟩
 case round =>
  obtain⟨rfl,ba⟩:=hrel;rw[ba];clear ba wr
  go_upto_region 3 with(refine aA rfl _ _ _ rfl _ (#[.slice p0 l0 c0,.slice (some ⟨R,0,none⟩) u.length fc,.slice p2 l2 c2]) rfl rfl infoSh rfl rfl ?_)
  obtain⟨W1,a4,c1,ab,b8⟩:=aB W #[.slice p0 l0 c0,.slice (some ⟨R,0,none⟩) u.length fc,.slice p2 l2 c2] 86;rw[a4];have z0:W1.cell? ⟨W.heap.size,1,none⟩=some (.slice (some ⟨R,0,none⟩) u.length fc):=c1.cell 1;obtain⟨aw,ap,au⟩:=η3 (show KeepC n0 X W W1 from KeepC.below ab az.o) ab (HJ.o.below ar.o ab ρ);clear a4 c1 ab b8 x0 x1 x2 y0 y1 y2 bv bI ar
  go_wp2_with fail
  go_loopw [23] (fun iv wr=>∃k:Nat,k<=s/\iv=.int .i64 (k:Nat)/\Hid (J k wr)/\Hid (KeepC n0 X W wr)/\Hid (W.heap.size<=wr.heap.size)) (fun iv _=>s+1-(intOf iv).toNat)
  case atStart=>exact⟨0,Nat.zero_le _,rfl,au.o,aw.o,ap.o.size⟩
  case round =>
   clear au aw ap z0;obtain⟨k,hk,rfl,av,HK,HZ⟩:=hrel;obtain⟨G,rfl⟩:=φ wr;have ce:(k:Int)<(u.length:Int):=I;have bV:k<u.length:=I;obtain⟨⟨⟨m0,A,C⟩,ro,fv⟩,hr,a6⟩:=KF.o G HK.o k bV;obtain⟨fa,fl,H,rfl⟩:∃a n c,fv=.slice a n c:=be.o _ (List.mem_of_getElem? hr);have bi:=O (show nAt u k=.agg (ah m0 A C)from by unfold nAt rc3;rw[List.getD_eq_getElem?_getD,hr];rfl);have ay:=O (show ∀j,j<(aS m0 A C ro fa fl H).size->G.cell? ⟨R,k*17+j,none⟩=(aS m0 A C ro fa fl H)[j]? from fun j hj=>(a6 j hj).trans (Array.getElem?_toList (xs:=aS m0 A C ro fa fl H)));clear a6 hr
   go_upto_region 6 with(first|refine aj rfl _ _ rfl R (k*17) rfl (aS m0 A C ro fa fl H) _ (fun j hj=>ay.o j hj) underlying155 rfl iG ?_|refine aA rfl _ _ _ rfl _ (aS m0 A C ro fa fl H) rfl rfl iG rfl (dK m0 A C ro fa fl H) ?_)
   obtain⟨F,a5,L,ag,bp⟩:=aB G (aS m0 A C ro fa fl H) 155;rw[a5];have bg:=O (show KeepC n0 X W F from HK.o.trans (KeepC.below ag (Nat.le_trans az.o HZ.o)));have bk:=O (show W.heap.size<=F.heap.size from by have:=HZ.o;omega);have bf:=O (HJ.o.below av.o ag HZ.o);obtain⟨fn,bc,assign,body,hy,hR⟩:=HY.o k F bf.o hk;rw[bi.o]at hy;have b7:(Instr.yield l #[.agg #[.bool m0.s,.slice m0.a m0.n m0.c,.bool m0.t,.slice m0.b m0.m m0.d,.bool A.s,.slice A.a A.n A.c,.bool A.t,.slice A.b A.m A.d,.bool C.s,.slice C.a C.n C.c,.bool C.t,.slice C.b C.m C.d]]).run prog F=.ok (.round l fn bc assign body) F:=hy;have d0:F.cell? ⟨G.heap.size,0,none⟩=some (.bool m0.s):=L.cell 0;have d1:F.cell? ⟨G.heap.size,1,none⟩=some (.slice m0.a m0.n m0.c):=L.cell 1;have d2:F.cell? ⟨G.heap.size,2,none⟩=some (.bool m0.t):=L.cell 2;have d3:F.cell? ⟨G.heap.size,3,none⟩=some (.slice m0.b m0.m m0.d):=L.cell 3;have d4:F.cell? ⟨G.heap.size,4,none⟩=some (.bool A.s):=L.cell 4;have d5:F.cell? ⟨G.heap.size,5,none⟩=some (.slice A.a A.n A.c):=L.cell 5;have d6:F.cell? ⟨G.heap.size,6,none⟩=some (.bool A.t):=L.cell 6;have d7:F.cell? ⟨G.heap.size,7,none⟩=some (.slice A.b A.m A.d):=L.cell 7;have d8:F.cell? ⟨G.heap.size,8,none⟩=some (.bool C.s):=L.cell 8;have d9:F.cell? ⟨G.heap.size,9,none⟩=some (.slice C.a C.n C.c):=L.cell 9;have da:F.cell? ⟨G.heap.size,10,none⟩=some (.bool C.t):=L.cell 10;have db:F.cell? ⟨G.heap.size,11,none⟩=some (.slice C.b C.m C.d):=L.cell 11;have a9:Hid (∀(e:Ending) (W':World),(e=.returned (.bool true)/\k≠s/\J (k+1) W'/\KeepC n0 X F W')\/(e=.returned (.bool false)/\Jx W')->∃bb,e=.returned (.bool bb)/\Hid ((bb=true/\k≠s/\J (k+1) W'/\KeepC n0 X F W')\/(bb=false/\Jx W'))):=by
    rintro e W' (⟨rfl,h⟩|⟨rfl,h⟩)
    ·exact⟨true,rfl,O (.inl ⟨rfl,h⟩)⟩
    ·exact⟨false,rfl,O (.inr ⟨rfl,h⟩)⟩
   clear hy a5 L ag bp ay av HK HZ;refine(wpIn_wide (n:=n)).1 ?_
   gi_wp2
   refine hR.mono ?_;rintro e W3 hh;obtain⟨bb,rfl,ao⟩:=a9.o e W3 hh;clear hh a9 hR b7 d0 d1 d2 d3 d4 d5 d6 d7 d8 d9 da db
   rcases ao.o with⟨rfl,cg,a3,a8⟩|⟨rfl,ac⟩
   ·have HA:=O a3
    have HB:=O a8;clear ao a3 a8
    gi_wp2
    go_wp2_with fail
    go_roundw
    case rel=>exact⟨k+1,by omega,rfl,HA.o,bg.o.trans HB.o,Nat.le_trans bk.o HB.o.size⟩
    case measure=>simp[intOf];omega
   ·have HA:=O ac
    clear ao ac
    gi_wp2
    go_wp2_with fail
    refine bodyPost_ret (results_none rfl _ _ _) rfl ?_;exact⟨⟨_,rfl⟩,HA.o⟩
section
open V
def SepQ(qa qb:List Q3)(n:Q3):Prop:=(∀p∈qa,∀r∈qb,aT n r<=aT n p)\/∀p∈qa,∀r∈qb,aT n p<=aT n r
theorem dot_ax{t:Nat}(i:t<3)(z:Int)(p:V):dot (axV t z) p=z*p.co t:=by
 have e:t=0\/t=1\/t=2:=I
 rcases e with rfl|rfl|rfl<;>simp[dot,axV,V.co]
theorem RingsOk.axis{P:Nat->V}{N E:Nat}{fs:List RF}(h:RingsOk P N fs E)(i:iC P N){t:Nat}{z o:Int}(F:(⟨axV t z,o⟩:Pl)∈cw P N):∃f∈fs,(fj P f).1=ptQ (axV t z):=by
 obtain⟨G,hb,j⟩:=h.polys;have u:=((mh j i).2 _).mp F;rw[List.map_map,List.mem_map]at u;obtain⟨f,A,e⟩:=u;refine⟨f,A,?_⟩;have C:aR f.n=axV t z:=congrArg Pl.n e;unfold fj;dsimp only;rw[pW (hb f A).1.n0,C]
theorem mq{P:Nat->V}{N:Nat}{p:Q3}:p∈cR P N↔∃i,i<N/\p=ptQ (P i):=by
 unfold cR;rw[List.mem_map]
 constructor
 ·rintro⟨i,hi,rfl⟩;exact⟨i,List.mem_range.mp hi,rfl⟩
 ·rintro⟨i,hi,rfl⟩;exact⟨i,List.mem_range.mpr hi,rfl⟩
theorem BlkOk.co{P:Nat->V}{N:Nat}{a s:V}(h:BlkOk P N a s){t q:Nat}(u:t<3)(i:q<N):a.co t<=(P q).co t/\(P q).co t<=a.co t+s.co t:=by
 have j:=h.within q i;have e:t=0\/t=1\/t=2:=I
 rcases e with rfl|rfl|rfl<;>simp only[V.co]<;>simp<;>omega
def apart(a s b u:V):Prop:=∃t,t<3/\(b.co t+u.co t<=a.co t\/a.co t+s.co t<=b.co t)
theorem sep_blocks{P Q:Nat->V}{N M:Nat}{a s b u:V}(F:BlkOk P N a s)(G:BlkOk Q M b u){E:Nat}{fs:List RF}(hR:RingsOk P N fs E)(h:apart a s b u):∃f∈fs.map (fj P),SepQ (cR P N) (cR Q M) f.1:=by
 obtain⟨t,C,h⟩:=h;obtain⟨z,U,o,R⟩:=F.ax t C;obtain⟨f,L,e⟩:=hR.axis F.valid.full4.full R;refine⟨_,List.mem_map.mpr ⟨f,L,rfl⟩,?_⟩;rw[e];have le:∀i j,i<N->j<M->(aT (ptQ (axV t z)) (ptQ (P i))<=aT (ptQ (axV t z)) (ptQ (Q j))↔z*(P i).co t<=z*(Q j).co t)/\(aT (ptQ (axV t z)) (ptQ (Q j))<=aT (ptQ (axV t z)) (ptQ (P i))↔z*(Q j).co t<=z*(P i).co t):=fun i j hi A=>by
  rw[oM,oM,dot_ax C,dot_ax C];exact⟨Rat.intCast_le_intCast,Rat.intCast_le_intCast⟩
 have key:(∀i j,i<N->j<M->z*(Q j).co t<=z*(P i).co t)\/∀i j,i<N->j<M->z*(P i).co t<=z*(Q j).co t:=by
  rcases U with rfl|rfl<;>rcases h with h|h
  ·left;intro i j hi A;have:=F.co C hi;have:=G.co C A;omega
  ·right;intro i j hi A;have:=F.co C hi;have:=G.co C A;omega
  ·right;intro i j hi A;have:=F.co C hi;have:=G.co C A;omega
  ·left;intro i j hi A;have:=F.co C hi;have:=G.co C A;omega
 rcases key with k|k
 ·left
  intro p H r J;obtain⟨i,hi,rfl⟩:=mq.mp H;obtain⟨j,A,rfl⟩:=mq.mp J;exact(le i j hi A).2.mpr (k i j hi A)
 ·right
  intro p H r J;obtain⟨i,hi,rfl⟩:=mq.mp H;obtain⟨j,A,rfl⟩:=mq.mp J;exact(le i j hi A).1.mpr (k i j hi A)
end
theorem eqV_any(g a b n ca cb:Nat)(X Y:Nat->Array Value)(r:Nat->Bool)(w:World)(hn:n<=1000000)(pa pb:Option Addr)(aa:0<n->pa=some ⟨a,0,none⟩/\pb=some ⟨b,0,none⟩)(eg:∀args w,(callFunc g args).run prog w=.ok (.enter g args) w)(hX:∀i,(X i).size=12)(hY:∀i,(Y i).size=12)(G:∀i,(X i).all (·.oneCell')=true)(J:∀i,(Y i).all (·.oneCell')=true)(H:∀i,i<n->∀w',Bl w w'->∀j,j<(X i).size->w'.cell? ⟨a,i*12+j,none⟩=(X i)[j]?)(L:∀i,i<n->∀w',Bl w w'->∀j,j<(Y i).size->w'.cell? ⟨b,i*12+j,none⟩=(Y i)[j]?)(hC:∀i,i<n->∀w',Bl w w'->Calls prog g #[.agg (X i),.agg (Y i)] w' fun e ar=>e=.returned (.bool (r i))/\Bl w' ar):
 Calls prog 114 #[.slice pa n ca,.slice pb n cb,.func (.func g) #[] #[]] w fun e w'=>e=.returned (.bool (decide (∀i,i<n->r i=true)))/\Bl w w':=by
 obtain⟨af,HX,HY,ag,ao,an,ap,HC⟩:=η8 aa hX hY G J H L hC;have au:((n:Int) != (n:Int))=false:=by simp
 clear aa hX hY G J H L hC
 go_enter func114,ntmps114
 go_wp2_with fail
 go_loopw [17] (fun iv wr=>∃i:Nat,i<=n/\iv=.int .i64 (i:Nat)/\Hid (∀q,q<i->r q=true)/\Hid (Bl w wr)) (fun iv _=>n-(intOf iv).toNat)
 case atStart=>exact⟨0,Nat.zero_le _,rfl,fun q h=>by omega,Below.refl _ _⟩
 case round =>
  obtain⟨i,hi,rfl,HR,HB⟩:=hrel;obtain⟨wk,rfl⟩:=φ wr;by_cases h0:i=n
  ·have hl:¬ (i:Int)<(n:Int):=I
   have H0:=O h0;clear h0
   go_wp2_with fail
   go_ret;exact⟨by rw[decide_eq_true (show ∀q,q<n->r q=true from by rw[<-H0.o];exact HR.o)];rfl,HB.o⟩
  ·have hl:(i:Int)<(n:Int):=I
   have W:i<n:=I;have u:=O W;obtain⟨rfl,rfl⟩:=af.o I;clear h0 W
   go_upto_region 6 with(first
    | refine aj rfl _ _ rfl a (i*12) rfl (X i) _ (fun j F=>an.o i u.o wk HB.o j F) underlying57 rfl (by rw[HX.o i];exact cG) ?_
    | refine aA rfl _ _ _ rfl _ (X i) rfl rfl (by rw[HX.o i];exact cG) (by rw[HX.o i];rfl) (ag.o i) ?_)
   obtain⟨w2,ab,b2,R,-⟩:=aB wk (X i) 57;rw[ab];obtain⟨B2,K2⟩:=η2 b2 (ae HB.o R ρ);clear ab b2 R
   go_upto_region 7 with(first
    | refine aj rfl _ _ rfl b (i*12) rfl (Y i) _ (fun j F=>ap.o i u.o w2 K2.o j F) underlying57 rfl (by rw[HY.o i];exact cG) ?_
    | refine aA rfl _ _ _ rfl _ (Y i) rfl rfl (by rw[HY.o i];exact cG) (by rw[HY.o i];rfl) (ao.o i) ?_)
   obtain⟨w3,ac,b3,C,-⟩:=aB w2 (Y i) 57;rw[ac];obtain⟨B3,ad,K3⟩:=η3 b3 (B2.o.to C) (ae K2.o C ρ);clear ac b3 C
   go_wp2_with (first
    | refine aj rfl _ _ rfl wk.heap.size 0 rfl (X i) _ (fun j F=>ad.o.whole j F) underlying57 rfl (by rw[HX.o i];exact cG) ?_
    | refine aj rfl _ _ rfl w2.heap.size 0 rfl (Y i) _ (fun j F=>B3.o.whole j F) underlying57 rfl (by rw[HY.o i];exact cG) ?_)
   refine(HC.o i u.o w3 K3.o).mono ?_;rintro e w4 ⟨rfl,U⟩;have K4:=O (ae K3.o U ρ);clear U;cases hri:r i
   ·have A:=O hri
    clear hri
    go_wp2_with fail
    go_ret;exact⟨by rw[decide_eq_false (fun h=>by have:=h i u.o;rw[A.o]at this;cases this)];rfl,K4.o⟩
   ·have A:=O hri
    clear hri
    go_wp2_with fail
    go_round
    case rel=>exact⟨i+1,u.o,rfl,fun q h=>by
     by_cases e:q=i
     ·rw[e];exact A.o
     ·exact HR.o q I,K4.o⟩
    case measure=>exact μ (ψ u.o)
theorem kI:(prog.info? 86).map (·.size)=some 3:=by kernel_rfl
theorem eqS_any(g a b n ca cb:Nat)(X Y:Nat->Array Value)(r:Nat->Bool)(w:World)(hn:n<=1000000)(pa pb:Option Addr)(aa:0<n->pa=some ⟨a,0,none⟩/\pb=some ⟨b,0,none⟩)(eg:∀args w,(callFunc g args).run prog w=.ok (.enter g args) w)(hX:∀i,(X i).size=3)(hY:∀i,(Y i).size=3)(G:∀i,(X i).all (·.oneCell')=true)(J:∀i,(Y i).all (·.oneCell')=true)(H:∀i,i<n->∀w',Bl w w'->∀j,j<(X i).size->w'.cell? ⟨a,i*3+j,none⟩=(X i)[j]?)(L:∀i,i<n->∀w',Bl w w'->∀j,j<(Y i).size->w'.cell? ⟨b,i*3+j,none⟩=(Y i)[j]?)(hC:∀i,i<n->∀w',Bl w w'->Calls prog g #[.agg (X i),.agg (Y i)] w' fun e ar=>e=.returned (.bool (r i))/\Bl w' ar):
 Calls prog 79 #[.slice pa n ca,.slice pb n cb,.func (.func g) #[] #[]] w fun e w'=>e=.returned (.bool (decide (∀i,i<n->r i=true)))/\Bl w w':=by
 obtain⟨af,HX,HY,ag,ao,an,ap,HC⟩:=η8 aa hX hY G J H L hC;have au:((n:Int) != (n:Int))=false:=by simp
 clear aa hX hY G J H L hC
 go_enter func79,ntmps79
 go_wp2_with fail
 go_loopw [17] (fun iv wr=>∃i:Nat,i<=n/\iv=.int .i64 (i:Nat)/\Hid (∀q,q<i->r q=true)/\Hid (Bl w wr)) (fun iv _=>n-(intOf iv).toNat)
 case atStart=>exact⟨0,Nat.zero_le _,rfl,fun q h=>by omega,Below.refl _ _⟩
 case round =>
  obtain⟨i,hi,rfl,HR,HB⟩:=hrel;obtain⟨wk,rfl⟩:=φ wr;by_cases h0:i=n
  ·have hl:¬ (i:Int)<(n:Int):=I
   have H0:=O h0;clear h0
   go_wp2_with fail
   go_ret;exact⟨by rw[decide_eq_true (show ∀q,q<n->r q=true from by rw[<-H0.o];exact HR.o)];rfl,HB.o⟩
  ·have hl:(i:Int)<(n:Int):=I
   have W:i<n:=I;have u:=O W;obtain⟨rfl,rfl⟩:=af.o I;clear h0 W
   go_upto_region 6 with(first
    | refine aj rfl _ _ rfl a (i*3) rfl (X i) _ (fun j F=>an.o i u.o wk HB.o j F) underlying86 rfl (by rw[HX.o i];exact kI) ?_
    | refine aA rfl _ _ _ rfl _ (X i) rfl rfl (by rw[HX.o i];exact kI) (by rw[HX.o i];rfl) (ag.o i) ?_)
   obtain⟨w2,ab,b2,R,-⟩:=aB wk (X i) 86;rw[ab];obtain⟨B2,K2⟩:=η2 b2 (ae HB.o R ρ);clear ab b2 R
   go_upto_region 7 with(first
    | refine aj rfl _ _ rfl b (i*3) rfl (Y i) _ (fun j F=>ap.o i u.o w2 K2.o j F) underlying86 rfl (by rw[HY.o i];exact kI) ?_
    | refine aA rfl _ _ _ rfl _ (Y i) rfl rfl (by rw[HY.o i];exact kI) (by rw[HY.o i];rfl) (ao.o i) ?_)
   obtain⟨w3,ac,b3,C,-⟩:=aB w2 (Y i) 86;rw[ac];obtain⟨B3,ad,K3⟩:=η3 b3 (B2.o.to C) (ae K2.o C ρ);clear ac b3 C
   go_wp2_with (first
    | refine aj rfl _ _ rfl wk.heap.size 0 rfl (X i) _ (fun j F=>ad.o.whole j F) underlying86 rfl (by rw[HX.o i];exact kI) ?_
    | refine aj rfl _ _ rfl w2.heap.size 0 rfl (Y i) _ (fun j F=>B3.o.whole j F) underlying86 rfl (by rw[HY.o i];exact kI) ?_)
   refine(HC.o i u.o w3 K3.o).mono ?_;rintro e w4 ⟨rfl,U⟩;have K4:=O (ae K3.o U ρ);clear U;cases hri:r i
   ·have A:=O hri
    clear hri
    go_wp2_with fail
    go_ret;exact⟨by rw[decide_eq_false (fun h=>by have:=h i u.o;rw[A.o]at this;cases this)];rfl,K4.o⟩
   ·have A:=O hri
    clear hri
    go_wp2_with fail
    go_round
    case rel=>exact⟨i+1,u.o,rfl,fun q h=>by
     by_cases e:q=i
     ·rw[e];exact A.o
     ·exact HR.o q I,K4.o⟩
    case measure=>exact μ (ψ u.o)
theorem kJ:(prog.info? 155).map (·.size)=some 17:=by kernel_rfl
theorem eqF_any(g a b n ca cb:Nat)(X Y:Nat->Array Value)(r:Nat->Bool)(w:World)(hn:n<=1000000)(pa pb:Option Addr)(aa:0<n->pa=some ⟨a,0,none⟩/\pb=some ⟨b,0,none⟩)(eg:∀args w,(callFunc g args).run prog w=.ok (.enter g args) w)(hX:∀i,(X i).size=17)(hY:∀i,(Y i).size=17)(G:∀i,(X i).all (·.oneCell')=true)(J:∀i,(Y i).all (·.oneCell')=true)(H:∀i,i<n->∀w',Bl w w'->∀j,j<(X i).size->w'.cell? ⟨a,i*17+j,none⟩=(X i)[j]?)(L:∀i,i<n->∀w',Bl w w'->∀j,j<(Y i).size->w'.cell? ⟨b,i*17+j,none⟩=(Y i)[j]?)(hC:∀i,i<n->∀w',Bl w w'->Calls prog g #[.agg (X i),.agg (Y i)] w' fun e ar=>e=.returned (.bool (r i))/\Bl w' ar):
 Calls prog 116 #[.slice pa n ca,.slice pb n cb,.func (.func g) #[] #[]] w fun e w'=>e=.returned (.bool (decide (∀i,i<n->r i=true)))/\Bl w w':=by
 obtain⟨af,HX,HY,ag,ao,an,ap,HC⟩:=η8 aa hX hY G J H L hC;have au:((n:Int) != (n:Int))=false:=by simp
 clear aa hX hY G J H L hC
 go_enter func116,ntmps116
 go_wp2_with fail
 go_loopw [17] (fun iv wr=>∃i:Nat,i<=n/\iv=.int .i64 (i:Nat)/\Hid (∀q,q<i->r q=true)/\Hid (Bl w wr)) (fun iv _=>n-(intOf iv).toNat)
 case atStart=>exact⟨0,Nat.zero_le _,rfl,fun q h=>by omega,Below.refl _ _⟩
 case round =>
  obtain⟨i,hi,rfl,HR,HB⟩:=hrel;obtain⟨wk,rfl⟩:=φ wr;by_cases h0:i=n
  ·have hl:¬ (i:Int)<(n:Int):=I
   have H0:=O h0;clear h0
   go_wp2_with fail
   go_ret;exact⟨by rw[decide_eq_true (show ∀q,q<n->r q=true from by rw[<-H0.o];exact HR.o)];rfl,HB.o⟩
  ·have hl:(i:Int)<(n:Int):=I
   have W:i<n:=I;have u:=O W;obtain⟨rfl,rfl⟩:=af.o I;clear h0 W
   go_upto_region 6 with(first
    | refine aj rfl _ _ rfl a (i*17) rfl (X i) _ (fun j F=>an.o i u.o wk HB.o j F) underlying155 rfl (by rw[HX.o i];exact kJ) ?_
    | refine aA rfl _ _ _ rfl _ (X i) rfl rfl (by rw[HX.o i];exact kJ) (by rw[HX.o i];rfl) (ag.o i) ?_)
   obtain⟨w2,ab,b2,R,-⟩:=aB wk (X i) 155;rw[ab];obtain⟨B2,K2⟩:=η2 b2 (ae HB.o R ρ);clear ab b2 R
   go_upto_region 7 with(first
    | refine aj rfl _ _ rfl b (i*17) rfl (Y i) _ (fun j F=>ap.o i u.o w2 K2.o j F) underlying155 rfl (by rw[HY.o i];exact kJ) ?_
    | refine aA rfl _ _ _ rfl _ (Y i) rfl rfl (by rw[HY.o i];exact kJ) (by rw[HY.o i];rfl) (ao.o i) ?_)
   obtain⟨w3,ac,b3,C,-⟩:=aB w2 (Y i) 155;rw[ac];obtain⟨B3,ad,K3⟩:=η3 b3 (B2.o.to C) (ae K2.o C ρ);clear ac b3 C
   go_wp2_with (first
    | refine aj rfl _ _ rfl wk.heap.size 0 rfl (X i) _ (fun j F=>ad.o.whole j F) underlying155 rfl (by rw[HX.o i];exact kJ) ?_
    | refine aj rfl _ _ rfl w2.heap.size 0 rfl (Y i) _ (fun j F=>B3.o.whole j F) underlying155 rfl (by rw[HY.o i];exact kJ) ?_)
   refine(HC.o i u.o w3 K3.o).mono ?_;rintro e w4 ⟨rfl,U⟩;have K4:=O (ae K3.o U ρ);clear U;cases hri:r i
   ·have A:=O hri
    clear hri
    go_wp2_with fail
    go_ret;exact⟨by rw[decide_eq_false (fun h=>by have:=h i u.o;rw[A.o]at this;cases this)];rfl,K4.o⟩
   ·have A:=O hri
    clear hri
    go_wp2_with fail
    go_round
    case rel=>exact⟨i+1,u.o,rfl,fun q h=>by
     by_cases e:q=i
     ·rw[e];exact A.o
     ·exact HR.o q I,K4.o⟩
    case measure=>exact μ (ψ u.o)
theorem eqPair(a b:Int)(w:World):(Op.equalIn 9999 151 (.agg #[.int .i64 a,.int .i64 b]) (.agg #[.int .i64 a,.int .i64 b])).run prog w=.ok true w:=by
 have u3:=underlying3;have e:=isAgg3;have z3:=sizeOf3;rw[show(9999:Nat)=9998+1 from rfl,Op.equalIn];simp only[Sem.run_bind,run_underlying underlying151,Result.andThen_ok];simp only[Std.Legacy.Range.forIn_eq_forIn_range',Std.Legacy.Range.size,Nat.sub_zero,Nat.add_sub_cancel,Nat.div_one,List.range'_succ,List.range'_zero,List.forIn_cons,List.forIn_nil];go_simp
theorem eqEdge(a b c d:Int)(w:World):(Op.equalIn 10000 153 (.agg #[.int .i64 a,.int .i64 b,.int .i64 c,.int .i64 d]) (.agg #[.int .i64 a,.int .i64 b,.int .i64 c,.int .i64 d])).run prog w=.ok true w:=by
 have u3:=underlying3;have e:=isAgg3;refine(run_equalIn_struct w 9999 153 _ _ Z Z).trans ?_;have i:=fun w=>eqPair c d w
 go_simp
theorem eqI_same(g L G g' u A N:Nat)(f:Nat->Int)(w:World)(hN:N<9223372036854775807)(W:g<w.heap.size)(C:g'<w.heap.size)(R:∀j,j<N->w.cell? ⟨g,L+j,none⟩=some (.int .i64 (f j)))(U:∀j,j<N->w.cell? ⟨g',u+j,none⟩=some (.int .i64 (f j))):
 Calls prog 118 #[.slice (some ⟨g,L,none⟩) N G,.slice (some ⟨g',u,none⟩) N A] w fun e w'=>e=.returned (.bool true)/\Bl w w':=by
 obtain⟨X,Y⟩:=η2 (fun w' (h:Bl w w') j H=>(h.cell (p:=⟨g,L+j,none⟩) W).trans (R j H)) (fun w' (h:Bl w w') j H=>(h.cell (p:=⟨g',u+j,none⟩) C).trans (U j H));have ac:((N:Int) != (N:Int))=false:=by simp
 clear R U W C
 go_enter func118,ntmps118
 go_wp2_with fail
 go_loopw [13] (fun J wr=>∃i:Nat,i<=N/\J=.int .i64 (i:Nat)/\Hid (Bl w wr)) (fun J _=>N-(intOf J).toNat)
 case atStart=>exact⟨0,Nat.zero_le _,rfl,Below.refl _ _⟩
 case round =>
  obtain⟨i,hi,rfl,F⟩:=hrel;by_cases h0:i=N
  ·have hn:¬ (i:Int)<(N:Int):=I
   go_wp2_with fail
   go_ret;exact⟨rfl,F.o⟩
  ·have aa:(i:Int)<(N:Int):=I
   have x1:=X.o _ F.o i I;have x2:=Y.o _ F.o i I;have ab:(f i != f i)=false:=by simp
   go_wp2_with fail
   go_quiet (fail)
   rename_i k
   go_wp2_with fail
   go_round
   case rel=>exact⟨i+1,by omega,rfl,aF F.o _⟩
   case measure=>exact μ
theorem eqE_same(g U g' G N:Nat)(es:Nat->ED)(pa pb:Option Addr)(H:0<N->pa=some ⟨g,0,none⟩/\pb=some ⟨g',0,none⟩)(w:World)(hN:N<9223372036854775807)(W:0<N->g<w.heap.size/\g'<w.heap.size)(h1:∀i j,i<N->j<4->w.cell? ⟨g,i*4+j,none⟩=(cx (es i))[j]?)(h2:∀i j,i<N->j<4->w.cell? ⟨g',i*4+j,none⟩=(cx (es i))[j]?):
 Calls prog 115 #[.slice pa N U,.slice pb N G] w fun e w'=>e=.returned (.bool true)/\Bl w w':=by
 obtain⟨R,J,L⟩:=η3 H (fun w' (h:Bl w w') i j (hi:i<N) X=>(h.cell (p:=⟨g,i*4+j,none⟩) (W I).1).trans (h1 i j hi X)) (fun w' (h:Bl w w') i j (hi:i<N) X=>(h.cell (p:=⟨g',i*4+j,none⟩) (W I).2).trans (h2 i j hi X));have ab:((N:Int) != (N:Int))=false:=by simp
 clear h1 h2 W H
 go_enter func115,ntmps115
 go_wp2_with fail
 go_loopw [13] (fun Y wr=>∃i:Nat,i<=N/\Y=.int .i64 (i:Nat)/\Hid (Bl w wr)) (fun Y _=>N-(intOf Y).toNat)
 case atStart=>exact⟨0,Nat.zero_le _,rfl,Below.refl _ _⟩
 case round =>
  obtain⟨i,hi,rfl,A⟩:=hrel;obtain⟨C,rfl⟩:=φ wr;by_cases h0:i=N
  ·have hn:¬ (i:Int)<(N:Int):=I
   go_wp2_with fail
   go_ret;exact⟨rfl,A.o⟩
  ·have aa:(i:Int)<(N:Int):=I
   have u:i<N:=I;obtain⟨rfl,rfl⟩:=R.o I;have x0:C.cell? ⟨g,i*4,none⟩=some (.int .i64 ((es i).a:Nat)):=J.o _ A.o i 0 u I;have x1:C.cell? ⟨g,i*4+1,none⟩=some (.int .i64 ((es i).b:Nat)):=J.o _ A.o i 1 u I;have x2:C.cell? ⟨g,i*4+2,none⟩=some (.int .i64 (es i).f):=J.o _ A.o i 2 u I;have x3:C.cell? ⟨g,i*4+3,none⟩=some (.int .i64 (es i).g):=J.o _ A.o i 3 u I;have y0:C.cell? ⟨g',i*4,none⟩=some (.int .i64 ((es i).a:Nat)):=L.o _ A.o i 0 u I;have y1:C.cell? ⟨g',i*4+1,none⟩=some (.int .i64 ((es i).b:Nat)):=L.o _ A.o i 1 u I;have y2:C.cell? ⟨g',i*4+2,none⟩=some (.int .i64 (es i).f):=L.o _ A.o i 2 u I;have y3:C.cell? ⟨g',i*4+3,none⟩=some (.int .i64 (es i).g):=L.o _ A.o i 3 u I;have e4:=fun w=>eqEdge ((es i).a:Nat) ((es i).b:Nat) (es i).f (es i).g w
   have F:=O u;clear u
   go_wp2_with fail
   go_quiet (fail)
   rename_i k
   go_wp2_with fail
   go_round
   case rel=>exact⟨i+1,F.o,rfl,aF A.o _⟩
   case measure=>exact μ (ψ F.o)
theorem eqI_own(v W:Value)(l:List Nat)(base u:Nat)(w:World)(h:bo w base v l)(R:bo w u W l)(Y:l.length<4611686018427387904):
 Calls prog 118 #[v,W] w fun e w'=>e=.returned (.bool true)/\Bl w w':=by
 obtain⟨a,G,rfl,hi⟩:=h.ints;obtain⟨a',A,rfl,C⟩:=R.ints;by_cases h0:l.length=0
 ·rw[h0]
  clear h R hi C Y h0
  go_enter func118,ntmps118
  go_wp2_with fail
  go_loopw [13] (fun U wr=>U=.int .i64 0/\wr=w) (fun U _=>0)
  case atStart=>exact⟨rfl,rfl⟩
  case round =>
   obtain⟨rfl,rfl⟩:=hrel
   go_wp2_with fail
   go_ret;exact⟨rfl,Below.refl _ _⟩
 ·obtain⟨b,off,rfl,hb,-,hc⟩:=hi.cells I
  obtain⟨X,F,rfl,H,-,J⟩:=C.cells I;exact eqI_same b off G X F A l.length (fun j=>(l.map fun(i:Nat)=>(i:Int)).getD j 0) w I hb H (fun j L=>hc j L) (fun j L=>J j L)
theorem eqFc_any(n0 n1 n2 A m0 m1 m2 C:RC)(X ga:Option Addr)(fl Y gl gc:Nat)(f:Q3×Rat)(r:List Nat)(k base J:Nat)(w:World)(hn:am w (.agg (ah n0 n1 n2)) f.1)(hm:am w (.agg (ah m0 m1 m2)) f.1)(ho:ak w A.agg f.2)(hp:ak w C.agg f.2)(hr:bo w base (.slice X fl Y) r)(hs:bo w J (.slice ga gl gc) r)(i:BdV k f.1)(u:Bd k f.2)(hk:k<=1000)(hl:r.length<=64):
 Calls prog 117 #[.agg (aS n0 n1 n2 A X fl Y),.agg (aS m0 m1 m2 C ga gl gc)] w fun e w'=>e=.returned (.bool true)/\Bl w w':=by
 obtain⟨W,hW,b1,b2,G,hS⟩:=bU w (aS n0 n1 n2 A X fl Y) (aS m0 m1 m2 C ga gl gc) 155 155;obtain⟨HN,HM,HO,HP,HR,HS,B1,B2,HB⟩:=η9 (hn.below G) (hm.below G) (ho.below G) (hp.below G) (aC hr G) (aC hs G) b1 b2 G;have H:=O (And.intro i (And.intro u (And.intro hk hl)));clear hn hm ho hp hr hs i u hk hl b1 b2 G hS
 go_enter func117,ntmps117
 go_wp2_with (first
  | refine aj rfl _ _ rfl w.heap.size 0 rfl (ah n0 n1 n2) _ (fun j hj=>B1.o.nor17 j hj) underlying57 rfl cG ?_
  | refine aj rfl _ _ rfl (w.heap.size+1) 0 rfl (ah m0 m1 m2) _ (fun j hj=>B2.o.nor17 j hj) underlying57 rfl cG ?_)
 refine(lN _ _ f.1 f.1 k k W HN.o HM.o H.o.1 H.o.1 (ψ H.o.2.2.1)).mono ?_;rintro e F ⟨⟨z,rfl,hz⟩,i⟩;obtain rfl:z=true:=hz.mpr rfl;obtain⟨L,R,L1,K1⟩:=η4 (B1.o.to i) (B2.o.to i) (ae HB.o i ρ) i;clear i hz;have x0:F.cell? ⟨w.heap.size,12,none⟩=some (.bool A.s):=L.o.cell 12;have x1:F.cell? ⟨w.heap.size,13,none⟩=some (.slice A.a A.n A.c):=L.o.cell 13;have x2:F.cell? ⟨w.heap.size,14,none⟩=some (.bool A.t):=L.o.cell 14;have x3:F.cell? ⟨w.heap.size,15,none⟩=some (.slice A.b A.m A.d):=L.o.cell 15;have y0:F.cell? ⟨w.heap.size+1,12,none⟩=some (.bool C.s):=R.o.cell 12;have y1:F.cell? ⟨w.heap.size+1,13,none⟩=some (.slice C.a C.n C.c):=R.o.cell 13;have y2:F.cell? ⟨w.heap.size+1,14,none⟩=some (.bool C.t):=R.o.cell 14;have y3:F.cell? ⟨w.heap.size+1,15,none⟩=some (.slice C.b C.m C.d):=R.o.cell 15
 go_wp2_with fail
 refine(cj _ _ f.2 f.2 k k F (HO.o.below K1.o) (HP.o.below K1.o) H.o.2.1 H.o.2.1 (ψ H.o.2.2.1)).mono ?_;rintro e w2 ⟨rfl,u⟩;rw[fm.mpr (rfl:f.2=f.2)];obtain⟨D1,D2,L2,K2⟩:=η4 (L.o.to u) (R.o.to u) (ae L1.o u ρ) (ae K1.o u ρ);clear u x0 x1 x2 x3 y0 y1 y2 y3;have x4:w2.cell? ⟨w.heap.size,16,none⟩=some (.slice X fl Y):=D1.o.cell 16;have y4:w2.cell? ⟨w.heap.size+1,16,none⟩=some (.slice ga gl gc):=D2.o.cell 16
 go_wp2_with fail
 refine(eqI_own _ _ r _ _ w2 (aC HR.o K2.o) (aC HS.o K2.o) (ψ H.o.2.2.2)).mono ?_;rintro e w3 ⟨rfl,U⟩;have L3:=O (ae L2.o U ρ);clear U x4 y4
 go_wp2_with fail
 go_ret;exact⟨rfl,L3.o⟩
def jx(ds:List ShD)(p:Q3):List Int:=ds.map fun d=>mt d.fqs p
def lj(l:List Int)(k:Nat):Int:=(l.take k).foldl max (-1)
def gS(l:List Int)(k:Nat):List Nat:=(List.range k).filter fun i=>decide (l.getD i (-1)≠-1)
theorem whereK_succ{l:List Int}{k:Nat}{z:Int}(h:l[k]?=some z):lj l (k+1)=max (lj l k) z:=by
 unfold lj;have e:=(List.getElem?_eq_some_iff.1 h).1;rw[List.take_succ_eq_append_getElem e,List.foldl_append];rw[List.getElem?_eq_getElem e]at h;cases h
 rfl
theorem cellsK_on{l:List Int}{k:Nat}{z:Int}(h:l[k]?=some z)(e:z≠-1):gS l (k+1)=gS l k++[k]:=by
 unfold gS;rw[List.range_succ,List.filter_append,List.filter_cons,if_pos (by simp[List.getD,h,e]),List.filter_nil]
theorem cellsK_off{l:List Int}{k:Nat}(h:l[k]?=some (-1)):gS l (k+1)=gS l k:=by
 unfold gS;rw[List.range_succ,List.filter_append,List.filter_cons,if_neg (by simp[List.getD,h]),List.filter_nil,List.append_nil]
theorem locs_move{m:Mo}(h:Rot m){e:List ShD}(i:∀d∈e,oA d.qs d.fqs d.rns)(p:Q3):jx (e.map (ShD.move m)) (aQ m p)=jx e p:=by
 unfold jx;rw[List.map_map];exact List.map_congr_left fun d j=>locR_move h (i d j) p
section
section
variable {P : Program} {Q : Exit → Act → World → Prop} {ops : Array Oper}
end
end
section
open V
def boxA:List V:=lf 0 ⟨0,0,0⟩ ⟨2,1,1⟩
def boxB:List V:=lf 0 ⟨0,1,0⟩ ⟨1,1,1⟩
def qQ:List V:=lf 0 ⟨0,0,0⟩ ⟨2,2,2⟩
def il(l:List V):List (List Nat):=(facesR (ofL l) 8).map (·.2)
def tJ(l:List V):List (Q3×Rat):=(facesR (ofL l) 8).map fun x=>(ptQ x.1.n,(x.1.o:Rat))
theorem boxA_sum:cK (aD (qAt (cR (ofL boxA) 8)) (il boxA))=12:=by decide +kernel
theorem boxB_sum:cK (aD (qAt (cR (ofL boxB) 8)) (il boxB))=6:=by decide +kernel
def eqQ(a b:Q3):Bool:=decide (a.x=b.x)&&decide (a.y=b.y)&&decide (a.z=b.z)
theorem lH{a b:Q3}(h:eqQ a b=true):a=b:=by
 simp only[eqQ,Bool.and_eq_true,decide_eq_true_eq]at h;obtain⟨x,y,z⟩:=a;obtain⟨e,i,j⟩:=b;simp only at h;rw[h.1.1,h.1.2,h.2]
theorem boxA_cen:dC (aD (qAt (cR (ofL boxA) 8)) (il boxA))=⟨48,24,24⟩:=lH (by decide +kernel)
theorem boxB_cen:dC (aD (qAt (cR (ofL boxB) 8)) (il boxB))=⟨12,36,12⟩:=lH (by decide +kernel)
theorem boxA_loc:mt (tJ boxA) ⟨1 / 2,1,1 / 2⟩=0:=by decide +kernel
theorem boxB_loc:mt (tJ boxB) ⟨1 / 2,1,1 / 2⟩=0:=by decide +kernel
theorem boxC_odd:(∃r∈il qQ,∃s∈cX r,(ofL qQ s.1).x=0/\(ofL qQ s.2).x=2)/\∀i∈List.range 8,(ofL qQ i).x=0\/(ofL qQ i).x=2:=by decide +kernel
end
def mE(q:Q4):Int:=if(gsQ q 4).2<0 then -((gsQ q 4).1:Int)else(gsQ q 4).1
def bP(q:Q4):Q4:=⟨q.a.tdiv (mE q),q.b.tdiv (mE q),q.c.tdiv (mE q),q.d.tdiv (mE q)⟩
theorem tI(q:Q4):∀k,k<=4->(gsQ q 4).1∣(gsQ q k).1/\∀i,i<k->(gsQ q k).1∣(q.at i).natAbs:=by
 have step:∀k i,i<k->(gsQ q k).1∣(q.at i).natAbs:=by
  intro k
  induction k with
  | zero=>intro i hi;omega
  | succ k ih =>
   intro i hi;by_cases e:i=k
   ·subst e;exact Nat.gcd_dvd_right ..
   ·exact Nat.dvd_trans (Nat.gcd_dvd_left ..) (ih i I)
 have down:∀d k,(gsQ q (k+d)).1∣(gsQ q k).1:=by
  intro d
  induction d with
  | zero=>intro k;exact Nat.dvd_refl _
  | succ d ih=>intro k;exact Nat.dvd_trans (Nat.gcd_dvd_left ..) (ih k)
 intro k j;have:=down (4-k) k;rw[show k+(4-k)=4 by omega]at this;exact⟨this,fun i hi=>step k i hi⟩
theorem fi(q:Q4):∀k,(gsQ q k).2=0->∀i,i<k->q.at i=0:=by
 intro k
 induction k with
 | zero=>intro _ i hi;omega
 | succ k ih =>
  intro h i hi;have j:(if(gsQ q k).2=0 then q.at k else(gsQ q k).2)=0:=h;by_cases h0:(gsQ q k).2=0
  ·rw[if_pos h0]at j
   by_cases e:i=k
   ·subst e;exact j
   ·exact ih h0 i I
  ·rw[if_neg h0]at j;exact absurd j h0
theorem primT_at(q:Q4)(i:Nat):(bP q).at i=(q.at i).tdiv (mE q):=by
 match i with
 | 0=>rfl
 | 1=>rfl
 | 2=>rfl
 | _+3=>rfl
theorem primT_ok{q:Q4}(h:∀i,(q.at i).natAbs<=12)(h0:¬ (q.a=0/\q.b=0/\q.c=0/\q.d=0)):OkQ (bP q):=by
 have aa:(gsQ q 4).2≠0:=fun e=>h0 ⟨fi q 4 e 0 I,fi q 4 e 1 I,fi q 4 e 2 I,fi q 4 e 3 I⟩
 have H:0<(gsQ q 4).1:=by
  refine Nat.pos_of_ne_zero fun e=>h0 ?_
  have z:∀i,i<4->q.at i=0:=fun i hi=>by
   have:=(tI q 4 I).2 i hi;rw[e,Nat.zero_dvd]at this;omega
  exact⟨z 0 I,z 1 I,z 2 I,z 3 I⟩
 have j:(mE q).natAbs=(gsQ q 4).1:=by unfold mE;split<;>omega
 have F:mE q≠0:=fun e=>by rw[e]at j;simp at j;omega
 have G:∀i,i<4->mE q∣q.at i:=fun i hi=>by
  have:=(tI q 4 I).2 i hi;rw[<-j]at this;exact Int.natAbs_dvd_natAbs.mp this
 have u:∀i,i<4->(bP q).at i*mE q=q.at i:=fun i hi=>by
  rw[primT_at];exact Int.tdiv_mul_cancel (G i hi)
 have U:∀i,i<4->((bP q).at i).natAbs*(gsQ q 4).1=(q.at i).natAbs:=fun i hi=>by
  have:=congrArg Int.natAbs (u i hi)
  rwa [Int.natAbs_mul,j]at this
 have L:∀k,k<=4->(gsQ (bP q) k).1*(gsQ q 4).1=(gsQ q k).1:=by
  intro k
  induction k with
  | zero=>intro _;exact Nat.zero_mul _
  | succ k ih =>
   intro hk;show Nat.gcd _ _*_=Nat.gcd _ _;rw[<-Nat.gcd_mul_right,ih I,U k I]
 have W:∀k,k<=4->(gsQ (bP q) k).2*mE q=(gsQ q k).2:=by
  intro k
  induction k with
  | zero=>intro _;exact Int.zero_mul _
  | succ k ih =>
   intro hk;have Y:=ih I;show(if(gsQ (bP q) k).2=0 then _ else _)*_=if(gsQ q k).2=0 then _ else _
   by_cases e:(gsQ (bP q) k).2=0
   ·rw[if_pos e,if_pos (by rw[<-Y,e,Int.zero_mul]),u k I]
   ·rw[if_neg e,if_neg (by rw[<-Y];exact Int.mul_ne_zero e F),Y]
 have J:(gsQ (bP q) 4).1=1:=Nat.eq_of_mul_eq_mul_right H (by rw[L 4 I,Nat.one_mul]);have X:¬ (gsQ (bP q) 4).2<0:=fun hn=>by
  have C:=W 4 I;unfold mE at C;by_cases e:(gsQ q 4).2<0
  ·rw[if_pos e]at C
   have:=Int.mul_nonneg_of_nonpos_of_nonpos (Int.le_of_lt hn) (show -((gsQ q 4).1:Int)<=0 by omega);omega
  ·rw[if_neg e]at C
   have:=Int.mul_neg_of_neg_of_pos hn (show 0<((gsQ q 4).1:Int) by omega);omega
 have R:∀i,((bP q).at i).natAbs<=12:=fun i=>by
  rw[primT_at,Int.natAbs_tdiv];exact Nat.le_trans (Nat.div_le_self ..) (h i)
 have A:¬ ((bP q).a=0/\(bP q).b=0/\(bP q).c=0/\(bP q).d=0):=fun⟨e0,e1,e2,e3⟩=>h0 (by
  have m0:=u 0 I;have m1:=u 1 I;have m2:=u 2 I;have m3:=u 3 I;simp only[Q4.at]at m0 m1 m2 m3;rw[e0,Int.zero_mul]at m0;rw[e1,Int.zero_mul]at m1;rw[e2,Int.zero_mul]at m2;rw[e3,Int.zero_mul]at m3;exact⟨m0.symm,m1.symm,m2.symm,m3.symm⟩)
 refine⟨R,?_,?_⟩
 ·have sq:∀x:Int,0<=x*x/\(x*x=0->x=0):=fun x=>⟨by rcases Int.le_total 0 x with a|a;exact Int.mul_nonneg a a;exact Int.mul_nonneg_of_nonpos_of_nonpos a a,fun e=>by have:=Int.mul_eq_zero.mp e;omega⟩
  have a1:=sq (bP q).a;have a2:=sq (bP q).b;have a3:=sq (bP q).c;have a4:=sq (bP q).d;unfold Q4.sq;refine Classical.byContradiction fun hc=>A ⟨a1.2 I,a2.2 I,a3.2 I,a4.2 I⟩
 ·unfold tS
  rw[if_neg A,if_neg (by rintro(e|e);exact e J;exact X e)]
end Go.Proofs.Υ
