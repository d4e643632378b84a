/- CellExtents: whatever the input (the library's listed tables lie as the program's text lays them), the call returns true, and the input reads as it did: the tied card. -/
import Derived.Test.YtaibkpbklfodiaaGreatDoorV37
import Derived.Test.YtaibkpbklfodiaaGreatDoorCards
import Derived.Test.YtaibkpbklfodiaaGreatDoorTie
import Derived.SevenTiedAt
set_option linter.all false
section
namespace Dowel
open Go Go.RowKit
def LocI (fs:List (Q3 × Rat)) (p:Q3) (i:Nat) (z:Int):Prop:=(∀ j f,j<i→fs[j]?=some f→¬ f.2<qdot f.1 p)∧((z=0∧∃ j f,j<i∧fs[j]?=some f∧qdot f.1 p=f.2)∨(z=1∧∀ j f,j<i→fs[j]?=some f→qdot f.1 p≠f.2))
variable {fs : List (Q3 × Rat)} {p : Q3} {i : Nat} {z : Int} {f : Q3 × Rat}
theorem LocI.off (h:LocI fs p i z) (hf:fs[i]?=some f) (h1:¬ f.2<qdot f.1 p) (h2:¬ qdot f.1 p=f.2):LocI fs p (i+1) z:=
 ⟨fun j g hj hg=>by
  by_cases e:j=i
  ·subst e;rw [hf] at hg;cases hg;exact h1
  ·exact h.1 j g (by omega) hg,by
  rcases h.2 with ⟨e,j,g,h3,h4,h5⟩ | ⟨e,h3⟩
  ·exact .inl ⟨e,j,g,by omega,h4,h5⟩
  ·exact .inr ⟨e,fun j g hj hg=>by
    by_cases e:j=i
    ·subst e;rw [hf] at hg;cases hg;exact h2
    ·exact h3 j g (by omega) hg⟩⟩
end Dowel
namespace Go.Proofs.YtaibkpbklfodiaaGreatDoor
open Go.RowKit Dowel
theorem infoIn:(Tryz.prog.info? 3).map (fun i=>(i.zero,i.size,i.bytes))=some (some (.int .i64 0),1,8):=by kernel_rfl
end Go.Proofs.YtaibkpbklfodiaaGreatDoor
end
section
namespace Dowel
open Go Go.RowKit Go.Proofs.YtaibkpbklfodiaaGreatDoor
theorem VRow.open12 {w:World} {base:Nat} {pa:Option Addr} {N cap:Nat} {qs:List Q3} {rs:List (RC × RC × RC)} (h:VRow w base (.slice pa N cap) qs rs) (i:Nat) (hi:i<qs.length) :
  ∃ (b:Nat) (n0 n1 n2:RC),pa=some ⟨b,0,none⟩∧b<w.heap.size∧IsVec w (.agg (cells3 n0 n1 n2)) (qAt qs i)∧∀ j,j<12→w.cell? ⟨b,i*12+j,none⟩=(cells3 n0 n1 n2)[j]? := by
 have hq:qs[i]?=some (qAt qs i):=by unfold qAt;simp [hi]
 obtain ⟨b,cap',⟨n0,n1,n2⟩,e,hb,-,-,hr,hv,hc⟩:=h.at_ i _ hq
 cases e
 exact ⟨b,n0,n1,n2,rfl,hb,hv,fun j hj=>(hc j hj).trans (Array.getElem?_toList (xs:=cells3 n0 n1 n2))⟩
theorem cells1_one (r:RC):(cells1 r).all (·.oneCell')=true:=all_oneCell_toArray (by
 intro u hu
 simp at hu
 rcases hu with rfl | rfl | rfl | rfl <;> rfl)
def extK (qs:List Q3) (n:Q3):Nat→Rat × Rat
 | 0=>(0,0)
 | i+1=>(if i=0∨qdot n (qAt qs i)<(extK qs n i).1 then qdot n (qAt qs i) else (extK qs n i).1,if i=0∨(extK qs n i).2<qdot n (qAt qs i) then qdot n (qAt qs i) else (extK qs n i).2)
theorem extK_bd {qs:List Q3} {n:Q3} {K:Nat} (h:∀ i,i<qs.length→Bd K (qdot n (qAt qs i))) (h0:1≤K):∀ i,i≤qs.length→Bd K (extK qs n i).1∧Bd K (extK qs n i).2
 | 0,_=>⟨Bd.zero.mono h0,Bd.zero.mono h0⟩
 | i+1,hi=>by
  obtain ⟨h1,h2⟩:=extK_bd h h0 i (by omega)
  have h3:=h i (by omega)
  constructor
  ·show Bd K (if _ then _ else _);split
   ·exact h3
   ·exact h1
  ·show Bd K (if _ then _ else _);split
   ·exact h3
   ·exact h2
theorem cmpR_neg {x y:Rat}:cmpR x y<0↔x<y:=by
 unfold cmpR
 split
 ·rename_i h;exact ⟨fun _=>h,fun _=>by omega⟩
 ·rename_i h;split <;> exact ⟨fun h'=>by omega,fun h'=>absurd h' h⟩
theorem cmpR_pos {x y:Rat}:0<cmpR x y↔y<x:=by
 unfold cmpR
 split
 ·rename_i h;exact ⟨fun h'=>by omega,fun h'=>absurd h' (Rat.not_lt.mpr (Rat.le_of_lt h))⟩
 ·rename_i h;split
  ·rename_i h2;exact ⟨fun _=>h2,fun _=>by omega⟩
  ·rename_i h2;exact ⟨fun h'=>by omega,fun h'=>absurd h' h2⟩
def RetExt (w:World) (e:Ending) (lo hi:Rat):Prop:=∃ lr hr:RC,e=.returned (.tuple #[.agg (cells1 lr),.agg (cells1 hr)])∧IsRat w lr.agg lo∧IsRat w hr.agg hi
structure ExtI (w:World) (base:Nat) (pa:Option Addr) (N cap:Nat) (qs:List Q3) (rs:List (RC × RC × RC)) (p0 p1 p2:RC) (n:Q3) (lr hr:RC) (lo hi:Rat) (wr:World):Prop where
 lb:Box wr (w.heap.size+2) (cells1 lr) 56
 hb:Box wr (w.heap.size+3) (cells1 hr) 56
 nb:Box wr (w.heap.size+1) (cells3 p0 p1 p2) 58
 l:IsRat wr lr.agg lo
 h:IsRat wr hr.agg hi
 v:VRow wr base (.slice pa N cap) qs rs
 n:IsVec wr (.agg (cells3 p0 p1 p2)) n
 bel:Below w.heap.size w wr
section
variable {w : World} {base : Nat} {pa : Option Addr} {N cap : Nat} {qs : List Q3} {rs : List (RC × RC × RC)} {p0 p1 p2 : RC} {n : Q3} {lr hr : RC} {lo hi : Rat} {wr wr' : World}
theorem ExtI.below (h:ExtI w base pa N cap qs rs p0 p1 p2 n lr hr lo hi wr) (hb:Below wr.heap.size wr wr'):ExtI w base pa N cap qs rs p0 p1 p2 n lr hr lo hi wr':=
 ⟨h.lb.below hb h.lb.lt,h.hb.below hb h.hb.lt,h.nb.below hb h.nb.lt,h.l.below hb,h.h.below hb,h.v.below hb,h.n.below hb,below_call h.bel hb (Nat.le_refl _)⟩
theorem VRow.put4 {w:World} {base:Nat} {v:Value} {qs:List Q3} {rs:List (RC × RC × RC)} (h:VRow w base v qs rs) {g:Nat} {r:RC} (hb:Box w g (cells1 r) 56) (r':RC):VRow (put4 w g 0 r') base v qs rs:=
 h.other (grown_put4 w g 0 r') (box_loose hb (by decide)) (.inr (fun e=>own_box_ne h.own hb (by decide) e.symm))
theorem ExtI.low (h:ExtI w base pa N cap qs rs p0 p1 p2 n lr hr lo hi wr) {r:RC} {q:Rat} (hq:IsRat wr r.agg q):ExtI w base pa N cap qs rs p0 p1 p2 n r hr q hi (put4 wr (w.heap.size+2) 0 r):=
 ⟨h.lb.s4 r,h.hb.oput4 (by omega) 0 r,h.nb.oput4 (by omega) 0 r,hq.put4 h.lb.at1 r,h.h.put4 h.lb.at1 r,h.v.put4 h.lb r,h.n.put4 h.lb.at1 r,below_put4 h.bel (by omega) 0 r⟩
theorem ExtI.high (h:ExtI w base pa N cap qs rs p0 p1 p2 n lr hr lo hi wr) {r:RC} {q:Rat} (hq:IsRat wr r.agg q):ExtI w base pa N cap qs rs p0 p1 p2 n lr r lo q (put4 wr (w.heap.size+3) 0 r):=
 ⟨h.lb.oput4 (by omega) 0 r,h.hb.s4 r,h.nb.oput4 (by omega) 0 r,h.l.put4 h.hb.at1 r,hq.put4 h.hb.at1 r,h.v.put4 h.hb r,h.n.put4 h.hb.at1 r,below_put4 h.bel (by omega) 0 r⟩
end
theorem ret_box22 {P:Program} {fn:Func} {R:Ending→World→Prop} {a:Act} {w:World} {p q:Tmp} {ty ty':TypeId} (h:fn.results=#[.cell p ty,.cell q ty']) (g g':Nat) {cs cs':Array Value} {t t':TypeId}
  (hg:Box w g cs t) (hg':Box w g' cs' t') (d d':TypeDesc) (hp:a.tmps.getD p undef=.pointer (some ⟨g,0,.none⟩)) (hp':a.tmps.getD q undef=.pointer (some ⟨g',0,.none⟩))
  (hu:P.underlying ty=some d) (hu':P.underlying ty'=some d')
  (hd:(match d with | .struct _ | .array _ _=>true | _=>false)=true) (hd':(match d' with | .struct _ | .array _ _=>true | _=>false)=true)
  (hi:(P.info? ty).map (·.size)=some cs.size) (hi':(P.info? ty').map (·.size)=some cs'.size) (hdf:a.defers=[])
  (hR:R (.returned (.tuple #[.agg cs,.agg cs'])) w) :
  bodyPost P fn R .ret a w:=by
 refine bodyPost_ret ?_ hdf hR
 have e:a.tmps[p]?.getD undef=.pointer (some ⟨g,0,none⟩):=by simpa using hp
 have e':a.tmps[q]?.getD undef=.pointer (some ⟨g',0,none⟩):=by simpa using hp'
 simp [results,h,e,e',asAddr,run_loadVar_row w g t ty cs _ d hg hu hd hi,run_loadVar_row w g' t' ty' cs' _ d' hg' hu' hd' hi']
end Dowel
namespace Go.Proofs.YtaibkpbklfodiaaGreatDoor
open Go.RowKit Dowel
set_option maxRecDepth 100000 in
set_option maxHeartbeats 4000000 in
theorem extent_any (v0 v1 v2 vn:Value) (qs:List Q3) (rs:List (RC × RC × RC)) (n:Q3) (base k l:Nat) (w:World) (hV:VRow w base v0 qs rs) (hk:∀ i,i<qs.length→BdV k (qAt qs i)) (hn:IsVec w vn n) (hl:BdV l n) (hkl:k+l≤1000) (hmax:qs.length≤262144) :
  Calls Tryz.prog 26 #[.agg #[v0,v1,v2],vn] w fun e w'=>RetExt w' e (extK qs n qs.length).1 (extK qs n qs.length).2∧Below w.heap.size w w':=by
 obtain ⟨p0,p1,p2,rfl,hp0,hp1,hp2⟩:=hn
 have hvp:IsVec w (.agg (cells3 p0 p1 p2)) n:=⟨p0,p1,p2,rfl,hp0,hp1,hp2⟩
 obtain ⟨W,hW,b1,b2,b3,b4,hB,hS⟩:=boxes4 w #[v0,v1,v2] (cells3 p0 p1 p2) (cells1 RC.zero) (cells1 RC.zero) 32 58 56 56
 have HVP:=Lib.hid (hvp.below hB)
 have HV:=Lib.hid (hV.below hB)
 have HB:=Lib.hid hB
 have HSZ:=Lib.hid hS
 have B2:=Lib.hid b2
 have B3:=Lib.hid b3
 have B4:=Lib.hid b4
 have HBP:=Lib.hid hl
 have HK:=Lib.hid hk
 have HKD:=Lib.hid (fun i hi=>Bd.dot hl (hk i hi))
 obtain ⟨x0,x1,x2,-⟩:=b1.three
 obtain ⟨N,hN⟩:∃ N,qs.length=N:=⟨_,rfl⟩
 have hmx:N≤262144:=by rw [← hN];exact hmax
 have HEX:=Lib.hid (extK_bd HKD.out (by omega))
 rw [hN] at HK HKD HEX ⊢
 have HNN:=Lib.hid hN
 obtain ⟨pa,cap,hv⟩:∃ pa cap,v0=.slice pa N cap:=by
  obtain ⟨_,⟨rfl,h0⟩ | ⟨g,c,_,rfl,_⟩⟩:=hV.own
  ·exact ⟨none,0,by rw [← hN,← hV.len,h0]⟩
  ·exact ⟨_,_,by rw [← hN,← hV.len]⟩
 clear hV hB hS b1 b2 b3 b4 hk hl hp0 hp1 hp2 hN hvp hmax
 subst hv
 unfold cells3 at hW ⊢
 simp only [cells1,RC.zero] at hW
 go_enter Tryz.func26,Tryz.ntmps26
 go_wp2_with fail
 go_loopw [12] (fun iv wr=>∃ i,i≤N∧iv=.int .i64 (i:Nat)∧∃ lr hr,Hid (ExtI w base pa N cap qs rs p0 p1 p2 n lr hr (extK qs n i).1 (extK qs n i).2 wr)∧Hid (Below W.heap.size W W)) (fun iv _=>N - (intOf iv).toNat)
 case atStart=>exact ⟨0,Nat.zero_le _,rfl,RC.zero,RC.zero,⟨B3.out,B4.out,B2.out,IsRat.zero _,IsRat.zero _,HV.out,HVP.out,HB.out⟩,Below.refl _ _⟩
 case round =>
  obtain ⟨i,hi,rfl,lr,hr,HX,-⟩:=hrel
  obtain ⟨wk,rfl⟩:∃ wk,wk=wr:=⟨_,rfl⟩
  by_cases h0:i=N
  ·have hn:¬ (i:Int)<(N:Int):=by omega
   have H0:=Lib.hid h0
   clear h0
   obtain ⟨⟨y0,y1,y2,y3⟩,y4,y5,y6,y7⟩:=HX.out.lb.at1
   obtain ⟨⟨z0,z1,z2,z3⟩,z4,z5,z6,z7⟩:=HX.out.hb.at1
   go_wp2_with fail
   go_region
   change Exit.then _ _ _ _ (World.drew (put4 (put4 wk (w.heap.size+2) 0 lr) (w.heap.size+3) 0 hr))
   have X1:=Lib.hid (HX.out.low HX.out.l)
   have X2:=Lib.hid ((X1.out.high X1.out.h).below (Below.refl _ _).drew)
   clear y0 y1 y2 y3 y4 y5 y6 y7 z0 z1 z2 z3 z4 z5 z6 z7
   generalize World.drew (put4 (put4 wk (w.heap.size+2) 0 lr) (w.heap.size+3) 0 hr)=w9 at *
   go_wp2
   exact ret_box22 Tryz.results26 (w.heap.size+2) (w.heap.size+3) X2.out.lb X2.out.hb _ _ rfl rfl Tryz.underlying56 Tryz.underlying56 rfl rfl infoR4 infoR4 rfl
    ⟨⟨lr,hr,rfl,by rw [← H0.out];exact X2.out.l,by rw [← H0.out];exact X2.out.h⟩,X2.out.bel⟩
  ·have hlt:(i:Int)<(N:Int):=by omega
   have hil:i<N:=by omega
   obtain ⟨bV,n0,n1,n2,e,hb,hvq,hcv⟩:=HX.out.v.open12 i (by have:=HNN.out;omega)
   cases e
   have HCV:=Lib.hid hcv
   clear hcv
   go_upto_region 4 with (first | refine wpList_load_arr rfl _ _ rfl bV (i*12) rfl (cells3 n0 n1 n2) _ (fun j hj=>HCV.out j hj) Tryz.underlying58 rfl infoV12 ?_ | refine wpList_store_new rfl _ _ _ rfl _ (cells3 n0 n1 n2) rfl rfl infoV12 rfl (cells3_one ..) ?_)
   obtain ⟨Wc,hWc,b5,hBc,hSc⟩:=boxes1 wk (cells3 n0 n1 n2) 58
   have XC:=Lib.hid (HX.out.below hBc)
   have HVQ:=Lib.hid (hvq.below hBc)
   have HC5:=Lib.hid (Box.from0 b5 12)
   have HC2:=Lib.hid (Box.from0 XC.out.nb 12)
   rw [hWc]
   clear hvq hBc hSc b5 hWc
   go_upto_region 5 with (first
    | refine wpList_load_arr rfl _ _ rfl (w.heap.size+1) 0 rfl (cells3 p0 p1 p2) _ (fun j hj=>HC2.out j hj) Tryz.underlying58 rfl infoV12 ?_
    | refine wpList_load_arr rfl _ _ rfl wk.heap.size 0 rfl (cells3 n0 n1 n2) _ (fun j hj=>HC5.out j hj) Tryz.underlying58 rfl infoV12 ?_
    | (refine (VDot_any _ _ n (qAt qs i) l k Wc XC.out.n HVQ.out HBP.out (HK.out i (by omega)) (by omega)).mono ?_;rintro e w5 ⟨⟨v5,rfl,hv5⟩,hb5⟩;obtain ⟨r5,rfl,hr5⟩:=hv5.rc)
    | refine wpList_store_new rfl _ _ _ rfl _ (cells1 r5) rfl rfl infoR4 rfl (cells1_one r5) ?_)
   obtain ⟨w6,hw6,b8,hb6,hs6⟩:=boxes1 w5 (cells1 r5) 56
   have X6:=Lib.hid ((XC.out.below hb5).below hb6)
   have D6:=Lib.hid (hr5.below hb6)
   have B8:=Lib.hid b8
   have hs2:w.heap.size+3<w5.heap.size:=by have:=(XC.out.below hb5).hb.lt;omega
   have HS2:=Lib.hid hs2
   have HEI:=Lib.hid (HEX.out i (by omega))
   have HKI:=Lib.hid (HKD.out i (by omega))
   rw [hw6]
   clear hb5 hr5 hb6 hs6 hw6 b8 hs2
   obtain ⟨d,hd⟩:∃ d,qdot n (qAt qs i)=d:=⟨_,rfl⟩
   rw [hd] at D6 HKI
   have HD:=Lib.hid hd
   have HE1:=Lib.hid (show (extK qs n (i+1)).1=if i=0∨d<(extK qs n i).1 then d else (extK qs n i).1 from by rw [← hd];rfl)
   have HE2:=Lib.hid (show (extK qs n (i+1)).2=if i=0∨(extK qs n i).2<d then d else (extK qs n i).2 from by rw [← hd];rfl)
   obtain ⟨lo,hlo⟩:∃ lo,(extK qs n i).1=lo:=⟨_,rfl⟩
   obtain ⟨hh,hhh⟩:∃ hh,(extK qs n i).2=hh:=⟨_,rfl⟩
   rw [hlo] at X6 HEI HE1
   rw [hhh] at X6 HEI HE2
   clear hd hlo hhh
   by_cases hi0:i=0
   ·have hb0:((i:Int) == 0)=true:=by rw [hi0];rfl
    have HI0:=Lib.hid hi0
    clear hi0
    obtain ⟨⟨y0,y1,y2,y3⟩,y4,y5,y6,y7⟩:=X6.out.lb.at1
    obtain ⟨⟨z0,z1,z2,z3⟩,z4,z5,z6,z7⟩:=X6.out.hb.at1
    obtain ⟨c0,c1,c2,c3⟩:=B8.out.at1.1
    go_upto_region 7 with fail
    change Code.wp _ _ _ _ (put4 w6 (w.heap.size+2) 0 r5)
    have X7:=Lib.hid (X6.out.low D6.out)
    have D7:=Lib.hid (D6.out.put4 X6.out.lb.at1 r5)
    have B9:=Lib.hid (B8.out.oput4 (g':=w.heap.size+2) (by have:=HS2.out;omega) 0 r5)
    clear y0 y1 y2 y3 y4 y5 y6 y7 z0 z1 z2 z3 z4 z5 z6 z7 c0 c1 c2 c3
    generalize put4 w6 (w.heap.size+2) 0 r5=w7 at *
    obtain ⟨⟨y0,y1,y2,y3⟩,y4,y5,y6,y7⟩:=X7.out.lb.at1
    obtain ⟨⟨z0,z1,z2,z3⟩,z4,z5,z6,z7⟩:=X7.out.hb.at1
    obtain ⟨c0,c1,c2,c3⟩:=B9.out.at1.1
    go_wp2_with fail
    go_round
    case rel=>exact ⟨i+1,by omega,rfl,r5,r5,by rw [HE1.out,HE2.out,if_pos (.inl HI0.out),if_pos (.inl HI0.out)];exact X7.out.high D7.out,Below.refl _ _⟩
    case measure=>show N - ((i:Int)+1).toNat<N - (i:Int).toNat;omega
   ·have hb0:((i:Int) == 0)=false:=beq_eq_false_iff_ne.mpr (by omega)
    have HI0:=Lib.hid hi0
    clear hi0
    obtain ⟨⟨y0,y1,y2,y3⟩,y4,y5,y6,y7⟩:=X6.out.lb.at1
    obtain ⟨⟨z0,z1,z2,z3⟩,z4,z5,z6,z7⟩:=X6.out.hb.at1
    obtain ⟨c0,c1,c2,c3⟩:=B8.out.at1.1
    go_wp2_with fail
    refine (RCompare_any (.agg (cells1 r5)) (.agg (cells1 lr)) d lo (3*(l+k+1)+1) (3*(l+k+1)+1) w6 D6.out X6.out.l HKI.out HEI.out.1 (by omega)).mono ?_
    rintro e w7 ⟨rfl,hb7⟩
    have X7:=Lib.hid (X6.out.below hb7)
    have D7:=Lib.hid (D6.out.below hb7)
    have B9:=Lib.hid (B8.out.below hb7 B8.out.lt)
    have hz7:w.heap.size+3<w5.heap.size:=HS2.out
    clear y0 y1 y2 y3 y4 y5 y6 y7 z0 z1 z2 z3 z4 z5 z6 z7 c0 c1 c2 c3 hb7
    obtain ⟨z,hz⟩:∃ z,cmpR d lo=z:=⟨_,rfl⟩
    have HZ:=Lib.hid (show z<0↔d<lo from by rw [← hz];exact cmpR_neg)
    rw [hz]
    clear hz
    obtain ⟨⟨y0,y1,y2,y3⟩,y4,y5,y6,y7⟩:=X7.out.lb.at1
    obtain ⟨⟨z0,z1,z2,z3⟩,z4,z5,z6,z7⟩:=X7.out.hb.at1
    obtain ⟨c0,c1,c2,c3⟩:=B9.out.at1.1
    by_cases hz0:z<0
    case' pos =>
     have HZ0:=Lib.hid hz0
     go_upto_region 7 with fail
     change Code.wp _ _ _ _ (put4 w7 (w.heap.size+2) 0 r5)
     have X8:=Lib.hid (X7.out.low D7.out)
     have D8:=Lib.hid (D7.out.put4 X7.out.lb.at1 r5)
     have B10:=Lib.hid (B9.out.oput4 (g':=w.heap.size+2) (by omega) 0 r5)
     have HLO:=Lib.hid (show (extK qs n (i+1)).1=d from by rw [HE1.out,if_pos (.inr (HZ.out.mp HZ0.out))])
     clear y0 y1 y2 y3 y4 y5 y6 y7 z0 z1 z2 z3 z4 z5 z6 z7 c0 c1 c2 c3 hz0 HZ0
     generalize put4 w7 (w.heap.size+2) 0 r5=w8 at *
    case' neg =>
     have HZ0:=Lib.hid hz0
     go_upto_region 7 with fail
     have X8:=Lib.hid X7.out
     have D8:=Lib.hid D7.out
     have B10:=Lib.hid B9.out
     have HLO:=Lib.hid (show (extK qs n (i+1)).1=lo from by
      rw [HE1.out,if_neg (by
       rintro (h | h)
       ·exact HI0.out h
       ·exact absurd (HZ.out.mpr h) (by have:=HZ0.out;omega))])
     clear y0 y1 y2 y3 y4 y5 y6 y7 z0 z1 z2 z3 z4 z5 z6 z7 c0 c1 c2 c3 hz0 HZ0
     generalize w7=w8 at *
    all_goals
     clear X7 D7 B9 HZ
     obtain ⟨⟨y0,y1,y2,y3⟩,y4,y5,y6,y7⟩:=X8.out.lb.at1
     obtain ⟨⟨z0,z1,z2,z3⟩,z4,z5,z6,z7⟩:=X8.out.hb.at1
     obtain ⟨c0,c1,c2,c3⟩:=B10.out.at1.1
     go_wp2_with fail
     refine (RCompare_any (.agg (cells1 r5)) (.agg (cells1 hr)) d hh (3*(l+k+1)+1) (3*(l+k+1)+1) w8 D8.out X8.out.h HKI.out HEI.out.2 (by omega)).mono ?_
     rintro e w9 ⟨rfl,hb9⟩
     have X9:=Lib.hid (X8.out.below hb9)
     have D9:=Lib.hid (D8.out.below hb9)
     have B11:=Lib.hid (B10.out.below hb9 B10.out.lt)
     clear y0 y1 y2 y3 y4 y5 y6 y7 z0 z1 z2 z3 z4 z5 z6 z7 c0 c1 c2 c3 hb9
     obtain ⟨z,hz⟩:∃ z,cmpR d hh=z:=⟨_,rfl⟩
     have HZ:=Lib.hid (show 0<z↔hh<d from by rw [← hz];exact cmpR_pos)
     rw [hz]
     clear hz
     obtain ⟨⟨y0,y1,y2,y3⟩,y4,y5,y6,y7⟩:=X9.out.lb.at1
     obtain ⟨⟨z0,z1,z2,z3⟩,z4,z5,z6,z7⟩:=X9.out.hb.at1
     obtain ⟨c0,c1,c2,c3⟩:=B11.out.at1.1
     by_cases hz0:0<z
     ·have HZ0:=Lib.hid hz0
      have HHI:=Lib.hid (show (extK qs n (i+1)).2=d from by rw [HE2.out,if_pos (.inr (HZ.out.mp HZ0.out))])
      go_wp2_with fail
      go_round
      case rel=>exact ⟨i+1,by omega,rfl,_,r5,by rw [HLO.out,HHI.out];exact X9.out.high D9.out,Below.refl _ _⟩
      case measure=>show N - ((i:Int)+1).toNat<N - (i:Int).toNat;omega
     ·have HZ0:=Lib.hid hz0
      have HHI:=Lib.hid (show (extK qs n (i+1)).2=hh from by
       rw [HE2.out,if_neg (by
        rintro (h | h)
        ·exact HI0.out h
        ·exact absurd (HZ.out.mpr h) (by have:=HZ0.out;omega))])
      go_wp2_with fail
      go_round
      case rel=>exact ⟨i+1,by omega,rfl,_,hr,by rw [HLO.out,HHI.out];exact X9.out,Below.refl _ _⟩
      case measure=>show N - ((i:Int)+1).toNat<N - (i:Int).toNat;omega
end Go.Proofs.YtaibkpbklfodiaaGreatDoor
end
section
namespace Dowel
open Go Go.RowKit
def supK (qs:List Q3) (n:Q3) (hi:Rat) (i:Nat):List Nat:=(List.range i).filter fun j=>decide (qdot n (qAt qs j)=hi)
theorem supK_on {qs:List Q3} {n:Q3} {hi:Rat} {i:Nat} (h:qdot n (qAt qs i)=hi):supK qs n hi (i+1)=supK qs n hi i ++ [i]:=by
 unfold supK
 rw [List.range_succ,List.filter_append,List.filter_cons,if_pos (decide_eq_true h),List.filter_nil]
theorem supK_off {qs:List Q3} {n:Q3} {hi:Rat} {i:Nat} (h:¬ qdot n (qAt qs i)=hi):supK qs n hi (i+1)=supK qs n hi i:=by
 unfold supK
 rw [List.range_succ,List.filter_append,List.filter_cons,if_neg (by rw [decide_eq_true_eq];exact h),List.filter_nil,List.append_nil]
end Dowel
namespace Go.Proofs.YtaibkpbklfodiaaGreatDoor
open Go.RowKit Dowel
set_option maxRecDepth 100000 in
set_option maxHeartbeats 4000000 in
theorem support_any (v0 v1 v2 vn:Value) (qs:List Q3) (rs:List (RC × RC × RC)) (n:Q3) (base k l:Nat) (w:World) (hV:VRow w base v0 qs rs) (hv1:∃ p n c,v1=.slice p n c) (hv2:∃ p n c,v2=.slice p n c) (hk:∀ i,i<qs.length→BdV k (qAt qs i)) (hn:IsVec w vn n) (hl:BdV l n) (hkl:k+l≤1000) (hmax:qs.length≤262144) :
  Calls Tryz.prog 29 #[.agg #[v0,v1,v2],vn] w fun e w'=>RetInts w' w.heap.size e (supK qs n (extK qs n qs.length).2 qs.length)∧Below w.heap.size w w':=by
 obtain ⟨i0,hinf,hz0,hz1,hz2⟩:=info_parts infoIn
 obtain ⟨p0,p1,p2,rfl,hp0,hp1,hp2⟩:=hn
 have hvp:IsVec w (.agg (cells3 p0 p1 p2)) n:=⟨p0,p1,p2,rfl,hp0,hp1,hp2⟩
 obtain ⟨W,hW,b1,b2,hB,hS⟩:=boxes2 w #[v0,v1,v2] (cells3 p0 p1 p2) 32 58
 have HEXT:=Lib.hid (extent_any v0 v1 v2 (.agg (cells3 p0 p1 p2)) qs rs n base k l W (hV.below hB) hk (hvp.below hB) hl hkl hmax)
 have HVP:=Lib.hid (hvp.below hB)
 have HV:=Lib.hid (hV.below hB)
 have HB:=Lib.hid hB
 have HSZ:=Lib.hid hS
 have B1:=Lib.hid b1
 have B2:=Lib.hid b2
 have HBP:=Lib.hid hl
 have HK:=Lib.hid hk
 have HKD:=Lib.hid (fun i hi=>Bd.dot hl (hk i hi))
 have HEX:=Lib.hid (extK_bd HKD.out (by omega) qs.length (Nat.le_refl _)).2
 obtain ⟨x0,x1,x2,-⟩:=b1.three
 obtain ⟨⟨y0,y1,y2,y3⟩,-⟩:=b2.p0
 obtain ⟨⟨y4,y5,y6,y7⟩,-⟩:=b2.p1
 obtain ⟨⟨y8,y9,y10,y11⟩,-⟩:=b2.p2
 obtain ⟨N,hN⟩:∃ N,qs.length=N:=⟨_,rfl⟩
 have hmx:N≤262144:=by rw [← hN];exact hmax
 obtain ⟨hi,hhi⟩:∃ hi,(extK qs n qs.length).2=hi:=⟨_,rfl⟩
 rw [hhi] at HEXT HEX ⊢
 rw [hN] at HK HKD ⊢
 have HNN:=Lib.hid hN
 obtain ⟨pa,cap,hv⟩:∃ pa cap,v0=.slice pa N cap:=by
  obtain ⟨_,⟨rfl,h0⟩ | ⟨g,c,_,rfl,_⟩⟩:=hV.own
  ·exact ⟨none,0,by rw [← hN,← hV.len,h0]⟩
  ·exact ⟨_,_,by rw [← hN,← hV.len]⟩
 obtain ⟨a1,n1,c1,rfl⟩:=hv1
 obtain ⟨a2,n2,c2,rfl⟩:=hv2
 clear hV hB hS b1 b2 hk hl hp0 hp1 hp2 hN hvp hmax hhi
 subst hv
 unfold cells3 at hW HEXT ⊢
 go_enter Tryz.func29,Tryz.ntmps29
 go_wp2_with fail
 refine HEXT.out.mono ?_
 rintro e w1 ⟨⟨lr,hr,rfl,hlr,hhr⟩,hb1⟩
 have L1:=Lib.hid (below_call HB.out hb1 (by have:=HSZ.out;omega))
 have HWB:=Lib.hid hb1
 have HHR:=Lib.hid hhr
 unfold cells1
 clear HEXT hlr hhr hb1 x0 x1 x2 y0 y1 y2 y3 y4 y5 y6 y7 y8 y9 y10 y11
 go_upto_region 2 with fail
 obtain ⟨W2,hW2,bl,bh,hB2,hS2⟩:=boxes2 w1 (cells1 lr) (cells1 hr) 56 56
 unfold cells1 at hW2
 rw [hW2]
 have HW2:=Lib.hid (below_call HWB.out hB2 (Nat.le_refl _))
 have L2:=Lib.hid (below_call HB.out HW2.out (by have:=HSZ.out;omega))
 have HVP2':=Lib.hid (HVP.out.below HW2.out)
 have HV2:=Lib.hid (HV.out.below HW2.out)
 have KH2:=Lib.hid bh
 have HRO2:=Lib.hid (HHR.out.below hB2)
 have BN2:=Lib.hid (B2.out.below HW2.out B2.out.lt)
 have BS2:=Lib.hid (B1.out.below HW2.out B1.out.lt)
 obtain ⟨x0,x1,x2,-⟩:=BS2.out.three
 clear hW2 bl bh hB2 hS2 hW
 go_wp2_with fail
 go_loopw [7,19] (fun ov' iv wr=>∃ i ov,ov=ov'∧i≤N∧iv=.int .i64 (i:Nat)∧Hid (OwnN wr W2.heap.size ov (supK qs n hi i))∧Hid (Below W2.heap.size W2 wr)) (fun _ iv _=>N - (intOf iv).toNat)
 case atStart=>exact ⟨0,_,rfl,Nat.zero_le _,rfl,World.ownsRow_nil _ _ _ _,Below.refl _ _⟩
 case round =>
  obtain ⟨i,ov,rfl,hii,rfl,HO,HR⟩:=hrel
  obtain ⟨wk,rfl⟩:∃ wk,wk=wr:=⟨_,rfl⟩
  by_cases h0:i=N
  ·have hn:¬ (i:Int)<(N:Int):=by omega
   have H0:=Lib.hid h0
   clear h0
   go_wp2
   exact bodyPost_ret (results_tmp Tryz.results29 _ _ _) rfl ⟨⟨_,rfl,by
    rw [← H0.out];exact own_base HO.out L2.out.size⟩,below_call L2.out HR.out (Nat.le_refl _)⟩
  ·have hlt:(i:Int)<(N:Int):=by omega
   have hil:i<N:=by omega
   obtain ⟨bV,n0,n1',n2',e,hb,hvq,hcv⟩:=(HV2.out.below HR.out).open12 i (by have:=HNN.out;omega)
   cases e
   have HCV:=Lib.hid hcv
   clear hcv
   go_upto_region 6 with (first | refine wpList_load_arr rfl _ _ rfl bV (i*12) rfl (cells3 n0 n1' n2') _ (fun j hj=>HCV.out j hj) Tryz.underlying58 rfl infoV12 ?_ | refine wpList_store_new rfl _ _ _ rfl _ (cells3 n0 n1' n2') rfl rfl infoV12 rfl (cells3_one ..) ?_)
   obtain ⟨Wc,hWc,b5,hBc,hSc⟩:=boxes1 wk (cells3 n0 n1' n2') 58
   rw [hWc]
   have hBc1:=Lib.hid hBc
   have HBC:=Lib.hid (below_call HR.out hBc (Nat.le_refl _))
   have HVN:=Lib.hid (hvq.below hBc)
   have HVP2:=Lib.hid (HVP2'.out.below HBC.out)
   have HRO:=Lib.hid (show IsRat Wc (.agg #[.bool hr.s,.slice hr.a hr.n hr.c,.bool hr.t,.slice hr.b hr.m hr.d]) hi from HRO2.out.below HBC.out)
   have HBN:=Lib.hid (HK.out i (by omega))
   have HBD:=Lib.hid (HKD.out i (by omega))
   have HBO:=Lib.hid HEX.out
   have KF:=Lib.hid b5
   have KP:=Lib.hid (BN2.out.below HBC.out BN2.out.lt)
   have KH:=Lib.hid (KH2.out.below HBC.out KH2.out.lt)
   clear hvq hBc hSc b5 hWc
   refine wp_region_b (rest:=0) [isV 0 (.agg #[.bool p0.s,.slice p0.a p0.n p0.c,.bool p0.t,.slice p0.b p0.m p0.d,.bool p1.s,.slice p1.a p1.n p1.c,.bool p1.t,.slice p1.b p1.m p1.d,.bool p2.s,.slice p2.a p2.n p2.c,.bool p2.t,.slice p2.b p2.m p2.d]),isV 1 (.agg #[.bool n0.s,.slice n0.a n0.n n0.c,.bool n0.t,.slice n0.b n0.m n0.d,.bool n1'.s,.slice n1'.a n1'.n n1'.c,.bool n1'.t,.slice n1'.b n1'.m n1'.d,.bool n2'.s,.slice n2'.a n2'.n n2'.c,.bool n2'.t,.slice n2'.b n2'.m n2'.d]),isP 2 (fun v w=>IsRat w v (qdot n (qAt qs i))),isV 3 (.agg #[.bool hr.s,.slice hr.a hr.n hr.c,.bool hr.t,.slice hr.b hr.m hr.d]),isV 4 (.int .i64 (cmpR (qdot n (qAt qs i)) hi)),isV 5 (.bool (decide (cmpR (qdot n (qAt qs i)) hi=0)))] [] ?AS #[true,true,true,true,true,true] (by kernel_rfl) [0,1,2,3,4,5] (by kernel_rfl) (by kernel_rfl) (by kernel_rfl) (by kernel_rfl) (by kernel_rfl) (by kernel_rfl) ?st ?hA ?hop ?hend
   case hA =>
    intro y
    simp only [putAll,dstOf,List.getElem?_toArray,List.getElem?_cons_zero,List.getElem?_cons_succ,Option.bind_some,Act.put,List.setIfInBounds_toArray,List.set_cons_zero,List.set_cons_succ]
    exact rfl
   case st=>exact StabL.cons isV.stab (StabL.cons isV.stab (StabL.cons (isP.stab (fun _ _ _ h hv=>hv.below h)) (StabL.cons isV.stab (StabL.cons isV.stab (StabL.cons isV.stab (StabL.nil))))))
   case hop =>
    refine OpsOk.cons (i:=0) rfl (fun y w' hS hD K hK=>?_) ?_
    ·as_aux_lemma =>
     have bx:=KP.out.below hS KP.out.lt
     obtain ⟨c0,c1,c2,c3⟩:=bx.p0.1
     obtain ⟨c4,c5,c6,c7⟩:=bx.p1.1
     obtain ⟨c8,c9,c10,c11⟩:=bx.p2.1
     go_simp
     exact hK.out _ w' hS (Below.refl _ _) isV.put (fun h=>absurd h (by decide))
    refine OpsOk.cons (i:=1) rfl (fun y w' hS hD K hK=>?_) ?_
    ·as_aux_lemma =>
     have bx:=KF.out.below hS KF.out.lt
     obtain ⟨c0,c1,c2,c3⟩:=bx.p0.1
     obtain ⟨c4,c5,c6,c7⟩:=bx.p1.1
     obtain ⟨c8,c9,c10,c11⟩:=bx.p2.1
     go_simp
     exact hK.out _ w' hS (Below.refl _ _) isV.put (fun h=>absurd h (by decide))
    refine OpsOk.cons (i:=2) rfl (fun y w' hS hD K hK=>?_) ?_
    ·as_aux_lemma =>
     have e0:y 0=.agg #[.bool p0.s,.slice p0.a p0.n p0.c,.bool p0.t,.slice p0.b p0.m p0.d,.bool p1.s,.slice p1.a p1.n p1.c,.bool p1.t,.slice p1.b p1.m p1.d,.bool p2.s,.slice p2.a p2.n p2.c,.bool p2.t,.slice p2.b p2.m p2.d]:=isV.get (i:=0) (c:=.agg #[.bool p0.s,.slice p0.a p0.n p0.c,.bool p0.t,.slice p0.b p0.m p0.d,.bool p1.s,.slice p1.a p1.n p1.c,.bool p1.t,.slice p1.b p1.m p1.d,.bool p2.s,.slice p2.a p2.n p2.c,.bool p2.t,.slice p2.b p2.m p2.d]) (hD 0 (by kernel_rfl))
     have e1:y 1=.agg #[.bool n0.s,.slice n0.a n0.n n0.c,.bool n0.t,.slice n0.b n0.m n0.d,.bool n1'.s,.slice n1'.a n1'.n n1'.c,.bool n1'.t,.slice n1'.b n1'.m n1'.d,.bool n2'.s,.slice n2'.a n2'.n n2'.c,.bool n2'.t,.slice n2'.b n2'.m n2'.d]:=isV.get (i:=1) (c:=.agg #[.bool n0.s,.slice n0.a n0.n n0.c,.bool n0.t,.slice n0.b n0.m n0.d,.bool n1'.s,.slice n1'.a n1'.n n1'.c,.bool n1'.t,.slice n1'.b n1'.m n1'.d,.bool n2'.s,.slice n2'.a n2'.n n2'.c,.bool n2'.t,.slice n2'.b n2'.m n2'.d]) (hD 1 (by kernel_rfl))
     simp only [e0,e1] at hK ⊢
     go_simp
     refine (VDot_any _ _ n (qAt qs i) l k w' (HVP2.out.below hS) (HVN.out.below hS) HBP.out HBN.out (by omega)).mono ?_
     rintro e w'' ⟨⟨v,rfl,hv⟩,hb⟩
     exact hK.out v w'' (below_call hS hb (Nat.le_refl _)) hb (isP.put hv) (fun h=>absurd h (by decide))
    refine OpsOk.cons (i:=3) rfl (fun y w' hS hD K hK=>?_) ?_
    ·as_aux_lemma =>
     have bx:=KH.out.below hS KH.out.lt
     obtain ⟨c0,c1,c2,c3⟩:=bx.at1.1
     go_simp
     exact hK.out _ w' hS (Below.refl _ _) isV.put (fun h=>absurd h (by decide))
    refine OpsOk.cons (i:=4) rfl (fun y w' hS hD K hK=>?_) ?_
    ·as_aux_lemma =>
     have e2:=isP.get (i:=2) (p:=fun v w=>IsRat w v (qdot n (qAt qs i))) (hD 2 (by kernel_rfl))
     have e3:y 3=.agg #[.bool hr.s,.slice hr.a hr.n hr.c,.bool hr.t,.slice hr.b hr.m hr.d]:=isV.get (i:=3) (c:=.agg #[.bool hr.s,.slice hr.a hr.n hr.c,.bool hr.t,.slice hr.b hr.m hr.d]) (hD 3 (by kernel_rfl))
     simp only [e3] at hK ⊢
     go_simp
     refine (RCompare_any _ _ (qdot n (qAt qs i)) hi (3*(l+k+1)+1) (3*(l+k+1)+1) w' e2 (HRO.out.below hS) HBD.out HBO.out (by omega)).mono ?_
     rintro e w'' ⟨rfl,hb⟩
     exact hK.out _ w'' (below_call hS hb (Nat.le_refl _)) hb isV.put (fun h=>absurd h (by decide))
    refine OpsOk.cons (i:=5) rfl (fun y w' hS hD K hK=>?_) ?_
    ·as_aux_lemma =>
     have e4:y 4=.int .i64 (cmpR (qdot n (qAt qs i)) hi):=isV.get (i:=4) (c:=.int .i64 (cmpR (qdot n (qAt qs i)) hi)) (hD 4 (by kernel_rfl))
     simp only [e4] at hK ⊢
     go_simp
     exact hK.out _ w' hS (Below.refl _ _) isV.put (fun h=>absurd h (by decide))
    exact OpsOk.nil
   case hend =>
    intro y w' hS hR hF
    have e5:y 5=.bool (decide (cmpR (qdot n (qAt qs i)) hi=0)):=isV.get (i:=5) (c:=.bool (decide (cmpR (qdot n (qAt qs i)) hi=0))) (hR 5 (by kernel_rfl))
    simp only [e5]
    refine wpAny_over (by kernel_rfl) ?_
    have HB6:=Lib.hid (below_call HBC.out hS (Nat.le_refl _))
    have HB7:=Lib.hid (show Below wk.heap.size wk w' from below_call hBc1.out hS (Nat.le_refl _))
    clear hS hR hF e5
    by_cases heq:cmpR (qdot n (qAt qs i)) hi=0
    ·have hd:decide (cmpR (qdot n (qAt qs i)) hi=0)=true:=decide_eq_true heq
     rw [hd]
     have HC6:=Lib.hid (cmpR_zero.mp heq)
     have HO6:=Lib.hid (own_below HO.out HB7.out)
     have hbs:W2.heap.size≤w'.heap.size:=HB6.out.size
     have HBS:=Lib.hid hbs
     have hol:=(Nat.le_trans (List.length_filter_le _ _) (Nat.le_of_eq (List.length_range (n:=i))):(supK qs n hi i).length≤i)
     have HOL:=Lib.hid hol
     clear heq hd hbs hol
     go_wp2_with (at_builtin;refine wpList_append_own _ rfl _ _ 43 rfl W2.heap.size 3 i0 (.int .i64 0) 1 8 Tryz.underlying43 hinf hz0 hz1 hz2 rfl (by decide) _ _ _ rfl (World.ownsRow.alloc HO6.out _) ⟨w'.heap.size,0,none⟩ 1 1 [.int .i64 (i:Nat)] rfl rfl (fun j u hj=>cell_new w' _ _ j u hj) (by intro u hu;simp at hu;rcases hu with rfl;rfl) (by have:=HOL.out;unfold maxLen;omega) (by have:=HOL.out;omega) (by have:=HBS.out;simp;omega) ?_)
     intro v' w6 hown' hgrow6 _
     have hge:=own_ge HO6.out
     have HO7:=Lib.hid (show OwnN w6 W2.heap.size v' (supK qs n hi (i+1)) from by
      rw [supK_on HC6.out]
      unfold OwnN
      rw [List.length_append,List.map_append]
      exact hown')
     have HB8:=Lib.hid (show Below W2.heap.size W2 w6 from (HB6.out.alloc HBS.out _).grown hgrow6 (by have:=HBS.out;simp;omega) (fun g hg=>hge g hg))
     clear hown' hgrow6 hge
     go_wp2
     go_round
     case rel=>exact ⟨i+1,_,rfl,by omega,rfl,HO7.out,HB8.out⟩
     case measure=>show N - ((i:Int)+1).toNat<N - (i:Int).toNat;omega
    ·have hd:decide (cmpR (qdot n (qAt qs i)) hi=0)=false:=decide_eq_false heq
     rw [hd]
     have HC6:=Lib.hid (fun h=>heq (cmpR_zero.mpr h))
     have HO6:=Lib.hid (own_below HO.out HB7.out)
     clear heq hd
     go_wp2
     go_round
     case rel=>exact ⟨i+1,_,rfl,by omega,rfl,by rw [supK_off HC6.out];exact HO6.out,HB6.out⟩
     case measure=>show N - ((i:Int)+1).toNat<N - (i:Int).toNat;omega
end Go.Proofs.YtaibkpbklfodiaaGreatDoor
end
section
namespace Dowel
open V Go Go.RowKit
theorem qAt_ptsQ {P:Nat→V} {len i:Nat} (h:i<len):qAt (ptsQ P len) i=ptQ (P i):=by rw [qAt_pts,if_pos h]
structure ExtZ (P:Nat→V) (len:Nat) (n:V) (k:Nat) (le mo:Int):Prop where
 zero:k=0→le=dot n (P 0)∧mo=dot n (P 0)
 pos:0<k→extK (ptsQ P len) (ptQ n) k=((le:Rat),(mo:Rat))
 max:∀ j,j<k→dot n (P j)≤mo
theorem ExtZ.step {P:Nat→V} {len:Nat} {n:V} {k:Nat} {le mo:Int} (h:ExtZ P len n k le mo) (hk:k<len):ExtZ P len n (k+1) (min le (dot n (P k))) (if mo<dot n (P k) then dot n (P k) else mo) where
 zero:=fun e=>by omega
 pos:=fun _=>by
  unfold extK
  rw [qAt_ptsQ hk,qdot_pt]
  by_cases h0:k=0
  ·obtain ⟨h1,h2⟩:=h.zero h0
   subst h0
   rw [if_pos (.inl rfl),if_pos (.inl rfl),h1,h2]
   simp
  ·rw [h.pos (by omega)]
   dsimp only
   congr 1
   ·by_cases hc:dot n (P k)<le
    ·rw [if_pos (.inr (by exact_mod_cast hc)),show min le (dot n (P k))=dot n (P k) by omega]
    ·rw [if_neg (by
      rintro (h | h)
      ·exact h0 h
      ·exact hc (by exact_mod_cast h)),show min le (dot n (P k))=le by omega]
   ·by_cases hc:mo<dot n (P k)
    ·rw [if_pos (.inr (by exact_mod_cast hc)),if_pos hc]
    ·rw [if_neg (by
      rintro (h | h)
      ·exact h0 h
      ·exact hc (by exact_mod_cast h)),if_neg hc]
 max:=fun j hj=>by
  by_cases e:j=k
  ·subst e;split <;> omega
  ·have:=h.max j (by omega);split <;> omega
theorem supK_none {P:Nat→V} {len:Nat} {n:V} {k:Nat} {x:Int} (hk:k≤len) (h:∀ j,j<k→dot n (P j)<x):supK (ptsQ P len) (ptQ n) (x:Rat) k=[]:=by
 unfold supK
 refine List.filter_eq_nil_iff.mpr fun j hj=>?_
 have hj:=List.mem_range.mp hj
 rw [decide_eq_true_eq,qAt_ptsQ (by omega),qdot_pt]
 intro e
 have:dot n (P j)=x:=by exact_mod_cast e
 have:=h j hj
 omega
end Dowel
namespace Go.Proofs.YtaibkpbklfodiaaGreatDoor
open Go.RowKit Dowel
set_option maxRecDepth 100000 in
set_option maxHeartbeats 8000000 in
theorem cellExtents_any (hkn:∀ v,Tab v→Calls Tryz.prog 10 #[] v fun e w'=>e=.returned (.bool true)∧Below v.heap.size v w') (a:Option Addr) (al cap:Nat) (T:Nat→V) (n:V) (w:World) (hT:Tab w) (hP:Pts8 w a al cap T) (hn:LeV 128 n) :
  Calls Tryz.prog 6 #[.slice a al cap,.agg #[.int .i8 n.x,.int .i8 n.y,.int .i8 n.z]] w fun e w'=>e=.returned (.bool true)∧Below w.heap.size w w':=by
 obtain ⟨i0,hinf,hz0,hz1,hz2⟩:=info_parts infoIn
 obtain ⟨W,hW,b1,hB,hS⟩:=boxes1 w #[.int .i8 n.x,.int .i8 n.y,.int .i8 n.z] 38
 have HKN:=Lib.hid hkn
 have HT:=Lib.hid hT
 have HB:=Lib.hid hB
 have HS:=Lib.hid hS
 have B1:=Lib.hid b1
 have HN:=Lib.hid hn
 have HPT:=Lib.hid (hP.below hB (Nat.le_refl _))
 have KT:Hid (∀ w',Below w.heap.size w w'→Tab w'):=fun w' h=>HT.out.below h HT.out.1
 clear hkn hT hB hS b1 hn hP
 go_enter Tryz.func6,Tryz.ntmps6
 go_wp2_with fail
 refine (solid_any a al cap T W HPT.out).mono ?_
 rintro e w1 ⟨⟨pp,len,pc,ok,rfl,hok⟩,hb1⟩
 have HOK:=Lib.hid hok
 have L1:=Lib.hid (below_call HB.out hb1 (by have:=HS.out;omega))
 have C1:=Lib.hid (B1.out.below hb1 B1.out.lt)
 have SZ1:=Lib.hid hb1.size
 clear hok hb1
 go_upto_region 2 with fail
 obtain ⟨w2,hw2,b2,hb2,hs2⟩:=boxes1 w1 #[.slice pp len pc] 24
 rw [hw2]
 have H12:=Lib.hid hb2
 have L2:=Lib.hid (below_call L1.out hb2 (Nat.le_refl _))
 have C2:=Lib.hid (C1.out.below hb2 C1.out.lt)
 have D2:=Lib.hid b2
 clear hw2 b2 hb2 hs2
 go_wp2_with fail
 refine (HKN.out w2 (KT.out w2 L2.out)).mono ?_
 rintro e w3 ⟨rfl,hb3⟩
 have H23:=Lib.hid hb3
 have L3:=Lib.hid (below_call L2.out hb3 (Nat.le_refl _))
 have C3:=Lib.hid (C2.out.below hb3 C2.out.lt)
 have D3:=Lib.hid (D2.out.below hb3 D2.out.lt)
 clear hb3
 cases ok
 case false =>
  go_wp2_with fail
  refine (HKN.out w3 (KT.out w3 L3.out)).mono ?_
  rintro e w4 ⟨rfl,hb4⟩
  have L4:=Lib.hid (below_call L3.out hb4 (Nat.le_refl _))
  go_wp2_with fail
  go_ret
  exact ⟨rfl,L4.out⟩
 case true =>
  obtain ⟨hH,hO,hN⟩:=HOK.out rfl
  have HO3:=Lib.hid ((hO.below H12.out).below H23.out)
  have HH:=Lib.hid hH
  obtain ⟨Q,hQ⟩:∃ Q,ptsT T al=Q:=⟨_,rfl⟩
  obtain ⟨M,hM⟩:∃ M,min al 10=M:=⟨_,rfl⟩
  rw [hQ,hM] at HO3 HH hN
  clear hH hO HOK hQ hM
  have HSH:=Lib.hid (fun v (h:Below w3.heap.size w3 v)=>hull_shape Q M _ (.slice pp len pc) v (KT.out v (below_call L3.out h (Nat.le_refl _))) HH.out (HO3.out.below h) hN)
  have hV:=HH.out.valid (by omega)
  obtain ⟨L,hL⟩:∃ L,hullR Q M=L:=⟨_,rfl⟩
  rw [hL] at HO3 HSH hN hV
  obtain ⟨P,hP'⟩:∃ P,ofL L=P:=⟨_,rfl⟩
  obtain ⟨pa,pcc,e,hpts⟩:=OwnV.pts HO3.out
  rw [hP'] at HSH hpts hV
  obtain ⟨len',hlen⟩:∃ len',L.length=len':=⟨_,rfl⟩
  rw [hlen] at HSH hpts hN hV e
  cases e
  have HV:=Lib.hid hV
  have HPS:=Lib.hid hpts
  have h4:=hV.four
  clear hV hpts hL hP' HO3 HH
  obtain ⟨s0,-⟩:=D3.out.one
  go_wp2_with fail
  refine (HSH.out w3 (Below.refl _ _)).mono ?_
  rintro e w4 ⟨⟨v0,v1,v2,fs,E,vrs,frs,es,rfl,hsh⟩,hb4⟩
  obtain ⟨⟨pv,cv,rfl⟩,⟨pf,cf,rfl⟩,⟨pe,ce,rfl⟩⟩:=hsh.forms
  obtain ⟨nf,hnf⟩:∃ nf,frs.length=nf:=⟨_,rfl⟩
  obtain ⟨ne,hne⟩:∃ ne,es.length=ne:=⟨_,rfl⟩
  rw [hnf,hne] at hsh ⊢
  have HSP:=Lib.hid hsh
  have L4:=Lib.hid (below_call L3.out hb4 (Nat.le_refl _))
  have C4:=Lib.hid (C3.out.below hb4 C3.out.lt)
  have D4:=Lib.hid (D3.out.below hb4 D3.out.lt)
  have PS4:=Lib.hid (HPS.out.below hb4)
  clear hsh hb4 hnf hne HSH HPS s0
  go_upto_region 5 with fail
  obtain ⟨wa,hwa,ba,hba,hsa⟩:=boxes1 w4 #[.slice pv len cv,.slice pf nf cf,.slice pe ne ce] 32
  rw [hwa]
  have La:=Lib.hid (below_call L4.out hba (Nat.le_refl _))
  have Ca:=Lib.hid (C4.out.below hba C4.out.lt)
  have Da:=Lib.hid (D4.out.below hba D4.out.lt)
  have PSa:=Lib.hid (PS4.out.below hba)
  have Sa:=Lib.hid ba
  have SPa:=Lib.hid (HSP.out.below hba)
  clear hwa ba hba hsa
  have hn1:=HN.out.1;have hn2:=HN.out.2.1;have hn3:=HN.out.2.2
  unfold Le at hn1 hn2 hn3
  have kw1:IntKind.i64.wrap n.x=n.x:=IntWalk.i64_in _ (by omega)
  have kw2:IntKind.i64.wrap n.y=n.y:=IntWalk.i64_in _ (by omega)
  have kw3:IntKind.i64.wrap n.z=n.z:=IntWalk.i64_in _ (by omega)
  obtain ⟨u0,u1,u2,-⟩:=Ca.out.three
  go_upto_region 6 with fail
  obtain ⟨wb',hwb,bb,hbb,hsb⟩:=boxes1 wa #[.int .i64 n.x,.int .i64 n.y,.int .i64 n.z] 46
  rw [hwb]
  have Lb:=Lib.hid (below_call La.out hbb (Nat.le_refl _))
  have Db:=Lib.hid (Da.out.below hbb Da.out.lt)
  have PSb:=Lib.hid (PSa.out.below hbb)
  have Sb:=Lib.hid (Sa.out.below hbb Sa.out.lt)
  have SPb:=Lib.hid (SPa.out.below hbb)
  have Nb:=Lib.hid bb
  clear hwb bb hbb hsb kw1 kw2 kw3 hn1 hn2 hn3 u0 u1 u2
  have HDT:=Lib.hid (fun v=>rdot_any n (P 0) 128 4096 v HN.out ((HV.out.sorted.near 0 (by omega)).le) (by omega))
  obtain ⟨x0,hx0⟩:∃ x0,V.dot n (P 0)=x0:=⟨_,rfl⟩
  rw [hx0] at HDT
  have HX0:=Lib.hid hx0
  have HLX:=Lib.hid (show Le 1572864 x0 from by rw [← hx0];exact (HN.out.dot ((HV.out.sorted.near 0 (by omega)).le)).mono (by omega))
  clear hx0
  obtain ⟨b,off,rfl,hb,hc,hcc⟩:=PSb.out.cells (by omega)
  have hq:=hcc 0 (by omega)
  obtain ⟨p0,hp0⟩:∃ p0,P 0=p0:=⟨_,rfl⟩
  rw [hp0] at HDT hq
  simp only [Nat.zero_mul,Nat.add_zero] at hq
  obtain ⟨q0,q1,q2⟩:=hq
  obtain ⟨u0,u1,u2,-⟩:=Nb.out.three
  obtain ⟨s0,-⟩:=Db.out.one
  have hlp:(0:Int)<(len:Int):=by omega
  have hdl:=Db.out.lt
  have hnl:=Nb.out.lt
  have K0:=fun x:Later wb'.heap.size wb'=>keepC q0 x.h hb
  have K1:=fun x:Later wb'.heap.size wb'=>keepC q1 x.h hb
  have K2:=fun x:Later wb'.heap.size wb'=>keepC q2 x.h hb
  have K3:=fun x:Later wb'.heap.size wb'=>keepC u0 x.h hnl
  have K4:=fun x:Later wb'.heap.size wb'=>keepC u1 x.h hnl
  have K5:=fun x:Later wb'.heap.size wb'=>keepC u2 x.h hnl
  have K6:=fun x:Later wb'.heap.size wb'=>keepC s0 x.h hdl
  clear hcc q0 q1 q2 u0 u1 u2 s0 hp0
  go_wp2_with fail
  refine wp_region_later (Below.refl wb'.heap.size wb') (by kernel_rfl) (by kernel_rfl) ?_
  repeat (first
   | go_big_quiet_skip
   | (go_big_quiet_want;go_big_quiet_op;first | go_big_quiet_on | go_big_quiet_call ((go_at_call 16;exact Calls.later (Nat.le_refl _) (HDT.out _)))))
  refine wpQuiet_nil ?_
  intro w7 hw'
  obtain ⟨x,hx⟩:=hw'
  have Hb7:=Lib.hid (show Below wb'.heap.size wb' w7 from by rw [hx];exact x.h)
  clear hx x K0 K1 K2 K3 K4 K5 K6 HDT hdl hnl
  have L7:=Lib.hid (below_call Lb.out Hb7.out (Nat.le_refl _))
  have D7:=Lib.hid (Db.out.below Hb7.out Db.out.lt)
  have PS7:=Lib.hid (PSb.out.below Hb7.out)
  have S7:=Lib.hid (Sb.out.below Hb7.out Sb.out.lt)
  have SP7:=Lib.hid (SPb.out.below Hb7.out)
  have N7:=Lib.hid (Nb.out.below Hb7.out Nb.out.lt)
  go_wp2_with fail
  go_loopw [10,11,12,13] (fun lv mv ov' iv wr=>∃ k ov le mo,ov=ov'∧lv=.int .i64 le∧mv=.int .i64 mo∧k≤len∧iv=.int .i64 (k:Nat)∧Hid (ExtZ P len n k le mo)∧Hid (Le 1572864 le∧Le 1572864 mo)∧Hid (OwnN wr w7.heap.size ov (supK (ptsQ P len) (ptQ n) (mo:Rat) k))∧Hid (Below w7.heap.size w7 wr)) (fun _ _ _ iv _=>len - (intOf iv).toNat)
  case atStart=>exact ⟨0,_,x0,x0,rfl,rfl,rfl,Nat.zero_le _,rfl,⟨fun _=>⟨HX0.out.symm,HX0.out.symm⟩,fun h=>by omega,fun j h=>by omega⟩,⟨HLX.out,HLX.out⟩,World.ownsRow_nil _ _ _ _,Below.refl _ _⟩
  case round =>
   obtain ⟨k,ov,le,mo,rfl,rfl,rfl,hk,rfl,HZ,HLM,HO,HR⟩:=hrel
   obtain ⟨wk,rfl⟩:∃ wk,wk=wr:=⟨_,rfl⟩
   have L8:=Lib.hid (below_call L7.out HR.out (Nat.le_refl _))
   have D8:=Lib.hid (D7.out.below HR.out D7.out.lt)
   have N8:=Lib.hid (N7.out.below HR.out N7.out.lt)
   obtain ⟨s0,-⟩:=D8.out.one
   by_cases h0:k=len
   ·have hnl:¬ (k:Int)<(len:Int):=by omega
    have H0:=Lib.hid h0
    clear h0
    have PS8:=Lib.hid (PS7.out.below HR.out)
    have S8:=Lib.hid (S7.out.below HR.out S7.out.lt)
    have SP8:=Lib.hid (SP7.out.below HR.out)
    go_upto_region 17 with fail
    obtain ⟨w5,rfl⟩:∃ w5,w5=wk:=⟨_,rfl⟩
    obtain ⟨lo,hlo⟩:∃ lo:Rat,((le:Int):Rat)=lo:=⟨_,rfl⟩
    obtain ⟨hi,hhi⟩:∃ hi:Rat,((mo:Int):Rat)=hi:=⟨_,rfl⟩
    have hex:=HZ.out.pos (by have:=H0.out;omega)
    rw [H0.out,hlo,hhi] at hex
    have HLO:=Lib.hid (show (extK (ptsQ P len) (ptQ n) len).1=lo from by rw [hex])
    have HHI:=Lib.hid (show (extK (ptsQ P len) (ptQ n) len).2=hi from by rw [hex])
    have HPL:=Lib.hid (show (ptsQ P len).length=len from by simp [ptsQ])
    have HKQ:=Lib.hid (show ∀ i,i<(ptsQ P len).length→BdV 2 (qAt (ptsQ P len) i) from fun i hi=>by
     rw [HPL.out] at hi
     rw [qAt_ptsQ hi]
     exact bd_ptQ ((HV.out.sorted.near i hi).le.mono (by omega)))
    have HBN:=Lib.hid (show BdV 2 (ptQ n) from bd_ptQ (HN.out.mono (by omega)))
    have HN9:=Lib.hid (show LeV 9007199254740992 n from HN.out.mono (by omega))
    have HLE:=Lib.hid HLM.out.1
    have HMO:=Lib.hid HLM.out.2
    have hb2:∀ z:Int,Le 1572864 z→Bd 2 ((z:Int):Rat):=fun z hz=>Bd.int z (by unfold B;unfold Le at hz;omega)
    have HBLE:=Lib.hid (hb2 le HLE.out)
    have HBMO:=Lib.hid (hb2 mo HMO.out)
    have HBLO:=Lib.hid (show Bd 9 lo from by rw [← hlo];exact HBLE.out.mono (by omega))
    have HBHI:=Lib.hid (show Bd 9 hi from by rw [← hhi];exact HBMO.out.mono (by omega))
    have HC1:=Lib.hid (show cmpR lo ((le:Int):Rat)=0 from cmpR_zero.mpr hlo.symm)
    have HC2:=Lib.hid (show cmpR hi ((mo:Int):Rat)=0 from cmpR_zero.mpr hhi.symm)
    have HOV:=Lib.hid (show OwnN w5 w7.heap.size ov (supK (ptsQ P len) (ptQ n) hi len) from by
     have h1:=HO.out
     rw [hhi,H0.out] at h1
     exact h1)
    have HSL:=Lib.hid (show (supK (ptsQ P len) (ptQ n) hi len).length≤len from Nat.le_trans (List.length_filter_le _ _) (Nat.le_of_eq (List.length_range (n:=len))))
    have HVS:=Lib.hid SP8.out.vs
    have KS:=Lib.hid S8.out
    have KN:=Lib.hid N8.out
    clear hlo hhi hex hb2 s0
    refine wp_region_s Sh4 9 56 (rest:=1) [isV 0 (.agg #[.slice pv len cv,.slice pf nf cf,.slice pe ne ce]),isV 1 (.agg #[.int .i64 n.x,.int .i64 n.y,.int .i64 n.z]),isP 2 (fun v w=>IsVec w v (ptQ n)),isP 3 (fun v w=>∃ lr hr:RC,v=.tuple #[.agg #[.bool lr.s,.slice lr.a lr.n lr.c,.bool lr.t,.slice lr.b lr.m lr.d],.agg #[.bool hr.s,.slice hr.a hr.n hr.c,.bool hr.t,.slice hr.b hr.m hr.d]]∧IsRat w lr.agg lo∧IsRat w hr.agg hi),isP 4 (fun v w=>∃ lr hr:RC,v=.tuple #[.agg #[.bool lr.s,.slice lr.a lr.n lr.c,.bool lr.t,.slice lr.b lr.m lr.d],.agg #[.bool hr.s,.slice hr.a hr.n hr.c,.bool hr.t,.slice hr.b hr.m hr.d]]∧IsRat w lr.agg lo∧IsRat w hr.agg hi),isP 5 (fun v w=>∃ lr:RC,v=.agg #[.bool lr.s,.slice lr.a lr.n lr.c,.bool lr.t,.slice lr.b lr.m lr.d]∧IsRat w lr.agg lo),isP 6 (fun v w=>∃ hr:RC,v=.agg #[.bool hr.s,.slice hr.a hr.n hr.c,.bool hr.t,.slice hr.b hr.m hr.d]∧IsRat w hr.agg hi),isP 7 (Room Sh4 w5.heap.size 56),isP 8 (Room Sh4 w5.heap.size 56),isS 7 w5.heap.size 56 (fun cs w=>∃ r,cs=cells1 r∧IsRat w r.agg (lo))] [7,8] ?A17 #[true,true,true,true,true,true,true,true,true,true,false] (by kernel_rfl) [0,1,2,3,4,5,6,7,8,9] (by kernel_rfl) (by kernel_rfl) (by kernel_rfl) (by kernel_rfl) (by kernel_rfl) (by kernel_rfl) ?st ?st2 ?hA ?hop ?hend
    case hA =>
     intro y
     simp only [putAll,dstOf,List.getElem?_toArray,List.getElem?_cons_zero,List.getElem?_cons_succ,Option.bind_some,Act.put,List.setIfInBounds_toArray,List.set_cons_zero,List.set_cons_succ]
     exact rfl
    case st=>exact StabL.cons isV.stab (StabL.cons isV.stab (StabL.cons (isP.stab (fun _ _ _ h hv=>hv.below h)) (StabL.cons (isP.stab (fun _ _ _ h ⟨lr,hr,e,h1,h2⟩=>⟨lr,hr,e,h1.below h,h2.below h⟩)) (StabL.cons (isP.stab (fun _ _ _ h ⟨lr,hr,e,h1,h2⟩=>⟨lr,hr,e,h1.below h,h2.below h⟩)) (StabL.cons (isP.stab (fun _ _ _ h ⟨r,e,h1⟩=>⟨r,e,h1.below h⟩)) (StabL.cons (isP.stab (fun _ _ _ h ⟨r,e,h1⟩=>⟨r,e,h1.below h⟩)) (StabL.cons (isP.stab Room.stab) (StabL.cons (isP.stab Room.stab) (StabL.cons (isS.stab (fun _ _ _ h ⟨r,e,hr⟩=>⟨r,e,hr.below h⟩)) (StabL.nil))))))))))
    case st2=>exact StabWL.cons isV.stabW (StabWL.cons isV.stabW (StabWL.cons (isP.stabW (isVec_stabW (by decide))) (StabWL.cons (isP.stabW (fun _ _ _ h ⟨lr,hr,e,h1,h2⟩=>⟨lr,hr,e,isRat_stabW (by decide) _ _ _ h h1,isRat_stabW (by decide) _ _ _ h h2⟩)) (StabWL.cons (isP.stabW (fun _ _ _ h ⟨lr,hr,e,h1,h2⟩=>⟨lr,hr,e,isRat_stabW (by decide) _ _ _ h h1,isRat_stabW (by decide) _ _ _ h h2⟩)) (StabWL.cons (isP.stabW (fun _ _ _ h ⟨r,e,h1⟩=>⟨r,e,isRat_stabW (by decide) _ _ _ h h1⟩)) (StabWL.cons (isP.stabW (fun _ _ _ h ⟨r,e,h1⟩=>⟨r,e,isRat_stabW (by decide) _ _ _ h h1⟩)) (StabWL.cons (isP.stabW Room.stabW) (StabWL.cons (isP.stabW Room.stabW) (StabWL.cons (isN.stabW (i:=0)) (StabWL.nil))))))))))
    case hop =>
     refine OpsOk.cons (i:=0) rfl (fun y w' hS hD K hK=>?_) ?_
     ·as_aux_lemma =>
      have bx:=KS.out.below hS KS.out.lt
      obtain ⟨c0,c1,c2,-⟩:=bx.three
      go_simp
      exact hK.out _ w' hS (StepS.old (Below.refl _ _)) isV.put (fun h=>absurd h (by decide))
     refine OpsOk.cons (i:=1) rfl (fun y w' hS hD K hK=>?_) ?_
     ·as_aux_lemma =>
      have bx:=KN.out.below hS KN.out.lt
      obtain ⟨c0,c1,c2,-⟩:=bx.three
      go_simp
      exact hK.out _ w' hS (StepS.old (Below.refl _ _)) isV.put (fun h=>absurd h (by decide))
     refine OpsOk.cons (i:=2) rfl (fun y w' hS hD K hK=>?_) ?_
     ·as_aux_lemma =>
      have e1:y 1=.agg #[.int .i64 n.x,.int .i64 n.y,.int .i64 n.z]:=isV.get (i:=1) (c:=.agg #[.int .i64 n.x,.int .i64 n.y,.int .i64 n.z]) (hD 1 (by kernel_rfl))
      simp only [e1] at hK ⊢
      go_simp
      refine (VOf_any n w' HN9.out).mono ?_
      rintro e w'' ⟨⟨v,rfl,hv⟩,hb⟩
      exact hK.out v w'' (below_call hS hb (Nat.le_refl _)) (StepS.old hb) (isP.put hv) (fun h=>absurd h (by decide))
     refine OpsOk.cons (i:=3) rfl (fun y w' hS hD K hK=>?_) ?_
     ·as_aux_lemma =>
      have e0:y 0=.agg #[.slice pv len cv,.slice pf nf cf,.slice pe ne ce]:=isV.get (i:=0) (c:=.agg #[.slice pv len cv,.slice pf nf cf,.slice pe ne ce]) (hD 0 (by kernel_rfl))
      have e2:=isP.get (i:=2) (p:=fun v w=>IsVec w v (ptQ n)) (hD 2 (by kernel_rfl))
      simp only [e0] at hK ⊢
      go_simp
      refine (extent_any _ _ _ _ (ptsQ P len) vrs (ptQ n) _ 2 2 w' (HVS.out.below hS) HKQ.out e2 HBN.out (by omega) (by rw [HPL.out];omega)).mono ?_
      rintro e w'' ⟨⟨lr,hr,rfl,h1,h2⟩,hb⟩
      exact hK.out _ w'' (below_call hS hb (Nat.le_refl _)) (StepS.old hb) (isP.put ⟨lr,hr,rfl,by rw [HPL.out,HLO.out] at h1;exact h1,by rw [HPL.out,HHI.out] at h2;exact h2⟩) (fun h=>absurd h (by decide))
     refine OpsOk.cons (i:=4) rfl (fun y w' hS hD K hK=>?_) ?_
     ·as_aux_lemma =>
      have e3:=isP.get (i:=3) (p:=fun v w=>∃ lr hr:RC,v=.tuple #[.agg #[.bool lr.s,.slice lr.a lr.n lr.c,.bool lr.t,.slice lr.b lr.m lr.d],.agg #[.bool hr.s,.slice hr.a hr.n hr.c,.bool hr.t,.slice hr.b hr.m hr.d]]∧IsRat w lr.agg lo∧IsRat w hr.agg hi) (hD 3 (by kernel_rfl))
      obtain ⟨lr,hr,eq,h1,h2⟩:=e3
      simp only [eq] at hK ⊢
      go_simp
      exact hK.out _ w' hS (StepS.old (Below.refl _ _)) (isP.put ⟨lr,hr,rfl,h1,h2⟩) (fun h=>absurd h (by decide))
     refine OpsOk.cons (i:=5) rfl (fun y w' hS hD K hK=>?_) ?_
     ·as_aux_lemma =>
      have e4:=isP.get (i:=4) (p:=fun v w=>∃ lr hr:RC,v=.tuple #[.agg #[.bool lr.s,.slice lr.a lr.n lr.c,.bool lr.t,.slice lr.b lr.m lr.d],.agg #[.bool hr.s,.slice hr.a hr.n hr.c,.bool hr.t,.slice hr.b hr.m hr.d]]∧IsRat w lr.agg lo∧IsRat w hr.agg hi) (hD 4 (by kernel_rfl))
      obtain ⟨lr,hr,eq,h1,h2⟩:=e4
      simp only [eq] at hK ⊢
      go_simp
      exact hK.out _ w' hS (StepS.old (Below.refl _ _)) (isP.put ⟨lr,rfl,h1⟩) (fun h=>absurd h (by decide))
     refine OpsOk.cons (i:=6) rfl (fun y w' hS hD K hK=>?_) ?_
     ·as_aux_lemma =>
      have e4:=isP.get (i:=4) (p:=fun v w=>∃ lr hr:RC,v=.tuple #[.agg #[.bool lr.s,.slice lr.a lr.n lr.c,.bool lr.t,.slice lr.b lr.m lr.d],.agg #[.bool hr.s,.slice hr.a hr.n hr.c,.bool hr.t,.slice hr.b hr.m hr.d]]∧IsRat w lr.agg lo∧IsRat w hr.agg hi) (hD 4 (by kernel_rfl))
      obtain ⟨lr,hr,eq,h1,h2⟩:=e4
      simp only [eq] at hK ⊢
      go_simp
      exact hK.out _ w' hS (StepS.old (Below.refl _ _)) (isP.put ⟨hr,rfl,h2⟩) (fun h=>absurd h (by decide))
     refine OpsOk.cons (i:=7) rfl (fun y w' hS hD K hK=>?_) ?_
     ·as_aux_lemma =>
      go_simp
      exact hK.out _ _ (hS.alloc hS.size _) (StepS.old ((Below.refl _ _).alloc (Nat.le_refl _) _)) (isP.put ⟨_,_,rfl,hS.size,sh4 RC.zero,Box.new _ _ _ _ rfl⟩) (fun _ j hj hne hr=>by
    have hj':j=7∨j=8:=by simpa using hj
    rcases hj' with rfl | rfl
    ·exact absurd rfl hne
    ·obtain ⟨g,_,e,h1,_,h2⟩:=isP.get (i:=8) (p:=Room Sh4 w5.heap.size 56) hr
     rw [e];intro h;cases h;exact absurd h2.lt (Nat.lt_irrefl _))
     refine OpsOk.cons (i:=8) rfl (fun y w' hS hD K hK=>?_) ?_
     ·as_aux_lemma =>
      go_simp
      exact hK.out _ _ (hS.alloc hS.size _) (StepS.old ((Below.refl _ _).alloc (Nat.le_refl _) _)) (isP.put ⟨_,_,rfl,hS.size,sh4 RC.zero,Box.new _ _ _ _ rfl⟩) (fun _ j hj hne hr=>by
    have hj':j=7∨j=8:=by simpa using hj
    rcases hj' with rfl | rfl
    ·obtain ⟨g,_,e,h1,_,h2⟩:=isP.get (i:=7) (p:=Room Sh4 w5.heap.size 56) hr
     rw [e];intro h;cases h;exact absurd h2.lt (Nat.lt_irrefl _)
    ·exact absurd rfl hne)
     refine OpsOk.cons (i:=9) rfl (fun y w' hS hD K hK=>?_) ?_
     ·as_aux_lemma =>
      have e5:=isP.get (i:=5) (p:=fun v w=>∃ lr:RC,v=.agg #[.bool lr.s,.slice lr.a lr.n lr.c,.bool lr.t,.slice lr.b lr.m lr.d]∧IsRat w lr.agg lo) (hD 5 (by kernel_rfl))
      have eb:=isP.get (i:=7) (p:=Room Sh4 w5.heap.size 56) (hD 7 (by kernel_rfl))
      obtain ⟨ga,_,ea,hga,⟨s0,rfl⟩,bga⟩:=eb
      obtain ⟨r,er,hr⟩:=e5
      simp only [er,ea] at hK ⊢
      obtain ⟨-,f0,f1,f2,f3⟩:=bga.at1
      obtain ⟨c0,c1,c2,c3⟩:=bga.at1.1
      go_simp
      exact hK.out undef (put4 w' ga 0 r) (below_put4 hS hga _ _) (StepS.new (Wr.put4 hga bga _)) (isS.put (by decide) ea hga (bga.s4 _) ⟨r,rfl,hr.put4 bga.at1 r⟩) (fun h=>absurd h (by decide))
     exact OpsOk.nil
    case hend =>
     intro y w' hS hR hF
     obtain ⟨g7,_,e7,hg7,b7,lr,rfl,h5⟩:=isS.get (i:=7) (n:=w5.heap.size) (t:=56) (p:=fun cs w=>∃ r,cs=cells1 r∧IsRat w r.agg (lo)) (hR 9 (by kernel_rfl))
     obtain ⟨hr,e6,h6⟩:=isP.get (i:=6) (p:=fun v w=>∃ hr:RC,v=.agg #[.bool hr.s,.slice hr.a hr.n hr.c,.bool hr.t,.slice hr.b hr.m hr.d]∧IsRat w hr.agg hi) (hR 6 (by kernel_rfl))
     obtain ⟨g8,_,e8,hg8,⟨s8,rfl⟩,b8⟩:=isP.get (i:=8) (p:=Room Sh4 w5.heap.size 56) (hR 8 (by kernel_rfl))
     have hne:g7≠g8:=fun h=>hF 7 (by simp) 8 (by simp) (by kernel_rfl) (by kernel_rfl) (by decide) (by rw [e7,e8,h])
     simp only [e6,e7,e8]
     obtain ⟨⟨z0,z1,z2,z3⟩,f4,f5,f6,f7⟩:=b8.at1
     refine wpAny_one (i:=10) (listed2:=#[true,true,true,true,true,true,true,true,true,true,true]) (by kernel_rfl) rfl (by kernel_rfl) (fun K hK=>?_)
     go_simp
     refine hK.out _ _ ?_
     clear hK K
     refine wpAny_over (by kernel_rfl) ?_
     change Exit.then _ _ _ _ (put4 w' g8 0 hr)
     have B7:=Lib.hid (b7.oput4 hne 0 hr)
     have B8:=Lib.hid (b8.s4 hr)
     have LR7:=Lib.hid (h5.put4 b8.at1 hr)
     have HR8:=Lib.hid (h6.put4 b8.at1 hr)
     have H56:=below_put4 hS hg8 0 hr
     clear z0 z1 z2 z3 f4 f5 f6 f7 b7 b8 h5 h6 hS hR hF e6 e7 e8
     generalize put4 w' g8 0 hr=w6 at *
     have KS6:=Lib.hid (KS.out.below H56 KS.out.lt)
     have KN6:=Lib.hid (KN.out.below H56 KN.out.lt)
     have HVS6:=Lib.hid (HVS.out.below H56)
     have HO6:=Lib.hid (own_below HOV.out H56)
     have L6:=Lib.hid (below_call L8.out H56 (Nat.le_refl _))
     clear H56 hne hg7 hg8
     go_wp2_with fail
     refine wp_region_b (rest:=0) [isV 0 (.int .i64 0),isV 1 (.bool true),isV 2 (.bool true),isV 3 (.agg #[.bool lr.s,.slice lr.a lr.n lr.c,.bool lr.t,.slice lr.b lr.m lr.d]),isV 4 (.int .i64 le),isP 5 (fun v w=>IsRat w v ((le:Int):Rat)),isV 6 (.int .i64 0),isV 7 (.bool true),isV 8 (.bool true),isV 9 (.bool true),isV 10 (.agg #[.bool hr.s,.slice hr.a hr.n hr.c,.bool hr.t,.slice hr.b hr.m hr.d]),isV 11 (.int .i64 mo),isP 12 (fun v w=>IsRat w v ((mo:Int):Rat)),isV 13 (.int .i64 0),isV 14 (.bool true),isV 15 (.bool true),isV 16 (.bool true),isV 17 (.agg #[.slice pv len cv,.slice pf nf cf,.slice pe ne ce]),isV 18 (.agg #[.int .i64 n.x,.int .i64 n.y,.int .i64 n.z]),isP 19 (fun v w=>IsVec w v (ptQ n)),isP 20 (fun v w=>∃ bs,OwnN w bs v (supK (ptsQ P len) (ptQ n) hi len)),isV 21 (ov),isV 22 (.bool true),isV 23 (.bool true),isV 24 (.bool true)] [] ?A18 #[true,true,true,true,true,true,true,true,true,true,true,true,true,true,true,true,true,true,true,true,true,true,true,true,true] (by kernel_rfl) [0,1,2,3,4,5,6,7,8,9,10,11,12,13,14,15,16,17,18,19,20,21,22,23,24] (by kernel_rfl) (by kernel_rfl) (by kernel_rfl) (by kernel_rfl) (by kernel_rfl) (by kernel_rfl) ?st ?hA ?hop ?hend
     case hA =>
      intro y
      simp only [putAll,dstOf,List.getElem?_toArray,List.getElem?_cons_zero,List.getElem?_cons_succ,Option.bind_some,Act.put,List.setIfInBounds_toArray,List.set_cons_zero,List.set_cons_succ]
      exact rfl
     case st=>exact StabL.cons isV.stab (StabL.cons isV.stab (StabL.cons isV.stab (StabL.cons isV.stab (StabL.cons isV.stab (StabL.cons (isP.stab (fun _ _ _ h hv=>hv.below h)) (StabL.cons isV.stab (StabL.cons isV.stab (StabL.cons isV.stab (StabL.cons isV.stab (StabL.cons isV.stab (StabL.cons isV.stab (StabL.cons (isP.stab (fun _ _ _ h hv=>hv.below h)) (StabL.cons isV.stab (StabL.cons isV.stab (StabL.cons isV.stab (StabL.cons isV.stab (StabL.cons isV.stab (StabL.cons isV.stab (StabL.cons (isP.stab (fun _ _ _ h hv=>hv.below h)) (StabL.cons (isP.stab (fun _ _ _ h ⟨bs,ho⟩=>⟨bs,own_below ho h⟩)) (StabL.cons isV.stab (StabL.cons isV.stab (StabL.cons isV.stab (StabL.cons isV.stab (StabL.nil)))))))))))))))))))))))))
     case hop =>
      refine OpsOk.cons (i:=0) rfl (fun y w' hS hD K hK=>?_) ?_
      ·as_aux_lemma =>
       go_simp
       exact hK.out _ w' hS (Below.refl _ _) isV.put (fun h=>absurd h (by decide))
      refine OpsOk.cons (i:=1) rfl (fun y w' hS hD K hK=>?_) ?_
      ·as_aux_lemma =>
       have e0:y 0=.int .i64 0:=isV.get (i:=0) (c:=.int .i64 0) (hD 0 (by kernel_rfl))
       simp only [e0] at hK ⊢
       go_simp
       exact hK.out _ w' hS (Below.refl _ _) isV.put (fun h=>absurd h (by decide))
      refine OpsOk.cons (i:=2) rfl (fun y w' hS hD K hK=>?_) ?_
      ·as_aux_lemma =>
       have e1:y 1=.bool true:=isV.get (i:=1) (c:=.bool true) (hD 1 (by kernel_rfl))
       simp only [e1] at hK ⊢
       go_simp
       exact hK.out _ w' hS (Below.refl _ _) isV.put (fun h=>absurd h (by decide))
      refine OpsOk.cons (i:=3) rfl (fun y w' hS hD K hK=>?_) ?_
      ·as_aux_lemma =>
       have e2:y 2=.bool true:=isV.get (i:=2) (c:=.bool true) (hD 2 (by kernel_rfl))
       have bx:=B7.out.below hS B7.out.lt
       obtain ⟨c0,c1,c2,c3⟩:=bx.at1.1
       simp only [e2] at hK ⊢
       go_simp
       exact hK.out _ w' hS (Below.refl _ _) isV.put (fun h=>absurd h (by decide))
      refine OpsOk.cons (i:=4) rfl (fun y w' hS hD K hK=>?_) ?_
      ·as_aux_lemma =>
       have e2:y 2=.bool true:=isV.get (i:=2) (c:=.bool true) (hD 2 (by kernel_rfl))
       simp only [e2] at hK ⊢
       go_simp
       exact hK.out _ w' hS (Below.refl _ _) isV.put (fun h=>absurd h (by decide))
      refine OpsOk.cons (i:=5) rfl (fun y w' hS hD K hK=>?_) ?_
      ·as_aux_lemma =>
       have e2:y 2=.bool true:=isV.get (i:=2) (c:=.bool true) (hD 2 (by kernel_rfl))
       have e4:y 4=.int .i64 le:=isV.get (i:=4) (c:=.int .i64 le) (hD 4 (by kernel_rfl))
       simp only [e2,e4] at hK ⊢
       go_simp
       refine (RFrom_any le w' (by have:=HLE.out;unfold Le at this;omega) (by have:=HLE.out;unfold Le at this;omega)).mono ?_
       rintro e w'' ⟨⟨v,rfl,hv⟩,hb⟩
       exact hK.out v w'' (below_call hS hb (Nat.le_refl _)) hb (isP.put hv) (fun h=>absurd h (by decide))
      refine OpsOk.cons (i:=6) rfl (fun y w' hS hD K hK=>?_) ?_
      ·as_aux_lemma =>
       have e2:y 2=.bool true:=isV.get (i:=2) (c:=.bool true) (hD 2 (by kernel_rfl))
       have e3:y 3=.agg #[.bool lr.s,.slice lr.a lr.n lr.c,.bool lr.t,.slice lr.b lr.m lr.d]:=isV.get (i:=3) (c:=.agg #[.bool lr.s,.slice lr.a lr.n lr.c,.bool lr.t,.slice lr.b lr.m lr.d]) (hD 3 (by kernel_rfl))
       have e5:=isP.get (i:=5) (p:=fun v w=>IsRat w v ((le:Int):Rat)) (hD 5 (by kernel_rfl))
       simp only [e2,e3] at hK ⊢
       go_simp
       refine (RCompare_any _ _ lo ((le:Int):Rat) 9 2 w' (LR7.out.below hS) e5 HBLO.out HBLE.out (by omega)).mono ?_
       rintro e w'' ⟨he,hb⟩
       rw [HC1.out] at he
       subst he
       exact hK.out _ w'' (below_call hS hb (Nat.le_refl _)) hb isV.put (fun h=>absurd h (by decide))
      refine OpsOk.cons (i:=7) rfl (fun y w' hS hD K hK=>?_) ?_
      ·as_aux_lemma =>
       have e2:y 2=.bool true:=isV.get (i:=2) (c:=.bool true) (hD 2 (by kernel_rfl))
       have e6:y 6=.int .i64 0:=isV.get (i:=6) (c:=.int .i64 0) (hD 6 (by kernel_rfl))
       simp only [e2,e6] at hK ⊢
       go_simp
       exact hK.out _ w' hS (Below.refl _ _) isV.put (fun h=>absurd h (by decide))
      refine OpsOk.cons (i:=8) rfl (fun y w' hS hD K hK=>?_) ?_
      ·as_aux_lemma =>
       have e2:y 2=.bool true:=isV.get (i:=2) (c:=.bool true) (hD 2 (by kernel_rfl))
       have e7:y 7=.bool true:=isV.get (i:=7) (c:=.bool true) (hD 7 (by kernel_rfl))
       simp only [e2,e7] at hK ⊢
       go_simp
       exact hK.out _ w' hS (Below.refl _ _) isV.put (fun h=>absurd h (by decide))
      refine OpsOk.cons (i:=9) rfl (fun y w' hS hD K hK=>?_) ?_
      ·as_aux_lemma =>
       have e8:y 8=.bool true:=isV.get (i:=8) (c:=.bool true) (hD 8 (by kernel_rfl))
       simp only [e8] at hK ⊢
       go_simp
       exact hK.out _ w' hS (Below.refl _ _) isV.put (fun h=>absurd h (by decide))
      refine OpsOk.cons (i:=10) rfl (fun y w' hS hD K hK=>?_) ?_
      ·as_aux_lemma =>
       have e9:y 9=.bool true:=isV.get (i:=9) (c:=.bool true) (hD 9 (by kernel_rfl))
       have bx:=B8.out.below hS B8.out.lt
       obtain ⟨c0,c1,c2,c3⟩:=bx.at1.1
       simp only [e9] at hK ⊢
       go_simp
       exact hK.out _ w' hS (Below.refl _ _) isV.put (fun h=>absurd h (by decide))
      refine OpsOk.cons (i:=11) rfl (fun y w' hS hD K hK=>?_) ?_
      ·as_aux_lemma =>
       have e9:y 9=.bool true:=isV.get (i:=9) (c:=.bool true) (hD 9 (by kernel_rfl))
       simp only [e9] at hK ⊢
       go_simp
       exact hK.out _ w' hS (Below.refl _ _) isV.put (fun h=>absurd h (by decide))
      refine OpsOk.cons (i:=12) rfl (fun y w' hS hD K hK=>?_) ?_
      ·as_aux_lemma =>
       have e9:y 9=.bool true:=isV.get (i:=9) (c:=.bool true) (hD 9 (by kernel_rfl))
       have e11:y 11=.int .i64 mo:=isV.get (i:=11) (c:=.int .i64 mo) (hD 11 (by kernel_rfl))
       simp only [e9,e11] at hK ⊢
       go_simp
       refine (RFrom_any mo w' (by have:=HMO.out;unfold Le at this;omega) (by have:=HMO.out;unfold Le at this;omega)).mono ?_
       rintro e w'' ⟨⟨v,rfl,hv⟩,hb⟩
       exact hK.out v w'' (below_call hS hb (Nat.le_refl _)) hb (isP.put hv) (fun h=>absurd h (by decide))
      refine OpsOk.cons (i:=13) rfl (fun y w' hS hD K hK=>?_) ?_
      ·as_aux_lemma =>
       have e9:y 9=.bool true:=isV.get (i:=9) (c:=.bool true) (hD 9 (by kernel_rfl))
       have e10:y 10=.agg #[.bool hr.s,.slice hr.a hr.n hr.c,.bool hr.t,.slice hr.b hr.m hr.d]:=isV.get (i:=10) (c:=.agg #[.bool hr.s,.slice hr.a hr.n hr.c,.bool hr.t,.slice hr.b hr.m hr.d]) (hD 10 (by kernel_rfl))
       have e12:=isP.get (i:=12) (p:=fun v w=>IsRat w v ((mo:Int):Rat)) (hD 12 (by kernel_rfl))
       simp only [e9,e10] at hK ⊢
       go_simp
       refine (RCompare_any _ _ hi ((mo:Int):Rat) 9 2 w' (HR8.out.below hS) e12 HBHI.out HBMO.out (by omega)).mono ?_
       rintro e w'' ⟨he,hb⟩
       rw [HC2.out] at he
       subst he
       exact hK.out _ w'' (below_call hS hb (Nat.le_refl _)) hb isV.put (fun h=>absurd h (by decide))
      refine OpsOk.cons (i:=14) rfl (fun y w' hS hD K hK=>?_) ?_
      ·as_aux_lemma =>
       have e9:y 9=.bool true:=isV.get (i:=9) (c:=.bool true) (hD 9 (by kernel_rfl))
       have e13:y 13=.int .i64 0:=isV.get (i:=13) (c:=.int .i64 0) (hD 13 (by kernel_rfl))
       simp only [e9,e13] at hK ⊢
       go_simp
       exact hK.out _ w' hS (Below.refl _ _) isV.put (fun h=>absurd h (by decide))
      refine OpsOk.cons (i:=15) rfl (fun y w' hS hD K hK=>?_) ?_
      ·as_aux_lemma =>
       have e9:y 9=.bool true:=isV.get (i:=9) (c:=.bool true) (hD 9 (by kernel_rfl))
       have e14:y 14=.bool true:=isV.get (i:=14) (c:=.bool true) (hD 14 (by kernel_rfl))
       simp only [e9,e14] at hK ⊢
       go_simp
       exact hK.out _ w' hS (Below.refl _ _) isV.put (fun h=>absurd h (by decide))
      refine OpsOk.cons (i:=16) rfl (fun y w' hS hD K hK=>?_) ?_
      ·as_aux_lemma =>
       have e15:y 15=.bool true:=isV.get (i:=15) (c:=.bool true) (hD 15 (by kernel_rfl))
       simp only [e15] at hK ⊢
       go_simp
       exact hK.out _ w' hS (Below.refl _ _) isV.put (fun h=>absurd h (by decide))
      refine OpsOk.cons (i:=17) rfl (fun y w' hS hD K hK=>?_) ?_
      ·as_aux_lemma =>
       have e16:y 16=.bool true:=isV.get (i:=16) (c:=.bool true) (hD 16 (by kernel_rfl))
       have bx:=KS6.out.below hS KS6.out.lt
       obtain ⟨c0,c1,c2,-⟩:=bx.three
       simp only [e16] at hK ⊢
       go_simp
       exact hK.out _ w' hS (Below.refl _ _) isV.put (fun h=>absurd h (by decide))
      refine OpsOk.cons (i:=18) rfl (fun y w' hS hD K hK=>?_) ?_
      ·as_aux_lemma =>
       have e16:y 16=.bool true:=isV.get (i:=16) (c:=.bool true) (hD 16 (by kernel_rfl))
       have bx:=KN6.out.below hS KN6.out.lt
       obtain ⟨c0,c1,c2,-⟩:=bx.three
       simp only [e16] at hK ⊢
       go_simp
       exact hK.out _ w' hS (Below.refl _ _) isV.put (fun h=>absurd h (by decide))
      refine OpsOk.cons (i:=19) rfl (fun y w' hS hD K hK=>?_) ?_
      ·as_aux_lemma =>
       have e16:y 16=.bool true:=isV.get (i:=16) (c:=.bool true) (hD 16 (by kernel_rfl))
       have e18:y 18=.agg #[.int .i64 n.x,.int .i64 n.y,.int .i64 n.z]:=isV.get (i:=18) (c:=.agg #[.int .i64 n.x,.int .i64 n.y,.int .i64 n.z]) (hD 18 (by kernel_rfl))
       simp only [e16,e18] at hK ⊢
       go_simp
       refine (VOf_any n w' HN9.out).mono ?_
       rintro e w'' ⟨⟨v,rfl,hv⟩,hb⟩
       exact hK.out v w'' (below_call hS hb (Nat.le_refl _)) hb (isP.put hv) (fun h=>absurd h (by decide))
      refine OpsOk.cons (i:=20) rfl (fun y w' hS hD K hK=>?_) ?_
      ·as_aux_lemma =>
       have e16:y 16=.bool true:=isV.get (i:=16) (c:=.bool true) (hD 16 (by kernel_rfl))
       have e17:y 17=.agg #[.slice pv len cv,.slice pf nf cf,.slice pe ne ce]:=isV.get (i:=17) (c:=.agg #[.slice pv len cv,.slice pf nf cf,.slice pe ne ce]) (hD 17 (by kernel_rfl))
       have e19:=isP.get (i:=19) (p:=fun v w=>IsVec w v (ptQ n)) (hD 19 (by kernel_rfl))
       simp only [e16,e17] at hK ⊢
       go_simp
       refine (support_any _ _ _ _ (ptsQ P len) vrs (ptQ n) _ 2 2 w' (HVS6.out.below hS) ⟨_,_,_,rfl⟩ ⟨_,_,_,rfl⟩ HKQ.out e19 HBN.out (by omega) (by rw [HPL.out];omega)).mono ?_
       rintro e w'' ⟨⟨v,rfl,hv⟩,hb⟩
       exact hK.out v w'' (below_call hS hb (Nat.le_refl _)) hb (isP.put ⟨_,by rw [HPL.out,HHI.out] at hv;exact hv⟩) (fun h=>absurd h (by decide))
      refine OpsOk.cons (i:=21) rfl (fun y w' hS hD K hK=>?_) ?_
      ·as_aux_lemma =>
       have e16:y 16=.bool true:=isV.get (i:=16) (c:=.bool true) (hD 16 (by kernel_rfl))
       simp only [e16] at hK ⊢
       go_simp
       exact hK.out _ w' hS (Below.refl _ _) isV.put (fun h=>absurd h (by decide))
      refine OpsOk.cons (i:=22) rfl (fun y w' hS hD K hK=>?_) ?_
      ·as_aux_lemma =>
       have e16:y 16=.bool true:=isV.get (i:=16) (c:=.bool true) (hD 16 (by kernel_rfl))
       have e20:=isP.get (i:=20) (p:=fun v w=>∃ bs,OwnN w bs v (supK (ptsQ P len) (ptQ n) hi len)) (hD 20 (by kernel_rfl))
       have e21:y 21=ov:=isV.get (i:=21) (c:=ov) (hD 21 (by kernel_rfl))
       obtain ⟨bs,ho20⟩:=e20
       simp only [e16,e21] at hK ⊢
       go_simp
       refine (ints_own _ _ _ _ _ w' ho20 (own_below HO6.out hS) (by have:=HSL.out;omega)).mono ?_
       rintro e w'' ⟨rfl,hb⟩
       exact hK.out _ w'' (below_call hS hb (Nat.le_refl _)) hb isV.put (fun h=>absurd h (by decide))
      refine OpsOk.cons (i:=23) rfl (fun y w' hS hD K hK=>?_) ?_
      ·as_aux_lemma =>
       have e16:y 16=.bool true:=isV.get (i:=16) (c:=.bool true) (hD 16 (by kernel_rfl))
       have e22:y 22=.bool true:=isV.get (i:=22) (c:=.bool true) (hD 22 (by kernel_rfl))
       simp only [e16,e22] at hK ⊢
       go_simp
       exact hK.out _ w' hS (Below.refl _ _) isV.put (fun h=>absurd h (by decide))
      refine OpsOk.cons (i:=24) rfl (fun y w' hS hD K hK=>?_) ?_
      ·as_aux_lemma =>
       have e23:y 23=.bool true:=isV.get (i:=23) (c:=.bool true) (hD 23 (by kernel_rfl))
       simp only [e23] at hK ⊢
       go_simp
       exact hK.out _ w' hS (Below.refl _ _) isV.put (fun h=>absurd h (by decide))
      exact OpsOk.nil
     case hend =>
      intro y w' hS hR hF
      have e24:y 24=.bool true:=isV.get (i:=24) (c:=.bool true) (hR 24 (by kernel_rfl))
      simp only [e24]
      refine wpAny_over (by kernel_rfl) ?_
      have HS9:=Lib.hid (L6.out.trans (hS.mono L6.out.size))
      clear hS hR hF
      go_wp2_with fail
      go_ret
      exact ⟨rfl,HS9.out⟩
   have hkl:k<len:=by omega
   have hlt:(k:Int)<(len:Int):=by omega
   have HKL:=Lib.hid hkl
   obtain ⟨b2,off2,e,hb2,hc2,hcc⟩:=(PS7.out.below HR.out).cells (by omega)
   cases e
   have hq:=hcc k hkl
   have HDT:=Lib.hid (fun v=>rdot_any n (P k) 128 4096 v HN.out ((HV.out.sorted.near k hkl).le) (by omega))
   obtain ⟨xk,hxk⟩:∃ xk,V.dot n (P k)=xk:=⟨_,rfl⟩
   have HLK:=Lib.hid (show Le 1572864 xk from by rw [← hxk];exact (HN.out.dot ((HV.out.sorted.near k hkl).le)).mono (by omega))
   have HST:=Lib.hid (HZ.out.step hkl)
   rw [hxk] at HDT HST
   have HXK:=Lib.hid hxk
   obtain ⟨pk,hpk⟩:∃ pk,P k=pk:=⟨_,rfl⟩
   rw [hpk] at HDT hq
   obtain ⟨q0,q1,q2⟩:=hq
   obtain ⟨u0,u1,u2,-⟩:=N8.out.three
   have hdl:=D8.out.lt
   have hnl:=N8.out.lt
   have K0:=fun x:Later wk.heap.size wk=>keepC q0 x.h hb2
   have K1:=fun x:Later wk.heap.size wk=>keepC q1 x.h hb2
   have K2:=fun x:Later wk.heap.size wk=>keepC q2 x.h hb2
   have K3:=fun x:Later wk.heap.size wk=>keepC u0 x.h hnl
   have K4:=fun x:Later wk.heap.size wk=>keepC u1 x.h hnl
   have K5:=fun x:Later wk.heap.size wk=>keepC u2 x.h hnl
   have K6:=fun x:Later wk.heap.size wk=>keepC s0 x.h hdl
   clear hcc q0 q1 q2 u0 u1 u2 hpk hxk h0
   go_wp2_with fail
   refine wp_region_later (Below.refl wk.heap.size wk) (by kernel_rfl) (by kernel_rfl) ?_
   repeat (first
    | go_big_quiet_skip
    | (go_big_quiet_want;go_big_quiet_op;first | go_big_quiet_on | go_big_quiet_call ((go_at_call 16;exact Calls.later (Nat.le_refl _) (HDT.out _)))))
   refine wpQuiet_nil ?_
   intro w8 hw'
   obtain ⟨x,hx⟩:=hw'
   have Hk8:=Lib.hid (show Below wk.heap.size wk w8 from by rw [hx];exact x.h)
   clear hx x K0 K1 K2 K3 K4 K5 K6 HDT hdl hnl s0
   have R8:=Lib.hid (below_call HR.out Hk8.out (Nat.le_refl _))
   have hlm:=HLM.out;have hlk:=HLK.out
   unfold Le at hlm hlk
   have HO8:=Lib.hid (own_below HO.out Hk8.out)
   have hsl:=(Nat.le_trans (List.length_filter_le _ _) (Nat.le_of_eq (List.length_range (n:=k))):(supK (ptsQ P len) (ptQ n) (mo:Rat) k).length≤k)
   have HSL:=Lib.hid hsl
   have hw7:w7.heap.size≤w8.heap.size:=R8.out.size
   have HW7:=Lib.hid hw7
   clear hsl hw7
   by_cases hgt:mo<xk
   ·have HG:=Lib.hid hgt
    rw [if_pos hgt] at HST
    have hne:(xk == xk)=true:=beq_self_eq_true _
    go_wp2_with (at_builtin;refine wpList_append_own _ rfl _ _ 43 rfl w7.heap.size 3 i0 (.int .i64 0) 1 8 Tryz.underlying43 hinf hz0 hz1 hz2 rfl (by decide) _ _ _ rfl (World.ownsRow_nil _ _ _ _) ⟨w8.heap.size,0,none⟩ 1 1 [.int .i64 (k:Nat)] rfl rfl (fun j u hj=>cell_new w8 _ _ j u hj) (by intro u hu;simp at hu;rcases hu with rfl;rfl) (by unfold maxLen;omega) (by omega) (by have:=HW7.out;simp;omega) ?_)
    intro v' w9 hown' hgrow9 _
    have HO9:=Lib.hid (show OwnN w9 w7.heap.size v' (supK (ptsQ P len) (ptQ n) (xk:Rat) (k+1)) from by
     rw [supK_on (by rw [qAt_ptsQ HKL.out,qdot_pt,HXK.out]),supK_none (by have:=HKL.out;omega) (fun j hj=>by have:=HZ.out.max j hj;have:=HG.out;omega)]
     exact hown')
    have R9:=Lib.hid (show Below w7.heap.size w7 w9 from (R8.out.alloc HW7.out _).grown hgrow9 (by have:=HW7.out;simp;omega) (fun g hg=>by cases hg))
    clear hown' hgrow9 hne
    go_wp2
    go_round
    case rel=>exact ⟨k+1,_,min le xk,xk,rfl,rfl,rfl,by have:=HKL.out;omega,rfl,HST.out,⟨by unfold Le;omega,HLK.out⟩,HO9.out,R9.out⟩
    case measure=>show len - ((k:Int)+1).toNat<len - (k:Int).toNat;have:=HKL.out;omega
   ·rw [if_neg hgt] at HST
    by_cases heq:xk=mo
    ·have HEQ:=Lib.hid heq
     have hbe:(xk == mo)=true:=beq_iff_eq.mpr heq
     clear heq
     go_wp2_with (at_builtin;refine wpList_append_own _ rfl _ _ 43 rfl w7.heap.size 3 i0 (.int .i64 0) 1 8 Tryz.underlying43 hinf hz0 hz1 hz2 rfl (by decide) _ _ _ rfl (World.ownsRow.alloc HO8.out _) ⟨w8.heap.size,0,none⟩ 1 1 [.int .i64 (k:Nat)] rfl rfl (fun j u hj=>cell_new w8 _ _ j u hj) (by intro u hu;simp at hu;rcases hu with rfl;rfl) (by have:=HSL.out;unfold maxLen;omega) (by have:=HSL.out;omega) (by have:=HW7.out;simp;omega) ?_)
     intro v' w9 hown' hgrow9 _
     have hge:=own_ge HO8.out
     have HO9:=Lib.hid (show OwnN w9 w7.heap.size v' (supK (ptsQ P len) (ptQ n) (mo:Rat) (k+1)) from by
      rw [supK_on (by rw [qAt_ptsQ HKL.out,qdot_pt,HXK.out,HEQ.out])]
      unfold OwnN
      rw [List.length_append,List.map_append]
      exact hown')
     have R9:=Lib.hid (show Below w7.heap.size w7 w9 from (R8.out.alloc HW7.out _).grown hgrow9 (by have:=HW7.out;simp;omega) (fun g hg=>hge g hg))
     clear hown' hgrow9 hge
     go_wp2
     go_round
     case rel=>exact ⟨k+1,_,min le xk,mo,rfl,rfl,rfl,by have:=HKL.out;omega,rfl,HST.out,⟨by unfold Le;omega,HLM.out.2⟩,HO9.out,R9.out⟩
     case measure=>show len - ((k:Int)+1).toNat<len - (k:Int).toNat;have:=HKL.out;omega
    ·have HEQ:=Lib.hid heq
     have hbe:(xk == mo)=false:=beq_eq_false_iff_ne.mpr heq
     clear heq
     go_wp2
     go_round
     case rel=>exact ⟨k+1,_,min le xk,mo,rfl,rfl,rfl,by have:=HKL.out;omega,rfl,HST.out,⟨by unfold Le;omega,HLM.out.2⟩,by
      rw [supK_off (by
       rw [qAt_ptsQ HKL.out,qdot_pt,HXK.out]
       intro e
       exact HEQ.out (by exact_mod_cast e))]
      exact HO8.out,R8.out⟩
     case measure=>show len - ((k:Int)+1).toNat<len - (k:Int).toNat;have:=HKL.out;omega
end Go.Proofs.YtaibkpbklfodiaaGreatDoor
end
section
namespace Go.Proofs.YtaibkpbklfodiaaGreatDoor
open Go Go.ChangeShapes Go.WideShapes Go.ChangeAt Go.WideElems Go.RowKit Dowel
theorem door_met (os:Os) (args:Array Value):laidMetH Tryz.prog Rows.cellExtentsRow.laid ((World.doorLaid Tryz.prog 400 os).forCall (fun _ _=>0) ⟨#[],args,[]⟩).memory:=
 laidMetH_of_parts3 (fuel:=8) (laidMet_of_run' 8 (by kernel_rfl) (by kernel_rfl)) (by kernel_rfl) (by kernel_rfl)
set_option maxRecDepth 100000 in
theorem cellExtents_lifted (os:Os) (started:os.Started) (H:Type) (enc:TypeId × Value→H) :
  ReturnsInHanded {} Tryz.checked os 6 .any (fun w args=>(Rows.cellExtentsSpec.pre enc Tryz.prog Tryz.f6 [] false w args∧laidMetH Tryz.prog Rows.cellExtentsRow.laid w)∧sizedMet enc Tryz.prog Tryz.f6 (OpenSpec.ofChange Rows.cellExtentsSpec) false w args)
   (Rows.cellExtentsSpec.post enc Tryz.prog Tryz.f6 false true false false):=by
 refine returnsInHanded_of_change_and (C:=Tryz.checked) (X:=fun w _=>laidMetH Tryz.prog Rows.cellExtentsRow.laid w) (fun _ _ _ hh h=>h.of_heap hh) own started (by kernel_rfl) Tryz.func6
  (ChangeSpec.witness_shaped (enc:=enc) (C:=Tryz.checked) (os:=os) (X:=fun w _=>laidMetH Tryz.prog Rows.cellExtentsRow.laid w) false (World.doorLaid Tryz.prog 400 os) #[.slice none 0 0,.agg #[.int .i8 0,.int .i8 0,.int .i8 0]] 8 rfl (World.shaped_of_RefB (by kernel_rfl) (by kernel_rfl)) (by kernel_rfl) (by kernel_rfl) (by kernel_rfl) (door_met os _)) ?_
 intro W base args ds gs before hval0 hW _ _ hL _
 have hval:∀ (j:Nat) t v,Tryz.f6.params[j]?=some t→args[j]?=some v→Value.okWide Tryz.prog W .any base t v:=hval0
 have hW':=hW
 obtain ⟨p,q,hA0,hV,rfl,hfz,hnd⟩:=hW
 have hA:DataW.TrodAll enc Tryz.prog W 0 (fun _=>true) true Tryz.f6.params.toList args.toList ds p:=hA0
 rw [Tryz.params6] at hA hval
 obtain ⟨v0,v1,d0,d1,p0,p1,rfl,rfl,rfl,h0,h1⟩:=trodAll_two hA
 obtain ⟨rfl,rfl⟩:=trodVars_none hV
 obtain ⟨a,len,cap,P,rfl,hP⟩:=pts8_of (hval 0 36 v0 rfl rfl) h0
 obtain ⟨n,rfl,hn⟩:=arr8_of (hval 1 38 v1 rfl rfl) h1
 clear hA0 hval0
 simp only [List.append_nil] at hW'
 have hlt:∀ x ∈ p0 ++ p1,x.block<W.heap.size:=fun x hx=>by simpa using hW'.lt x hx
 refine (cellExtents_any known_any a len cap P n W (tab_of_laid (show laidMetH Tryz.prog Rows.cellChecksRow.laid W from hL)) hP hn).mono fun e W' ⟨he,hb⟩=>?_
 subst he
 refine ⟨_,rfl,_,_,_,[],p0 ++ p1,[],hW',?_,?_,rfl,hb.frame _,fun h=>by cases h⟩
 ·exact trodAll_mk1 (shut_bool Tryz.underlying4 true)
 ·exact trodAll_mk2 (Below.trod laidOut (by kernel_rfl) (of_decide_eq_true (by kernel_rfl)) h0 hb fun x hx=>hlt x (List.mem_append.2 (.inl hx)))
   (Below.trod laidOut (by kernel_rfl) (of_decide_eq_true (by kernel_rfl)) h1 hb fun x hx=>hlt x (List.mem_append.2 (.inr hx)))
theorem cellExtents_holds:Rows.CellExtentsSaid:=
 OpenClaim.holds_of_wide 6 Tryz.f6 rfl rfl rfl rfl rfl rfl rfl ⟨rfl,rfl,rfl,rfl,rfl⟩ rfl rfl rfl rfl rfl (by kernel_rfl) Tryz.func6 (by kernel_rfl)
  (of_decide_eq_true (by kernel_rfl)) (by unfold Func.isWrapper;first | (rw [if_pos (by decide +kernel)];kernel_rfl) | (rw [if_neg (by decide +kernel)];exact ⟨rfl,rfl⟩))
  (fun os started H enc _=>cellExtents_lifted os started H enc)
theorem cellExtents_card : Rows.CellExtentsCardSaid :=
  Claim7.holds_tied_plain_at .later [] [.data, .data, .data] true (true, "6c65cc7416c67665389b7af0e84806a2ebd9a42af6f1548673da5a11f68942ee") true
    cellExtents_holds (fun _ h => by cases h) (by kernel_rfl) (fun _ h => by cases h) cellExtents_row_tie rfl ⟨rfl, rfl⟩ (by kernel_rfl) rfl
    (fun f fn hf hfn => by
      obtain rfl : f = 6 := Option.some.inj ((show Tryz.prog.funcNamed "dowel/dowellaw09.CellExtents" = some 6 by kernel_rfl).symm.trans hf) |>.symm
      obtain rfl : fn = Tryz.f6 := (Option.some.inj (Tryz.func6.symm.trans hfn)).symm
      exact ⟨by kernel_rfl, fun j t ht => by
        rw [Tryz.params6] at ht
        have h3 : t = 36 ∨ t = 38 := by
          rcases j with _ | _ | j
          · exact .inl (by simpa using ht.symm)
          · exact .inr (by simpa using ht.symm)
          · simp at ht
        rcases h3 with rfl | rfl
        · exact (show Tryz.prog.wantsStandIn 36 = false by kernel_rfl)
        · exact (show Tryz.prog.wantsStandIn 38 = false by kernel_rfl)⟩)
    (by kernel_rfl)
#print axioms cellExtents_card
end Go.Proofs.YtaibkpbklfodiaaGreatDoor
end
