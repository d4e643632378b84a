/- CellInside: whatever the input (the library's listed tables lie as the program's text lays them), the call returns true, and the input reads as it did: the tied card. -/
import Derived.Test.YtaibkpbklfodiaaGreatDoorV37
import Derived.Laws.Tables
import Derived.ProofKit
import Derived.Test.YtaibkpbklfodiaaGreatDoorCards
import Derived.Test.YtaibkpbklfodiaaGreatDoorTie
import Derived.SevenTiedAt
set_option linter.all false
section
namespace Go.Proofs.YtaibkpbklfodiaaGreatDoor
open Go Go.ChangeShapes Go.WideShapes Go.ChangeAt Go.WideElems Go.RowKit Dowel
theorem u8_of {k:Int} (h:(Lit.int .u8 k).wf=true):0≤k∧k≤255:=by
 simp only [Lit.wf,Bool.and_eq_true,decide_eq_true_eq] at h
 have h1:IntKind.u8.min=0:=by decide
 have h2:IntKind.u8.max=255:=by decide
 rw [h1,h2] at h
 omega
set_option maxRecDepth 100000 in
theorem cells10 {H:Type} {enc:TypeId × Value→H} {W:World} {n:Nat} {cl:List Value} {x:DataW H × List MemPlace} (ht:DataW.trod enc Tryz.prog W 0 (fun _=>true) true n 63 cl=some x) :
  ∃ X:Nat→Int,cl=[.int .u8 (X 0),.int .u8 (X 1),.int .u8 (X 2),.int .u8 (X 3),.int .u8 (X 4),.int .u8 (X 5),.int .u8 (X 6),.int .u8 (X 7),.int .u8 (X 8),.int .u8 (X 9)]∧∀ j,0≤X j∧X j≤255:=by
 obtain ⟨xs,m,-,-,hcl3,hxs,hx⟩:=DataW.trod_array Tryz.underlying63 ht
 have c0:=hx 0 (by omega)
 have c1:=hx 1 (by omega)
 have c2:=hx 2 (by omega)
 have c3:=hx 3 (by omega)
 have c4:=hx 4 (by omega)
 have c5:=hx 5 (by omega)
 have c6:=hx 6 (by omega)
 have c7:=hx 7 (by omega)
 have c8:=hx 8 (by omega)
 have c9:=hx 9 (by omega)
 match xs,hxs with
 | [x0,x1,x2,x3,x4,x5,x6,x7,x8,x9],_ =>
  rw [show Tryz.prog.cellsOf 5=1 by kernel_rfl] at c0 c1 c2 c3 c4 c5 c6 c7 c8 c9
  rw [show Tryz.prog.cellsOf 63=10 by kernel_rfl] at hcl3
  match cl,hcl3 with
  | [u0,u1,u2,u3,u4,u5,u6,u7,u8,u9],_ =>
   obtain ⟨k0,e0,-,w0⟩:=DataW.trod_int Tryz.underlying5 (show DataW.trod _ _ _ _ _ _ _ _ [u0]=some x0 from c0)
   obtain ⟨k1,e1,-,w1⟩:=DataW.trod_int Tryz.underlying5 (show DataW.trod _ _ _ _ _ _ _ _ [u1]=some x1 from c1)
   obtain ⟨k2,e2,-,w2⟩:=DataW.trod_int Tryz.underlying5 (show DataW.trod _ _ _ _ _ _ _ _ [u2]=some x2 from c2)
   obtain ⟨k3,e3,-,w3⟩:=DataW.trod_int Tryz.underlying5 (show DataW.trod _ _ _ _ _ _ _ _ [u3]=some x3 from c3)
   obtain ⟨k4,e4,-,w4⟩:=DataW.trod_int Tryz.underlying5 (show DataW.trod _ _ _ _ _ _ _ _ [u4]=some x4 from c4)
   obtain ⟨k5,e5,-,w5⟩:=DataW.trod_int Tryz.underlying5 (show DataW.trod _ _ _ _ _ _ _ _ [u5]=some x5 from c5)
   obtain ⟨k6,e6,-,w6⟩:=DataW.trod_int Tryz.underlying5 (show DataW.trod _ _ _ _ _ _ _ _ [u6]=some x6 from c6)
   obtain ⟨k7,e7,-,w7⟩:=DataW.trod_int Tryz.underlying5 (show DataW.trod _ _ _ _ _ _ _ _ [u7]=some x7 from c7)
   obtain ⟨k8,e8,-,w8⟩:=DataW.trod_int Tryz.underlying5 (show DataW.trod _ _ _ _ _ _ _ _ [u8]=some x8 from c8)
   obtain ⟨k9,e9,-,w9⟩:=DataW.trod_int Tryz.underlying5 (show DataW.trod _ _ _ _ _ _ _ _ [u9]=some x9 from c9)
   cases e0
   cases e1
   cases e2
   cases e3
   cases e4
   cases e5
   cases e6
   cases e7
   cases e8
   cases e9
   exact ⟨fun n=>match n with | 0=>k0 | 1=>k1 | 2=>k2 | 3=>k3 | 4=>k4 | 5=>k5 | 6=>k6 | 7=>k7 | 8=>k8 | 9=>k9 | _=>0,rfl,fun j=>by
    match j with
    | 0=>exact u8_of w0
    | 1=>exact u8_of w1
    | 2=>exact u8_of w2
    | 3=>exact u8_of w3
    | 4=>exact u8_of w4
    | 5=>exact u8_of w5
    | 6=>exact u8_of w6
    | 7=>exact u8_of w7
    | 8=>exact u8_of w8
    | 9=>exact u8_of w9
    | _+10=>show (0:Int)≤0∧(0:Int)≤255;omega⟩
set_option maxRecDepth 100000 in
theorem arr10_of {H:Type} {enc:TypeId × Value→H} {W:World} {base:Nat} {v:Value} {d:DataW H} {p:List MemPlace} (hv:Value.okWide Tryz.prog W .any base 63 v) (h0:DataW.Trod enc Tryz.prog W 0 (fun _=>true) true 63 v d p) :
  ∃ X:Nat→Int,v=.agg #[.int .u8 (X 0),.int .u8 (X 1),.int .u8 (X 2),.int .u8 (X 3),.int .u8 (X 4),.int .u8 (X 5),.int .u8 (X 6),.int .u8 (X 7),.int .u8 (X 8),.int .u8 (X 9)]∧∀ j,0≤X j∧X j≤255:=by
 unfold Value.okWide at hv
 rw [Tryz.underlying63] at hv
 obtain ⟨cs,rfl,hsz,-⟩:=hv
 obtain ⟨fuel,h0⟩:=h0
 obtain ⟨X,he,hn⟩:=cells10 h0
 exact ⟨X,by
  have:cs.toList=[.int .u8 (X 0),.int .u8 (X 1),.int .u8 (X 2),.int .u8 (X 3),.int .u8 (X 4),.int .u8 (X 5),.int .u8 (X 6),.int .u8 (X 7),.int .u8 (X 8),.int .u8 (X 9)]:=he
  rw [show cs=#[.int .u8 (X 0),.int .u8 (X 1),.int .u8 (X 2),.int .u8 (X 3),.int .u8 (X 4),.int .u8 (X 5),.int .u8 (X 6),.int .u8 (X 7),.int .u8 (X 8),.int .u8 (X 9)] from Array.toList_inj.mp this],hn⟩
set_option maxRecDepth 100000 in
theorem byte_of {H:Type} {enc:TypeId × Value→H} {W:World} {base:Nat} {v:Value} {d:DataW H} {p:List MemPlace} (hv:Value.okWide Tryz.prog W .any base 5 v) (h0:DataW.Trod enc Tryz.prog W 0 (fun _=>true) true 5 v d p) :
  ∃ z:Int,v=.int .u8 z∧0≤z∧z≤255:=by
 unfold Value.okWide at hv
 rw [Tryz.underlying5] at hv
 simp only at hv
 obtain ⟨fuel,h0⟩:=h0
 obtain ⟨kk,z,rfl⟩:∃ kk z,v=.int kk z:=by
  cases v with
  | int kk z=>exact ⟨_,_,rfl⟩
  | _=>simp only [Cell.okWide,Cell.ok,Tryz.underlying5] at hv
 obtain ⟨k0,e0,-,w0⟩:=DataW.trod_int Tryz.underlying5 (show DataW.trod _ _ _ _ _ _ _ _ [Value.int kk z]=some (d,p) from h0)
 cases e0
 exact ⟨_,rfl,u8_of w0⟩
end Go.Proofs.YtaibkpbklfodiaaGreatDoor
end
section
namespace Dowel
theorem bd64 {n:Int} (h:-9223372036854775808≤n∧n≤9223372036854775807):Bd 2 (n:Rat):=Bd.int n (by unfold B;omega)
end Dowel
namespace Go.Proofs.YtaibkpbklfodiaaGreatDoor
open Go.RowKit Dowel
set_option maxHeartbeats 2000000 in
theorem quotient_any (a b:Int) (w:World) (ha:-9223372036854775808≤a∧a≤9223372036854775807) (hb:-9223372036854775808≤b∧b≤9223372036854775807) (hn:b≠0) :
  Calls Tryz.prog 21 #[.int .i64 a,.int .i64 b] w fun e w'=>RetRat w' e ((a:Rat) / (b:Rat))∧Below w.heap.size w w':=by
 have HA:=Lib.hid ha
 have HB:=Lib.hid hb
 have HN:=Lib.hid hn
 clear ha hb hn
 go_enter Tryz.func21,Tryz.ntmps21
 obtain ⟨W,hW,b1,hB,hS⟩:=boxes1 w #[.bool false,.slice none 0 0,.bool false,.slice none 0 0] 56
 go_wp2_with fail
 refine (RFrom_any a _ HA.out.1 HA.out.2).mono ?_
 rintro e w1 ⟨⟨v1,rfl,hv1⟩,hb1⟩
 have V1:=Lib.hid hv1
 have B1:=Lib.hid (b1.below hb1 (by omega))
 have L1:=Lib.hid (below_call hB hb1 (Nat.le_refl _))
 clear hv1 hb1 b1 hB hW
 go_wp2_with fail
 refine (RFrom_any b _ HB.out.1 HB.out.2).mono ?_
 rintro e w2 ⟨⟨v2,rfl,hv2⟩,hb2⟩
 have V1:=Lib.hid (V1.out.below hb2)
 have V2:=Lib.hid hv2
 have B1:=Lib.hid (B1.out.below hb2 B1.out.lt)
 have L1:=Lib.hid (below_call L1.out hb2 (Nat.le_refl _))
 clear hv2 hb2
 go_wp2_with fail
 refine (RDiv_any _ _ (a:Rat) (b:Rat) 2 2 w2 V1.out V2.out (bd64 HA.out) (bd64 HB.out) (by omega) (by have:=HN.out;exact_mod_cast this)).mono ?_
 rintro e w3 ⟨⟨v3,rfl,hv3⟩,hb3⟩
 obtain ⟨r,rfl,hr⟩:=hv3.rcv
 have V3:=Lib.hid hr
 have B1:=Lib.hid (B1.out.below hb3 B1.out.lt)
 have L1:=Lib.hid (below_call L1.out hb3 (Nat.le_refl _))
 clear hv3 hr hb3
 have hlt:=B1.out.lt
 have hne:w.heap.size≠w3.heap.size:=by omega
 obtain ⟨w5,hw5,b5,hb5,hz5⟩:=boxes1 w3 #[.bool false,.slice none 0 0,.bool false,.slice none 0 0] 56
 have B1:=Lib.hid (B1.out.below hb5 B1.out.lt)
 have V3:=Lib.hid (V3.out.below hb5)
 have L1:=Lib.hid (below_call L1.out hb5 (Nat.le_refl _))
 have B5:=Lib.hid b5
 obtain ⟨x0,x1,x2,x3,x4⟩:=B1.out.four
 obtain ⟨y0,y1,y2,y3,y4⟩:=b5.four
 clear hb5
 go_wp2_with fail
 have B6:=(show Box w5 w.heap.size (cells1 RC.zero) 56 from B1.out).oput4 hne 0 r
 have R6:=V3.out.put4 (show Box w5 w3.heap.size (cells1 RC.zero) 56 from B5.out).at1 r
 exact ret_box Tryz.results21 w.heap.size (B6.s4 r) _ rfl Tryz.underlying56 rfl infoRat rfl
  ⟨⟨_,rfl,R6.put4 B6.at1 r⟩,below_put4 (below_put4 L1.out (by omega) 0 r) (Nat.le_refl _) 0 r⟩
end Go.Proofs.YtaibkpbklfodiaaGreatDoor
end
section
namespace Dowel
open Go Go.RowKit
theorem FRow.open17 {w:World} {base:Nat} {pa:Option Addr} {N cap:Nat} {qs:List (Q3 × Rat)} {rs:List FR} (h:FRow w base (.slice pa N cap) qs rs) (hv:∀ r ∈ rs,∃ a n c,r.v=.slice a n c) (i:Nat) (hi:i<rs.length) :
  ∃ (b:Nat) (n0 n1 n2 ro:RC) (fa:Option Addr) (fl fc:Nat) (f:Q3 × Rat),pa=some ⟨b,0,none⟩∧b<w.heap.size∧qs[i]?=some f∧IsVec w (.agg (cells3 n0 n1 n2)) f.1∧IsRat w ro.agg f.2∧∀ j,j<17→w.cell? ⟨b,i*17+j,none⟩=(cells17 n0 n1 n2 ro fa fl fc)[j]? := by
 obtain ⟨b,cap',r,e,hb,hr,hc⟩:=h.at_ i hi
 obtain ⟨f,hf⟩:∃ f,qs[i]?=some f:=⟨_,List.getElem?_eq_getElem (by rw [← h.len];exact hi)⟩
 obtain ⟨h1,h2⟩:=h.vec i r f hr hf
 obtain ⟨fa,fl,fc,hfv⟩:=hv r (List.mem_of_getElem? hr)
 cases e
 obtain ⟨⟨n0,n1,n2⟩,ro,fv⟩:=r
 simp only at hfv
 subst hfv
 exact ⟨b,n0,n1,n2,ro,fa,fl,fc,f,rfl,hb,hf,h1,h2,fun j hj=>(hc j hj).trans (Array.getElem?_toList (xs:=cells17 n0 n1 n2 ro fa fl fc))⟩
def locR (fs:List (Q3 × Rat)) (p:Q3):Int:=if fs.any (fun f=>decide (f.2<qdot f.1 p)) then -1 else if fs.any (fun f=>decide (qdot f.1 p=f.2)) then 0 else 1
def LocI (fs:List (Q3 × Rat)) (p:Q3) (i:Nat) (z:Int):Prop:=(∀ j f,j<i→fs[j]?=some f→¬ f.2<qdot f.1 p)∧((z=0∧∃ j f,j<i∧fs[j]?=some f∧qdot f.1 p=f.2)∨(z=1∧∀ j f,j<i→fs[j]?=some f→qdot f.1 p≠f.2))
variable {fs : List (Q3 × Rat)} {p : Q3} {i : Nat} {z : Int} {f : Q3 × Rat}
theorem LocI.start:LocI fs p 0 1:=⟨fun j f h=>by omega,.inr ⟨rfl,fun j f h=>by omega⟩⟩
theorem LocI.on (h:LocI fs p i z) (hf:fs[i]?=some f) (h1:¬ f.2<qdot f.1 p) (h2:qdot f.1 p=f.2):LocI fs p (i+1) 0:=
 ⟨fun j g hj hg=>by
  by_cases e:j=i
  ·subst e;rw [hf] at hg;cases hg;exact h1
  ·exact h.1 j g (by omega) hg,.inl ⟨rfl,i,f,by omega,hf,h2⟩⟩
theorem LocI.off (h:LocI fs p i z) (hf:fs[i]?=some f) (h1:¬ f.2<qdot f.1 p) (h2:¬ qdot f.1 p=f.2):LocI fs p (i+1) z:=
 ⟨fun j g hj hg=>by
  by_cases e:j=i
  ·subst e;rw [hf] at hg;cases hg;exact h1
  ·exact h.1 j g (by omega) hg,by
  rcases h.2 with ⟨e,j,g,h3,h4,h5⟩ | ⟨e,h3⟩
  ·exact .inl ⟨e,j,g,by omega,h4,h5⟩
  ·exact .inr ⟨e,fun j g hj hg=>by
    by_cases e:j=i
    ·subst e;rw [hf] at hg;cases hg;exact h2
    ·exact h3 j g (by omega) hg⟩⟩
theorem LocI.done (h:LocI fs p i z) (hi:i=fs.length):locR fs p=z:=by
 have key:∀ (q:Q3 × Rat→Bool),fs.any q=true↔∃ j f,j<i∧fs[j]?=some f∧q f=true:=fun q=>by
  rw [List.any_eq_true]
  constructor
  ·rintro ⟨f,hf,hq⟩
   obtain ⟨j,hj,e⟩:=List.mem_iff_getElem.mp hf
   exact ⟨j,f,by omega,by rw [← e];exact List.getElem?_eq_getElem hj,hq⟩
  ·rintro ⟨j,f,hj,hf,hq⟩;exact ⟨f,List.mem_of_getElem? hf,hq⟩
 unfold locR
 rw [if_neg (fun hc=>by
  obtain ⟨j,f,hj,hf,hq⟩:=(key _).mp hc
  exact h.1 j f hj hf (of_decide_eq_true hq))]
 rcases h.2 with ⟨e,j,f,h3,h4,h5⟩ | ⟨e,h3⟩
 ·rw [if_pos ((key _).mpr ⟨j,f,h3,h4,decide_eq_true h5⟩),e]
 ·rw [if_neg (fun hc=>by
   obtain ⟨j,f,hj,hf,hq⟩:=(key _).mp hc
   exact h3 j f hj hf (of_decide_eq_true hq)),e]
def touK (fs:List (Q3 × Rat)) (p:Q3) (i:Nat):List Nat:=(List.range i).filter fun j=>decide (∃ f,fs[j]?=some f∧qdot f.1 p=f.2)
def touR (fs:List (Q3 × Rat)) (p:Q3):List Nat:=touK fs p fs.length
theorem touK_on (hf:fs[i]?=some f) (h:qdot f.1 p=f.2):touK fs p (i+1)=touK fs p i ++ [i]:=by
 unfold touK
 rw [List.range_succ,List.filter_append,List.filter_cons,if_pos (decide_eq_true ⟨f,hf,h⟩),List.filter_nil]
theorem touK_off (hf:fs[i]?=some f) (h:¬ qdot f.1 p=f.2):touK fs p (i+1)=touK fs p i:=by
 unfold touK
 rw [List.range_succ,List.filter_append,List.filter_cons,if_neg (by
  rw [decide_eq_true_eq]
  rintro ⟨g,hg,e⟩
  rw [hf] at hg;cases hg;exact h e),List.filter_nil,List.append_nil]
end Dowel
namespace Go.Proofs.YtaibkpbklfodiaaGreatDoor
open Go.RowKit Dowel
theorem infoIn:(Tryz.prog.info? 3).map (fun i=>(i.zero,i.size,i.bytes))=some (some (.int .i64 0),1,8):=by kernel_rfl
set_option maxRecDepth 100000 in
set_option maxHeartbeats 4000000 in
theorem locate_any (v0 v1 v2 vp:Value) (fs:List (Q3 × Rat)) (frs:List FR) (p:Q3) (base k l:Nat) (w:World) (hF:FRow w base v1 fs frs) (hfv:∀ r ∈ frs,∃ a n c,r.v=.slice a n c) (hk:∀ f ∈ fs,BdV k f.1∧Bd k f.2) (hp:IsVec w vp p) (hl:BdV l p) (hkl:k+l≤1000) (hmax:fs.length≤262144) :
  Calls Tryz.prog 17 #[.agg #[v0,v1,v2],vp] w fun e w'=>e=.returned (.int .i64 (locR fs p))∧Below w.heap.size w w':=by
 obtain ⟨p0,p1,p2,rfl,hp0,hp1,hp2⟩:=hp
 obtain ⟨W,hW,b1,b2,hB,hS⟩:=boxes2 w #[v0,v1,v2] (cells3 p0 p1 p2) 32 58
 have hvp:IsVec w (.agg (cells3 p0 p1 p2)) p:=⟨p0,p1,p2,rfl,hp0,hp1,hp2⟩
 have HVP:=Lib.hid (hvp.below hB)
 have HF:=Lib.hid (hF.below hB)
 have HFV:=Lib.hid hfv
 have HB:=Lib.hid hB
 have HSZ:=Lib.hid hS
 have B2:=Lib.hid b2
 have HK:=Lib.hid hk
 have HBP:=Lib.hid hl
 obtain ⟨x0,x1,x2,-⟩:=b1.three
 obtain ⟨N,hN⟩:∃ N,frs.length=N:=⟨_,rfl⟩
 have HLE:=Lib.hid (show fs.length=N from by rw [← hF.len];exact hN)
 have hmx:N≤262144:=by rw [← HLE.out];exact hmax
 have HMX:=Lib.hid hmx
 obtain ⟨pa,cap,hv⟩:∃ pa cap,v1=.slice pa N cap:=by
  obtain ⟨_,⟨rfl,h0⟩ | ⟨g,c,_,rfl,_⟩⟩:=hF.own
  ·exact ⟨none,0,by rw [← hN,h0]⟩
  ·exact ⟨_,_,by rw [← hN]⟩
 have HNN:=Lib.hid hN
 clear hF hfv hB hS b1 b2 hk hl hp0 hp1 hp2 hN hvp
 subst hv
 unfold cells3 at hW ⊢
 go_enter Tryz.func17,Tryz.ntmps17
 go_wp2_with fail
 go_loopw [5,11] (fun wv iv wr=>∃ i,i≤N∧iv=.int .i64 (i:Nat)∧∃ z,wv=.int .i64 z∧Hid (LocI fs p i z)∧Hid (Below W.heap.size W wr)) (fun _ iv _=>N - (intOf iv).toNat)
 case atStart=>exact ⟨0,Nat.zero_le _,rfl,1,rfl,LocI.start,Below.refl _ _⟩
 case round =>
  obtain ⟨i,hi,rfl,z,rfl,HLOC,HR⟩:=hrel
  obtain ⟨wk,rfl⟩:∃ wk,wk=wr:=⟨_,rfl⟩
  by_cases h0:i=N
  ·have hn:¬ (i:Int)<(N:Int):=by omega
   have H0:=Lib.hid h0
   clear h0
   go_wp2
   exact bodyPost_ret (results_tmp Tryz.results17 _ _ _) rfl ⟨by
    rw [LocI.done HLOC.out (by rw [HLE.out];exact H0.out)];rfl,below_call HB.out HR.out (by have:=HSZ.out;omega)⟩
  ·have hlt:(i:Int)<(N:Int):=by omega
   have hil:i<N:=by omega
   obtain ⟨bF,n0,n1,n2,ro,fa,fl,fc,f,e,hb,hf,hvn,hvo,hcv⟩:=(HF.out.below HR.out).open17 HFV.out i (by have:=HNN.out;omega)
   cases e
   have HFI:=Lib.hid hf
   have HCV:=Lib.hid hcv
   have hbd:=HK.out f (List.mem_of_getElem? hf)
   clear hf hcv
   go_upto_region 5 with (first | refine wpList_load_arr rfl _ _ rfl bF (i*17) rfl (cells17 n0 n1 n2 ro fa fl fc) _ (fun j hj=>HCV.out j hj) Tryz.underlying98 rfl infoF17 ?_ | refine wpList_store_new rfl _ _ _ rfl _ (cells17 n0 n1 n2 ro fa fl fc) rfl rfl infoF17 rfl (cells17_one ..) ?_)
   obtain ⟨Wc,hWc,b5,hBc,hSc⟩:=boxes1 wk (cells17 n0 n1 n2 ro fa fl fc) 98
   have HBC:=Lib.hid (below_call HR.out hBc (Nat.le_refl _))
   have HVN:=Lib.hid (show IsVec Wc (.agg #[.bool n0.s,.slice n0.a n0.n n0.c,.bool n0.t,.slice n0.b n0.m n0.d,.bool n1.s,.slice n1.a n1.n n1.c,.bool n1.t,.slice n1.b n1.m n1.d,.bool n2.s,.slice n2.a n2.n n2.c,.bool n2.t,.slice n2.b n2.m n2.d]) f.1 from hvn.below hBc)
   have HRO:=Lib.hid (show IsRat Wc (.agg #[.bool ro.s,.slice ro.a ro.n ro.c,.bool ro.t,.slice ro.b ro.m ro.d]) f.2 from hvo.below hBc)
   have HVP2:=Lib.hid (HVP.out.below HBC.out)
   have HBN:=Lib.hid hbd.1
   have HBO:=Lib.hid hbd.2
   have HBD:=Lib.hid (Bd.dot hbd.1 HBP.out)
   have KF:=Lib.hid b5
   have KP:=Lib.hid (B2.out.below HBC.out B2.out.lt)
   clear hbd hvn hvo hBc hSc b5
   rw [hWc]
   refine wp_region_b (rest:=0) [isV 0 (.pointer (some ⟨wk.heap.size,0,none⟩)),isV 1 (.agg #[.bool n0.s,.slice n0.a n0.n n0.c,.bool n0.t,.slice n0.b n0.m n0.d,.bool n1.s,.slice n1.a n1.n n1.c,.bool n1.t,.slice n1.b n1.m n1.d,.bool n2.s,.slice n2.a n2.n n2.c,.bool n2.t,.slice n2.b n2.m n2.d]),isV 2 (.agg #[.bool p0.s,.slice p0.a p0.n p0.c,.bool p0.t,.slice p0.b p0.m p0.d,.bool p1.s,.slice p1.a p1.n p1.c,.bool p1.t,.slice p1.b p1.m p1.d,.bool p2.s,.slice p2.a p2.n p2.c,.bool p2.t,.slice p2.b p2.m p2.d]),isP 3 (fun v w=>IsRat w v (qdot f.1 p)),isV 4 (.pointer (some ⟨wk.heap.size,12,none⟩)),isV 5 (.agg #[.bool ro.s,.slice ro.a ro.n ro.c,.bool ro.t,.slice ro.b ro.m ro.d]),isV 6 (.int .i64 (cmpR (qdot f.1 p) f.2))] [] ?AL #[true,true,true,true,true,true,true] (by kernel_rfl) [0,1,2,3,4,5,6] (by kernel_rfl) (by kernel_rfl) (by kernel_rfl) (by kernel_rfl) (by kernel_rfl) (by kernel_rfl) ?st ?hA ?hop ?hend
   case hA =>
    intro y
    simp only [putAll,dstOf,List.getElem?_toArray,List.getElem?_cons_zero,List.getElem?_cons_succ,Option.bind_some,Act.put,List.setIfInBounds_toArray,List.set_cons_zero,List.set_cons_succ]
    exact rfl
   case st=>exact StabL.cons isV.stab (StabL.cons isV.stab (StabL.cons isV.stab (StabL.cons (isP.stab (fun _ _ _ h hv=>hv.below h)) (StabL.cons isV.stab (StabL.cons isV.stab (StabL.cons isV.stab (StabL.nil)))))))
   case hop =>
    refine OpsOk.cons (i:=0) rfl (fun y w' hS hD K hK=>?_) ?_
    ·as_aux_lemma =>
     go_simp
     exact hK.out _ w' hS (Below.refl _ _) isV.put (fun h=>absurd h (by decide))
    refine OpsOk.cons (i:=1) rfl (fun y w' hS hD K hK=>?_) ?_
    ·as_aux_lemma =>
     have e0:y 0=.pointer (some ⟨wk.heap.size,0,none⟩):=isV.get (i:=0) (c:=.pointer (some ⟨wk.heap.size,0,none⟩)) (hD 0 (by kernel_rfl))
     obtain ⟨c0,c1,c2,c3,c4,c5,c6,c7,c8,c9,c10,c11,c12,c13,c14,c15,c16⟩:=(KF.out.below hS KF.out.lt).at17
     simp only [e0] at hK ⊢
     go_simp
     exact hK.out _ w' hS (Below.refl _ _) isV.put (fun h=>absurd h (by decide))
    refine OpsOk.cons (i:=2) rfl (fun y w' hS hD K hK=>?_) ?_
    ·as_aux_lemma =>
     have bx:=KP.out.below hS KP.out.lt
     obtain ⟨c0,c1,c2,c3⟩:=bx.p0.1
     obtain ⟨c4,c5,c6,c7⟩:=bx.p1.1
     obtain ⟨c8,c9,c10,c11⟩:=bx.p2.1
     go_simp
     exact hK.out _ w' hS (Below.refl _ _) isV.put (fun h=>absurd h (by decide))
    refine OpsOk.cons (i:=3) rfl (fun y w' hS hD K hK=>?_) ?_
    ·as_aux_lemma =>
     have e1:y 1=.agg #[.bool n0.s,.slice n0.a n0.n n0.c,.bool n0.t,.slice n0.b n0.m n0.d,.bool n1.s,.slice n1.a n1.n n1.c,.bool n1.t,.slice n1.b n1.m n1.d,.bool n2.s,.slice n2.a n2.n n2.c,.bool n2.t,.slice n2.b n2.m n2.d]:=isV.get (i:=1) (c:=.agg #[.bool n0.s,.slice n0.a n0.n n0.c,.bool n0.t,.slice n0.b n0.m n0.d,.bool n1.s,.slice n1.a n1.n n1.c,.bool n1.t,.slice n1.b n1.m n1.d,.bool n2.s,.slice n2.a n2.n n2.c,.bool n2.t,.slice n2.b n2.m n2.d]) (hD 1 (by kernel_rfl))
     have e2:y 2=.agg #[.bool p0.s,.slice p0.a p0.n p0.c,.bool p0.t,.slice p0.b p0.m p0.d,.bool p1.s,.slice p1.a p1.n p1.c,.bool p1.t,.slice p1.b p1.m p1.d,.bool p2.s,.slice p2.a p2.n p2.c,.bool p2.t,.slice p2.b p2.m p2.d]:=isV.get (i:=2) (c:=.agg #[.bool p0.s,.slice p0.a p0.n p0.c,.bool p0.t,.slice p0.b p0.m p0.d,.bool p1.s,.slice p1.a p1.n p1.c,.bool p1.t,.slice p1.b p1.m p1.d,.bool p2.s,.slice p2.a p2.n p2.c,.bool p2.t,.slice p2.b p2.m p2.d]) (hD 2 (by kernel_rfl))
     simp only [e1,e2] at hK ⊢
     go_simp
     refine (VDot_any _ _ f.1 p k l w' (HVN.out.below hS) (HVP2.out.below hS) HBN.out HBP.out (by omega)).mono ?_
     rintro e w'' ⟨⟨v,rfl,hv⟩,hb⟩
     exact hK.out v w'' (below_call hS hb (Nat.le_refl _)) hb (isP.put hv) (fun h=>absurd h (by decide))
    refine OpsOk.cons (i:=4) rfl (fun y w' hS hD K hK=>?_) ?_
    ·as_aux_lemma =>
     go_simp
     exact hK.out _ w' hS (Below.refl _ _) isV.put (fun h=>absurd h (by decide))
    refine OpsOk.cons (i:=5) rfl (fun y w' hS hD K hK=>?_) ?_
    ·as_aux_lemma =>
     have e4:y 4=.pointer (some ⟨wk.heap.size,12,none⟩):=isV.get (i:=4) (c:=.pointer (some ⟨wk.heap.size,12,none⟩)) (hD 4 (by kernel_rfl))
     obtain ⟨c0,c1,c2,c3,c4,c5,c6,c7,c8,c9,c10,c11,c12,c13,c14,c15,c16⟩:=(KF.out.below hS KF.out.lt).at17
     simp only [e4] at hK ⊢
     go_simp
     exact hK.out _ w' hS (Below.refl _ _) isV.put (fun h=>absurd h (by decide))
    refine OpsOk.cons (i:=6) rfl (fun y w' hS hD K hK=>?_) ?_
    ·as_aux_lemma =>
     have e3:=isP.get (i:=3) (p:=fun v w=>IsRat w v (qdot f.1 p)) (hD 3 (by kernel_rfl))
     have e5:y 5=.agg #[.bool ro.s,.slice ro.a ro.n ro.c,.bool ro.t,.slice ro.b ro.m ro.d]:=isV.get (i:=5) (c:=.agg #[.bool ro.s,.slice ro.a ro.n ro.c,.bool ro.t,.slice ro.b ro.m ro.d]) (hD 5 (by kernel_rfl))
     simp only [e5] at hK ⊢
     go_simp
     refine (RCompare_any _ _ (qdot f.1 p) f.2 (3*(k+l+1)+1) k w' e3 (HRO.out.below hS) HBD.out HBO.out (by omega)).mono ?_
     rintro e w'' ⟨rfl,hb⟩
     exact hK.out _ w'' (below_call hS hb (Nat.le_refl _)) hb isV.put (fun h=>absurd h (by decide))
    exact OpsOk.nil
   case hend =>
    intro y w' hS hR hF
    have e6:y 6=.int .i64 (cmpR (qdot f.1 p) f.2):=isV.get (i:=6) (c:=.int .i64 (cmpR (qdot f.1 p) f.2)) (hR 6 (by kernel_rfl))
    simp only [e6]
    refine wpAny_over (by kernel_rfl) ?_
    have HB6:=Lib.hid (below_call HBC.out hS (Nat.le_refl _))
    clear hS hR hF e6
    by_cases hgt:f.2<qdot f.1 p
    ·have hc6:cmpR (qdot f.1 p) f.2=1:=by unfold cmpR;rw [if_neg (Rat.not_lt.mpr (Rat.le_of_lt hgt)),if_pos hgt]
     rw [hc6]
     have HC6:=Lib.hid hgt
     clear hgt hc6
     go_wp2
     exact bodyPost_ret (results_tmp Tryz.results17 _ _ _) rfl ⟨by
      rw [show locR fs p=-1 from by unfold locR;rw [if_pos (List.any_eq_true.mpr ⟨f,List.mem_of_getElem? HFI.out,decide_eq_true HC6.out⟩)]];rfl,below_call HB.out HB6.out (by have:=HSZ.out;omega)⟩
    ·by_cases heq:qdot f.1 p=f.2
     ·have hc6:cmpR (qdot f.1 p) f.2=0:=cmpR_zero.mpr heq
      rw [hc6]
      have HC6:=Lib.hid heq
      have HC7:=Lib.hid hgt
      clear heq hgt hc6
      go_wp2
      go_round
      case rel=>exact ⟨i+1,by omega,rfl,0,rfl,LocI.on HLOC.out HFI.out HC7.out HC6.out,HB6.out⟩
      case measure=>show N - ((i:Int)+1).toNat<N - (i:Int).toNat;omega
     ·have hc6:cmpR (qdot f.1 p) f.2=-1:=by
       unfold cmpR
       rw [if_pos (Rat.lt_of_le_of_ne (Rat.not_lt.mp hgt) heq)]
      rw [hc6]
      have HC6:=Lib.hid heq
      have HC7:=Lib.hid hgt
      clear heq hgt hc6
      go_wp2
      go_round
      case rel=>exact ⟨i+1,by omega,rfl,z,rfl,LocI.off HLOC.out HFI.out HC7.out HC6.out,HB6.out⟩
      case measure=>show N - ((i:Int)+1).toNat<N - (i:Int).toNat;omega
set_option maxRecDepth 100000 in
set_option maxHeartbeats 4000000 in
theorem touched_any (v0 v1 v2 vp:Value) (fs:List (Q3 × Rat)) (frs:List FR) (p:Q3) (base k l:Nat) (w:World) (hF:FRow w base v1 fs frs) (hfv:∀ r ∈ frs,∃ a n c,r.v=.slice a n c) (hk:∀ f ∈ fs,BdV k f.1∧Bd k f.2) (hp:IsVec w vp p) (hl:BdV l p) (hkl:k+l≤1000) (hmax:fs.length≤262144) :
  Calls Tryz.prog 20 #[.agg #[v0,v1,v2],vp] w fun e w'=>RetInts w' w.heap.size e (touR fs p)∧Below w.heap.size w w':=by
 obtain ⟨i0,hinf,hz0,hz1,hz2⟩:=info_parts infoIn
 obtain ⟨p0,p1,p2,rfl,hp0,hp1,hp2⟩:=hp
 obtain ⟨W,hW,b1,b2,hB,hS⟩:=boxes2 w #[v0,v1,v2] (cells3 p0 p1 p2) 32 58
 have hvp:IsVec w (.agg (cells3 p0 p1 p2)) p:=⟨p0,p1,p2,rfl,hp0,hp1,hp2⟩
 have HVP:=Lib.hid (hvp.below hB)
 have HF:=Lib.hid (hF.below hB)
 have HFV:=Lib.hid hfv
 have HB:=Lib.hid hB
 have HSZ:=Lib.hid hS
 have B2:=Lib.hid b2
 have HK:=Lib.hid hk
 have HBP:=Lib.hid hl
 obtain ⟨x0,x1,x2,-⟩:=b1.three
 obtain ⟨N,hN⟩:∃ N,frs.length=N:=⟨_,rfl⟩
 have HLE:=Lib.hid (show fs.length=N from by rw [← hF.len];exact hN)
 have hmx:N≤262144:=by rw [← HLE.out];exact hmax
 have HMX:=Lib.hid hmx
 obtain ⟨pa,cap,hv⟩:∃ pa cap,v1=.slice pa N cap:=by
  obtain ⟨_,⟨rfl,h0⟩ | ⟨g,c,_,rfl,_⟩⟩:=hF.own
  ·exact ⟨none,0,by rw [← hN,h0]⟩
  ·exact ⟨_,_,by rw [← hN]⟩
 have HNN:=Lib.hid hN
 clear hF hfv hB hS b1 b2 hk hl hp0 hp1 hp2 hN hvp
 subst hv
 unfold cells3 at hW ⊢
 go_enter Tryz.func20,Tryz.ntmps20
 go_wp2_with fail
 go_loopw [5,11] (fun ov' iv wr=>∃ i ov,ov=ov'∧i≤N∧iv=.int .i64 (i:Nat)∧Hid (OwnN wr W.heap.size ov (touK fs p i))∧Hid (Below W.heap.size W wr)) (fun _ iv _=>N - (intOf iv).toNat)
 case atStart=>exact ⟨0,_,rfl,Nat.zero_le _,rfl,World.ownsRow_nil _ _ _ _,Below.refl _ _⟩
 case round =>
  obtain ⟨i,ov,rfl,hi,rfl,HO,HR⟩:=hrel
  obtain ⟨wk,rfl⟩:∃ wk,wk=wr:=⟨_,rfl⟩
  by_cases h0:i=N
  ·have hn:¬ (i:Int)<(N:Int):=by omega
   have H0:=Lib.hid h0
   clear h0
   go_wp2
   exact bodyPost_ret (results_tmp Tryz.results20 _ _ _) rfl ⟨⟨_,rfl,by
    unfold touR;rw [HLE.out,← H0.out];exact own_base HO.out (by have:=HSZ.out;omega)⟩,below_call HB.out HR.out (by have:=HSZ.out;omega)⟩
  ·have hlt:(i:Int)<(N:Int):=by omega
   have hil:i<N:=by omega
   obtain ⟨bF,n0,n1,n2,ro,fa,fl,fc,f,e,hb,hf,hvn,hvo,hcv⟩:=(HF.out.below HR.out).open17 HFV.out i (by have:=HNN.out;omega)
   cases e
   have HFI:=Lib.hid hf
   have HCV:=Lib.hid hcv
   have hbd:=HK.out f (List.mem_of_getElem? hf)
   clear hf hcv
   go_upto_region 5 with (first | refine wpList_load_arr rfl _ _ rfl bF (i*17) rfl (cells17 n0 n1 n2 ro fa fl fc) _ (fun j hj=>HCV.out j hj) Tryz.underlying98 rfl infoF17 ?_ | refine wpList_store_new rfl _ _ _ rfl _ (cells17 n0 n1 n2 ro fa fl fc) rfl rfl infoF17 rfl (cells17_one ..) ?_)
   obtain ⟨Wc,hWc,b5,hBc,hSc⟩:=boxes1 wk (cells17 n0 n1 n2 ro fa fl fc) 98
   have hBc1:=Lib.hid hBc
   have HBC:=Lib.hid (below_call HR.out hBc (Nat.le_refl _))
   have HVN:=Lib.hid (show IsVec Wc (.agg #[.bool n0.s,.slice n0.a n0.n n0.c,.bool n0.t,.slice n0.b n0.m n0.d,.bool n1.s,.slice n1.a n1.n n1.c,.bool n1.t,.slice n1.b n1.m n1.d,.bool n2.s,.slice n2.a n2.n n2.c,.bool n2.t,.slice n2.b n2.m n2.d]) f.1 from hvn.below hBc)
   have HRO:=Lib.hid (show IsRat Wc (.agg #[.bool ro.s,.slice ro.a ro.n ro.c,.bool ro.t,.slice ro.b ro.m ro.d]) f.2 from hvo.below hBc)
   have HVP2:=Lib.hid (HVP.out.below HBC.out)
   have HBN:=Lib.hid hbd.1
   have HBO:=Lib.hid hbd.2
   have HBD:=Lib.hid (Bd.dot hbd.1 HBP.out)
   have KF:=Lib.hid b5
   have KP:=Lib.hid (B2.out.below HBC.out B2.out.lt)
   clear hbd hvn hvo hBc hSc b5
   rw [hWc]
   refine wp_region_b (rest:=0) [isV 0 (.pointer (some ⟨wk.heap.size,0,none⟩)),isV 1 (.agg #[.bool n0.s,.slice n0.a n0.n n0.c,.bool n0.t,.slice n0.b n0.m n0.d,.bool n1.s,.slice n1.a n1.n n1.c,.bool n1.t,.slice n1.b n1.m n1.d,.bool n2.s,.slice n2.a n2.n n2.c,.bool n2.t,.slice n2.b n2.m n2.d]),isV 2 (.agg #[.bool p0.s,.slice p0.a p0.n p0.c,.bool p0.t,.slice p0.b p0.m p0.d,.bool p1.s,.slice p1.a p1.n p1.c,.bool p1.t,.slice p1.b p1.m p1.d,.bool p2.s,.slice p2.a p2.n p2.c,.bool p2.t,.slice p2.b p2.m p2.d]),isP 3 (fun v w=>IsRat w v (qdot f.1 p)),isV 4 (.pointer (some ⟨wk.heap.size,12,none⟩)),isV 5 (.agg #[.bool ro.s,.slice ro.a ro.n ro.c,.bool ro.t,.slice ro.b ro.m ro.d]),isV 6 (.int .i64 (cmpR (qdot f.1 p) f.2)),isV 7 (.bool (decide (cmpR (qdot f.1 p) f.2=0)))] [] ?AT #[true,true,true,true,true,true,true,true] (by kernel_rfl) [0,1,2,3,4,5,6,7] (by kernel_rfl) (by kernel_rfl) (by kernel_rfl) (by kernel_rfl) (by kernel_rfl) (by kernel_rfl) ?st ?hA ?hop ?hend
   case hA =>
    intro y
    simp only [putAll,dstOf,List.getElem?_toArray,List.getElem?_cons_zero,List.getElem?_cons_succ,Option.bind_some,Act.put,List.setIfInBounds_toArray,List.set_cons_zero,List.set_cons_succ]
    exact rfl
   case st=>exact StabL.cons isV.stab (StabL.cons isV.stab (StabL.cons isV.stab (StabL.cons (isP.stab (fun _ _ _ h hv=>hv.below h)) (StabL.cons isV.stab (StabL.cons isV.stab (StabL.cons isV.stab (StabL.cons isV.stab (StabL.nil))))))))
   case hop =>
    refine OpsOk.cons (i:=0) rfl (fun y w' hS hD K hK=>?_) ?_
    ·as_aux_lemma =>
     go_simp
     exact hK.out _ w' hS (Below.refl _ _) isV.put (fun h=>absurd h (by decide))
    refine OpsOk.cons (i:=1) rfl (fun y w' hS hD K hK=>?_) ?_
    ·as_aux_lemma =>
     have e0:y 0=.pointer (some ⟨wk.heap.size,0,none⟩):=isV.get (i:=0) (c:=.pointer (some ⟨wk.heap.size,0,none⟩)) (hD 0 (by kernel_rfl))
     obtain ⟨c0,c1,c2,c3,c4,c5,c6,c7,c8,c9,c10,c11,c12,c13,c14,c15,c16⟩:=(KF.out.below hS KF.out.lt).at17
     simp only [e0] at hK ⊢
     go_simp
     exact hK.out _ w' hS (Below.refl _ _) isV.put (fun h=>absurd h (by decide))
    refine OpsOk.cons (i:=2) rfl (fun y w' hS hD K hK=>?_) ?_
    ·as_aux_lemma =>
     have bx:=KP.out.below hS KP.out.lt
     obtain ⟨c0,c1,c2,c3⟩:=bx.p0.1
     obtain ⟨c4,c5,c6,c7⟩:=bx.p1.1
     obtain ⟨c8,c9,c10,c11⟩:=bx.p2.1
     go_simp
     exact hK.out _ w' hS (Below.refl _ _) isV.put (fun h=>absurd h (by decide))
    refine OpsOk.cons (i:=3) rfl (fun y w' hS hD K hK=>?_) ?_
    ·as_aux_lemma =>
     have e1:y 1=.agg #[.bool n0.s,.slice n0.a n0.n n0.c,.bool n0.t,.slice n0.b n0.m n0.d,.bool n1.s,.slice n1.a n1.n n1.c,.bool n1.t,.slice n1.b n1.m n1.d,.bool n2.s,.slice n2.a n2.n n2.c,.bool n2.t,.slice n2.b n2.m n2.d]:=isV.get (i:=1) (c:=.agg #[.bool n0.s,.slice n0.a n0.n n0.c,.bool n0.t,.slice n0.b n0.m n0.d,.bool n1.s,.slice n1.a n1.n n1.c,.bool n1.t,.slice n1.b n1.m n1.d,.bool n2.s,.slice n2.a n2.n n2.c,.bool n2.t,.slice n2.b n2.m n2.d]) (hD 1 (by kernel_rfl))
     have e2:y 2=.agg #[.bool p0.s,.slice p0.a p0.n p0.c,.bool p0.t,.slice p0.b p0.m p0.d,.bool p1.s,.slice p1.a p1.n p1.c,.bool p1.t,.slice p1.b p1.m p1.d,.bool p2.s,.slice p2.a p2.n p2.c,.bool p2.t,.slice p2.b p2.m p2.d]:=isV.get (i:=2) (c:=.agg #[.bool p0.s,.slice p0.a p0.n p0.c,.bool p0.t,.slice p0.b p0.m p0.d,.bool p1.s,.slice p1.a p1.n p1.c,.bool p1.t,.slice p1.b p1.m p1.d,.bool p2.s,.slice p2.a p2.n p2.c,.bool p2.t,.slice p2.b p2.m p2.d]) (hD 2 (by kernel_rfl))
     simp only [e1,e2] at hK ⊢
     go_simp
     refine (VDot_any _ _ f.1 p k l w' (HVN.out.below hS) (HVP2.out.below hS) HBN.out HBP.out (by omega)).mono ?_
     rintro e w'' ⟨⟨v,rfl,hv⟩,hb⟩
     exact hK.out v w'' (below_call hS hb (Nat.le_refl _)) hb (isP.put hv) (fun h=>absurd h (by decide))
    refine OpsOk.cons (i:=4) rfl (fun y w' hS hD K hK=>?_) ?_
    ·as_aux_lemma =>
     go_simp
     exact hK.out _ w' hS (Below.refl _ _) isV.put (fun h=>absurd h (by decide))
    refine OpsOk.cons (i:=5) rfl (fun y w' hS hD K hK=>?_) ?_
    ·as_aux_lemma =>
     have e4:y 4=.pointer (some ⟨wk.heap.size,12,none⟩):=isV.get (i:=4) (c:=.pointer (some ⟨wk.heap.size,12,none⟩)) (hD 4 (by kernel_rfl))
     obtain ⟨c0,c1,c2,c3,c4,c5,c6,c7,c8,c9,c10,c11,c12,c13,c14,c15,c16⟩:=(KF.out.below hS KF.out.lt).at17
     simp only [e4] at hK ⊢
     go_simp
     exact hK.out _ w' hS (Below.refl _ _) isV.put (fun h=>absurd h (by decide))
    refine OpsOk.cons (i:=6) rfl (fun y w' hS hD K hK=>?_) ?_
    ·as_aux_lemma =>
     have e3:=isP.get (i:=3) (p:=fun v w=>IsRat w v (qdot f.1 p)) (hD 3 (by kernel_rfl))
     have e5:y 5=.agg #[.bool ro.s,.slice ro.a ro.n ro.c,.bool ro.t,.slice ro.b ro.m ro.d]:=isV.get (i:=5) (c:=.agg #[.bool ro.s,.slice ro.a ro.n ro.c,.bool ro.t,.slice ro.b ro.m ro.d]) (hD 5 (by kernel_rfl))
     simp only [e5] at hK ⊢
     go_simp
     refine (RCompare_any _ _ (qdot f.1 p) f.2 (3*(k+l+1)+1) k w' e3 (HRO.out.below hS) HBD.out HBO.out (by omega)).mono ?_
     rintro e w'' ⟨rfl,hb⟩
     exact hK.out _ w'' (below_call hS hb (Nat.le_refl _)) hb isV.put (fun h=>absurd h (by decide))
    refine OpsOk.cons (i:=7) rfl (fun y w' hS hD K hK=>?_) ?_
    ·as_aux_lemma =>
     have e6:y 6=.int .i64 (cmpR (qdot f.1 p) f.2):=isV.get (i:=6) (c:=.int .i64 (cmpR (qdot f.1 p) f.2)) (hD 6 (by kernel_rfl))
     simp only [e6] at hK ⊢
     go_simp
     exact hK.out _ w' hS (Below.refl _ _) isV.put (fun h=>absurd h (by decide))
    exact OpsOk.nil
   case hend =>
    intro y w' hS hR hF
    have e7:y 7=.bool (decide (cmpR (qdot f.1 p) f.2=0)):=isV.get (i:=7) (c:=.bool (decide (cmpR (qdot f.1 p) f.2=0))) (hR 7 (by kernel_rfl))
    simp only [e7]
    refine wpAny_over (by kernel_rfl) ?_
    have HB6:=Lib.hid (below_call HBC.out hS (Nat.le_refl _))
    have HB7:=Lib.hid (show Below wk.heap.size wk w' from (by have h1:=hBc1;exact below_call h1 hS (Nat.le_refl _)))
    clear hS hR hF e7
    by_cases heq:cmpR (qdot f.1 p) f.2=0
    ·have hd:decide (cmpR (qdot f.1 p) f.2=0)=true:=decide_eq_true heq
     rw [hd]
     have HC6:=Lib.hid (cmpR_zero.mp heq)
     have HO6:=Lib.hid (own_below HO.out HB7.out)
     have hbs:W.heap.size≤w'.heap.size:=HB6.out.size
     have HBS:=Lib.hid hbs
     have hol:=(Nat.le_trans (List.length_filter_le _ _) (Nat.le_of_eq (List.length_range (n:=i))):(touK fs p i).length≤i)
     have HOL:=Lib.hid hol
     clear heq hd hbs hol
     go_wp2_with (at_builtin;refine wpList_append_own _ rfl _ _ 43 rfl W.heap.size 3 i0 (.int .i64 0) 1 8 Tryz.underlying43 hinf hz0 hz1 hz2 rfl (by decide) _ _ _ rfl (World.ownsRow.alloc HO6.out _) ⟨w'.heap.size,0,none⟩ 1 1 [.int .i64 (i:Nat)] rfl rfl (fun j u hj=>cell_new w' _ _ j u hj) (by intro u hu;simp at hu;rcases hu with rfl;rfl) (by have:=HOL.out;have:=HMX.out;unfold maxLen;omega) (by have:=HOL.out;have:=HMX.out;omega) (by have:=HBS.out;simp;omega) ?_)
     intro v' w6 hown' hgrow6 _
     have hge:=own_ge HO6.out
     have HO7:=Lib.hid (show OwnN w6 W.heap.size v' (touK fs p (i+1)) from by
      rw [touK_on HFI.out HC6.out]
      unfold OwnN
      rw [List.length_append,List.map_append]
      exact hown')
     have HB8:=Lib.hid (show Below W.heap.size W w6 from (HB6.out.alloc HBS.out _).grown hgrow6 (by have:=HBS.out;simp;omega) (fun g hg=>hge g hg))
     clear hown' hgrow6 hge
     go_wp2
     go_round
     case rel=>exact ⟨i+1,_,rfl,by omega,rfl,HO7.out,HB8.out⟩
     case measure=>show N - ((i:Int)+1).toNat<N - (i:Int).toNat;omega
    ·have hd:decide (cmpR (qdot f.1 p) f.2=0)=false:=decide_eq_false heq
     rw [hd]
     have HC6:=Lib.hid (fun h=>heq (cmpR_zero.mpr h))
     have HO6:=Lib.hid (own_below HO.out HB7.out)
     clear heq hd
     go_wp2
     go_round
     case rel=>exact ⟨i+1,_,rfl,by omega,rfl,by rw [touK_off HFI.out HC6.out];exact HO6.out,HB6.out⟩
     case measure=>show N - ((i:Int)+1).toNat<N - (i:Int).toNat;omega
end Go.Proofs.YtaibkpbklfodiaaGreatDoor
end
section
namespace Dowel
open V
variable {P : Nat → V} {N E : Nat} {fs : List RF} {p : Q3}
def Within (P:Nat→V) (N:Nat) (p:Q3):Prop:=∀ n b,Face P N n b→qdot (ptQ n) p<((dot n (P b):Int):Rat)
theorem qdot_prim (n:V) (p:Q3):qdot (ptQ n) p=((gcdV n:Int):Rat)*qdot (ptQ (primV n)) p:=by
 obtain ⟨h1,h2,h3⟩:=primV_mul n
 unfold qdot ptQ
 dsimp only
 rw [h1,h2,h3]
 simp only [Rat.intCast_mul]
 grind
theorem lt_scale {g a b:Rat} (hg:0<g):g*a<g*b↔a<b:=Rat.mul_lt_mul_left hg
theorem RingsOk.faceP (h:RingsOk P N fs E) (hS:Sorted P N) {f:RF} (hf:f ∈ fs) (p:Q3) :
  ∃ b,Face P N f.n b∧f.o=onMask P N f.n b∧(qdot (faceQ P f).1 p<(faceQ P f).2↔qdot (ptQ f.n) p<((dot f.n (P b):Int):Rat))∧((faceQ P f).2<qdot (faceQ P f).1 p↔((dot f.n (P b):Int):Rat)<qdot (ptQ f.n) p):=by
 obtain ⟨b,hF,ho,hr,hp⟩:=h.pl hS hf
 obtain ⟨h1,-⟩:=h.face hS hf
 have hg:(0:Rat)<((gcdV f.n:Int):Rat):=by exact_mod_cast gcdV_pos hF.n0
 have e1:=qdot_prim f.n p
 have e2:((dot f.n (P b):Int):Rat)=((gcdV f.n:Int):Rat)*((dot (primV f.n) (P b):Int):Rat):=by rw [dot_primV,Rat.intCast_mul]
 refine ⟨b,hF,ho,?_,?_⟩
 ·rw [h1,hp,e1,e2];exact (lt_scale hg).symm
 ·rw [h1,hp,e1,e2];exact (lt_scale hg).symm
theorem loc_in (h:RingsOk P N fs E) (hS:Sorted P N) (hp:Within P N p):locR (fs.map (faceQ P)) p=1∧touR (fs.map (faceQ P)) p=[]:=by
 have key:∀ g ∈ fs.map (faceQ P),qdot g.1 p<g.2:=fun g hg=>by
  obtain ⟨f,hf,rfl⟩:=List.mem_map.mp hg
  obtain ⟨b,hF,-,h1,-⟩:=h.faceP hS hf p
  exact h1.mpr (hp _ _ hF)
 constructor
 ·unfold locR
  rw [if_neg (fun hc=>by
   obtain ⟨g,hg,hq⟩:=List.any_eq_true.mp hc
   have h5:=key g hg;have h6:=of_decide_eq_true hq;grind),if_neg (fun hc=>by
   obtain ⟨g,hg,hq⟩:=List.any_eq_true.mp hc
   exact Rat.ne_of_lt (key g hg) (of_decide_eq_true hq))]
 ·unfold touR touK
  refine List.filter_eq_nil_iff.mpr fun j hj=>?_
  rw [decide_eq_true_eq]
  rintro ⟨g,hg,e⟩
  exact Rat.ne_of_lt (key g (List.mem_of_getElem? hg)) e
theorem loc_on (h:RingsOk P N fs E) (hV:Valid P N) {j:Nat} (hj:j<N):locR (fs.map (faceQ P)) (ptQ (P j))=0:=by
 unfold locR
 rw [if_neg (fun hc=>by
  obtain ⟨g,hg,hq⟩:=List.any_eq_true.mp hc
  obtain ⟨f,hf,rfl⟩:=List.mem_map.mp hg
  obtain ⟨b,hF,-,-,h2⟩:=h.faceP hV.sorted hf (ptQ (P j))
  have h3:=h2.mp (of_decide_eq_true hq)
  rw [qdot_pt] at h3
  have h4:dot f.n (P b)<dot f.n (P j):=by exact_mod_cast h3
  have:=hF.out j hj
  rw [dot_sub] at this
  omega)]
 obtain ⟨⟨n,b,hF,h0⟩,-⟩:=hV.extr j hj
 obtain ⟨f,hf,ho⟩:=h.all n b hF
 obtain ⟨b',hF',ho',h1,h2⟩:=h.faceP hV.sorted hf (ptQ (P j))
 have hm:dot f.n (P j - P b')=0:=by
  have:=mask_inj _ _ N (ho'.symm.trans ho) j hj
  rw [decide_eq_decide] at this
  exact this.mpr h0
 rw [dot_sub] at hm
 rw [qdot_pt] at h1 h2
 refine if_pos (List.any_eq_true.mpr ⟨faceQ P f,List.mem_map.mpr ⟨f,hf,rfl⟩,?_⟩)
 rw [decide_eq_true_eq]
 have g1:¬ (faceQ P f).2<qdot (faceQ P f).1 (ptQ (P j)):=fun hc=>by
  have:dot f.n (P b')<dot f.n (P j):=by exact_mod_cast h2.mp hc
  omega
 have g2:¬ qdot (faceQ P f).1 (ptQ (P j))<(faceQ P f).2:=fun hc=>by
  have:dot f.n (P j)<dot f.n (P b'):=by exact_mod_cast h1.mp hc
  omega
 exact Rat.le_antisymm (Rat.not_lt.mp g1) (Rat.not_lt.mp g2)
theorem loc_out (h:RingsOk P N fs E) (hV:Valid P N) {j:Nat} (hj:j<N) {m:Q3} (hm:Within P N m) :
  locR (fs.map (faceQ P)) ⟨(ptQ (P j)).x+(ptQ (P j)).x - m.x,(ptQ (P j)).y+(ptQ (P j)).y - m.y,(ptQ (P j)).z+(ptQ (P j)).z - m.z⟩=-1:=by
 obtain ⟨⟨n,b,hF,h0⟩,-⟩:=hV.extr j hj
 obtain ⟨f,hf,ho⟩:=h.all n b hF
 obtain ⟨b',hF',ho',h1,h2⟩:=h.faceP hV.sorted hf ⟨(ptQ (P j)).x+(ptQ (P j)).x - m.x,(ptQ (P j)).y+(ptQ (P j)).y - m.y,(ptQ (P j)).z+(ptQ (P j)).z - m.z⟩
 have hj0:dot f.n (P j - P b')=0:=by
  have:=mask_inj _ _ N (ho'.symm.trans ho) j hj
  rw [decide_eq_decide] at this
  exact this.mpr h0
 rw [dot_sub] at hj0
 have hw:=hm _ _ hF'
 have e:qdot (ptQ f.n) (ptQ (P j))=((dot f.n (P b'):Int):Rat):=by rw [qdot_pt];congr 1;omega
 unfold locR
 refine if_pos (List.any_eq_true.mpr ⟨faceQ P f,List.mem_map.mpr ⟨f,hf,rfl⟩,?_⟩)
 rw [decide_eq_true_eq]
 refine h2.mpr ?_
 have e2:qdot (ptQ f.n) ⟨(ptQ (P j)).x+(ptQ (P j)).x - m.x,(ptQ (P j)).y+(ptQ (P j)).y - m.y,(ptQ (P j)).z+(ptQ (P j)).z - m.z⟩=qdot (ptQ f.n) (ptQ (P j))+(qdot (ptQ f.n) (ptQ (P j)) - qdot (ptQ f.n) m):=by
  unfold qdot;dsimp only;grind
 rw [e2,e]
 grind
theorem wsum_dot (w:Nat→Int) (m:V) (k:Nat):wsum w (fun i=>dot m (P i)) k=m.x*wsum w (fun i=>(P i).x) k+m.y*wsum w (fun i=>(P i).y) k+m.z*wsum w (fun i=>(P i).z) k:=by
 induction k with
 | zero=>simp [wsum]
 | succ k ih=>simp only [wsum,ih];unfold dot;grind
theorem wsum_pos {w:Nat→Int} {k:Nat} (hw:∀ i,i<k→0<w i) (hk:0<k):0<wsum w (fun _=>1) k:=by
 induction k with
 | zero=>omega
 | succ k ih =>
  have h1:=hw k (by omega)
  simp only [wsum,Int.mul_one]
  by_cases e:k=0
  ·subst e;simp only [wsum];omega
  ·have:=ih (fun i hi=>hw i (by omega)) (by omega);omega
theorem mean_within {w:Nat→Int} (hN:0<N) (hw:∀ i,i<N→0<w i) (hfull:Full P N) :
  Within P N ⟨((wsum w (fun i=>(P i).x) N:Int):Rat) / ((wsum w (fun _=>1) N:Int):Rat),((wsum w (fun i=>(P i).y) N:Int):Rat) / ((wsum w (fun _=>1) N:Int):Rat),((wsum w (fun i=>(P i).z) N:Int):Rat) / ((wsum w (fun _=>1) N:Int):Rat)⟩:=fun n b hF=>by
 have h1:=mean_in hw hF hfull
 have ht:(0:Rat)<((wsum w (fun _=>1) N:Int):Rat):=by exact_mod_cast wsum_pos hw hN
 have e:((wsum w (fun _=>1) N:Int):Rat)*qdot (ptQ n) ⟨((wsum w (fun i=>(P i).x) N:Int):Rat) / ((wsum w (fun _=>1) N:Int):Rat),((wsum w (fun i=>(P i).y) N:Int):Rat) / ((wsum w (fun _=>1) N:Int):Rat),((wsum w (fun i=>(P i).z) N:Int):Rat) / ((wsum w (fun _=>1) N:Int):Rat)⟩=((wsum w (fun i=>dot n (P i)) N:Int):Rat):=by
  rw [wsum_dot]
  simp only [Rat.intCast_add,Rat.intCast_mul]
  have hne:=Rat.ne_of_gt ht
  unfold qdot ptQ
  dsimp only
  generalize ((wsum w (fun _=>1) N:Int):Rat)=t at *
  have c:∀ x y:Rat,t*(x*(y / t))=x*y:=fun x y=>by rw [← Rat.mul_assoc,Rat.mul_comm t x,Rat.mul_assoc,Rat.div_def,Rat.mul_comm y,← Rat.mul_assoc t,Rat.mul_inv_cancel t hne,Rat.one_mul]
  grind
 refine (lt_scale ht).mp ?_
 rw [e,← Rat.intCast_mul]
 exact_mod_cast h1
theorem centre_within (h:RingsOk P N fs E) (hV:Valid P N) (hr:∀ f ∈ fs,∀ i ∈ f.r,i<N) :
  sumD (piecesQ (qAt (ptsQ P N)) (fs.map RF.r))≠0∧Within P N (qscale (1 / (4*sumD (piecesQ (qAt (ptsQ P N)) (fs.map RF.r)))) (sumC (piecesQ (qAt (ptsQ P N)) (fs.map RF.r)))):=by
 have h4:=hV.four
 obtain ⟨ps,hps,hg⟩:=h.fans
 have hr':∀ r ∈ fs.map RF.r,∀ i ∈ r,i<N:=fun r hm=>by
  obtain ⟨f,hf,rfl⟩:=List.mem_map.mp hm
  exact hr f hf
 have e1:=sumD_pts (P:=P) (show 0<N by omega) hr'
 rw [hg] at e1
 have hp:=fans_pos hps hV.sorted.inj hV.full hV.top (show 0<N by omega)
 have hpq:(0:Rat)<sumD (piecesQ (qAt (ptsQ P N)) (fs.map RF.r)):=by rw [e1];exact_mod_cast hp
 refine ⟨Rat.ne_of_gt hpq,fun n b hF=>?_⟩
 have e2:=sumC_pts (P:=P) (show 0<N by omega) hr' n
 rw [hg] at e2
 have h5:=centre_in hps hV.sorted.inj hV.full hV.top (show 0<N by omega) hF
 rw [qdot_qscale,e2]
 have h6:((fans P N ps (fun a b d=>tetD P 0 a b d*(dot n (P a)+dot n (P b)+dot n (P d)+dot n (P 0))):Int):Rat)<sumD (piecesQ (qAt (ptsQ P N)) (fs.map RF.r))*(4*((dot n (P b):Int):Rat)):=by rw [e1];exact_mod_cast h5
 generalize sumD (piecesQ (qAt (ptsQ P N)) (fs.map RF.r))=s at *
 generalize ((fans P N ps (fun a b d=>tetD P 0 a b d*(dot n (P a)+dot n (P b)+dot n (P d)+dot n (P 0))):Int):Rat)=x at *
 have h7:(0:Rat)<4*s:=by grind
 refine (lt_scale h7).mp ?_
 rw [Rat.div_def,Rat.one_mul,← Rat.mul_assoc,Rat.mul_inv_cancel _ (Rat.ne_of_gt h7),Rat.one_mul]
 grind
end Dowel
end
section
namespace Dowel
open V Go Go.Proofs.YtaibkpbklfodiaaGreatDoor
variable {P : Nat → V} {N E : Nat} {fs : List RF}
theorem RingsOk.few (h:RingsOk P N fs E) (hN:N≤16):fs.length≤65536:=by
 have h1:=nodup_length (fs.map RF.o) (List.range 65536) h.nodup (fun x hx=>by
  obtain ⟨f,hf,rfl⟩:=List.mem_map.mp hx
  obtain ⟨b,-,ho,-⟩:=h.ok f hf
  rw [List.mem_range,ho]
  exact Nat.lt_of_lt_of_le (mask_lt _ _) (Nat.le_trans (Nat.pow_le_pow_right (n:=2) (by omega) hN) (by decide)))
 simpa using h1
theorem RingsOk.rows (h:RingsOk P N fs E) (hS:Sorted P N):∀ f ∈ fs,f.r≠[]∧∀ i ∈ f.r,i<N:=fun f hf=>by
 obtain ⟨b,hF,-,hr⟩:=h.ok f hf
 rw [hr]
 exact ⟨(hF.ring_hd hS).2,fun i hi=>(mem_onPl.mp ((hF.ring_mem hS i).mp hi).1).1⟩
theorem RingsOk.bd (h:RingsOk P N fs E) (hS:Sorted P N) (hn:∀ i,i<N→LeV 4096 (P i)):∀ g ∈ fs.map (faceQ P),BdV 2 g.1∧Bd 2 g.2:=fun g hg=>by
 obtain ⟨f,hf,rfl⟩:=List.mem_map.mp hg
 obtain ⟨b,hF,-,hr,-⟩:=h.pl hS hf
 obtain ⟨h1,-⟩:=h.face hS hf
 have hl:=primV_le (face_le hn hF) (by omega)
 have hh:f.r.headD 0<N:=by rw [hr];exact (Face.ring_hd hS hF).1
 rw [h1]
 refine ⟨bd_ptQ (hl.mono (by omega)),?_⟩
 have hd:=hl.dot (hn _ hh)
 show Bd 2 ((dot (primV f.n) (P (f.r.headD 0)):Int):Rat)
 refine Bd.int _ ?_
 unfold Le at hd
 unfold B
 omega
theorem bd_add {k l:Nat} {a b:Q3} (h:BdV k a) (h':BdV l b):BdV (k+l+1) ⟨a.x+b.x,a.y+b.y,a.z+b.z⟩:=⟨h.1.add h'.1,h.2.1.add h'.2.1,h.2.2.add h'.2.2⟩
theorem bd_sub {k l:Nat} {a b:Q3} (h:BdV k a) (h':BdV l b):BdV (k+l+1) ⟨a.x - b.x,a.y - b.y,a.z - b.z⟩:=⟨h.1.sub h'.1,h.2.1.sub h'.2.1,h.2.2.sub h'.2.2⟩
theorem bd_q3 {x y z t:Int} (hx:-9223372036854775808≤x∧x≤9223372036854775807) (hy:-9223372036854775808≤y∧y≤9223372036854775807) (hz:-9223372036854775808≤z∧z≤9223372036854775807) (ht:-9223372036854775808≤t∧t≤9223372036854775807) (h0:t≠0) :
  BdV 4 ⟨(x:Rat) / (t:Rat),(y:Rat) / (t:Rat),(z:Rat) / (t:Rat)⟩:=by
 have k:∀ n:Int,-9223372036854775808≤n∧n≤9223372036854775807→Bd 2 (n:Rat):=fun n h=>Bd.int n (by unfold B;omega)
 have h0':(t:Rat)≠0:=by exact_mod_cast h0
 exact ⟨Bd.div (k x hx) (k t ht) h0',Bd.div (k y hy) (k t ht) h0',Bd.div (k z hz) (k t ht) h0'⟩
theorem centre_bd {w:World} {v0 v1:Value} {qs:List Q3} {frs:List FR} {rs:List (List Nat)} {d M:Nat} (hS:SolidF w v0 v1 qs frs rs d M):BdV 18 (qscale (1 / (4*sumD (piecesQ (qAt qs) rs))) (sumC (piecesQ (qAt qs) rs))):=by
 obtain ⟨h1,h2,-⟩:=sum_bd hS.dpos hS.dmax hS.mmax hS.frac (by rw [hS.sol.len];exact hS.sol.max) (fun r hr=>(hS.sol.ring r hr).1) (piecesQ (qAt qs) rs) (Nat.le_refl _) (fun x hx=>hx)
 have:=BdV.qscale (bd4.mul h1).inv h2
 exact this
end Dowel
end
section
namespace Dowel
open Go
theorem wp_buildTo {P:Program} {o:Oper} {a:Act} {w:World} {K:Act→World→Prop} {Q:Exit→Act→World→Prop} (t:TypeId) (parts:Array (Nat × Operand)) (ho:o.op=.build t parts) (cells:Array Value)
  (hf:P.built t (parts.map fun (i,x)=>(i,a.eval x)).toList=some cells) (h:K (a.put o.dst (.agg cells)) w):o.wp P a w K Q:=
 wp_build t parts ho (by rw [hf];rfl) (by rw [hf];exact h)
end Dowel
namespace Go.Proofs.YtaibkpbklfodiaaGreatDoor
open Go.RowKit Dowel
theorem built_vec (s0 t0 s1 t1 s2 t2:Bool) (a0 b0 a1 b1 a2 b2:Option Addr) (n0 c0 m0 d0 n1 c1 m1 d1 n2 c2 m2 d2:Nat) :
  Tryz.prog.built 58 [(0,.agg #[.bool s0,.slice a0 n0 c0,.bool t0,.slice b0 m0 d0]),(1,.agg #[.bool s1,.slice a1 n1 c1,.bool t1,.slice b1 m1 d1]),(2,.agg #[.bool s2,.slice a2 n2 c2,.bool t2,.slice b2 m2 d2])] =
   some #[.bool s0,.slice a0 n0 c0,.bool t0,.slice b0 m0 d0,.bool s1,.slice a1 n1 c1,.bool t1,.slice b1 m1 d1,.bool s2,.slice a2 n2 c2,.bool t2,.slice b2 m2 d2]:=by kernel_rfl
end Go.Proofs.YtaibkpbklfodiaaGreatDoor
end
section
namespace Dowel
open V Go Go.RowKit
theorem wsum_le {w f:Nat→Int} {B:Int} (hB:0≤B):∀ {k:Nat},(∀ i,i<k→0<w i∧w i≤256)→(∀ i,i<k→Le B (f i))→Le (k*(256*B)) (wsum w f k)
 | 0,_,_=>by simp [wsum,Le]
 | k+1,hw,hf=>by
  have h1:=wsum_le hB (k:=k) (fun i hi=>hw i (by omega)) (fun i hi=>hf i (by omega))
  have h2:=hw k (by omega)
  have h3:=hf k (by omega)
  unfold Le at *
  have h4:w k*f k≤256*B:=by
   refine Int.le_trans (Int.mul_le_mul_of_nonneg_left h3.2 (by omega)) (Int.mul_le_mul_of_nonneg_right h2.2 hB)
  have h5:-(256*B)≤w k*f k:=by
   have:=Int.le_trans (Int.mul_le_mul_of_nonneg_left (show - f k≤B by omega) (show 0≤w k by omega)) (Int.mul_le_mul_of_nonneg_right h2.2 hB)
   rw [Int.mul_neg] at this
   omega
  have e:((k+1:Nat):Int)*(256*B)=(k:Int)*(256*B)+256*B:=by rw [Int.natCast_add,Int.add_mul];simp
  simp only [wsum]
  omega
theorem Box.ten {w:World} {g:Nat} {X:Nat→Int} {t:TypeId} (h:Box w g #[.int .u8 (X 0),.int .u8 (X 1),.int .u8 (X 2),.int .u8 (X 3),.int .u8 (X 4),.int .u8 (X 5),.int .u8 (X 6),.int .u8 (X 7),.int .u8 (X 8),.int .u8 (X 9)] t) {i:Nat} (hi:i<10):w.cell? ⟨g,i,none⟩=some (.int .u8 (X i)):=by
 match i,hi with
 | 0,_=>exact h.cell 0
 | 1,_=>exact h.cell 1
 | 2,_=>exact h.cell 2
 | 3,_=>exact h.cell 3
 | 4,_=>exact h.cell 4
 | 5,_=>exact h.cell 5
 | 6,_=>exact h.cell 6
 | 7,_=>exact h.cell 7
 | 8,_=>exact h.cell 8
 | 9,_=>exact h.cell 9
def wt (X:Nat→Int) (i:Nat):Int:=1+X i
end Dowel
namespace Go.Proofs.YtaibkpbklfodiaaGreatDoor
open Go.RowKit Dowel
set_option maxRecDepth 100000 in
set_option maxHeartbeats 8000000 in
theorem cellInside_any (hkn:∀ v,Tab v→Calls Tryz.prog 10 #[] v fun e w'=>e=.returned (.bool true)∧Below v.heap.size v w') (a:Option Addr) (al cap:Nat) (T:Nat→V) (X:Nat→Int) (z:Int) (w:World) (hT:Tab w) (hP:Pts8 w a al cap T) (hX:∀ j,0≤X j∧X j≤255) (hz:0≤z∧z≤255) :
  Calls Tryz.prog 5 #[.slice a al cap,.agg #[.int .u8 (X 0),.int .u8 (X 1),.int .u8 (X 2),.int .u8 (X 3),.int .u8 (X 4),.int .u8 (X 5),.int .u8 (X 6),.int .u8 (X 7),.int .u8 (X 8),.int .u8 (X 9)],.int .u8 z] w fun e w'=>e=.returned (.bool true)∧Below w.heap.size w w':=by
 obtain ⟨W,hW,b1,hB,hS⟩:=boxes1 w #[.int .u8 (X 0),.int .u8 (X 1),.int .u8 (X 2),.int .u8 (X 3),.int .u8 (X 4),.int .u8 (X 5),.int .u8 (X 6),.int .u8 (X 7),.int .u8 (X 8),.int .u8 (X 9)] 63
 have HKN:=Lib.hid hkn
 have HT:=Lib.hid hT
 have HB:=Lib.hid hB
 have HS:=Lib.hid hS
 have B1:=Lib.hid b1
 have HX:=Lib.hid hX
 have HZ:=Lib.hid hz
 have HPT:=Lib.hid (hP.below hB (Nat.le_refl _))
 have KT:Hid (∀ w',Below w.heap.size w w'→Tab w'):=fun w' h=>HT.out.below h HT.out.1
 clear hkn hT hB hS b1 hX hz hP
 go_enter Tryz.func5,Tryz.ntmps5
 go_wp2_with fail
 refine (solid_any a al cap T W HPT.out).mono ?_
 rintro e w1 ⟨⟨pp,len,pc,ok,rfl,hok⟩,hb1⟩
 have HOK:=Lib.hid hok
 have L1:=Lib.hid (below_call HB.out hb1 (by have:=HS.out;omega))
 have C1:=Lib.hid (B1.out.below hb1 B1.out.lt)
 have SZ1:=Lib.hid hb1.size
 clear hok hb1
 go_upto_region 2 with fail
 obtain ⟨w2,hw2,b2,hb2,hs2⟩:=boxes1 w1 #[.slice pp len pc] 24
 rw [hw2]
 have H12:=Lib.hid hb2
 have L2:=Lib.hid (below_call L1.out hb2 (Nat.le_refl _))
 have C2:=Lib.hid (C1.out.below hb2 C1.out.lt)
 have D2:=Lib.hid b2
 clear hw2 b2 hb2 hs2
 go_wp2_with fail
 refine (HKN.out w2 (KT.out w2 L2.out)).mono ?_
 rintro e w3 ⟨rfl,hb3⟩
 have H23:=Lib.hid hb3
 have L3:=Lib.hid (below_call L2.out hb3 (Nat.le_refl _))
 have C3:=Lib.hid (C2.out.below hb3 C2.out.lt)
 have D3:=Lib.hid (D2.out.below hb3 D2.out.lt)
 clear hb3
 cases ok
 case false =>
  go_wp2_with fail
  refine (HKN.out w3 (KT.out w3 L3.out)).mono ?_
  rintro e w4 ⟨rfl,hb4⟩
  have L4:=Lib.hid (below_call L3.out hb4 (Nat.le_refl _))
  go_wp2_with fail
  go_ret
  exact ⟨rfl,L4.out⟩
 case true =>
  obtain ⟨hH,hO,hN⟩:=HOK.out rfl
  have HO3:=Lib.hid ((hO.below H12.out).below H23.out)
  have HH:=Lib.hid hH
  obtain ⟨Q,hQ⟩:∃ Q,ptsT T al=Q:=⟨_,rfl⟩
  obtain ⟨M,hM⟩:∃ M,min al 10=M:=⟨_,rfl⟩
  rw [hQ,hM] at HO3 HH hN
  clear hH hO HOK hQ hM
  have HSH:=Lib.hid (fun v (h:Below w3.heap.size w3 v)=>hull_shape Q M _ (.slice pp len pc) v (KT.out v (below_call L3.out h (Nat.le_refl _))) HH.out (HO3.out.below h) hN)
  have hV:=HH.out.valid (by omega)
  obtain ⟨L,hL⟩:∃ L,hullR Q M=L:=⟨_,rfl⟩
  rw [hL] at HO3 HSH hN hV
  obtain ⟨P,hP'⟩:∃ P,ofL L=P:=⟨_,rfl⟩
  obtain ⟨pa,pcc,e,hpts⟩:=OwnV.pts HO3.out
  rw [hP'] at HSH hpts hV
  obtain ⟨len',hlen⟩:∃ len',L.length=len':=⟨_,rfl⟩
  rw [hlen] at HSH hpts hN hV e
  cases e
  have HV:=Lib.hid hV
  have HPS:=Lib.hid hpts
  have h4:=hV.four
  clear hV hpts hL hP' HO3 HH
  obtain ⟨s0,-⟩:=D3.out.one
  go_wp2_with fail
  refine (HSH.out w3 (Below.refl _ _)).mono ?_
  rintro e w4 ⟨⟨v0,v1,v2,fs,E,vrs,frs,es,rfl,hsh⟩,hb4⟩
  obtain ⟨⟨pv,cv,rfl⟩,⟨pf,cf,rfl⟩,⟨pe,ce,rfl⟩⟩:=hsh.forms
  obtain ⟨nf,hnf⟩:∃ nf,frs.length=nf:=⟨_,rfl⟩
  obtain ⟨ne,hne⟩:∃ ne,es.length=ne:=⟨_,rfl⟩
  rw [hnf,hne] at hsh ⊢
  have HSP:=Lib.hid hsh
  have L4:=Lib.hid (below_call L3.out hb4 (Nat.le_refl _))
  have C4:=Lib.hid (C3.out.below hb4 C3.out.lt)
  have D4:=Lib.hid (D3.out.below hb4 D3.out.lt)
  have PS4:=Lib.hid (HPS.out.below hb4)
  clear hsh hb4 hnf hne HSH HPS s0
  go_upto_region 5 with fail
  obtain ⟨wa,hwa,ba,hba,hsa⟩:=boxes1 w4 #[.slice pv len cv,.slice pf nf cf,.slice pe ne ce] 32
  rw [hwa]
  have La:=Lib.hid (below_call L4.out hba (Nat.le_refl _))
  have Ca:=Lib.hid (C4.out.below hba C4.out.lt)
  have Da:=Lib.hid (D4.out.below hba D4.out.lt)
  have PSa:=Lib.hid (PS4.out.below hba)
  have Sa:=Lib.hid ba
  have SPa:=Lib.hid (HSP.out.below hba)
  clear hwa ba hba hsa
  obtain ⟨wb',hwb,bb,hbb,hsb⟩:=boxes1 wa #[.int .i64 0,.int .i64 0,.int .i64 0] 46
  have Lb:=Lib.hid (below_call La.out hbb (Nat.le_refl _))
  have Nb:=Lib.hid bb
  have HBB:=Lib.hid hbb
  clear bb hbb hsb
  go_wp2_with fail
  go_loopw [11,13,14,15] (fun tv iv nv jv wr=>∃ i nv' jv',nv=nv'∧jv=jv'∧i≤len∧tv=.int .i64 (wsum (wt X) (fun _=>1) i)∧iv=.int .i64 (i:Nat)∧Hid (Box wr wa.heap.size #[.int .i64 (wsum (wt X) (fun i=>(P i).x) i),.int .i64 (wsum (wt X) (fun i=>(P i).y) i),.int .i64 (wsum (wt X) (fun i=>(P i).z) i)] 46)∧Hid (Below wa.heap.size wa wr)) (fun _ iv _ _ _=>len - (intOf iv).toNat)
  case atStart=>exact ⟨0,_,_,rfl,rfl,Nat.zero_le _,rfl,rfl,Nb.out,HBB.out⟩
  case round =>
   obtain ⟨i,nv',jv',rfl,rfl,hi,rfl,rfl,HBX,HR⟩:=hrel
   obtain ⟨wk,rfl⟩:∃ wk,wk=wr:=⟨_,rfl⟩
   have D8:=Lib.hid (Da.out.below HR.out Da.out.lt)
   obtain ⟨s0,-⟩:=D8.out.one
   by_cases h0:i=len
   ·have hnl:¬ (i:Int)<(len:Int):=by omega
    have H0:=Lib.hid h0
    clear h0
    obtain ⟨w5,rfl⟩:∃ w5,w5=wk:=⟨_,rfl⟩
    have he:=H0.out
    subst he
    have hwb:∀ j,j<i→0<wt X j∧wt X j≤256:=fun j _=>by have:=HX.out j;unfold wt;omega
    have hnb:∀ j,j<i→LeV 4096 (P j):=fun j hj=>(HV.out.sorted.near j (by omega)).le
    have hb0:=wsum_le (B:=1) (by omega) hwb (fun j _=>(show Le 1 1 from by unfold Le;omega))
    have hbx:=wsum_le (B:=4096) (by omega) hwb (fun j hj=>(hnb j hj).1)
    have hby:=wsum_le (B:=4096) (by omega) hwb (fun j hj=>(hnb j hj).2.1)
    have hbz:=wsum_le (B:=4096) (by omega) hwb (fun j hj=>(hnb j hj).2.2)
    have htp:=wsum_pos (fun j hj=>(hwb j hj).1) (show 0<i by omega)
    have HWI:=Lib.hid (mean_within (P:=P) (show 0<i by omega) (fun j hj=>(hwb j hj).1) HV.out.full)
    obtain ⟨tt,htt⟩:∃ tt,wsum (wt X) (fun _=>1) i=tt:=⟨_,rfl⟩
    obtain ⟨sx,hsx⟩:∃ s,wsum (wt X) (fun i=>(P i).x) i=s:=⟨_,rfl⟩
    obtain ⟨sy,hsy⟩:∃ s,wsum (wt X) (fun i=>(P i).y) i=s:=⟨_,rfl⟩
    obtain ⟨sz,hsz⟩:∃ s,wsum (wt X) (fun i=>(P i).z) i=s:=⟨_,rfl⟩
    rw [htt,hsx,hsy,hsz] at HWI
    rw [hsx,hsy,hsz] at HBX
    rw [htt] at hb0 htp ⊢
    rw [hsx] at hbx
    rw [hsy] at hby
    rw [hsz] at hbz
    unfold Le at hb0 hbx hby hbz
    have HQsx:Hid (-9223372036854775808≤sx∧sx≤9223372036854775807):=⟨by omega,by omega⟩
    have HQsy:Hid (-9223372036854775808≤sy∧sy≤9223372036854775807):=⟨by omega,by omega⟩
    have HQsz:Hid (-9223372036854775808≤sz∧sz≤9223372036854775807):=⟨by omega,by omega⟩
    have HQT:Hid (-9223372036854775808≤tt∧tt≤9223372036854775807):=⟨by omega,by omega⟩
    have HTN:=Lib.hid (show tt≠0 by omega)
    have NB:=HBX
    have L5:=Lib.hid (below_call La.out HR.out (Nat.le_refl _))
    obtain ⟨bq,offq,e,-,-,-⟩:=PSa.out.cells (by omega)
    cases e
    clear hwb hnb hb0 hbx hby hbz htp htt hsx hsy hsz
    go_wp2_with fail
    refine wp_region_b (rest:=1) [isV 0 (.pointer (some ⟨wa.heap.size,0,none⟩)),isV 1 (.int .i64 sx),isV 2 (.int .i64 tt),isP 3 (fun v w=>IsRat w v ((sx:Rat) / (tt:Rat))),isV 4 (.pointer (some ⟨wa.heap.size,1,none⟩)),isV 5 (.int .i64 sy),isV 6 (.int .i64 tt),isP 7 (fun v w=>IsRat w v ((sy:Rat) / (tt:Rat))),isV 8 (.pointer (some ⟨wa.heap.size,2,none⟩)),isV 9 (.int .i64 sz),isV 10 (.int .i64 tt),isP 11 (fun v w=>IsRat w v ((sz:Rat) / (tt:Rat))),isP 12 (fun v w=>IsVec w v ⟨(sx:Rat) / (tt:Rat),(sy:Rat) / (tt:Rat),(sz:Rat) / (tt:Rat)⟩),isP 13 (fun v w=>∃ g,v=.pointer (some ⟨g,0,none⟩)∧w5.heap.size≤g∧Box w g (cells3 RC.zero RC.zero RC.zero) 58)] [13] ?A16 #[true,true,true,true,true,true,true,true,true,true,true,true,true,true,false] (by kernel_rfl) [0,1,2,3,4,5,6,7,8,9,10,11,12,13] (by kernel_rfl) (by kernel_rfl) (by kernel_rfl) (by kernel_rfl) (by kernel_rfl) (by kernel_rfl) ?st ?hA ?hop ?hend
    case hA =>
     intro y
     simp only [putAll,dstOf,List.getElem?_toArray,List.getElem?_cons_zero,List.getElem?_cons_succ,Option.bind_some,Act.put,List.setIfInBounds_toArray,List.set_cons_zero,List.set_cons_succ]
     exact rfl
    case st=>exact StabL.cons isV.stab (StabL.cons isV.stab (StabL.cons isV.stab (StabL.cons (isP.stab (fun _ _ _ h hv=>hv.below h)) (StabL.cons isV.stab (StabL.cons isV.stab (StabL.cons isV.stab (StabL.cons (isP.stab (fun _ _ _ h hv=>hv.below h)) (StabL.cons isV.stab (StabL.cons isV.stab (StabL.cons isV.stab (StabL.cons (isP.stab (fun _ _ _ h hv=>hv.below h)) (StabL.cons (isP.stab (fun _ _ _ h hv=>hv.below h)) (StabL.cons (isP.stab (fun v w w' h ⟨g,e,h1,h2⟩=>⟨g,e,h1,h2.below h h2.lt⟩)) (StabL.nil))))))))))))))
    case hop =>
     refine OpsOk.cons (i:=0) rfl (fun y w' hS hD K hK=>?_) ?_
     ·as_aux_lemma =>
      go_simp
      exact hK.out _ w' hS (Below.refl _ _) isV.put (fun h=>absurd h (by decide))
     refine OpsOk.cons (i:=1) rfl (fun y w' hS hD K hK=>?_) ?_
     ·as_aux_lemma =>
      have e0:y 0=.pointer (some ⟨wa.heap.size,0,none⟩):=isV.get (i:=0) (c:=.pointer (some ⟨wa.heap.size,0,none⟩)) (hD 0 (by kernel_rfl))
      have bx:=NB.out.below hS NB.out.lt
      obtain ⟨c0,c1,c2,-⟩:=bx.three
      simp only [e0] at hK ⊢
      go_simp
      exact hK.out _ w' hS (Below.refl _ _) isV.put (fun h=>absurd h (by decide))
     refine OpsOk.cons (i:=2) rfl (fun y w' hS hD K hK=>?_) ?_
     ·as_aux_lemma =>
      go_simp
      exact hK.out _ w' hS (Below.refl _ _) isV.put (fun h=>absurd h (by decide))
     refine OpsOk.cons (i:=3) rfl (fun y w' hS hD K hK=>?_) ?_
     ·as_aux_lemma =>
      have e1:y 1=.int .i64 sx:=isV.get (i:=1) (c:=.int .i64 sx) (hD 1 (by kernel_rfl))
      have e2:y 2=.int .i64 tt:=isV.get (i:=2) (c:=.int .i64 tt) (hD 2 (by kernel_rfl))
      simp only [e1,e2] at hK ⊢
      go_simp
      refine (quotient_any sx tt w' HQsx.out HQT.out HTN.out).mono ?_
      rintro e w'' ⟨⟨v,rfl,hv⟩,hb⟩
      exact hK.out v w'' (below_call hS hb (Nat.le_refl _)) hb (isP.put hv) (fun h=>absurd h (by decide))
     refine OpsOk.cons (i:=4) rfl (fun y w' hS hD K hK=>?_) ?_
     ·as_aux_lemma =>
      go_simp
      exact hK.out _ w' hS (Below.refl _ _) isV.put (fun h=>absurd h (by decide))
     refine OpsOk.cons (i:=5) rfl (fun y w' hS hD K hK=>?_) ?_
     ·as_aux_lemma =>
      have e4:y 4=.pointer (some ⟨wa.heap.size,1,none⟩):=isV.get (i:=4) (c:=.pointer (some ⟨wa.heap.size,1,none⟩)) (hD 4 (by kernel_rfl))
      have bx:=NB.out.below hS NB.out.lt
      obtain ⟨c0,c1,c2,-⟩:=bx.three
      simp only [e4] at hK ⊢
      go_simp
      exact hK.out _ w' hS (Below.refl _ _) isV.put (fun h=>absurd h (by decide))
     refine OpsOk.cons (i:=6) rfl (fun y w' hS hD K hK=>?_) ?_
     ·as_aux_lemma =>
      go_simp
      exact hK.out _ w' hS (Below.refl _ _) isV.put (fun h=>absurd h (by decide))
     refine OpsOk.cons (i:=7) rfl (fun y w' hS hD K hK=>?_) ?_
     ·as_aux_lemma =>
      have e5:y 5=.int .i64 sy:=isV.get (i:=5) (c:=.int .i64 sy) (hD 5 (by kernel_rfl))
      have e6:y 6=.int .i64 tt:=isV.get (i:=6) (c:=.int .i64 tt) (hD 6 (by kernel_rfl))
      simp only [e5,e6] at hK ⊢
      go_simp
      refine (quotient_any sy tt w' HQsy.out HQT.out HTN.out).mono ?_
      rintro e w'' ⟨⟨v,rfl,hv⟩,hb⟩
      exact hK.out v w'' (below_call hS hb (Nat.le_refl _)) hb (isP.put hv) (fun h=>absurd h (by decide))
     refine OpsOk.cons (i:=8) rfl (fun y w' hS hD K hK=>?_) ?_
     ·as_aux_lemma =>
      go_simp
      exact hK.out _ w' hS (Below.refl _ _) isV.put (fun h=>absurd h (by decide))
     refine OpsOk.cons (i:=9) rfl (fun y w' hS hD K hK=>?_) ?_
     ·as_aux_lemma =>
      have e8:y 8=.pointer (some ⟨wa.heap.size,2,none⟩):=isV.get (i:=8) (c:=.pointer (some ⟨wa.heap.size,2,none⟩)) (hD 8 (by kernel_rfl))
      have bx:=NB.out.below hS NB.out.lt
      obtain ⟨c0,c1,c2,-⟩:=bx.three
      simp only [e8] at hK ⊢
      go_simp
      exact hK.out _ w' hS (Below.refl _ _) isV.put (fun h=>absurd h (by decide))
     refine OpsOk.cons (i:=10) rfl (fun y w' hS hD K hK=>?_) ?_
     ·as_aux_lemma =>
      go_simp
      exact hK.out _ w' hS (Below.refl _ _) isV.put (fun h=>absurd h (by decide))
     refine OpsOk.cons (i:=11) rfl (fun y w' hS hD K hK=>?_) ?_
     ·as_aux_lemma =>
      have e9:y 9=.int .i64 sz:=isV.get (i:=9) (c:=.int .i64 sz) (hD 9 (by kernel_rfl))
      have e10:y 10=.int .i64 tt:=isV.get (i:=10) (c:=.int .i64 tt) (hD 10 (by kernel_rfl))
      simp only [e9,e10] at hK ⊢
      go_simp
      refine (quotient_any sz tt w' HQsz.out HQT.out HTN.out).mono ?_
      rintro e w'' ⟨⟨v,rfl,hv⟩,hb⟩
      exact hK.out v w'' (below_call hS hb (Nat.le_refl _)) hb (isP.put hv) (fun h=>absurd h (by decide))
     refine OpsOk.cons (i:=12) rfl (fun y w' hS hD K hK=>?_) ?_
     ·as_aux_lemma =>
      have e3:=isP.get (i:=3) (p:=fun v w=>IsRat w v ((sx:Rat) / (tt:Rat))) (hD 3 (by kernel_rfl))
      have e7:=isP.get (i:=7) (p:=fun v w=>IsRat w v ((sy:Rat) / (tt:Rat))) (hD 7 (by kernel_rfl))
      have e11:=isP.get (i:=11) (p:=fun v w=>IsRat w v ((sz:Rat) / (tt:Rat))) (hD 11 (by kernel_rfl))
      obtain ⟨r0,eq0,h0⟩:=e3.rcv
      obtain ⟨r1,eq1,h1⟩:=e7.rcv
      obtain ⟨r2,eq2,h2⟩:=e11.rcv
      simp only [eq0,eq1,eq2] at hK ⊢
      clear e3 e7 e11 eq0 eq1 eq2
      refine iteInduction (motive:=fun p=>p) (fun _=>?_) (fun h=>absurd (by kernel_rfl) h)
      refine wp_buildTo 58 #[(0,.tmp 74),(1,.tmp 78),(2,.tmp 82)] rfl #[.bool r0.s,.slice r0.a r0.n r0.c,.bool r0.t,.slice r0.b r0.m r0.d,.bool r1.s,.slice r1.a r1.n r1.c,.bool r1.t,.slice r1.b r1.m r1.d,.bool r2.s,.slice r2.a r2.n r2.c,.bool r2.t,.slice r2.b r2.m r2.d] (by rw [List.map_toArray];simp only [List.map_cons,List.map_nil,Act.eval];exact built_vec r0.s r0.t r1.s r1.t r2.s r2.t r0.a r0.b r1.a r1.b r2.a r2.b r0.n r0.c r0.m r0.d r1.n r1.c r1.m r1.d r2.n r2.c r2.m r2.d) ?_
      exact hK.out (.agg #[.bool r0.s,.slice r0.a r0.n r0.c,.bool r0.t,.slice r0.b r0.m r0.d,.bool r1.s,.slice r1.a r1.n r1.c,.bool r1.t,.slice r1.b r1.m r1.d,.bool r2.s,.slice r2.a r2.n r2.c,.bool r2.t,.slice r2.b r2.m r2.d]) w' hS (Below.refl _ _) (isP.put ⟨r0,r1,r2,rfl,h0,h1,h2⟩) (fun h=>absurd h (by decide))
     refine OpsOk.cons (i:=13) rfl (fun y w' hS hD K hK=>?_) ?_
     ·as_aux_lemma =>
      go_simp
      exact hK.out _ _ (hS.alloc hS.size _) ((Below.refl _ _).alloc (Nat.le_refl _) _) (isP.put ⟨_,rfl,hS.size,Box.new _ _ _ _ rfl⟩) (fun _ j hj hne _=>absurd (List.mem_singleton.1 hj) hne)
     exact OpsOk.nil
    case hend =>
     intro y w' hS hR hF
     obtain ⟨m0,m1,m2,ev,hA⟩:∃ m0 m1 m2:RC,y 12=.agg #[.bool m0.s,.slice m0.a m0.n m0.c,.bool m0.t,.slice m0.b m0.m m0.d,.bool m1.s,.slice m1.a m1.n m1.c,.bool m1.t,.slice m1.b m1.m m1.d,.bool m2.s,.slice m2.a m2.n m2.c,.bool m2.t,.slice m2.b m2.m m2.d]∧IsVec w' (.agg (cells3 m0 m1 m2)) ⟨(sx:Rat) / (tt:Rat),(sy:Rat) / (tt:Rat),(sz:Rat) / (tt:Rat)⟩:=by
      obtain ⟨r0,r1,r2,e,h⟩:=(isP.get (i:=12) (p:=fun v w=>IsVec w v ⟨(sx:Rat) / (tt:Rat),(sy:Rat) / (tt:Rat),(sz:Rat) / (tt:Rat)⟩) (hR 12 (by kernel_rfl))).rcv
      exact ⟨r0,r1,r2,e,h⟩
     obtain ⟨g16,ea,hga,bga⟩:=isP.get (i:=13) (p:=fun v w=>∃ g,v=.pointer (some ⟨g,0,none⟩)∧w5.heap.size≤g∧Box w g (cells3 RC.zero RC.zero RC.zero) 58) (hR 13 (by kernel_rfl))
     simp only [ev,ea]
     obtain ⟨-,f0,f1,f2,f3⟩:=bga.p0
     obtain ⟨c0,c1,c2,c3⟩:=bga.p0.1
     obtain ⟨-,f4,f5,f6,f7⟩:=bga.p1
     obtain ⟨c4,c5,c6,c7⟩:=bga.p1.1
     obtain ⟨-,f8,f9,f10,f11⟩:=bga.p2
     obtain ⟨c8,c9,c10,c11⟩:=bga.p2.1
     refine wpAny_one (i:=14) (listed2:=#[true,true,true,true,true,true,true,true,true,true,true,true,true,true,true]) (by kernel_rfl) rfl (by kernel_rfl) (fun K hK=>?_)
     go_simp
     refine hK.out _ _ ?_
     clear hK K
     refine wpAny_over (by kernel_rfl) ?_
     clear f0 c0 f1 c1 f2 c2 f3 c3 f4 c4 f5 c5 f6 c6 f7 c7 f8 c8 f9 c9 f10 c10 f11 c11
     change Exit.then _ _ _ _ (put12 w' g16 m0 m1 m2)
     have H6:=Lib.hid (below_put12 hS hga m0 m1 m2)
     have B6:=Lib.hid (bga.s12 m0 m1 m2)
     have V6:=Lib.hid (hA.put12 bga m0 m1 m2)
     generalize put12 w' g16 m0 m1 m2=w6 at *
     clear hS hR hF ev ea bga hA hga
     obtain ⟨qm,hqm⟩:∃ q,(⟨(sx:Rat) / (tt:Rat),(sy:Rat) / (tt:Rat),(sz:Rat) / (tt:Rat)⟩:Q3)=q:=⟨_,rfl⟩
     have HBM:=Lib.hid (bd_q3 HQsx.out HQsy.out HQsz.out HQT.out HTN.out)
     rw [hqm] at V6 HWI HBM
     clear hqm
     have L6:=Lib.hid (below_call L5.out H6.out (Nat.le_refl _))
     have D6:=Lib.hid (((Da.out.below HR.out Da.out.lt)).below H6.out (by have:=Da.out.lt;have:=HR.out.size;omega))
     have S6:=Lib.hid (((Sa.out.below HR.out Sa.out.lt)).below H6.out (by have:=Sa.out.lt;have:=HR.out.size;omega))
     have P6:=Lib.hid ((PSa.out.below HR.out).below H6.out)
     have SP6:=Lib.hid ((SPa.out.below HR.out).below H6.out)
     obtain ⟨jn,hjn⟩:∃ jn:Nat,z % (i:Int)=(jn:Int):=⟨(z % (i:Int)).toNat,by
      have:=Int.emod_nonneg z (show (i:Int)≠0 by omega)
      omega⟩
     have hjl:jn<i:=by
      have:=Int.emod_lt_of_pos z (show (0:Int)<(i:Int) by omega)
      omega
     have HJL:=Lib.hid hjl
     have HJN:=Lib.hid hjn
     have HI0:=Lib.hid (show ¬ (i:Int)=0 by omega)
     have HI1:=Lib.hid (show ¬ i=0 by omega)
     have HJT:=Lib.hid (show z.tmod (i:Int)=(jn:Int) from by rw [Int.tmod_eq_emod_of_nonneg HZ.out.1];exact hjn)
     have HWZ:Hid (IntKind.i64.wrap z=z):=IntWalk.i64_in _ (by have:=HZ.out;omega)
     obtain ⟨pj,hpj⟩:∃ pj,P jn=pj:=⟨_,rfl⟩
     have HPJ:=Lib.hid hpj
     have hnear:=HV.out.sorted.near jn hjl
     have HNJ:Hid (LeV 9007199254740992 pj):=by rw [← hpj];exact hnear.le.mono (by omega)
     have HBV:=Lib.hid (bd_ptQ HNJ.out)
     obtain ⟨_,_,e,hbq,-,hcc⟩:=P6.out.cells (by omega)
     cases e
     have hq:=hcc jn hjl
     rw [hpj] at hq
     have HPC:Hid (∀ w',Below w6.heap.size w6 w'→w'.cell? ⟨bq,offq+jn*3,none⟩=some (.int .i64 pj.x)∧w'.cell? ⟨bq,offq+jn*3+1,none⟩=some (.int .i64 pj.y)∧w'.cell? ⟨bq,offq+jn*3+2,none⟩=some (.int .i64 pj.z)):=fun w' h=>by
      obtain ⟨q0,q1,q2⟩:=hq
      exact ⟨keepC q0 h hbq,keepC q1 h hbq,keepC q2 h hbq⟩
     have KC:=D6
     clear hjl hjn hnear hpj hcc hq hbq D6
     have M6:=B6
     clear B6
     go_wp2_with fail
     refine wp_region_b (rest:=1) [isV 0 (.pointer (some ⟨w1.heap.size,0,none⟩)),isV 1 (.slice (some ⟨bq,offq,none⟩) i pc),isV 2 (.int .u8 z),isV 3 (.int .i64 z),isV 4 (.pointer (some ⟨w1.heap.size,0,none⟩)),isV 5 (.slice (some ⟨bq,offq,none⟩) i pc),isV 6 (.int .i64 i),isV 7 (.int .i64 jn),isV 8 (.pointer (some ⟨bq,offq+jn*3,none⟩)),isV 9 (.agg #[.int .i64 pj.x,.int .i64 pj.y,.int .i64 pj.z]),isP 10 (fun v w=>IsVec w v (ptQ pj)),isP 11 (fun v w=>∃ g,v=.pointer (some ⟨g,0,none⟩)∧w6.heap.size≤g∧Box w g (cells3 RC.zero RC.zero RC.zero) 58)] [11] ?A17 #[true,true,true,true,true,true,true,true,true,true,true,true,false] (by kernel_rfl) [0,1,2,3,4,5,6,7,8,9,10,11] (by kernel_rfl) (by kernel_rfl) (by kernel_rfl) (by kernel_rfl) (by kernel_rfl) (by kernel_rfl) ?st ?hA ?hop ?hend
     case hA =>
      intro y
      simp only [putAll,dstOf,List.getElem?_toArray,List.getElem?_cons_zero,List.getElem?_cons_succ,Option.bind_some,Act.put,List.setIfInBounds_toArray,List.set_cons_zero,List.set_cons_succ]
      exact rfl
     case st=>exact StabL.cons isV.stab (StabL.cons isV.stab (StabL.cons isV.stab (StabL.cons isV.stab (StabL.cons isV.stab (StabL.cons isV.stab (StabL.cons isV.stab (StabL.cons isV.stab (StabL.cons isV.stab (StabL.cons isV.stab (StabL.cons (isP.stab (fun _ _ _ h hv=>hv.below h)) (StabL.cons (isP.stab (fun v w w' h ⟨g,e,h1,h2⟩=>⟨g,e,h1,h2.below h h2.lt⟩)) (StabL.nil))))))))))))
     case hop =>
      refine OpsOk.cons (i:=0) rfl (fun y w' hS hD K hK=>?_) ?_
      ·as_aux_lemma =>
       go_simp
       exact hK.out _ w' hS (Below.refl _ _) isV.put (fun h=>absurd h (by decide))
      refine OpsOk.cons (i:=1) rfl (fun y w' hS hD K hK=>?_) ?_
      ·as_aux_lemma =>
       have e0:y 0=.pointer (some ⟨w1.heap.size,0,none⟩):=isV.get (i:=0) (c:=.pointer (some ⟨w1.heap.size,0,none⟩)) (hD 0 (by kernel_rfl))
       have bx:=KC.out.below hS KC.out.lt
       obtain ⟨c0,-⟩:=bx.one
       simp only [e0] at hK ⊢
       go_simp
       exact hK.out _ w' hS (Below.refl _ _) isV.put (fun h=>absurd h (by decide))
      refine OpsOk.cons (i:=2) rfl (fun y w' hS hD K hK=>?_) ?_
      ·as_aux_lemma =>
       go_simp
       exact hK.out _ w' hS (Below.refl _ _) isV.put (fun h=>absurd h (by decide))
      refine OpsOk.cons (i:=3) rfl (fun y w' hS hD K hK=>?_) ?_
      ·as_aux_lemma =>
       have e2:y 2=.int .u8 z:=isV.get (i:=2) (c:=.int .u8 z) (hD 2 (by kernel_rfl))
       have wz:=HWZ.out
       simp only [e2] at hK ⊢
       go_simp
       exact hK.out _ w' hS (Below.refl _ _) isV.put (fun h=>absurd h (by decide))
      refine OpsOk.cons (i:=4) rfl (fun y w' hS hD K hK=>?_) ?_
      ·as_aux_lemma =>
       go_simp
       exact hK.out _ w' hS (Below.refl _ _) isV.put (fun h=>absurd h (by decide))
      refine OpsOk.cons (i:=5) rfl (fun y w' hS hD K hK=>?_) ?_
      ·as_aux_lemma =>
       have e4:y 4=.pointer (some ⟨w1.heap.size,0,none⟩):=isV.get (i:=4) (c:=.pointer (some ⟨w1.heap.size,0,none⟩)) (hD 4 (by kernel_rfl))
       have bx:=KC.out.below hS KC.out.lt
       obtain ⟨c0,-⟩:=bx.one
       simp only [e4] at hK ⊢
       go_simp
       exact hK.out _ w' hS (Below.refl _ _) isV.put (fun h=>absurd h (by decide))
      refine OpsOk.cons (i:=6) rfl (fun y w' hS hD K hK=>?_) ?_
      ·as_aux_lemma =>
       have e5:y 5=.slice (some ⟨bq,offq,none⟩) i pc:=isV.get (i:=5) (c:=.slice (some ⟨bq,offq,none⟩) i pc) (hD 5 (by kernel_rfl))
       simp only [e5] at hK ⊢
       go_simp
       exact hK.out _ w' hS (Below.refl _ _) isV.put (fun h=>absurd h (by decide))
      refine OpsOk.cons (i:=7) rfl (fun y w' hS hD K hK=>?_) ?_
      ·as_aux_lemma =>
       have e3:y 3=.int .i64 z:=isV.get (i:=3) (c:=.int .i64 z) (hD 3 (by kernel_rfl))
       have e6:y 6=.int .i64 i:=isV.get (i:=6) (c:=.int .i64 i) (hD 6 (by kernel_rfl))
       have hi0:=HI0.out
       have hi1:=HI1.out
       have hjn:=HJT.out
       simp only [e3,e6] at hK ⊢
       go_simp
       exact hK.out _ w' hS (Below.refl _ _) isV.put (fun h=>absurd h (by decide))
      refine OpsOk.cons (i:=8) rfl (fun y w' hS hD K hK=>?_) ?_
      ·as_aux_lemma =>
       have e1:y 1=.slice (some ⟨bq,offq,none⟩) i pc:=isV.get (i:=1) (c:=.slice (some ⟨bq,offq,none⟩) i pc) (hD 1 (by kernel_rfl))
       have e7:y 7=.int .i64 jn:=isV.get (i:=7) (c:=.int .i64 jn) (hD 7 (by kernel_rfl))
       have hjl:=HJL.out
       simp only [e1,e7] at hK ⊢
       go_simp
       exact hK.out _ w' hS (Below.refl _ _) isV.put (fun h=>absurd h (by decide))
      refine OpsOk.cons (i:=9) rfl (fun y w' hS hD K hK=>?_) ?_
      ·as_aux_lemma =>
       have e8:y 8=.pointer (some ⟨bq,offq+jn*3,none⟩):=isV.get (i:=8) (c:=.pointer (some ⟨bq,offq+jn*3,none⟩)) (hD 8 (by kernel_rfl))
       have qc:=HPC.out w' hS
       obtain ⟨c0,c1,c2⟩:=qc
       simp only [e8] at hK ⊢
       go_simp
       exact hK.out _ w' hS (Below.refl _ _) isV.put (fun h=>absurd h (by decide))
      refine OpsOk.cons (i:=10) rfl (fun y w' hS hD K hK=>?_) ?_
      ·as_aux_lemma =>
       have e9:y 9=.agg #[.int .i64 pj.x,.int .i64 pj.y,.int .i64 pj.z]:=isV.get (i:=9) (c:=.agg #[.int .i64 pj.x,.int .i64 pj.y,.int .i64 pj.z]) (hD 9 (by kernel_rfl))
       simp only [e9] at hK ⊢
       go_simp
       refine (VOf_any pj w' HNJ.out).mono ?_
       rintro e w'' ⟨⟨v,rfl,hv⟩,hb⟩
       exact hK.out v w'' (below_call hS hb (Nat.le_refl _)) hb (isP.put hv) (fun h=>absurd h (by decide))
      refine OpsOk.cons (i:=11) rfl (fun y w' hS hD K hK=>?_) ?_
      ·as_aux_lemma =>
       go_simp
       exact hK.out _ _ (hS.alloc hS.size _) ((Below.refl _ _).alloc (Nat.le_refl _) _) (isP.put ⟨_,rfl,hS.size,Box.new _ _ _ _ rfl⟩) (fun _ j hj hne _=>absurd (List.mem_singleton.1 hj) hne)
      exact OpsOk.nil
     case hend =>
      intro y w' hS hR hF
      obtain ⟨v0,v1,v2,ev,hA⟩:∃ v0 v1 v2:RC,y 10=.agg #[.bool v0.s,.slice v0.a v0.n v0.c,.bool v0.t,.slice v0.b v0.m v0.d,.bool v1.s,.slice v1.a v1.n v1.c,.bool v1.t,.slice v1.b v1.m v1.d,.bool v2.s,.slice v2.a v2.n v2.c,.bool v2.t,.slice v2.b v2.m v2.d]∧IsVec w' (.agg (cells3 v0 v1 v2)) (ptQ pj):=by
       obtain ⟨r0,r1,r2,e,h⟩:=(isP.get (i:=10) (p:=fun v w=>IsVec w v (ptQ pj)) (hR 10 (by kernel_rfl))).rcv
       exact ⟨r0,r1,r2,e,h⟩
      obtain ⟨g17,ea,hga,bga⟩:=isP.get (i:=11) (p:=fun v w=>∃ g,v=.pointer (some ⟨g,0,none⟩)∧w6.heap.size≤g∧Box w g (cells3 RC.zero RC.zero RC.zero) 58) (hR 11 (by kernel_rfl))
      simp only [ev,ea]
      obtain ⟨-,f0,f1,f2,f3⟩:=bga.p0
      obtain ⟨c0,c1,c2,c3⟩:=bga.p0.1
      obtain ⟨-,f4,f5,f6,f7⟩:=bga.p1
      obtain ⟨c4,c5,c6,c7⟩:=bga.p1.1
      obtain ⟨-,f8,f9,f10,f11⟩:=bga.p2
      obtain ⟨c8,c9,c10,c11⟩:=bga.p2.1
      refine wpAny_one (i:=12) (listed2:=#[true,true,true,true,true,true,true,true,true,true,true,true,true]) (by kernel_rfl) rfl (by kernel_rfl) (fun K hK=>?_)
      go_simp
      refine hK.out _ _ ?_
      clear hK K
      refine wpAny_over (by kernel_rfl) ?_
      clear f0 c0 f1 c1 f2 c2 f3 c3 f4 c4 f5 c5 f6 c6 f7 c7 f8 c8 f9 c9 f10 c10 f11 c11
      change Exit.then _ _ _ _ (put12 w' g17 v0 v1 v2)
      have H7:=Lib.hid (below_put12 hS hga v0 v1 v2)
      have B7:=Lib.hid (bga.s12 v0 v1 v2)
      have V7:=Lib.hid (hA.put12 bga v0 v1 v2)
      generalize put12 w' g17 v0 v1 v2=w7 at *
      clear hS hR hF ev ea bga hA hga
      have VM7:=Lib.hid (V6.out.below H7.out)
      have M7:=Lib.hid (M6.out.below H7.out M6.out.lt)
      have L7:=Lib.hid (below_call L6.out H7.out (Nat.le_refl _))
      have S7:=Lib.hid (S6.out.below H7.out S6.out.lt)
      have SP7:=Lib.hid (SP6.out.below H7.out)
      have HBW:=Lib.hid (bd_add HBV.out HBV.out)
      go_wp2_with fail
      refine wp_region_b (rest:=1) [isV 0 (.agg #[.bool v0.s,.slice v0.a v0.n v0.c,.bool v0.t,.slice v0.b v0.m v0.d,.bool v1.s,.slice v1.a v1.n v1.c,.bool v1.t,.slice v1.b v1.m v1.d,.bool v2.s,.slice v2.a v2.n v2.c,.bool v2.t,.slice v2.b v2.m v2.d]),isV 1 (.agg #[.bool v0.s,.slice v0.a v0.n v0.c,.bool v0.t,.slice v0.b v0.m v0.d,.bool v1.s,.slice v1.a v1.n v1.c,.bool v1.t,.slice v1.b v1.m v1.d,.bool v2.s,.slice v2.a v2.n v2.c,.bool v2.t,.slice v2.b v2.m v2.d]),isP 2 (fun v w=>IsVec w v ⟨(ptQ pj).x+(ptQ pj).x,(ptQ pj).y+(ptQ pj).y,(ptQ pj).z+(ptQ pj).z⟩),isV 3 (.agg #[.bool m0.s,.slice m0.a m0.n m0.c,.bool m0.t,.slice m0.b m0.m m0.d,.bool m1.s,.slice m1.a m1.n m1.c,.bool m1.t,.slice m1.b m1.m m1.d,.bool m2.s,.slice m2.a m2.n m2.c,.bool m2.t,.slice m2.b m2.m m2.d]),isP 4 (fun v w=>IsVec w v ⟨(ptQ pj).x+(ptQ pj).x - qm.x,(ptQ pj).y+(ptQ pj).y - qm.y,(ptQ pj).z+(ptQ pj).z - qm.z⟩),isP 5 (fun v w=>∃ g,v=.pointer (some ⟨g,0,none⟩)∧w7.heap.size≤g∧Box w g (cells3 RC.zero RC.zero RC.zero) 58)] [5] ?A18 #[true,true,true,true,true,true,false] (by kernel_rfl) [0,1,2,3,4,5] (by kernel_rfl) (by kernel_rfl) (by kernel_rfl) (by kernel_rfl) (by kernel_rfl) (by kernel_rfl) ?st ?hA ?hop ?hend
      case hA =>
       intro y
       simp only [putAll,dstOf,List.getElem?_toArray,List.getElem?_cons_zero,List.getElem?_cons_succ,Option.bind_some,Act.put,List.setIfInBounds_toArray,List.set_cons_zero,List.set_cons_succ]
       exact rfl
      case st=>exact StabL.cons isV.stab (StabL.cons isV.stab (StabL.cons (isP.stab (fun _ _ _ h hv=>hv.below h)) (StabL.cons isV.stab (StabL.cons (isP.stab (fun _ _ _ h hv=>hv.below h)) (StabL.cons (isP.stab (fun v w w' h ⟨g,e,h1,h2⟩=>⟨g,e,h1,h2.below h h2.lt⟩)) (StabL.nil))))))
      case hop =>
       refine OpsOk.cons (i:=0) rfl (fun y w' hS hD K hK=>?_) ?_
       ·as_aux_lemma =>
        have bx:=B7.out.below hS B7.out.lt
        obtain ⟨c0,c1,c2,c3⟩:=bx.p0.1
        obtain ⟨c4,c5,c6,c7⟩:=bx.p1.1
        obtain ⟨c8,c9,c10,c11⟩:=bx.p2.1
        go_simp
        exact hK.out _ w' hS (Below.refl _ _) isV.put (fun h=>absurd h (by decide))
       refine OpsOk.cons (i:=1) rfl (fun y w' hS hD K hK=>?_) ?_
       ·as_aux_lemma =>
        have bx:=B7.out.below hS B7.out.lt
        obtain ⟨c0,c1,c2,c3⟩:=bx.p0.1
        obtain ⟨c4,c5,c6,c7⟩:=bx.p1.1
        obtain ⟨c8,c9,c10,c11⟩:=bx.p2.1
        go_simp
        exact hK.out _ w' hS (Below.refl _ _) isV.put (fun h=>absurd h (by decide))
       refine OpsOk.cons (i:=2) rfl (fun y w' hS hD K hK=>?_) ?_
       ·as_aux_lemma =>
        have e0:y 0=.agg #[.bool v0.s,.slice v0.a v0.n v0.c,.bool v0.t,.slice v0.b v0.m v0.d,.bool v1.s,.slice v1.a v1.n v1.c,.bool v1.t,.slice v1.b v1.m v1.d,.bool v2.s,.slice v2.a v2.n v2.c,.bool v2.t,.slice v2.b v2.m v2.d]:=isV.get (i:=0) (c:=.agg #[.bool v0.s,.slice v0.a v0.n v0.c,.bool v0.t,.slice v0.b v0.m v0.d,.bool v1.s,.slice v1.a v1.n v1.c,.bool v1.t,.slice v1.b v1.m v1.d,.bool v2.s,.slice v2.a v2.n v2.c,.bool v2.t,.slice v2.b v2.m v2.d]) (hD 0 (by kernel_rfl))
        have e1:y 1=.agg #[.bool v0.s,.slice v0.a v0.n v0.c,.bool v0.t,.slice v0.b v0.m v0.d,.bool v1.s,.slice v1.a v1.n v1.c,.bool v1.t,.slice v1.b v1.m v1.d,.bool v2.s,.slice v2.a v2.n v2.c,.bool v2.t,.slice v2.b v2.m v2.d]:=isV.get (i:=1) (c:=.agg #[.bool v0.s,.slice v0.a v0.n v0.c,.bool v0.t,.slice v0.b v0.m v0.d,.bool v1.s,.slice v1.a v1.n v1.c,.bool v1.t,.slice v1.b v1.m v1.d,.bool v2.s,.slice v2.a v2.n v2.c,.bool v2.t,.slice v2.b v2.m v2.d]) (hD 1 (by kernel_rfl))
        simp only [e0,e1] at hK ⊢
        go_simp
        refine (VAdd_any _ _ (ptQ pj) (ptQ pj) 2 2 w' (V7.out.below hS) (V7.out.below hS) HBV.out HBV.out (by omega)).mono ?_
        rintro e w'' ⟨⟨v,rfl,hv⟩,hb⟩
        exact hK.out v w'' (below_call hS hb (Nat.le_refl _)) hb (isP.put hv) (fun h=>absurd h (by decide))
       refine OpsOk.cons (i:=3) rfl (fun y w' hS hD K hK=>?_) ?_
       ·as_aux_lemma =>
        have bx:=M7.out.below hS M7.out.lt
        obtain ⟨c0,c1,c2,c3⟩:=bx.p0.1
        obtain ⟨c4,c5,c6,c7⟩:=bx.p1.1
        obtain ⟨c8,c9,c10,c11⟩:=bx.p2.1
        go_simp
        exact hK.out _ w' hS (Below.refl _ _) isV.put (fun h=>absurd h (by decide))
       refine OpsOk.cons (i:=4) rfl (fun y w' hS hD K hK=>?_) ?_
       ·as_aux_lemma =>
        have e2:=isP.get (i:=2) (p:=fun v w=>IsVec w v ⟨(ptQ pj).x+(ptQ pj).x,(ptQ pj).y+(ptQ pj).y,(ptQ pj).z+(ptQ pj).z⟩) (hD 2 (by kernel_rfl))
        have e3:y 3=.agg #[.bool m0.s,.slice m0.a m0.n m0.c,.bool m0.t,.slice m0.b m0.m m0.d,.bool m1.s,.slice m1.a m1.n m1.c,.bool m1.t,.slice m1.b m1.m m1.d,.bool m2.s,.slice m2.a m2.n m2.c,.bool m2.t,.slice m2.b m2.m m2.d]:=isV.get (i:=3) (c:=.agg #[.bool m0.s,.slice m0.a m0.n m0.c,.bool m0.t,.slice m0.b m0.m m0.d,.bool m1.s,.slice m1.a m1.n m1.c,.bool m1.t,.slice m1.b m1.m m1.d,.bool m2.s,.slice m2.a m2.n m2.c,.bool m2.t,.slice m2.b m2.m m2.d]) (hD 3 (by kernel_rfl))
        simp only [e3] at hK ⊢
        go_simp
        refine (VSub_any _ _ ⟨(ptQ pj).x+(ptQ pj).x,(ptQ pj).y+(ptQ pj).y,(ptQ pj).z+(ptQ pj).z⟩ qm 5 4 w' e2 (VM7.out.below hS) HBW.out HBM.out (by omega)).mono ?_
        rintro e w'' ⟨⟨v,rfl,hv⟩,hb⟩
        exact hK.out v w'' (below_call hS hb (Nat.le_refl _)) hb (isP.put hv) (fun h=>absurd h (by decide))
       refine OpsOk.cons (i:=5) rfl (fun y w' hS hD K hK=>?_) ?_
       ·as_aux_lemma =>
        go_simp
        exact hK.out _ _ (hS.alloc hS.size _) ((Below.refl _ _).alloc (Nat.le_refl _) _) (isP.put ⟨_,rfl,hS.size,Box.new _ _ _ _ rfl⟩) (fun _ j hj hne _=>absurd (List.mem_singleton.1 hj) hne)
       exact OpsOk.nil
      case hend =>
       intro y w' hS hR hF
       obtain ⟨b0,b1,b2,ev,hA⟩:∃ b0 b1 b2:RC,y 4=.agg #[.bool b0.s,.slice b0.a b0.n b0.c,.bool b0.t,.slice b0.b b0.m b0.d,.bool b1.s,.slice b1.a b1.n b1.c,.bool b1.t,.slice b1.b b1.m b1.d,.bool b2.s,.slice b2.a b2.n b2.c,.bool b2.t,.slice b2.b b2.m b2.d]∧IsVec w' (.agg (cells3 b0 b1 b2)) ⟨(ptQ pj).x+(ptQ pj).x - qm.x,(ptQ pj).y+(ptQ pj).y - qm.y,(ptQ pj).z+(ptQ pj).z - qm.z⟩:=by
        obtain ⟨r0,r1,r2,e,h⟩:=(isP.get (i:=4) (p:=fun v w=>IsVec w v ⟨(ptQ pj).x+(ptQ pj).x - qm.x,(ptQ pj).y+(ptQ pj).y - qm.y,(ptQ pj).z+(ptQ pj).z - qm.z⟩) (hR 4 (by kernel_rfl))).rcv
        exact ⟨r0,r1,r2,e,h⟩
       obtain ⟨g18,ea,hga,bga⟩:=isP.get (i:=5) (p:=fun v w=>∃ g,v=.pointer (some ⟨g,0,none⟩)∧w7.heap.size≤g∧Box w g (cells3 RC.zero RC.zero RC.zero) 58) (hR 5 (by kernel_rfl))
       simp only [ev,ea]
       obtain ⟨-,f0,f1,f2,f3⟩:=bga.p0
       obtain ⟨c0,c1,c2,c3⟩:=bga.p0.1
       obtain ⟨-,f4,f5,f6,f7⟩:=bga.p1
       obtain ⟨c4,c5,c6,c7⟩:=bga.p1.1
       obtain ⟨-,f8,f9,f10,f11⟩:=bga.p2
       obtain ⟨c8,c9,c10,c11⟩:=bga.p2.1
       refine wpAny_one (i:=6) (listed2:=#[true,true,true,true,true,true,true]) (by kernel_rfl) rfl (by kernel_rfl) (fun K hK=>?_)
       go_simp
       refine hK.out _ _ ?_
       clear hK K
       refine wpAny_over (by kernel_rfl) ?_
       clear f0 c0 f1 c1 f2 c2 f3 c3 f4 c4 f5 c5 f6 c6 f7 c7 f8 c8 f9 c9 f10 c10 f11 c11
       change Exit.then _ _ _ _ (put12 w' g18 b0 b1 b2)
       have H8:=Lib.hid (below_put12 hS hga b0 b1 b2)
       have B8:=Lib.hid (bga.s12 b0 b1 b2)
       have V8:=Lib.hid (hA.put12 bga b0 b1 b2)
       generalize put12 w' g18 b0 b1 b2=w8 at *
       clear hS hR hF ev ea bga hA hga
       have VM8:=Lib.hid (VM7.out.below H8.out)
       have VV8:=Lib.hid (V7.out.below H8.out)
       have M8:=Lib.hid (M7.out.below H8.out M7.out.lt)
       have B7x:=Lib.hid (B7.out.below H8.out B7.out.lt)
       have L8:=Lib.hid (below_call L7.out H8.out (Nat.le_refl _))
       have KS:=Lib.hid (S7.out.below H8.out S7.out.lt)
       have SP8:=Lib.hid (SP7.out.below H8.out)
       have HBB:=Lib.hid (bd_sub HBW.out HBM.out)
       have hok:=SP8.out.ok
       have hS0:=HV.out.sorted
       have hrw:=hok.rows hS0
       have hlf:frs.length=fs.length:=by have:=congrArg List.length SP8.out.val;simpa using this
       have hfew:=hok.few (show i≤16 by omega)
       have HPB:=Lib.hid (hok.bd hS0 (fun j hj=>(hS0.near j hj).le))
       have HSL:=Lib.hid SP8.out.slices
       have HFC:=Lib.hid SP8.out.fcs
       have HNF:=Lib.hid (show (fs.map (faceQ P)).length≤262144 from by rw [List.length_map];omega)
       have HSO:=Lib.hid (SP8.out.solid (by omega) (by omega) (by omega) (fun j hj=>(hS0.near j hj).le) hrw)
       have HBC:=Lib.hid (centre_bd HSO.out)
       obtain ⟨hnz,hcw⟩:=centre_within hok HV.out (fun f hf=>(hrw f hf).2)
       have HNZ:=Lib.hid hnz
       obtain ⟨qc,hqc⟩:∃ q,(qscale (1 / (4*sumD (piecesQ (qAt (ptsQ P i)) (fs.map RF.r)))) (sumC (piecesQ (qAt (ptsQ P i)) (fs.map RF.r))))=q:=⟨_,rfl⟩
       have HQC:=Lib.hid hqc
       rw [hqc] at hcw HBC
       have HL0:=Lib.hid (loc_in hok hS0 HWI.out).1
       have HT0:=Lib.hid (loc_in hok hS0 HWI.out).2
       have HL1:=Lib.hid (loc_in hok hS0 hcw).1
       have HL2:=Lib.hid (loc_on hok HV.out HJL.out)
       have HL3:=Lib.hid (loc_out hok HV.out HJL.out HWI.out)
       rw [HPJ.out] at HL2 HL3
       clear hok hS0 hrw hlf hfew hnz hcw hqc
       go_wp2_with fail
       refine wp_region_b (rest:=0) [isV 0 (.int .i64 0),isV 1 (.bool true),isV 2 (.bool true),isV 3 (.agg #[.slice pv i cv,.slice pf nf cf,.slice pe ne ce]),isV 4 (.agg #[.bool m0.s,.slice m0.a m0.n m0.c,.bool m0.t,.slice m0.b m0.m m0.d,.bool m1.s,.slice m1.a m1.n m1.c,.bool m1.t,.slice m1.b m1.m m1.d,.bool m2.s,.slice m2.a m2.n m2.c,.bool m2.t,.slice m2.b m2.m m2.d]),isV 5 (.int .i64 (1)),isV 6 (.bool true),isV 7 (.bool true),isV 8 (.bool true),isV 9 (.agg #[.slice pv i cv,.slice pf nf cf,.slice pe ne ce]),isV 10 (.agg #[.slice pv i cv,.slice pf nf cf,.slice pe ne ce]),isP 11 (fun v w=>IsVec w v qc),isV 12 (.int .i64 1),isV 13 (.bool true),isV 14 (.bool true),isV 15 (.bool true),isV 16 (.agg #[.slice pv i cv,.slice pf nf cf,.slice pe ne ce]),isV 17 (.agg #[.bool v0.s,.slice v0.a v0.n v0.c,.bool v0.t,.slice v0.b v0.m v0.d,.bool v1.s,.slice v1.a v1.n v1.c,.bool v1.t,.slice v1.b v1.m v1.d,.bool v2.s,.slice v2.a v2.n v2.c,.bool v2.t,.slice v2.b v2.m v2.d]),isV 18 (.int .i64 (0)),isV 19 (.bool true),isV 20 (.bool true),isV 21 (.bool true),isV 22 (.agg #[.slice pv i cv,.slice pf nf cf,.slice pe ne ce]),isV 23 (.agg #[.bool b0.s,.slice b0.a b0.n b0.c,.bool b0.t,.slice b0.b b0.m b0.d,.bool b1.s,.slice b1.a b1.n b1.c,.bool b1.t,.slice b1.b b1.m b1.d,.bool b2.s,.slice b2.a b2.n b2.c,.bool b2.t,.slice b2.b b2.m b2.d]),isV 24 (.int .i64 (-1)),isV 25 (.bool true),isV 26 (.bool true),isV 27 (.bool true),isV 28 (.agg #[.slice pv i cv,.slice pf nf cf,.slice pe ne ce]),isV 29 (.agg #[.bool m0.s,.slice m0.a m0.n m0.c,.bool m0.t,.slice m0.b m0.m m0.d,.bool m1.s,.slice m1.a m1.n m1.c,.bool m1.t,.slice m1.b m1.m m1.d,.bool m2.s,.slice m2.a m2.n m2.c,.bool m2.t,.slice m2.b m2.m m2.d]),isP 30 (fun v _=>∃ a c,v=.slice a 0 c),isP 31 (fun v _=>v=.int .i64 0),isV 32 (.bool true),isV 33 (.bool true),isV 34 (.bool true)] [] ?A19 #[true,true,true,true,true,true,true,true,true,true,true,true,true,true,true,true,true,true,true,true,true,true,true,true,true,true,true,true,true,true,true,true,true,true,true] (by kernel_rfl) [0,1,2,3,4,5,6,7,8,9,10,11,12,13,14,15,16,17,18,19,20,21,22,23,24,25,26,27,28,29,30,31,32,33,34] (by kernel_rfl) (by kernel_rfl) (by kernel_rfl) (by kernel_rfl) (by kernel_rfl) (by kernel_rfl) ?st ?hA ?hop ?hend
       case hA =>
        intro y
        simp only [putAll,dstOf,List.getElem?_toArray,List.getElem?_cons_zero,List.getElem?_cons_succ,Option.bind_some,Act.put,List.setIfInBounds_toArray,List.set_cons_zero,List.set_cons_succ]
        exact rfl
       case st=>exact StabL.cons isV.stab (StabL.cons isV.stab (StabL.cons isV.stab (StabL.cons isV.stab (StabL.cons isV.stab (StabL.cons isV.stab (StabL.cons isV.stab (StabL.cons isV.stab (StabL.cons isV.stab (StabL.cons isV.stab (StabL.cons isV.stab (StabL.cons (isP.stab (fun _ _ _ h hv=>hv.below h)) (StabL.cons isV.stab (StabL.cons isV.stab (StabL.cons isV.stab (StabL.cons isV.stab (StabL.cons isV.stab (StabL.cons isV.stab (StabL.cons isV.stab (StabL.cons isV.stab (StabL.cons isV.stab (StabL.cons isV.stab (StabL.cons isV.stab (StabL.cons isV.stab (StabL.cons isV.stab (StabL.cons isV.stab (StabL.cons isV.stab (StabL.cons isV.stab (StabL.cons isV.stab (StabL.cons isV.stab (StabL.cons (isP.stab (fun _ _ _ _ h=>h)) (StabL.cons (isP.stab (fun _ _ _ _ h=>h)) (StabL.cons isV.stab (StabL.cons isV.stab (StabL.cons isV.stab (StabL.nil)))))))))))))))))))))))))))))))))))
       case hop =>
        refine OpsOk.cons (i:=0) rfl (fun y w' hS hD K hK=>?_) ?_
        ·as_aux_lemma =>
         go_simp
         exact hK.out _ w' hS (Below.refl _ _) isV.put (fun h=>absurd h (by decide))
        refine OpsOk.cons (i:=1) rfl (fun y w' hS hD K hK=>?_) ?_
        ·as_aux_lemma =>
         have e0:y 0=.int .i64 0:=isV.get (i:=0) (c:=.int .i64 0) (hD 0 (by kernel_rfl))
         simp only [e0] at hK ⊢
         go_simp
         exact hK.out _ w' hS (Below.refl _ _) isV.put (fun h=>absurd h (by decide))
        refine OpsOk.cons (i:=2) rfl (fun y w' hS hD K hK=>?_) ?_
        ·as_aux_lemma =>
         have e1:y 1=.bool true:=isV.get (i:=1) (c:=.bool true) (hD 1 (by kernel_rfl))
         simp only [e1] at hK ⊢
         go_simp
         exact hK.out _ w' hS (Below.refl _ _) isV.put (fun h=>absurd h (by decide))
        refine OpsOk.cons (i:=3) rfl (fun y w' hS hD K hK=>?_) ?_
        ·as_aux_lemma =>
         have e2:y 2=.bool true:=isV.get (i:=2) (c:=.bool true) (hD 2 (by kernel_rfl))
         have bx:=KS.out.below hS KS.out.lt
         obtain ⟨c0,c1,c2,-⟩:=bx.three
         simp only [e2] at hK ⊢
         go_simp
         exact hK.out _ w' hS (Below.refl _ _) isV.put (fun h=>absurd h (by decide))
        refine OpsOk.cons (i:=4) rfl (fun y w' hS hD K hK=>?_) ?_
        ·as_aux_lemma =>
         have e2:y 2=.bool true:=isV.get (i:=2) (c:=.bool true) (hD 2 (by kernel_rfl))
         have bx:=M8.out.below hS M8.out.lt
         obtain ⟨c0,c1,c2,c3⟩:=bx.p0.1
         obtain ⟨c4,c5,c6,c7⟩:=bx.p1.1
         obtain ⟨c8,c9,c10,c11⟩:=bx.p2.1
         simp only [e2] at hK ⊢
         go_simp
         exact hK.out _ w' hS (Below.refl _ _) isV.put (fun h=>absurd h (by decide))
        refine OpsOk.cons (i:=5) rfl (fun y w' hS hD K hK=>?_) ?_
        ·as_aux_lemma =>
         have e2:y 2=.bool true:=isV.get (i:=2) (c:=.bool true) (hD 2 (by kernel_rfl))
         have e3:y 3=.agg #[.slice pv i cv,.slice pf nf cf,.slice pe ne ce]:=isV.get (i:=3) (c:=.agg #[.slice pv i cv,.slice pf nf cf,.slice pe ne ce]) (hD 3 (by kernel_rfl))
         have e4:y 4=.agg #[.bool m0.s,.slice m0.a m0.n m0.c,.bool m0.t,.slice m0.b m0.m m0.d,.bool m1.s,.slice m1.a m1.n m1.c,.bool m1.t,.slice m1.b m1.m m1.d,.bool m2.s,.slice m2.a m2.n m2.c,.bool m2.t,.slice m2.b m2.m m2.d]:=isV.get (i:=4) (c:=.agg #[.bool m0.s,.slice m0.a m0.n m0.c,.bool m0.t,.slice m0.b m0.m m0.d,.bool m1.s,.slice m1.a m1.n m1.c,.bool m1.t,.slice m1.b m1.m m1.d,.bool m2.s,.slice m2.a m2.n m2.c,.bool m2.t,.slice m2.b m2.m m2.d]) (hD 4 (by kernel_rfl))
         simp only [e2,e3,e4] at hK ⊢
         go_simp
         refine (locate_any _ _ _ _ (fs.map (faceQ P)) frs qm _ 2 4 w' (HFC.out.below hS) HSL.out HPB.out (VM8.out.below hS) HBM.out (by omega) HNF.out).mono ?_
         rintro e w'' ⟨he,hb⟩
         rw [HL0.out] at he
         subst he
         exact hK.out _ w'' (below_call hS hb (Nat.le_refl _)) hb isV.put (fun h=>absurd h (by decide))
        refine OpsOk.cons (i:=6) rfl (fun y w' hS hD K hK=>?_) ?_
        ·as_aux_lemma =>
         have e2:y 2=.bool true:=isV.get (i:=2) (c:=.bool true) (hD 2 (by kernel_rfl))
         have e5:y 5=.int .i64 (1):=isV.get (i:=5) (c:=.int .i64 (1)) (hD 5 (by kernel_rfl))
         simp only [e2,e5] at hK ⊢
         go_simp
         exact hK.out _ w' hS (Below.refl _ _) isV.put (fun h=>absurd h (by decide))
        refine OpsOk.cons (i:=7) rfl (fun y w' hS hD K hK=>?_) ?_
        ·as_aux_lemma =>
         have e2:y 2=.bool true:=isV.get (i:=2) (c:=.bool true) (hD 2 (by kernel_rfl))
         have e6:y 6=.bool true:=isV.get (i:=6) (c:=.bool true) (hD 6 (by kernel_rfl))
         simp only [e2,e6] at hK ⊢
         go_simp
         exact hK.out _ w' hS (Below.refl _ _) isV.put (fun h=>absurd h (by decide))
        refine OpsOk.cons (i:=8) rfl (fun y w' hS hD K hK=>?_) ?_
        ·as_aux_lemma =>
         have e7:y 7=.bool true:=isV.get (i:=7) (c:=.bool true) (hD 7 (by kernel_rfl))
         simp only [e7] at hK ⊢
         go_simp
         exact hK.out _ w' hS (Below.refl _ _) isV.put (fun h=>absurd h (by decide))
        refine OpsOk.cons (i:=9) rfl (fun y w' hS hD K hK=>?_) ?_
        ·as_aux_lemma =>
         have e8:y 8=.bool true:=isV.get (i:=8) (c:=.bool true) (hD 8 (by kernel_rfl))
         have bx:=KS.out.below hS KS.out.lt
         obtain ⟨c0,c1,c2,-⟩:=bx.three
         simp only [e8] at hK ⊢
         go_simp
         exact hK.out _ w' hS (Below.refl _ _) isV.put (fun h=>absurd h (by decide))
        refine OpsOk.cons (i:=10) rfl (fun y w' hS hD K hK=>?_) ?_
        ·as_aux_lemma =>
         have e8:y 8=.bool true:=isV.get (i:=8) (c:=.bool true) (hD 8 (by kernel_rfl))
         have bx:=KS.out.below hS KS.out.lt
         obtain ⟨c0,c1,c2,-⟩:=bx.three
         simp only [e8] at hK ⊢
         go_simp
         exact hK.out _ w' hS (Below.refl _ _) isV.put (fun h=>absurd h (by decide))
        refine OpsOk.cons (i:=11) rfl (fun y w' hS hD K hK=>?_) ?_
        ·as_aux_lemma =>
         have e8:y 8=.bool true:=isV.get (i:=8) (c:=.bool true) (hD 8 (by kernel_rfl))
         have e10:y 10=.agg #[.slice pv i cv,.slice pf nf cf,.slice pe ne ce]:=isV.get (i:=10) (c:=.agg #[.slice pv i cv,.slice pf nf cf,.slice pe ne ce]) (hD 10 (by kernel_rfl))
         simp only [e8,e10] at hK ⊢
         go_simp
         refine (centre_any _ _ _ (ptsQ P i) frs (fs.map RF.r) 1 4096 w' (HSO.out.below hS) HNZ.out).mono ?_
         rintro e w'' ⟨⟨v,rfl,hv⟩,hb⟩
         exact hK.out v w'' (below_call hS hb (Nat.le_refl _)) hb (isP.put (HQC.out ▸ hv)) (fun h=>absurd h (by decide))
        refine OpsOk.cons (i:=12) rfl (fun y w' hS hD K hK=>?_) ?_
        ·as_aux_lemma =>
         have e8:y 8=.bool true:=isV.get (i:=8) (c:=.bool true) (hD 8 (by kernel_rfl))
         have e9:y 9=.agg #[.slice pv i cv,.slice pf nf cf,.slice pe ne ce]:=isV.get (i:=9) (c:=.agg #[.slice pv i cv,.slice pf nf cf,.slice pe ne ce]) (hD 9 (by kernel_rfl))
         have e11:=isP.get (i:=11) (p:=fun v w=>IsVec w v qc) (hD 11 (by kernel_rfl))
         simp only [e8,e9] at hK ⊢
         go_simp
         refine (locate_any _ _ _ _ (fs.map (faceQ P)) frs qc _ 2 18 w' (HFC.out.below hS) HSL.out HPB.out e11 HBC.out (by omega) HNF.out).mono ?_
         rintro e w'' ⟨he,hb⟩
         rw [HL1.out] at he
         subst he
         exact hK.out _ w'' (below_call hS hb (Nat.le_refl _)) hb isV.put (fun h=>absurd h (by decide))
        refine OpsOk.cons (i:=13) rfl (fun y w' hS hD K hK=>?_) ?_
        ·as_aux_lemma =>
         have e8:y 8=.bool true:=isV.get (i:=8) (c:=.bool true) (hD 8 (by kernel_rfl))
         have e12:y 12=.int .i64 1:=isV.get (i:=12) (c:=.int .i64 1) (hD 12 (by kernel_rfl))
         simp only [e8,e12] at hK ⊢
         go_simp
         exact hK.out _ w' hS (Below.refl _ _) isV.put (fun h=>absurd h (by decide))
        refine OpsOk.cons (i:=14) rfl (fun y w' hS hD K hK=>?_) ?_
        ·as_aux_lemma =>
         have e8:y 8=.bool true:=isV.get (i:=8) (c:=.bool true) (hD 8 (by kernel_rfl))
         have e13:y 13=.bool true:=isV.get (i:=13) (c:=.bool true) (hD 13 (by kernel_rfl))
         simp only [e8,e13] at hK ⊢
         go_simp
         exact hK.out _ w' hS (Below.refl _ _) isV.put (fun h=>absurd h (by decide))
        refine OpsOk.cons (i:=15) rfl (fun y w' hS hD K hK=>?_) ?_
        ·as_aux_lemma =>
         have e14:y 14=.bool true:=isV.get (i:=14) (c:=.bool true) (hD 14 (by kernel_rfl))
         simp only [e14] at hK ⊢
         go_simp
         exact hK.out _ w' hS (Below.refl _ _) isV.put (fun h=>absurd h (by decide))
        refine OpsOk.cons (i:=16) rfl (fun y w' hS hD K hK=>?_) ?_
        ·as_aux_lemma =>
         have e15:y 15=.bool true:=isV.get (i:=15) (c:=.bool true) (hD 15 (by kernel_rfl))
         have bx:=KS.out.below hS KS.out.lt
         obtain ⟨c0,c1,c2,-⟩:=bx.three
         simp only [e15] at hK ⊢
         go_simp
         exact hK.out _ w' hS (Below.refl _ _) isV.put (fun h=>absurd h (by decide))
        refine OpsOk.cons (i:=17) rfl (fun y w' hS hD K hK=>?_) ?_
        ·as_aux_lemma =>
         have e15:y 15=.bool true:=isV.get (i:=15) (c:=.bool true) (hD 15 (by kernel_rfl))
         have bx:=B7x.out.below hS B7x.out.lt
         obtain ⟨c0,c1,c2,c3⟩:=bx.p0.1
         obtain ⟨c4,c5,c6,c7⟩:=bx.p1.1
         obtain ⟨c8,c9,c10,c11⟩:=bx.p2.1
         simp only [e15] at hK ⊢
         go_simp
         exact hK.out _ w' hS (Below.refl _ _) isV.put (fun h=>absurd h (by decide))
        refine OpsOk.cons (i:=18) rfl (fun y w' hS hD K hK=>?_) ?_
        ·as_aux_lemma =>
         have e15:y 15=.bool true:=isV.get (i:=15) (c:=.bool true) (hD 15 (by kernel_rfl))
         have e16:y 16=.agg #[.slice pv i cv,.slice pf nf cf,.slice pe ne ce]:=isV.get (i:=16) (c:=.agg #[.slice pv i cv,.slice pf nf cf,.slice pe ne ce]) (hD 16 (by kernel_rfl))
         have e17:y 17=.agg #[.bool v0.s,.slice v0.a v0.n v0.c,.bool v0.t,.slice v0.b v0.m v0.d,.bool v1.s,.slice v1.a v1.n v1.c,.bool v1.t,.slice v1.b v1.m v1.d,.bool v2.s,.slice v2.a v2.n v2.c,.bool v2.t,.slice v2.b v2.m v2.d]:=isV.get (i:=17) (c:=.agg #[.bool v0.s,.slice v0.a v0.n v0.c,.bool v0.t,.slice v0.b v0.m v0.d,.bool v1.s,.slice v1.a v1.n v1.c,.bool v1.t,.slice v1.b v1.m v1.d,.bool v2.s,.slice v2.a v2.n v2.c,.bool v2.t,.slice v2.b v2.m v2.d]) (hD 17 (by kernel_rfl))
         simp only [e15,e16,e17] at hK ⊢
         go_simp
         refine (locate_any _ _ _ _ (fs.map (faceQ P)) frs (ptQ pj) _ 2 2 w' (HFC.out.below hS) HSL.out HPB.out (VV8.out.below hS) HBV.out (by omega) HNF.out).mono ?_
         rintro e w'' ⟨he,hb⟩
         rw [HL2.out] at he
         subst he
         exact hK.out _ w'' (below_call hS hb (Nat.le_refl _)) hb isV.put (fun h=>absurd h (by decide))
        refine OpsOk.cons (i:=19) rfl (fun y w' hS hD K hK=>?_) ?_
        ·as_aux_lemma =>
         have e15:y 15=.bool true:=isV.get (i:=15) (c:=.bool true) (hD 15 (by kernel_rfl))
         have e18:y 18=.int .i64 (0):=isV.get (i:=18) (c:=.int .i64 (0)) (hD 18 (by kernel_rfl))
         simp only [e15,e18] at hK ⊢
         go_simp
         exact hK.out _ w' hS (Below.refl _ _) isV.put (fun h=>absurd h (by decide))
        refine OpsOk.cons (i:=20) rfl (fun y w' hS hD K hK=>?_) ?_
        ·as_aux_lemma =>
         have e15:y 15=.bool true:=isV.get (i:=15) (c:=.bool true) (hD 15 (by kernel_rfl))
         have e19:y 19=.bool true:=isV.get (i:=19) (c:=.bool true) (hD 19 (by kernel_rfl))
         simp only [e15,e19] at hK ⊢
         go_simp
         exact hK.out _ w' hS (Below.refl _ _) isV.put (fun h=>absurd h (by decide))
        refine OpsOk.cons (i:=21) rfl (fun y w' hS hD K hK=>?_) ?_
        ·as_aux_lemma =>
         have e20:y 20=.bool true:=isV.get (i:=20) (c:=.bool true) (hD 20 (by kernel_rfl))
         simp only [e20] at hK ⊢
         go_simp
         exact hK.out _ w' hS (Below.refl _ _) isV.put (fun h=>absurd h (by decide))
        refine OpsOk.cons (i:=22) rfl (fun y w' hS hD K hK=>?_) ?_
        ·as_aux_lemma =>
         have e21:y 21=.bool true:=isV.get (i:=21) (c:=.bool true) (hD 21 (by kernel_rfl))
         have bx:=KS.out.below hS KS.out.lt
         obtain ⟨c0,c1,c2,-⟩:=bx.three
         simp only [e21] at hK ⊢
         go_simp
         exact hK.out _ w' hS (Below.refl _ _) isV.put (fun h=>absurd h (by decide))
        refine OpsOk.cons (i:=23) rfl (fun y w' hS hD K hK=>?_) ?_
        ·as_aux_lemma =>
         have e21:y 21=.bool true:=isV.get (i:=21) (c:=.bool true) (hD 21 (by kernel_rfl))
         have bx:=B8.out.below hS B8.out.lt
         obtain ⟨c0,c1,c2,c3⟩:=bx.p0.1
         obtain ⟨c4,c5,c6,c7⟩:=bx.p1.1
         obtain ⟨c8,c9,c10,c11⟩:=bx.p2.1
         simp only [e21] at hK ⊢
         go_simp
         exact hK.out _ w' hS (Below.refl _ _) isV.put (fun h=>absurd h (by decide))
        refine OpsOk.cons (i:=24) rfl (fun y w' hS hD K hK=>?_) ?_
        ·as_aux_lemma =>
         have e21:y 21=.bool true:=isV.get (i:=21) (c:=.bool true) (hD 21 (by kernel_rfl))
         have e22:y 22=.agg #[.slice pv i cv,.slice pf nf cf,.slice pe ne ce]:=isV.get (i:=22) (c:=.agg #[.slice pv i cv,.slice pf nf cf,.slice pe ne ce]) (hD 22 (by kernel_rfl))
         have e23:y 23=.agg #[.bool b0.s,.slice b0.a b0.n b0.c,.bool b0.t,.slice b0.b b0.m b0.d,.bool b1.s,.slice b1.a b1.n b1.c,.bool b1.t,.slice b1.b b1.m b1.d,.bool b2.s,.slice b2.a b2.n b2.c,.bool b2.t,.slice b2.b b2.m b2.d]:=isV.get (i:=23) (c:=.agg #[.bool b0.s,.slice b0.a b0.n b0.c,.bool b0.t,.slice b0.b b0.m b0.d,.bool b1.s,.slice b1.a b1.n b1.c,.bool b1.t,.slice b1.b b1.m b1.d,.bool b2.s,.slice b2.a b2.n b2.c,.bool b2.t,.slice b2.b b2.m b2.d]) (hD 23 (by kernel_rfl))
         simp only [e21,e22,e23] at hK ⊢
         go_simp
         refine (locate_any _ _ _ _ (fs.map (faceQ P)) frs ⟨(ptQ pj).x+(ptQ pj).x - qm.x,(ptQ pj).y+(ptQ pj).y - qm.y,(ptQ pj).z+(ptQ pj).z - qm.z⟩ _ 2 10 w' (HFC.out.below hS) HSL.out HPB.out (V8.out.below hS) HBB.out (by omega) HNF.out).mono ?_
         rintro e w'' ⟨he,hb⟩
         rw [HL3.out] at he
         subst he
         exact hK.out _ w'' (below_call hS hb (Nat.le_refl _)) hb isV.put (fun h=>absurd h (by decide))
        refine OpsOk.cons (i:=25) rfl (fun y w' hS hD K hK=>?_) ?_
        ·as_aux_lemma =>
         have e21:y 21=.bool true:=isV.get (i:=21) (c:=.bool true) (hD 21 (by kernel_rfl))
         have e24:y 24=.int .i64 (-1):=isV.get (i:=24) (c:=.int .i64 (-1)) (hD 24 (by kernel_rfl))
         simp only [e21,e24] at hK ⊢
         go_simp
         exact hK.out _ w' hS (Below.refl _ _) isV.put (fun h=>absurd h (by decide))
        refine OpsOk.cons (i:=26) rfl (fun y w' hS hD K hK=>?_) ?_
        ·as_aux_lemma =>
         have e21:y 21=.bool true:=isV.get (i:=21) (c:=.bool true) (hD 21 (by kernel_rfl))
         have e25:y 25=.bool true:=isV.get (i:=25) (c:=.bool true) (hD 25 (by kernel_rfl))
         simp only [e21,e25] at hK ⊢
         go_simp
         exact hK.out _ w' hS (Below.refl _ _) isV.put (fun h=>absurd h (by decide))
        refine OpsOk.cons (i:=27) rfl (fun y w' hS hD K hK=>?_) ?_
        ·as_aux_lemma =>
         have e26:y 26=.bool true:=isV.get (i:=26) (c:=.bool true) (hD 26 (by kernel_rfl))
         simp only [e26] at hK ⊢
         go_simp
         exact hK.out _ w' hS (Below.refl _ _) isV.put (fun h=>absurd h (by decide))
        refine OpsOk.cons (i:=28) rfl (fun y w' hS hD K hK=>?_) ?_
        ·as_aux_lemma =>
         have e27:y 27=.bool true:=isV.get (i:=27) (c:=.bool true) (hD 27 (by kernel_rfl))
         have bx:=KS.out.below hS KS.out.lt
         obtain ⟨c0,c1,c2,-⟩:=bx.three
         simp only [e27] at hK ⊢
         go_simp
         exact hK.out _ w' hS (Below.refl _ _) isV.put (fun h=>absurd h (by decide))
        refine OpsOk.cons (i:=29) rfl (fun y w' hS hD K hK=>?_) ?_
        ·as_aux_lemma =>
         have e27:y 27=.bool true:=isV.get (i:=27) (c:=.bool true) (hD 27 (by kernel_rfl))
         have bx:=M8.out.below hS M8.out.lt
         obtain ⟨c0,c1,c2,c3⟩:=bx.p0.1
         obtain ⟨c4,c5,c6,c7⟩:=bx.p1.1
         obtain ⟨c8,c9,c10,c11⟩:=bx.p2.1
         simp only [e27] at hK ⊢
         go_simp
         exact hK.out _ w' hS (Below.refl _ _) isV.put (fun h=>absurd h (by decide))
        refine OpsOk.cons (i:=30) rfl (fun y w' hS hD K hK=>?_) ?_
        ·as_aux_lemma =>
         have e27:y 27=.bool true:=isV.get (i:=27) (c:=.bool true) (hD 27 (by kernel_rfl))
         have e28:y 28=.agg #[.slice pv i cv,.slice pf nf cf,.slice pe ne ce]:=isV.get (i:=28) (c:=.agg #[.slice pv i cv,.slice pf nf cf,.slice pe ne ce]) (hD 28 (by kernel_rfl))
         have e29:y 29=.agg #[.bool m0.s,.slice m0.a m0.n m0.c,.bool m0.t,.slice m0.b m0.m m0.d,.bool m1.s,.slice m1.a m1.n m1.c,.bool m1.t,.slice m1.b m1.m m1.d,.bool m2.s,.slice m2.a m2.n m2.c,.bool m2.t,.slice m2.b m2.m m2.d]:=isV.get (i:=29) (c:=.agg #[.bool m0.s,.slice m0.a m0.n m0.c,.bool m0.t,.slice m0.b m0.m m0.d,.bool m1.s,.slice m1.a m1.n m1.c,.bool m1.t,.slice m1.b m1.m m1.d,.bool m2.s,.slice m2.a m2.n m2.c,.bool m2.t,.slice m2.b m2.m m2.d]) (hD 29 (by kernel_rfl))
         simp only [e27,e28,e29] at hK ⊢
         go_simp
         refine (touched_any _ _ _ _ (fs.map (faceQ P)) frs qm _ 2 4 w' (HFC.out.below hS) HSL.out HPB.out (VM8.out.below hS) HBM.out (by omega) HNF.out).mono ?_
         rintro e w'' ⟨⟨v,rfl,hv⟩,hb⟩
         exact hK.out v w'' (below_call hS hb (Nat.le_refl _)) hb (isP.put (by rw [HT0.out] at hv;obtain ⟨a,c,h,-⟩:=hv.ints;exact ⟨a,c,h⟩)) (fun h=>absurd h (by decide))
        refine OpsOk.cons (i:=31) rfl (fun y w' hS hD K hK=>?_) ?_
        ·as_aux_lemma =>
         have e27:y 27=.bool true:=isV.get (i:=27) (c:=.bool true) (hD 27 (by kernel_rfl))
         have e30:=isP.get (i:=30) (p:=fun v _=>∃ a c,v=.slice a 0 c) (hD 30 (by kernel_rfl))
         obtain ⟨a,c,eq⟩:=e30
         simp only [e27,eq] at hK ⊢
         go_simp
         exact hK.out _ w' hS (Below.refl _ _) (isP.put rfl) (fun h=>absurd h (by decide))
        refine OpsOk.cons (i:=32) rfl (fun y w' hS hD K hK=>?_) ?_
        ·as_aux_lemma =>
         have e27:y 27=.bool true:=isV.get (i:=27) (c:=.bool true) (hD 27 (by kernel_rfl))
         have e31:=isP.get (i:=31) (p:=fun v _=>v=.int .i64 0) (hD 31 (by kernel_rfl))
         simp only [e27,e31] at hK ⊢
         go_simp
         exact hK.out _ w' hS (Below.refl _ _) isV.put (fun h=>absurd h (by decide))
        refine OpsOk.cons (i:=33) rfl (fun y w' hS hD K hK=>?_) ?_
        ·as_aux_lemma =>
         have e27:y 27=.bool true:=isV.get (i:=27) (c:=.bool true) (hD 27 (by kernel_rfl))
         have e32:y 32=.bool true:=isV.get (i:=32) (c:=.bool true) (hD 32 (by kernel_rfl))
         simp only [e27,e32] at hK ⊢
         go_simp
         exact hK.out _ w' hS (Below.refl _ _) isV.put (fun h=>absurd h (by decide))
        refine OpsOk.cons (i:=34) rfl (fun y w' hS hD K hK=>?_) ?_
        ·as_aux_lemma =>
         have e33:y 33=.bool true:=isV.get (i:=33) (c:=.bool true) (hD 33 (by kernel_rfl))
         simp only [e33] at hK ⊢
         go_simp
         exact hK.out _ w' hS (Below.refl _ _) isV.put (fun h=>absurd h (by decide))
        exact OpsOk.nil
       case hend =>
        intro y w' hS hR hF
        have e34:y 34=.bool true:=isV.get (i:=34) (c:=.bool true) (hR 34 (by kernel_rfl))
        simp only [e34]
        refine wpAny_over (by kernel_rfl) ?_
        have HF9:=Lib.hid (L8.out.trans (hS.mono L8.out.size))
        clear hS hR hF
        go_wp2_with fail
        go_ret
        exact ⟨rfl,HF9.out⟩
   have hil:i<len:=by omega
   have hlt:(i:Int)<(len:Int):=by omega
   have HIL:=Lib.hid hil
   obtain ⟨n,hn⟩:∃ n,wt X i=n:=⟨_,rfl⟩
   have hx:=HX.out i
   obtain ⟨x,hxx⟩:∃ x,X i=x:=⟨_,rfl⟩
   have hnx:1+x=n:=by rw [← hn,← hxx];rfl
   rw [hxx] at hx
   have hrem:(i:Int) % 10=(i:Int):=by omega
   have hC:=Ca.out.below HR.out Ca.out.lt
   have hcx:wk.cell? ⟨w.heap.size,i,none⟩=some (.int .u8 x):=by rw [← hxx];exact hC.ten (by omega)
   clear hC
   have hwb:∀ j,j<i→0<wt X j∧wt X j≤256:=fun j _=>by have:=HX.out j;unfold wt;omega
   have hnb:∀ j,j<i→LeV 4096 (P j):=fun j hj=>(HV.out.sorted.near j (by omega)).le
   have hb0:=wsum_le (B:=1) (by omega) hwb (fun j _=>(show Le 1 1 from by unfold Le;omega))
   have hbx:=wsum_le (B:=4096) (by omega) hwb (fun j hj=>(hnb j hj).1)
   have hby:=wsum_le (B:=4096) (by omega) hwb (fun j hj=>(hnb j hj).2.1)
   have hbz:=wsum_le (B:=4096) (by omega) hwb (fun j hj=>(hnb j hj).2.2)
   have hpi:=(HV.out.sorted.near i hil).le
   have et:wsum (wt X) (fun _=>1) (i+1)=wsum (wt X) (fun _=>1) i+n:=by rw [← hn];simp only [wsum,Int.mul_one]
   have ex:wsum (wt X) (fun i=>(P i).x) (i+1)=wsum (wt X) (fun i=>(P i).x) i+n*(P i).x:=by rw [← hn];simp only [wsum]
   have ey:wsum (wt X) (fun i=>(P i).y) (i+1)=wsum (wt X) (fun i=>(P i).y) i+n*(P i).y:=by rw [← hn];simp only [wsum]
   have ez:wsum (wt X) (fun i=>(P i).z) (i+1)=wsum (wt X) (fun i=>(P i).z) i+n*(P i).z:=by rw [← hn];simp only [wsum]
   obtain ⟨tt,htt⟩:∃ tt,wsum (wt X) (fun _=>1) i=tt:=⟨_,rfl⟩
   obtain ⟨sx,hsx⟩:∃ s,wsum (wt X) (fun i=>(P i).x) i=s:=⟨_,rfl⟩
   obtain ⟨sy,hsy⟩:∃ s,wsum (wt X) (fun i=>(P i).y) i=s:=⟨_,rfl⟩
   obtain ⟨sz,hsz⟩:∃ s,wsum (wt X) (fun i=>(P i).z) i=s:=⟨_,rfl⟩
   rw [hsx,hsy,hsz] at HBX
   rw [htt] at et hb0 ⊢
   rw [hsx] at ex hbx
   rw [hsy] at ey hby
   rw [hsz] at ez hbz
   have hnl:Le 256 n:=by unfold Le;omega
   have mx:=hnl.mul hpi.1
   have my:=hnl.mul hpi.2.1
   have mz:=hnl.mul hpi.2.2
   obtain ⟨bq,offq,e,hbq,-,-⟩:=PSa.out.cells (by omega)
   cases e
   obtain ⟨_,_,e,-,-,hcc⟩:=(PSa.out.below HR.out).cells (by omega)
   cases e
   have hq:=hcc i hil
   obtain ⟨pi,hpi'⟩:∃ pi,P i=pi:=⟨_,rfl⟩
   rw [hpi'] at hq ex ey ez mx my mz
   have HPI:=Lib.hid hpi'
   obtain ⟨q0,q1,q2⟩:=hq
   unfold Le at hb0 hbx hby hbz mx my mz
   have w0:wrap64 (tt+n)=tt+n:=IntWalk.wrap64_in _ ⟨by omega,by omega⟩
   have w1:wrap64 (n*pi.x)=n*pi.x:=IntWalk.wrap64_in _ ⟨by omega,by omega⟩
   have w2:wrap64 (n*pi.y)=n*pi.y:=IntWalk.wrap64_in _ ⟨by omega,by omega⟩
   have w3:wrap64 (n*pi.z)=n*pi.z:=IntWalk.wrap64_in _ ⟨by omega,by omega⟩
   have w4:wrap64 (sx+n*pi.x)=sx+n*pi.x:=IntWalk.wrap64_in _ ⟨by omega,by omega⟩
   have w5:wrap64 (sy+n*pi.y)=sy+n*pi.y:=IntWalk.wrap64_in _ ⟨by omega,by omega⟩
   have w6:wrap64 (sz+n*pi.z)=sz+n*pi.z:=IntWalk.wrap64_in _ ⟨by omega,by omega⟩
   have ET:=Lib.hid et
   have EX:=Lib.hid ex
   have EY:=Lib.hid ey
   have EZ:=Lib.hid ez
   clear hwb hnb hb0 hbx hby hbz hpi mx my mz hnl et ex ey ez htt hsx hsy hsz hpi' hn hcc h0
   go_wp2_with fail
   obtain ⟨y0,y1,y2,y3,y4,y5⟩:=HBX.out.three
   have hne:bq≠wa.heap.size:=by omega
   refine Round.loop 5 ?_
   refine Round.next (fun K hK=>?_)
   go_wp2_with fail
   go_region
   go_wp2_with fail
   clear y0 y1 y2 y3 y4 y5 q0 q1 q2 s0
   have HB1:=Lib.hid (show Box ((wk.setCell ⟨wa.heap.size,0,none⟩ (.int .i64 (sx+n*pi.x))).drew) wa.heap.size #[.int .i64 (sx+n*pi.x),.int .i64 (sy),.int .i64 (sz)] 46 from (HBX.out.set 0 _).drew)
   have HR1:=Lib.hid (show Below wa.heap.size wa ((wk.setCell ⟨wa.heap.size,0,none⟩ (.int .i64 (sx+n*pi.x))).drew) from (HR.out.setCell (Nat.le_refl _) _).drew)
   generalize (wk.setCell ⟨wa.heap.size,0,none⟩ (.int .i64 (sx+n*pi.x))).drew=W1 at *
   obtain ⟨_,_,e,-,-,hcc⟩:=(PSa.out.below HR1.out).cells (by omega)
   cases e
   have hq:=hcc i hil
   rw [HPI.out] at hq
   obtain ⟨q0,q1,q2⟩:=hq
   clear hcc
   obtain ⟨s0,-⟩:=Da.out.below HR1.out Da.out.lt |>.one
   obtain ⟨y0,y1,y2,y3,y4,y5⟩:=HB1.out.three
   refine Round.next (fun K hK=>?_)
   go_wp2_with fail
   go_region
   go_wp2_with fail
   clear y0 y1 y2 y3 y4 y5 q0 q1 q2 s0
   have HB2:=Lib.hid (show Box ((W1.setCell ⟨wa.heap.size,1,none⟩ (.int .i64 (sy+n*pi.y))).drew) wa.heap.size #[.int .i64 (sx+n*pi.x),.int .i64 (sy+n*pi.y),.int .i64 (sz)] 46 from (HB1.out.set 1 _).drew)
   have HR2:=Lib.hid (show Below wa.heap.size wa ((W1.setCell ⟨wa.heap.size,1,none⟩ (.int .i64 (sy+n*pi.y))).drew) from (HR1.out.setCell (Nat.le_refl _) _).drew)
   generalize (W1.setCell ⟨wa.heap.size,1,none⟩ (.int .i64 (sy+n*pi.y))).drew=W2 at *
   obtain ⟨_,_,e,-,-,hcc⟩:=(PSa.out.below HR2.out).cells (by omega)
   cases e
   have hq:=hcc i hil
   rw [HPI.out] at hq
   obtain ⟨q0,q1,q2⟩:=hq
   clear hcc
   obtain ⟨s0,-⟩:=Da.out.below HR2.out Da.out.lt |>.one
   obtain ⟨y0,y1,y2,y3,y4,y5⟩:=HB2.out.three
   refine Round.next (fun K hK=>?_)
   go_wp2_with fail
   go_region
   go_wp2_with fail
   clear y0 y1 y2 y3 y4 y5 q0 q1 q2 s0
   have HB3:=Lib.hid (show Box ((W2.setCell ⟨wa.heap.size,2,none⟩ (.int .i64 (sz+n*pi.z))).drew) wa.heap.size #[.int .i64 (sx+n*pi.x),.int .i64 (sy+n*pi.y),.int .i64 (sz+n*pi.z)] 46 from (HB2.out.set 2 _).drew)
   have HR3:=Lib.hid (show Below wa.heap.size wa ((W2.setCell ⟨wa.heap.size,2,none⟩ (.int .i64 (sz+n*pi.z))).drew) from (HR2.out.setCell (Nat.le_refl _) _).drew)
   generalize (W2.setCell ⟨wa.heap.size,2,none⟩ (.int .i64 (sz+n*pi.z))).drew=W3 at *
   refine Round.next (fun K hK=>?_)
   go_wp2_with fail
   go_round
   case rel =>
    rw [w0]
    refine ⟨i+1,_,_,rfl,rfl,by have:=HIL.out;omega,by rw [ET.out],rfl,?_,HR3.out⟩
    rw [EX.out,EY.out,EZ.out]
    exact HB3.out
   case measure=>show len - ((i:Int)+1).toNat<len - (i:Int).toNat;have:=HIL.out;omega
end Go.Proofs.YtaibkpbklfodiaaGreatDoor
end
section
namespace Go.Proofs.YtaibkpbklfodiaaGreatDoor
open Go Go.ChangeShapes Go.WideShapes Go.ChangeAt Go.WideElems Go.RowKit Dowel
theorem door_met (os:Os) (args:Array Value):laidMetH Tryz.prog Rows.cellInsideRow.laid ((World.doorLaid Tryz.prog 400 os).forCall (fun _ _=>0) ⟨#[],args,[]⟩).memory:=
 laidMetH_of_parts3 (fuel:=8) (laidMet_of_run' 8 (by kernel_rfl) (by kernel_rfl)) (by kernel_rfl) (by kernel_rfl)
set_option maxRecDepth 100000 in
theorem cellInside_lifted (os:Os) (started:os.Started) (H:Type) (enc:TypeId × Value→H) :
  ReturnsInHanded {} Tryz.checked os 5 .any (fun w args=>(Rows.cellInsideSpec.pre enc Tryz.prog Tryz.f5 [] false w args∧laidMetH Tryz.prog Rows.cellInsideRow.laid w)∧sizedMet enc Tryz.prog Tryz.f5 (OpenSpec.ofChange Rows.cellInsideSpec) false w args)
   (Rows.cellInsideSpec.post enc Tryz.prog Tryz.f5 false true false false):=by
 refine returnsInHanded_of_change_and (C:=Tryz.checked) (X:=fun w _=>laidMetH Tryz.prog Rows.cellInsideRow.laid w) (fun _ _ _ hh h=>h.of_heap hh) own started (by kernel_rfl) Tryz.func5
  (ChangeSpec.witness_shaped (enc:=enc) (C:=Tryz.checked) (os:=os) (X:=fun w _=>laidMetH Tryz.prog Rows.cellInsideRow.laid w) false (World.doorLaid Tryz.prog 400 os) #[.slice none 0 0,.agg #[.int .u8 0,.int .u8 0,.int .u8 0,.int .u8 0,.int .u8 0,.int .u8 0,.int .u8 0,.int .u8 0,.int .u8 0,.int .u8 0],.int .u8 0] 8 rfl (World.shaped_of_RefB (by kernel_rfl) (by kernel_rfl)) (by kernel_rfl) (by kernel_rfl) (by kernel_rfl) (door_met os _)) ?_
 intro W base args ds gs before hval0 hW _ _ hL _
 have hval:∀ (j:Nat) t v,Tryz.f5.params[j]?=some t→args[j]?=some v→Value.okWide Tryz.prog W .any base t v:=hval0
 have hW':=hW
 obtain ⟨p,q,hA0,hV,rfl,hfz,hnd⟩:=hW
 have hA:DataW.TrodAll enc Tryz.prog W 0 (fun _=>true) true Tryz.f5.params.toList args.toList ds p:=hA0
 rw [Tryz.params5] at hA hval
 obtain ⟨v0,v1,v2,d0,d1,d2,p0,p1,p2,rfl,rfl,rfl,h0,h1,h2⟩:=trodAll_three hA
 obtain ⟨rfl,rfl⟩:=trodVars_none hV
 obtain ⟨a,len,cap,P,rfl,hP⟩:=pts8_of (hval 0 36 v0 rfl rfl) h0
 obtain ⟨X,rfl,hX⟩:=arr10_of (hval 1 63 v1 rfl rfl) h1
 obtain ⟨z,rfl,hz⟩:=byte_of (hval 2 5 v2 rfl rfl) h2
 clear hA0 hval0
 simp only [List.append_nil,List.append_assoc] at hW'
 have hlt:∀ x ∈ p0 ++ (p1 ++ p2),x.block<W.heap.size:=fun x hx=>by simpa using hW'.lt x hx
 refine (cellInside_any known_any a len cap P X z W (tab_of_laid (show laidMetH Tryz.prog Rows.cellChecksRow.laid W from hL)) hP hX hz).mono fun e W' ⟨he,hb⟩=>?_
 subst he
 refine ⟨_,rfl,_,_,_,[],p0 ++ (p1 ++ p2),[],hW',?_,?_,rfl,hb.frame _,fun h=>by cases h⟩
 ·exact trodAll_mk1 (shut_bool Tryz.underlying4 true)
 ·exact trodAll_mk3 (Below.trod laidOut (by kernel_rfl) (of_decide_eq_true (by kernel_rfl)) h0 hb fun x hx=>hlt x (List.mem_append.2 (.inl hx)))
   (Below.trod laidOut (by kernel_rfl) (of_decide_eq_true (by kernel_rfl)) h1 hb fun x hx=>hlt x (List.mem_append.2 (.inr (List.mem_append.2 (.inl hx)))))
   (Below.trod laidOut (by kernel_rfl) (of_decide_eq_true (by kernel_rfl)) h2 hb fun x hx=>hlt x (List.mem_append.2 (.inr (List.mem_append.2 (.inr hx)))))
theorem cellInside_holds:Rows.CellInsideSaid:=
 OpenClaim.holds_of_wide 5 Tryz.f5 rfl rfl rfl rfl rfl rfl rfl ⟨rfl,rfl,rfl,rfl,rfl⟩ rfl rfl rfl rfl rfl (by kernel_rfl) Tryz.func5 (by kernel_rfl)
  (of_decide_eq_true (by kernel_rfl)) (by unfold Func.isWrapper;first | (rw [if_pos (by decide +kernel)];kernel_rfl) | (rw [if_neg (by decide +kernel)];exact ⟨rfl,rfl⟩))
  (fun os started H enc _=>cellInside_lifted os started H enc)
theorem cellInside_card : Rows.CellInsideCardSaid :=
  Claim7.holds_tied_plain_at .later [] [.data, .data, .data] true (true, "6c65cc7416c67665389b7af0e84806a2ebd9a42af6f1548673da5a11f68942ee") true
    cellInside_holds (fun _ h => by cases h) (by kernel_rfl) (fun _ h => by cases h) cellInside_row_tie rfl ⟨rfl, rfl⟩ (by kernel_rfl) rfl
    (fun f fn hf hfn => by
      obtain rfl : f = 5 := Option.some.inj ((show Tryz.prog.funcNamed "dowel/dowellaw09.CellInside" = some 5 by kernel_rfl).symm.trans hf) |>.symm
      obtain rfl : fn = Tryz.f5 := (Option.some.inj (Tryz.func5.symm.trans hfn)).symm
      exact ⟨by kernel_rfl, fun j t ht => by
        rw [Tryz.params5] at ht
        have h3 : t = 36 ∨ t = 63 ∨ t = 5 := by
          rcases j with _ | _ | _ | j
          · exact .inl (by simpa using ht.symm)
          · exact .inr (.inl (by simpa using ht.symm))
          · exact .inr (.inr (by simpa using ht.symm))
          · simp at ht
        rcases h3 with rfl | rfl | rfl
        · exact (show Tryz.prog.wantsStandIn 36 = false by kernel_rfl)
        · exact (show Tryz.prog.wantsStandIn 63 = false by kernel_rfl)
        · exact (show Tryz.prog.wantsStandIn 5 = false by kernel_rfl)⟩)
    (by kernel_rfl)
#print axioms cellInside_card
end Go.Proofs.YtaibkpbklfodiaaGreatDoor
end
