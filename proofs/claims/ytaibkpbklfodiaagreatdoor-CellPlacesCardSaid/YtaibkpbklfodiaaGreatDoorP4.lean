/- slices.Compare of ints; package cell: order. Slices of points; package cell: flat. -/
import Derived.Test.YtaibkpbklfodiaaGreatDoorP3
import Derived.Test.YtaibkpbklfodiaaGreatDoorPShelf
set_option linter.all false
set_option maxHeartbeats 100000000
section
namespace Dowel
open Go Go.RowKit
def bT:List Int→List Int→Int
 | [],[]=>0
 | [],_ :: _=>-1
 | _ :: _,[]=>1
 | x :: xs,y :: ys=>if x<y then -1 else if y<x then 1 else bT xs ys
theorem cmpL_step {xs ys:List Int} (k:Nat) (h1:k<xs.length) (h2:k<ys.length) (x y:Int) (hx:xs.getD k 0=x) (hy:ys.getD k 0=y) :
  bT (xs.drop k) (ys.drop k)=if x<y then -1 else if y<x then 1 else bT (xs.drop (k+1)) (ys.drop (k+1)):=by
 rw [List.drop_eq_getElem_cons h1,List.drop_eq_getElem_cons h2];have e1:xs[k]=x:=by rw [← hx];simp [h1]
 have e2:ys[k]=y:=by rw [← hy];simp [h2]
 rw [bT,e1,e2]
theorem cmpL_more {xs ys:List Int} (k:Nat) (h1:k<xs.length) (h2:ys.length≤k):bT (xs.drop k) (ys.drop k)=1:=by
 rw [List.drop_eq_getElem_cons h1,List.drop_eq_nil_of_le h2,bT]
theorem cmpL_end {xs ys:List Int} (k:Nat) (h1:k=xs.length) (h3:k≤ys.length):bT (xs.drop k) (ys.drop k)=if xs.length<ys.length then -1 else 0:=by
 subst h1;rw [List.drop_length];by_cases h:xs.length<ys.length
 ·rw [if_pos h,List.drop_eq_getElem_cons h,bT]
 ·rw [if_neg h,List.drop_eq_nil_of_le ω,bT]
theorem gT (x y:Int):Lib.compareInt x y=if x<y then -1 else if y<x then 1 else 0:=by
 unfold Lib.compareInt;rfl
structure Ints (w:World) (a:Option Addr) (n cap:Nat) (xs:List Int):Prop where
 sl:Sl w 1 a n cap (xs.map (Value.int .i64))
 len:xs.length=n
theorem Ints.below {w w':World} {n cap:Nat} {a:Option Addr} {xs:List Int} (h:Ints w a n cap xs) (hb:Below w.heap.size w w'):Ints w' a n cap xs:=⟨h.sl.below hb,h.len⟩
theorem Ints.cells {w:World} {n cap:Nat} {a:Option Addr} {xs:List Int} (h:Ints w a n cap xs) (hn:0<n) :
  ∃ b off,a=some ⟨b,off,.none⟩∧b<w.heap.size∧n≤cap∧∀ i,i<n→w.cell? ⟨b,off+i,.none⟩=.some (.int .i64 (xs.getD i 0)):=by
 obtain ⟨b,off,h1,h2,h3⟩:=h.sl.some hn;refine ⟨b,off,h1,h2,h.sl.le,fun i hi=>?_⟩;rw [h3 i ω];have:i<xs.length:=by rw [h.len];exact hi
 simp [this]
theorem Ints.of_box {w:World} {g:Nat} {x y z:Int} {t:TypeId} (h:Box w g #[.int .i64 x,.int .i64 y,.int .i64 z] t):Ints w (some ⟨g,0,.none⟩) 3 3 [x,y,z]:=by
 refine ⟨Sl.mk' ρ rfl h.lt (fun i hi=>?_),rfl⟩;rw [Nat.zero_add]
 match i,hi with
 | 0,_=>exact h.cell 0
 | 1,_=>exact h.cell 1
 | 2,_=>exact h.cell 2
end Dowel
namespace Go.Proofs.Υ
open Go.RowKit Dowel
theorem gI (a b:Option Addr) (la ca lb cb:Nat) (xs ys:List Int) (w:World) (ha:Ints w a la ca xs) (hb:Ints w b lb cb ys)
  (h1:la≤4611686018427387904) (h2:lb≤4611686018427387904) :
  Calls Tryz.prog 104 #[.slice a la ca,.slice b lb cb] w fun e w'=>e=.returned (.int .i64 (bT xs ys))∧w'=w:=by
 have HA:=η ha;have HB:=η hb;have HXL:=η ha.len;have HYL:=η hb.len;clear ha hb
 go_enter Tryz.func104,Tryz.ntmps104
 go_wp2
 go_loopw [11] (fun v wr=>∃ k:Nat,k≤la∧v=.int .i64 (k:Int)∧k≤lb∧Hid (bT xs ys=bT (xs.drop k) (ys.drop k))∧w=wr) (fun v _=>la - (intOf v).toNat)
 case atStart=>exact ⟨0,Nat.zero_le _,rfl,Nat.zero_le _,by exact rfl,rfl⟩
 case round =>
  obtain ⟨k,hk,rfl,hkb,HC,rfl⟩:=hrel;by_cases h0:k=la
  ·have hn:¬ (k:Int)<(la:Int):=ω
   by_cases h3:la<lb
   ·go_wp2
    go_ret;exact ⟨by rw [HC.out,cmpL_end k (ψ HXL.out) (ψ HYL.out),if_pos (by have:=HXL.out;have:=HYL.out;omega)];rfl,rfl⟩
   ·go_wp2
    go_ret;exact ⟨by rw [HC.out,cmpL_end k (ψ HXL.out) (ψ HYL.out),if_neg (by have:=HXL.out;have:=HYL.out;omega)];rfl,rfl⟩
  ·obtain ⟨ba,oa,rfl,hba,hca,hc⟩:=HA.out.cells ω
   have hx:=hc k ω;obtain ⟨x,hx'⟩:∃ x,xs.getD k 0=x:=⟨_,rfl⟩;rw [hx'] at hx;have HX:=η hx';clear hc hx';by_cases h3:k=lb
   ·subst h3
    go_wp2;go_ret
    exact ⟨by rw [HC.out,cmpL_more k (ψ HXL.out) (ψ HYL.out)];rfl,rfl⟩
   obtain ⟨bb,ob,rfl,hbb,hcb,hd⟩:=HB.out.cells ω;have hy:=hd k ω;obtain ⟨y,hy'⟩:∃ y,ys.getD k 0=y:=⟨_,rfl⟩;rw [hy'] at hy;have HY:=η hy';clear hd hy';have HS:Hid (bT (xs.drop k) (ys.drop k)=if x<y then -1 else if y<x then 1 else bT (xs.drop (k+1)) (ys.drop (k+1))):=
    cmpL_step k (ψ HXL.out) (ψ HYL.out) x y HX.out HY.out
   go_wp2_with fail
   refine (Tryz.cmp_Compare_int x y _).mono ?_;rw [gT]
   rcases Int.lt_trichotomy x y with hl | hl | hl
   ·rw [if_pos hl]
    rintro e w1 ⟨rfl,rfl⟩;have HL:=η hl;clear hl;go_wp2;go_ret;exact ⟨by rw [HC.out,HS.out,if_pos HL.out];rfl,rfl⟩
   ·rw [if_neg ω,if_neg ω]
    rintro e w1 ⟨rfl,rfl⟩;have HL:=η hl;clear hl;go_wp2;go_round
    case rel=>exact ⟨k+1,by omega,rfl,by omega,by show _=_;rw [HC.out,HS.out,if_neg (ψ HL.out),if_neg (ψ HL.out)],trivial⟩
    case measure=>show la - ((k:Int)+1).toNat<la - (k:Int).toNat;omega
   ·rw [if_neg ω,if_pos hl]
    rintro e w1 ⟨rfl,rfl⟩;have HL:=η hl;clear hl;go_wp2;go_ret;exact ⟨by rw [HC.out,HS.out,if_neg (ψ HL.out),if_pos HL.out];rfl,rfl⟩
def cmpV (a b:V):Int:=bT [a.x,a.y,a.z] [b.x,b.y,b.z]
theorem cmpV_lt (a b:V):cmpV a b<0↔Lex a b:=by
 unfold cmpV bT bT bT bT Lex
 repeat' split
 all_goals omega
theorem corder_any (a b:V) (w:World) :
  Calls Tryz.prog 56 #[bX a,bX b] w fun e w'=>e=.returned (.int .i64 (cmpV a b))∧Below w.heap.size w w':=by
 obtain ⟨W,hW,b1,b2,hB,hS⟩:=da w #[.int .i64 a.x,.int .i64 a.y,.int .i64 a.z] #[.int .i64 b.x,.int .i64 b.y,.int .i64 b.z] 46 46;have B1:=η b1;have B2:=η b2;obtain ⟨x0,x1,x2,-⟩:=b1.three;obtain ⟨y0,y1,y2,-⟩:=b2.three;have HBL:=η hB;have HC:Hid (bT [a.x,a.y,a.z] [b.x,b.y,b.z]=cmpV a b):=by exact rfl
 clear b1 b2 hS hB;unfold bX
 go_enter Tryz.func56,Tryz.ntmps56
 go_wp2_with fail
 go_quiet (first | (go_at_call 104;refine Calls.quiet_of_same (gI _ _ 3 3 3 3 _ _ _ ((Ints.of_box B1.out).below (aJ β _)) ((Ints.of_box B2.out).below (aJ β _)) ω ω)))
 go_wp2;exact bodyPost_ret (results_tmp Tryz.results56 _ _ _) rfl ⟨by rw [← HC.out];rfl,aJ HBL.out _⟩
end Go.Proofs.Υ
end

section
namespace Dowel
open Go Go.RowKit
structure Pts (w:World) (a:Option Addr) (n cap:Nat) (P:Nat→V):Prop where
 le:n≤cap
 nil:a=none→cap=0
 at_:∀ x,a=some x→x.spot=none∧x.block<w.heap.size∧∀ i,i<n →
  w.cell? ⟨x.block,x.off+i*3,none⟩=some (.int .i64 (P i).x)∧w.cell? ⟨x.block,x.off+i*3+1,none⟩=some (.int .i64 (P i).y)∧w.cell? ⟨x.block,x.off+i*3+2,none⟩=some (.int .i64 (P i).z)
theorem Pts.below {w w':World} {n cap:Nat} {a:Option Addr} {P:Nat→V} (h:Pts w a n cap P) (hb:Below w.heap.size w w'):Pts w' a n cap P:=
 ⟨h.le,h.nil,fun x hx=>by
  obtain ⟨h1,h2,h3⟩:=h.at_ x hx;refine ⟨h1,Nat.lt_of_lt_of_le h2 hb.size,fun i hi=>?_⟩;rw [hb.cell (p:=⟨x.block,x.off+i*3,.none⟩) h2,hb.cell (p:=⟨x.block,x.off+i*3+1,.none⟩) h2,hb.cell (p:=⟨x.block,x.off+i*3+2,.none⟩) h2];exact h3 i hi⟩
theorem Pts.cells {w:World} {n cap:Nat} {a:Option Addr} {P:Nat→V} (h:Pts w a n cap P) (hn:0<n) :
  ∃ b off,a=some ⟨b,off,.none⟩∧b<w.heap.size∧n≤cap∧∀ i,i<n →
   w.cell? ⟨b,off+i*3,.none⟩=some (.int .i64 (P i).x)∧w.cell? ⟨b,off+i*3+1,.none⟩=some (.int .i64 (P i).y)∧w.cell? ⟨b,off+i*3+2,.none⟩=some (.int .i64 (P i).z):=by
 cases a with
 | none=>have:=h.nil rfl;have:=h.le;omega
 | some x =>
  obtain ⟨h1,h2,h3⟩:=h.at_ x rfl;obtain ⟨b,off,s⟩:=x;simp only at h1;subst h1;exact ⟨b,off,rfl,h2,h.le,h3⟩
theorem keepC {W w':World} {n:Nat} {p:Addr} {v:Value} (h:W.cell? p=some v) (hb:Below n W w') (hp:p.block<n):w'.cell? p=some v:=(hb.cell hp).trans h
theorem Box.one {w:World} {g:Nat} {a:Value} {t:TypeId} (h:Box w g #[a] t):w.cell? ⟨g,0,.none⟩=.some a∧w.frozen? ⟨g,0,.none⟩=false:=⟨h.cell 0,h.free 0⟩
end Dowel
namespace Go.Proofs.Υ
open Go.RowKit Dowel
theorem flat1_any (p n:V) (gn gl gi:Nat) (tn tl ti:TypeId) (a:Option Addr) (len cap i:Nat) (P:Nat→V) (w:World) (hn:Box w gn #[.int .i64 n.x,.int .i64 n.y,.int .i64 n.z] tn) (hl:Box w gl #[.slice a len cap] tl) (hi:Box w gi #[.int .i64 (i:Int)] ti)
    (hP:Pts w a len cap P) (hlt:i<len) (hlen:len≤64) (hp:LeV 4096 p) (hq:LeV 4096 (P i)) (hnn:LeV 200000000 n) :
    Calls Tryz.prog 114 #[bX p,.pointer (some ⟨gn,0,none⟩),.pointer (some ⟨gl,0,none⟩),.pointer (some ⟨gi,0,none⟩)] w fun e w'=>e=.returned (.bool (V.dot n (p - P i) != 0))∧Below w.heap.size w w':=by
  obtain ⟨b,off,rfl,hb,hc,hcc⟩:=hP.cells ω;obtain ⟨q0,q1,q2⟩:=hcc i hlt;obtain ⟨W,hW,b1,hB,hS⟩:=aG w #[.int .i64 p.x,.int .i64 p.y,.int .i64 p.z] 46;obtain ⟨x0,x1,x2,-⟩:=b1.three;obtain ⟨y0,y1,y2,-⟩:=(hn.below hB hn.lt).three;obtain ⟨z0,-⟩:=(hl.below hB hl.lt).one;obtain ⟨u0,-⟩:=(hi.below hB hi.lt).one;have v0:=keepC q0 hB hb;have v1:=keepC q1 hB hb;have v2:=keepC q2 hB hb;clear hcc q0 q1 q2;generalize P i=q at *;have i1:((i:Nat):Int)<(len:Int):=ω;have l1:gn<W.heap.size:=by have:=hn.lt;omega
  have l2:gl<W.heap.size:=by have:=hl.lt;omega
  have l3:gi<W.heap.size:=by have:=hi.lt;omega
  have l4:b<W.heap.size:=ω;have l5:w.heap.size<W.heap.size:=ω;have HB:=η hB;have HS:=η hS;have HW:=η hW;have KP:Hid (∀ w',Below W.heap.size W w'→w'.cell? ⟨w.heap.size,0,none⟩=some (.int .i64 p.x)∧w'.cell? ⟨w.heap.size,1,none⟩=some (.int .i64 p.y)∧w'.cell? ⟨w.heap.size,2,none⟩=some (.int .i64 p.z) ∧
      w'.cell? ⟨gn,0,none⟩=some (.int .i64 n.x)∧w'.cell? ⟨gn,1,none⟩=some (.int .i64 n.y)∧w'.cell? ⟨gn,2,none⟩=some (.int .i64 n.z)∧w'.cell? ⟨gl,0,none⟩=some (.slice (some ⟨b,off,none⟩) len cap)∧w'.cell? ⟨gi,0,none⟩=some (.int .i64 (i:Int)) ∧
      w'.cell? ⟨b,off+i*3,none⟩=some (.int .i64 q.x)∧w'.cell? ⟨b,off+i*3+1,none⟩=some (.int .i64 q.y)∧w'.cell? ⟨b,off+i*3+2,none⟩=some (.int .i64 q.z)):=fun w' h =>
    ⟨keepC x0 h l5,keepC x1 h l5,keepC x2 h l5,keepC y0 h l1,keepC y1 h l1,keepC y2 h l1,keepC z0 h l2,keepC u0 h l3,keepC v0 h l4,keepC v1 h l4,keepC v2 h l4⟩
  clear hn hl hi hP hB b1 hW;show Calls _ _ #[.agg #[.int .i64 p.x,.int .i64 p.y,.int .i64 p.z],_,_,_] w _
  go_enter Tryz.func114,Tryz.ntmps114
  go_wp2_with fail
  rw [HW.out];have L0:=η (Below.refl W.heap.size W)
  go_region_held3 (fun w'=>w'.cell? ⟨w.heap.size,0,none⟩=some (.int .i64 p.x)∧w'.cell? ⟨w.heap.size,1,none⟩=some (.int .i64 p.y)∧w'.cell? ⟨w.heap.size,2,none⟩=some (.int .i64 p.z) ∧
      w'.cell? ⟨gn,0,none⟩=some (.int .i64 n.x)∧w'.cell? ⟨gn,1,none⟩=some (.int .i64 n.y)∧w'.cell? ⟨gn,2,none⟩=some (.int .i64 n.z)∧w'.cell? ⟨gl,0,none⟩=some (.slice (some ⟨b,off,none⟩) len cap)∧w'.cell? ⟨gi,0,none⟩=some (.int .i64 (i:Int)) ∧
      w'.cell? ⟨b,off+i*3,none⟩=some (.int .i64 q.x)∧w'.cell? ⟨b,off+i*3+1,none⟩=some (.int .i64 q.y)∧w'.cell? ⟨b,off+i*3+2,none⟩=some (.int .i64 q.z))
    (first | with_reducible exact (KP.out _ L2.out)
           | with_reducible exact (KP.out _ L1.out)
           | with_reducible exact (KP.out _ L0.out.drew))
    (first
      | (have _g:=L1.out;clear _g;go_at_call 115;refine (kj n (p - q) 200000000 8192 _ hnn (hp.sub hq) ω).mono ?_;rintro e w2 ⟨rfl,hb2⟩
         have L2:Hid (Below W.heap.size W w2):=ae L1.out hb2 ρ;clear hb2)
      | (go_at_call 113;refine (fC p q 4096 4096 _ hp hq ω).mono ?_;rintro e w1 ⟨rfl,hb1⟩
         have L1:Hid (Below W.heap.size W w1):=ae L0.out.drew hb1 ρ;clear hb1))
  go_wp2;exact bodyPost_ret (results_tmp Tryz.results114 _ _ _) rfl ⟨rfl,ae HB.out L2.out (ψ HS.out)⟩
set_option maxRecDepth 10000 in
theorem pU (g:Nat) (cb:Array Value) (pr:Nat→Bool) (a:Option Addr) (len cap:Nat) (P:Nat→V) (w:World) (hP:Pts w a len cap P) (hlen:len≤64) (eg:∀ args w,(callFunc g args).run Tryz.prog w=.ok (.enter g args) w)
  (hcl:∀ w',Below w.heap.size w w'→∀ k,k<len→Calls Tryz.prog g (#[bX (P k)] ++ cb) w' fun e w''=>e=.returned (.bool (pr k))∧Below w'.heap.size w' w'') :
  Calls Tryz.prog 125 #[.slice a len cap,.func (.func g) #[] cb] w fun e w' =>
   (∃ r:Int,e=.returned (.int .i64 r)∧decide (r ≥ 0)=(List.range len).any pr)∧Below w.heap.size w w':=by
 have HP:=η hP;have HCL:=η hcl;clear hP hcl
 go_enter Tryz.func125,Tryz.ntmps125
 go_wp2_with fail
 go_loopw [8] (fun v wr=>∃ k:Nat,k≤len∧v=.int .i64 (k:Int)∧Hid (∀ j,j<k→pr j=false)∧Hid (Below w.heap.size w wr)) (fun v _=>len - (intOf v).toNat)
 case atStart=>exact ⟨0,Nat.zero_le _,rfl,(fun j hj=>by omega),Below.refl _ _⟩
 case round =>
  obtain ⟨k,hk,rfl,HJ,HB⟩:=hrel;by_cases h0:k=len
  ·have hn:¬ (k:Int)<(len:Int):=ω
   have H0:=η h0;clear h0 eg;go_wp2;exact bodyPost_ret (results_tmp Tryz.results125 _ _ _) rfl ⟨⟨-1,rfl,by
    symm;rw [show decide ((-1:Int) ≥ 0)=false by decide,List.any_eq_false];intro j hj;rw [HJ.out j (by have:=H0.out;have:=List.mem_range.mp hj;omega)];decide⟩,HB.out⟩
  ·obtain ⟨b,off,rfl,hb,hc,hcc⟩:=(HP.out.below HB.out).cells ω
   obtain ⟨q0,q1,q2⟩:=hcc k ω;have i1:((k:Nat):Int)<(len:Int):=ω;clear hcc;have H0:=η h0;have HC:=η (HCL.out wr HB.out k ω);clear h0
   go_wp2_with fail
   refine HC.out.mono ?_;rintro e w1 ⟨rfl,hb1⟩;have L1:=η (ae HB.out hb1 ρ);clear hb1;cases hpr:pr k
   ·have HPR:=η hpr
    clear hpr;go_wp2;go_round
    case rel=>exact ⟨k+1,by omega,rfl,(fun j hj=>by by_cases e:j=k;rw [e];exact HPR.out;exact HJ.out j ω),L1.out⟩
    case measure=>show len - ((k:Int)+1).toNat<len - (k:Int).toNat;omega
   ·have HPR:=η hpr
    clear hpr;go_wp2;exact bodyPost_ret (results_tmp Tryz.results125 _ _ _) rfl ⟨⟨k,rfl,by
     rw [decide_eq_true ω];symm;rw [List.any_eq_true];exact ⟨k,List.mem_range.mpr (ψ H0.out),HPR.out⟩⟩,L1.out⟩
end Go.Proofs.Υ
end
