/- Lemmas. -/
import Derived.Test.YtodehkjinmgflaaGreatDoorE3
import Derived.Test.YtodehkjinmgflaaGreatDoorEShelf
set_option linter.all false
set_option maxHeartbeats 0
set_option maxRecDepth 99999
namespace Go.Proofs.Υ
open Go Go.RowKit Tryz
def bL:List Int->List Int->Int
 | [],[]=>0
 | [],_::_=>-1
 | _::_,[]=>1
 | x::xs,y::ys=>if x<y then -1 else if y<x then 1 else bL xs ys
theorem cmpL_step{xs e:List Int}(k:Nat)(j:k<xs.length)(u:k<e.length)(x y:Int)(E:xs.getD k 0=x)(F:e.getD k 0=y):
 bL (xs.drop k) (e.drop k)=if x<y then -1 else if y<x then 1 else bL (xs.drop (k+1)) (e.drop (k+1)):=by
 rw[List.drop_eq_getElem_cons j,List.drop_eq_getElem_cons u];have A:xs[k]=x:=by rw[<-E];simp[j]
 have C:e[k]=y:=by rw[<-F];simp[u]
 rw[bL,A,C]
theorem cmpL_more{xs e:List Int}(k:Nat)(j:k<xs.length)(u:e.length<=k):bL (xs.drop k) (e.drop k)=1:=by
 rw[List.drop_eq_getElem_cons j,List.drop_eq_nil_of_le u,bL]
theorem cmpL_end{xs e:List Int}(k:Nat)(j:k=xs.length)(u:k<=e.length):bL (xs.drop k) (e.drop k)=if xs.length<e.length then -1 else 0:=by
 subst j;rw[List.drop_length];by_cases h:xs.length<e.length
 ·rw[if_pos h,List.drop_eq_getElem_cons h,bL]
 ·rw[if_neg h,List.drop_eq_nil_of_le I,bL]
theorem iX(x y:Int):Lib.compareInt x y=if x<y then -1 else if y<x then 1 else 0:=by
 unfold Lib.compareInt;rfl
theorem fu(a b:Option Addr)(C Q lb cb:Nat)(xs H:List Int)(w:World)(ha:Ints w a C Q xs)(hb:Ints w b lb cb H)(h1:C<=4611686018427387904)(h2:lb<=4611686018427387904):
 Calls prog 162 #[.slice a C Q,.slice b lb cb] w fun e w'=>e=.returned (.int .i64 (bL xs H))/\w'=w:=by
 obtain⟨X,Y,j,u⟩:=η4 ha hb ha.len hb.len;clear ha hb
 go_enter func162,ntmps162
 go_wp2
 go_loopw [11] (fun v wr=>∃k:Nat,k<=C/\v=.int .i64 (k:Int)/\k<=lb/\Hid (bL xs H=bL (xs.drop k) (H.drop k))/\w=wr) (fun v _=>C-(intOf v).toNat)
 case atStart=>exact⟨0,Nat.zero_le _,rfl,Nat.zero_le _,by exact rfl,rfl⟩
 case round =>
  obtain⟨k,hk,rfl,af,J,rfl⟩:=hrel;by_cases h0:k=C
  ·have hn:¬ (k:Int)<(C:Int):=I
   by_cases R:C<lb
   ·go_wp2
    go_ret;exact⟨by rw[J.o,cmpL_end k (ψ j.o) (ψ u.o),if_pos (by have:=j.o;have:=u.o;omega)];rfl,rfl⟩
   ·go_wp2
    go_ret;exact⟨by rw[J.o,cmpL_end k (ψ j.o) (ψ u.o),if_neg (by have:=j.o;have:=u.o;omega)];rfl,rfl⟩
  ·obtain⟨ba,oa,rfl,aa,ac,hc⟩:=X.o.cells I
   have hx:=hc k I;obtain⟨x,F⟩:=χ (xs.getD k 0);rw[F]at hx;have HX:=O F;clear hc F;by_cases R:k=lb
   ·subst R
    go_wp2;go_ret
    exact⟨by rw[J.o,cmpL_more k (ψ j.o) (ψ u.o)];rfl,rfl⟩
   obtain⟨bb,ob,rfl,ab,ad,U⟩:=Y.o.cells I;have hy:=U k I;obtain⟨y,G⟩:=χ (H.getD k 0);rw[G]at hy;have HY:=O G;clear U G;have L:Hid (bL (xs.drop k) (H.drop k)=if x<y then -1 else if y<x then 1 else bL (xs.drop (k+1)) (H.drop (k+1))):=
    cmpL_step k (ψ j.o) (ψ u.o) x y HX.o HY.o
   go_wp2_with fail
   refine(cmp_Compare_int x y _).mono ?_;rw[iX]
   rcases Int.lt_trichotomy x y with A|A|A
   ·rw[if_pos A]
    rintro e W ⟨rfl,rfl⟩;have E:=O A;clear A;go_wp2;go_ret;exact⟨by rw[J.o,L.o,if_pos E.o];rfl,rfl⟩
   ·rw[if_neg I,if_neg I]
    rintro e W ⟨rfl,rfl⟩;have E:=O A;clear A;go_wp2;go_round
    case rel=>exact⟨k+1,by omega,rfl,by omega,by show _=_;rw[J.o,L.o,if_neg (ψ E.o),if_neg (ψ E.o)],trivial⟩
    case measure=>exact μ
   ·rw[if_neg I,if_pos A]
    rintro e W ⟨rfl,rfl⟩;have E:=O A;clear A;go_wp2;go_ret;exact⟨by rw[J.o,L.o,if_neg (ψ E.o),if_pos E.o];rfl,rfl⟩
def iF(a b:V):Int:=bL [a.x,a.y,a.z] [b.x,b.y,b.z]
theorem cmpV_lt(a b:V):iF a b<0↔Lex a b:=by
 unfold iF bL bL bL bL Lex
 repeat' split
 all_goals omega
theorem corder_any(a b:V)(w:World):
 Calls prog 128 #[dQ a,dQ b] w fun e w'=>e=.returned (.int .i64 (iF a b))/\Bl w w':=by
 obtain⟨W,F,b1,b2,u,hS⟩:=bY w #[.int .i64 a.x,.int .i64 a.y,.int .i64 a.z] #[.int .i64 b.x,.int .i64 b.y,.int .i64 b.z] 77 77;obtain⟨A,C⟩:=η2 b1 b2;obtain⟨G,H,J,-⟩:=b1.three;obtain⟨L,Q,R,-⟩:=b2.three;have j:=O u;have E:Hid (bL [a.x,a.y,a.z] [b.x,b.y,b.z]=iF a b):=by exact rfl
 clear b1 b2 hS u;unfold dQ
 go_enter func128,ntmps128
 go_wp2_with fail
 go_quiet (first|(go_at_call 162;refine Calls.quiet_of_same (fu _ _ 3 3 3 3 _ _ _ ((Ints.of_box A.o).below (aE β _)) ((Ints.of_box C.o).below (aE β _)) I I)))
 go_wp2;exact bodyPost_ret (results_tmp results128 _ _ _) rfl ⟨by rw[<-E.o];rfl,aE j.o _⟩
structure Pts (w:World) (a:Option Addr) (n cap:Nat) (P:Nat→V):Prop where
 le:n<=cap
 nil:a=none→cap=0
 at_:∀ x,a=some x→x.spot=none/\x.block<w.heap.size/\∀ i,i<n →
  w.cell? ⟨x.block,x.off+i*3,none⟩=some (.int .i64 (P i).x)/\w.cell? ⟨x.block,x.off+i*3+1,none⟩=some (.int .i64 (P i).y)/\w.cell? ⟨x.block,x.off+i*3+2,none⟩=some (.int .i64 (P i).z)
theorem Pts.below{w w':World}{n e:Nat}{a:Option Addr}{P:Nat->V}(h:Pts w a n e P)(hb:Bl w w'):Pts w' a n e P:=
 ⟨h.le,h.nil,fun x C=>by
  obtain⟨u,j,A⟩:=h.at_ x C;refine⟨u,Nat.lt_of_lt_of_le j hb.size,fun i hi=>?_⟩;rw[hb.cell (p:=⟨x.block,x.off+i*3,.none⟩) j,hb.cell (p:=⟨x.block,x.off+i*3+1,.none⟩) j,hb.cell (p:=⟨x.block,x.off+i*3+2,.none⟩) j];exact A i hi⟩
theorem Pts.cells{w:World}{n e:Nat}{a:Option Addr}{P:Nat->V}(h:Pts w a n e P)(C:0<n):
 ∃b off,a=some ⟨b,off,.none⟩/\b<w.heap.size/\n<=e/\∀i,i<n ->
  w.cell? ⟨b,off+i*3,.none⟩=some (.int .i64 (P i).x)/\w.cell? ⟨b,off+i*3+1,.none⟩=some (.int .i64 (P i).y)/\w.cell? ⟨b,off+i*3+2,.none⟩=some (.int .i64 (P i).z):=by
 cases a with
 | none=>have:=h.nil rfl;have:=h.le;omega
 | some x =>
  obtain⟨j,u,A⟩:=h.at_ x rfl;obtain⟨b,off,s⟩:=x;simp only at j;subst j;exact⟨b,off,rfl,u,h.le,A⟩
theorem keepC{W w':World}{n:Nat}{p:Addr}{v:Value}(h:W.cell? p=some v)(hb:Below n W w')(e:p.block<n):w'.cell? p=some v:=(hb.cell e).trans h
theorem Box.one{w:World}{g:Nat}{a:Value}{t:TypeId}(h:Box w g #[a] t):w.cell? ⟨g,0,.none⟩=.some a/\w.frozen? ⟨g,0,.none⟩=false:=⟨h.cell 0,h.free 0⟩
theorem flat1_any(p n:V)(u E C:Nat)(tn tl ti:TypeId)(a:Option Addr)(len j i:Nat)(P:Nat->V)(w:World)(L:Box w u #[.int .i64 n.x,.int .i64 n.y,.int .i64 n.z] tn)(J:Box w E #[.slice a len j] tl)(hi:Box w C #[.int .i64 (i:Int)] ti)(hP:Pts w a len j P)(Q:i<len)(aa:len<=64)(hp:LeV 4096 p)(hq:LeV 4096 (P i))(R:LeV 200000000 n):
 Calls prog 165 #[dQ p,.pointer (some ⟨u,0,none⟩),.pointer (some ⟨E,0,none⟩),.pointer (some ⟨C,0,none⟩)] w fun e w'=>e=.returned (.bool (V.dot n (p-P i) != 0))/\Bl w w':=by
 obtain⟨b,off,rfl,hb,hc,H⟩:=hP.cells I;obtain⟨q0,q1,q2⟩:=H i Q;obtain⟨W,hW,b1,A,hS⟩:=aB w #[.int .i64 p.x,.int .i64 p.y,.int .i64 p.z] 77;obtain⟨x0,x1,x2,-⟩:=b1.three;obtain⟨y0,y1,y2,-⟩:=(L.to A).three;obtain⟨z0,-⟩:=(J.to A).one;obtain⟨u0,-⟩:=(hi.to A).one;have v0:=keepC q0 A hb;have v1:=keepC q1 A hb;have v2:=keepC q2 A hb;clear H q0 q1 q2;generalize P i=q at *;have i1:((i:Nat):Int)<(len:Int):=I;have U:u<W.heap.size:=by have:=L.lt;omega
 have l2:E<W.heap.size:=by have:=J.lt;omega
 have l3:C<W.heap.size:=by have:=hi.lt;omega
 have X:b<W.heap.size:=I;have Y:w.heap.size<W.heap.size:=I;obtain⟨HB,HS,HW⟩:=η3 A hS hW;have KP:Hid (∀w',Bl W w'->w'.cell? ⟨w.heap.size,0,none⟩=some (.int .i64 p.x)/\w'.cell? ⟨w.heap.size,1,none⟩=some (.int .i64 p.y)/\w'.cell? ⟨w.heap.size,2,none⟩=some (.int .i64 p.z) /\
  w'.cell? ⟨u,0,none⟩=some (.int .i64 n.x)/\w'.cell? ⟨u,1,none⟩=some (.int .i64 n.y)/\w'.cell? ⟨u,2,none⟩=some (.int .i64 n.z)/\w'.cell? ⟨E,0,none⟩=some (.slice (some ⟨b,off,none⟩) len j)/\w'.cell? ⟨C,0,none⟩=some (.int .i64 (i:Int)) /\
  Γ3 w' b (off+i*3) (.int .i64 q.x) b (off+i*3+1) (.int .i64 q.y) b (off+i*3+2) (.int .i64 q.z)):=fun w' h =>
  ⟨keepC x0 h Y,keepC x1 h Y,keepC x2 h Y,keepC y0 h U,keepC y1 h U,keepC y2 h U,keepC z0 h l2,keepC u0 h l3,keepC v0 h X,keepC v1 h X,keepC v2 h X⟩
 clear L J hi hP A b1 hW;show Calls _ _ #[.agg #[.int .i64 p.x,.int .i64 p.y,.int .i64 p.z],_,_,_] w _
 go_enter func165,ntmps165
 go_wp2_with fail
 rw[HW.o];have L0:=O (Below.refl W.heap.size W)
 go_region_held3 (fun w'=>w'.cell? ⟨w.heap.size,0,none⟩=some (.int .i64 p.x)/\w'.cell? ⟨w.heap.size,1,none⟩=some (.int .i64 p.y)/\w'.cell? ⟨w.heap.size,2,none⟩=some (.int .i64 p.z) /\
  w'.cell? ⟨u,0,none⟩=some (.int .i64 n.x)/\w'.cell? ⟨u,1,none⟩=some (.int .i64 n.y)/\w'.cell? ⟨u,2,none⟩=some (.int .i64 n.z)/\w'.cell? ⟨E,0,none⟩=some (.slice (some ⟨b,off,none⟩) len j)/\w'.cell? ⟨C,0,none⟩=some (.int .i64 (i:Int)) /\
  Γ3 w' b (off+i*3) (.int .i64 q.x) b (off+i*3+1) (.int .i64 q.y) b (off+i*3+2) (.int .i64 q.z))
  (with_reducible exact(KP.o _ ew))
  (first
   | (have _g:=L1.o;clear _g;go_at_call 166;refine(mS n (p-q) 200000000 8192 _ R (hp.sub hq) I).mono ?_;rintro e w2 ⟨rfl,G⟩
      have L2:Hid (Bl W w2):=ae L1.o G ρ;clear G)
   | (go_at_call 164;refine(gK p q 4096 4096 _ hp hq I).mono ?_;rintro e w1 ⟨rfl,F⟩
      have L1:Hid (Bl W w1):=ae L0.o.drew F ρ;clear F))
 go_wp2;exact bodyPost_ret (results_tmp results165 _ _ _) rfl ⟨rfl,ae HB.o L2.o (ψ HS.o)⟩
theorem t8(g:Nat)(cb:Array Value)(H:Nat->Bool)(a:Option Addr)(len A:Nat)(P:Nat->V)(w:World)(X:Pts w a len A P)(Y:len<=64)(eg:∀args w,(callFunc g args).run prog w=.ok (.enter g args) w)(F:∀w',Bl w w'->∀k,k<len->Calls prog g (#[dQ (P k)]++cb) w' fun e R=>e=.returned (.bool (H k))/\Bl w' R):
 Calls prog 157 #[.slice a len A,.func (.func g) #[] cb] w fun e w' =>
  (∃r:Int,e=.returned (.int .i64 r)/\decide (r≥0)=(List.range len).any H)/\Bl w w':=by
 obtain⟨HP,L⟩:=η2 X F;clear X F
 go_enter func157,ntmps157
 go_wp2_with fail
 go_loopw [8] (fun v wr=>∃k:Nat,k<=len/\v=.int .i64 (k:Int)/\Hid (∀j,j<k->H j=false)/\Hid (Bl w wr)) (fun v _=>len-(intOf v).toNat)
 case atStart=>exact⟨0,Nat.zero_le _,rfl,(fun j Q=>by omega),Below.refl _ _⟩
 case round =>
  obtain⟨k,hk,rfl,U,G⟩:=hrel;by_cases h0:k=len
  ·have hn:¬ (k:Int)<(len:Int):=I
   have J:=O h0;clear h0 eg;go_wp2;exact bodyPost_ret (results_tmp results157 _ _ _) rfl ⟨⟨-1,rfl,by
    symm;rw[show decide ((-1:Int)≥0)=false by decide,List.any_eq_false];intro j Q;rw[U.o j (by have:=J.o;have:=List.mem_range.mp Q;omega)];decide⟩,G.o⟩
  ·obtain⟨b,off,rfl,hb,hc,E⟩:=(HP.o.below G.o).cells I
   obtain⟨q0,q1,q2⟩:=E k I;have i1:((k:Nat):Int)<(len:Int):=I;clear E;obtain⟨J,HC⟩:=η2 h0 (L.o wr G.o k I);clear h0
   go_wp2_with fail
   refine HC.o.mono ?_;rintro e w1 ⟨rfl,C⟩;have W:=O (ae G.o C ρ);clear C;cases hpr:H k
   ·have u:=O hpr
    clear hpr;go_wp2;go_round
    case rel=>exact⟨k+1,by omega,rfl,(fun j Q=>by by_cases e:j=k;rw[e];exact u.o;exact U.o j I),W.o⟩
    case measure=>exact μ
   ·have u:=O hpr
    clear hpr;go_wp2;exact bodyPost_ret (results_tmp results157 _ _ _) rfl ⟨⟨k,rfl,by
     rw[decide_eq_true I];symm;rw[List.any_eq_true];exact⟨k,List.mem_range.mpr (ψ J.o),u.o⟩⟩,W.o⟩
end Go.Proofs.Υ
