/- Lemmas. -/
import Derived.Test.YtodehkjinmgflaaGreatDoorV1
import Derived.Test.YtodehkjinmgflaaGreatDoorVShelf
set_option linter.all false
set_option maxHeartbeats 0
set_option maxRecDepth 99999
namespace Go.Proofs.Υ
open Go Go.RowKit Tryz
def bad(x:Int):Bool:=decide (x < -4096) || decide (x > 4096)
theorem cN(x:Int)(w:World):Calls prog 159 #[.int .i64 x] w fun e w'=>e=.returned (.bool (bad x))/\w'=w:=by
 go_enter func159,ntmps159
 go_wp2
 ·exact bodyPost_ret (results_tmp results159 _ _ _) rfl ⟨rfl,rfl⟩
 ·exact bodyPost_ret (results_tmp results159 _ _ _) rfl ⟨by show _=Ending.returned (Value.bool (bad x));rw[show bad x=true by simp[bad, *]];rfl,rfl⟩
theorem enters111:Enters prog 159:=
 enters_of func159 Z rfl
theorem rD(g:Nat)(t:TypeId)(x y z:Int)(w:World)(hb:Box w g #[.int .i64 x,.int .i64 y,.int .i64 z] t):
 Calls prog 200 #[.slice (some ⟨g,0,none⟩) 3 3,.func (.func 159) #[] #[]] w fun e w' =>
  (∃r:Int,e=.returned (.int .i64 r)/\decide (r≥0)=(bad x || (bad y || bad z)))/\w'=w:=by
 obtain⟨E,F,G,-⟩:=hb.three;have C:=enters111;have key:(bad x=true)\/(bad x=false/\bad y=true)\/(bad x=false/\bad y=false/\bad z=true)\/(bad x=false/\bad y=false/\bad z=false):=by
  cases bad x<;>cases bad y<;>cases bad z<;>simp
 clear hb
 rcases key with j|⟨j,u⟩|⟨j,u,A⟩|⟨j,u,A⟩
 ·go_enter func200,ntmps200
  go_wp2_with fail
  refine aN.loop 4 ?_;refine aN.next (fun K hK=>?_)
  go_wp2_with fail
  refine(cN _ _).mono ?_;rw[j];rintro e i ⟨rfl,rfl⟩
  go_wp2_with fail
  exact bodyPost_ret (results_tmp results200 _ _ _) rfl ⟨⟨_,rfl,by simp[*]⟩,rfl⟩
 ·go_enter func200,ntmps200
  go_wp2_with fail
  refine aN.loop 4 ?_;refine aN.next (fun K hK=>?_)
  go_wp2_with fail
  refine(cN _ _).mono ?_;rw[j];rintro e i ⟨rfl,rfl⟩
  go_wp2_with fail
  refine aN.next (fun K hK=>?_)
  go_wp2_with fail
  refine(cN _ _).mono ?_;rw[u];rintro e i ⟨rfl,rfl⟩
  go_wp2_with fail
  exact bodyPost_ret (results_tmp results200 _ _ _) rfl ⟨⟨_,rfl,by simp[*]⟩,rfl⟩
 ·go_enter func200,ntmps200
  go_wp2_with fail
  refine aN.loop 4 ?_;refine aN.next (fun K hK=>?_)
  go_wp2_with fail
  refine(cN _ _).mono ?_;rw[j];rintro e i ⟨rfl,rfl⟩
  go_wp2_with fail
  refine aN.next (fun K hK=>?_)
  go_wp2_with fail
  refine(cN _ _).mono ?_;rw[u];rintro e i ⟨rfl,rfl⟩
  go_wp2_with fail
  refine aN.next (fun K hK=>?_)
  go_wp2_with fail
  refine(cN _ _).mono ?_;rw[A];rintro e i ⟨rfl,rfl⟩
  go_wp2_with fail
  exact bodyPost_ret (results_tmp results200 _ _ _) rfl ⟨⟨_,rfl,by simp[*]⟩,rfl⟩
 ·go_enter func200,ntmps200
  go_wp2_with fail
  refine aN.loop 4 ?_;refine aN.next (fun K hK=>?_)
  go_wp2_with fail
  refine(cN _ _).mono ?_;rw[j];rintro e i ⟨rfl,rfl⟩
  go_wp2_with fail
  refine aN.next (fun K hK=>?_)
  go_wp2_with fail
  refine(cN _ _).mono ?_;rw[u];rintro e i ⟨rfl,rfl⟩
  go_wp2_with fail
  refine aN.next (fun K hK=>?_)
  go_wp2_with fail
  refine(cN _ _).mono ?_;rw[A];rintro e i ⟨rfl,rfl⟩
  go_wp2_with fail
  refine aN.next (fun K hK=>?_)
  go_wp2_with fail
  exact bodyPost_ret (results_tmp results200 _ _ _) rfl ⟨⟨_,rfl,by simp[*]⟩,rfl⟩
theorem nt(g:Nat)(t:TypeId)(x y z:Int)(w:World)(hb:Box w g #[.int .i64 x,.int .i64 y,.int .i64 z] t):
 Calls prog 158 #[.slice (some ⟨g,0,none⟩) 3 3,.func (.func 159) #[] #[]] w fun e w' =>
  e=.returned (.bool (bad x || (bad y || bad z)))/\w'=w:=by
 go_enter func158,ntmps158
 go_wp2_with fail
 refine(rD g t x y z _ hb).mono ?_;rintro e u ⟨⟨r,rfl,i⟩,rfl⟩;have j:=O i;clear i hb;go_wp2
 all_goals exact bodyPost_ret (results_tmp results158 _ _ _) rfl ⟨by rw[<-j.o];rfl,rfl⟩
def far(a:V):Bool:=bad a.x || (bad a.y || bad a.z)
theorem mA(a:V):far a=false↔mP a:=by
 simp only[far,bad,mP,Bool.or_eq_false_iff,decide_eq_false_iff_not];omega
theorem oh(a:V)(w:World):
 Calls prog 126 #[dP a] w fun e w'=>e=.returned (.bool (far a))/\Bl w w':=by
 obtain⟨W,u,b1,j,hS⟩:=aB w #[.int .i64 a.x,.int .i64 a.y,.int .i64 a.z] 77;have i:=O b1;obtain⟨C,E,F,-⟩:=b1.three;clear b1 hS;unfold dP
 go_enter func126,ntmps126
 go_wp2_with fail
 refine(nt w.heap.size _ a.x a.y a.z _ i.o).mono ?_;rintro e A ⟨rfl,rfl⟩;go_wp2;exact bodyPost_ret (results_tmp results126 _ _ _) rfl ⟨rfl,j⟩
def bK:List Int->List Int->Int
 | [],[]=>0
 | [],_::_=>-1
 | _::_,[]=>1
 | x::xs,y::ys=>if x<y then -1 else if y<x then 1 else bK xs ys
theorem cmpL_step{xs e:List Int}(k:Nat)(i:k<xs.length)(j:k<e.length)(x y:Int)(C:xs.getD k 0=x)(E:e.getD k 0=y):
 bK (xs.drop k) (e.drop k)=if x<y then -1 else if y<x then 1 else bK (xs.drop (k+1)) (e.drop (k+1)):=by
 rw[List.drop_eq_getElem_cons i,List.drop_eq_getElem_cons j];have u:xs[k]=x:=by rw[<-C];simp[i]
 have A:e[k]=y:=by rw[<-E];simp[j]
 rw[bK,u,A]
theorem cmpL_more{xs e:List Int}(k:Nat)(i:k<xs.length)(j:e.length<=k):bK (xs.drop k) (e.drop k)=1:=by
 rw[List.drop_eq_getElem_cons i,List.drop_eq_nil_of_le j,bK]
theorem cmpL_end{xs e:List Int}(k:Nat)(i:k=xs.length)(j:k<=e.length):bK (xs.drop k) (e.drop k)=if xs.length<e.length then -1 else 0:=by
 subst i;rw[List.drop_length];by_cases h:xs.length<e.length
 ·rw[if_pos h,List.drop_eq_getElem_cons h,bK]
 ·rw[if_neg h,List.drop_eq_nil_of_le I,bK]
theorem iR(x y:Int):Lib.compareInt x y=if x<y then -1 else if y<x then 1 else 0:=by
 unfold Lib.compareInt;rfl
theorem fw(a b:Option Addr)(A L lb cb:Nat)(xs G:List Int)(w:World)(ha:Ints w a A L xs)(hb:Ints w b lb cb G)(h1:A<=4611686018427387904)(h2:lb<=4611686018427387904):
 Calls prog 162 #[.slice a A L,.slice b lb cb] w fun e w'=>e=.returned (.int .i64 (bK xs G))/\w'=w:=by
 obtain⟨W,X,i,j⟩:=η4 ha hb ha.len hb.len;clear ha hb
 go_enter func162,ntmps162
 go_wp2
 go_loopw [11] (fun v wr=>∃k:Nat,k<=A/\v=.int .i64 (k:Int)/\k<=lb/\Hid (bK xs G=bK (xs.drop k) (G.drop k))/\w=wr) (fun v _=>A-(intOf v).toNat)
 case atStart=>exact⟨0,Nat.zero_le _,rfl,Nat.zero_le _,by exact rfl,rfl⟩
 case round =>
  obtain⟨k,hk,rfl,af,H,rfl⟩:=hrel;by_cases h0:k=A
  ·have hn:¬ (k:Int)<(A:Int):=I
   by_cases Q:A<lb
   ·go_wp2
    go_ret;exact⟨by rw[H.o,cmpL_end k (ψ i.o) (ψ j.o),if_pos (by have:=i.o;have:=j.o;omega)];rfl,rfl⟩
   ·go_wp2
    go_ret;exact⟨by rw[H.o,cmpL_end k (ψ i.o) (ψ j.o),if_neg (by have:=i.o;have:=j.o;omega)];rfl,rfl⟩
  ·obtain⟨ba,oa,rfl,aa,ac,hc⟩:=W.o.cells I
   have hx:=hc k I;obtain⟨x,E⟩:=χ (xs.getD k 0);rw[E]at hx;have Y:=O E;clear hc E;by_cases Q:k=lb
   ·subst Q
    go_wp2;go_ret
    exact⟨by rw[H.o,cmpL_more k (ψ i.o) (ψ j.o)];rfl,rfl⟩
   obtain⟨bb,ob,rfl,ab,ad,R⟩:=X.o.cells I;have hy:=R k I;obtain⟨y,F⟩:=χ (G.getD k 0);rw[F]at hy;have HY:=O F;clear R F;have J:Hid (bK (xs.drop k) (G.drop k)=if x<y then -1 else if y<x then 1 else bK (xs.drop (k+1)) (G.drop (k+1))):=
    cmpL_step k (ψ i.o) (ψ j.o) x y Y.o HY.o
   go_wp2_with fail
   refine(cmp_Compare_int x y _).mono ?_;rw[iR]
   rcases Int.lt_trichotomy x y with u|u|u
   ·rw[if_pos u]
    rintro e U ⟨rfl,rfl⟩;have C:=O u;clear u;go_wp2;go_ret;exact⟨by rw[H.o,J.o,if_pos C.o];rfl,rfl⟩
   ·rw[if_neg I,if_neg I]
    rintro e U ⟨rfl,rfl⟩;have C:=O u;clear u;go_wp2;go_round
    case rel=>exact⟨k+1,by omega,rfl,by omega,by show _=_;rw[H.o,J.o,if_neg (ψ C.o),if_neg (ψ C.o)],trivial⟩
    case measure=>exact μ
   ·rw[if_neg I,if_pos u]
    rintro e U ⟨rfl,rfl⟩;have C:=O u;clear u;go_wp2;go_ret;exact⟨by rw[H.o,J.o,if_neg (ψ C.o),if_pos C.o];rfl,rfl⟩
def iy(a b:V):Int:=bK [a.x,a.y,a.z] [b.x,b.y,b.z]
theorem cmpV_lt(a b:V):iy a b<0↔Lex a b:=by
 unfold iy bK bK bK bK Lex
 repeat' split
 all_goals omega
theorem corder_any(a b:V)(w:World):
 Calls prog 128 #[dP a,dP b] w fun e w'=>e=.returned (.int .i64 (iy a b))/\Bl w w':=by
 obtain⟨W,E,b1,b2,j,hS⟩:=bU w #[.int .i64 a.x,.int .i64 a.y,.int .i64 a.z] #[.int .i64 b.x,.int .i64 b.y,.int .i64 b.z] 77 77;obtain⟨u,A⟩:=η2 b1 b2;obtain⟨F,G,H,-⟩:=b1.three;obtain⟨J,L,Q,-⟩:=b2.three;have i:=O j;have C:Hid (bK [a.x,a.y,a.z] [b.x,b.y,b.z]=iy a b):=by exact rfl
 clear b1 b2 hS j;unfold dP
 go_enter func128,ntmps128
 go_wp2_with fail
 go_quiet (first|(go_at_call 162;refine Calls.quiet_of_same (fw _ _ 3 3 3 3 _ _ _ ((Ints.of_box u.o).below (aF β _)) ((Ints.of_box A.o).below (aF β _)) I I)))
 go_wp2;exact bodyPost_ret (results_tmp results128 _ _ _) rfl ⟨by rw[<-C.o];rfl,aF i.o _⟩
structure Pts (w:World) (a:Option Addr) (n cap:Nat) (P:Nat→V):Prop where
 le:n<=cap
 nil:a=none→cap=0
 at_:∀ x,a=some x→x.spot=none/\x.block<w.heap.size/\∀ i,i<n →
  w.cell? ⟨x.block,x.off+i*3,none⟩=some (.int .i64 (P i).x)/\w.cell? ⟨x.block,x.off+i*3+1,none⟩=some (.int .i64 (P i).y)/\w.cell? ⟨x.block,x.off+i*3+2,none⟩=some (.int .i64 (P i).z)
theorem Pts.below{w w':World}{n e:Nat}{a:Option Addr}{P:Nat->V}(h:Pts w a n e P)(hb:Bl w w'):Pts w' a n e P:=
 ⟨h.le,h.nil,fun x C=>by
  obtain⟨u,j,A⟩:=h.at_ x C;refine⟨u,Nat.lt_of_lt_of_le j hb.size,fun i hi=>?_⟩;rw[hb.cell (p:=⟨x.block,x.off+i*3,.none⟩) j,hb.cell (p:=⟨x.block,x.off+i*3+1,.none⟩) j,hb.cell (p:=⟨x.block,x.off+i*3+2,.none⟩) j];exact A i hi⟩
theorem Pts.cells{w:World}{n e:Nat}{a:Option Addr}{P:Nat->V}(h:Pts w a n e P)(C:0<n):
 ∃b off,a=some ⟨b,off,.none⟩/\b<w.heap.size/\n<=e/\∀i,i<n ->
  w.cell? ⟨b,off+i*3,.none⟩=some (.int .i64 (P i).x)/\w.cell? ⟨b,off+i*3+1,.none⟩=some (.int .i64 (P i).y)/\w.cell? ⟨b,off+i*3+2,.none⟩=some (.int .i64 (P i).z):=by
 cases a with
 | none=>have:=h.nil rfl;have:=h.le;omega
 | some x =>
  obtain⟨j,u,A⟩:=h.at_ x rfl;obtain⟨b,off,s⟩:=x;simp only at j;subst j;exact⟨b,off,rfl,u,h.le,A⟩
theorem keepC{W w':World}{n:Nat}{p:Addr}{v:Value}(h:W.cell? p=some v)(hb:Below n W w')(e:p.block<n):w'.cell? p=some v:=(hb.cell e).trans h
theorem Box.one{w:World}{g:Nat}{a:Value}{t:TypeId}(h:Box w g #[a] t):w.cell? ⟨g,0,.none⟩=.some a/\w.frozen? ⟨g,0,.none⟩=false:=⟨h.cell 0,h.free 0⟩
theorem flat1_any(p n:V)(u E C:Nat)(tn tl ti:TypeId)(a:Option Addr)(len j i:Nat)(P:Nat->V)(w:World)(L:Box w u #[.int .i64 n.x,.int .i64 n.y,.int .i64 n.z] tn)(J:Box w E #[.slice a len j] tl)(hi:Box w C #[.int .i64 (i:Int)] ti)(hP:Pts w a len j P)(Q:i<len)(aa:len<=64)(hp:LeV 4096 p)(hq:LeV 4096 (P i))(R:LeV 200000000 n):
 Calls prog 165 #[dP p,.pointer (some ⟨u,0,none⟩),.pointer (some ⟨E,0,none⟩),.pointer (some ⟨C,0,none⟩)] w fun e w'=>e=.returned (.bool (V.dot n (p-P i) != 0))/\Bl w w':=by
 obtain⟨b,off,rfl,hb,hc,H⟩:=hP.cells I;obtain⟨q0,q1,q2⟩:=H i Q;obtain⟨W,hW,b1,A,hS⟩:=aB w #[.int .i64 p.x,.int .i64 p.y,.int .i64 p.z] 77;obtain⟨x0,x1,x2,-⟩:=b1.three;obtain⟨y0,y1,y2,-⟩:=(L.to A).three;obtain⟨z0,-⟩:=(J.to A).one;obtain⟨u0,-⟩:=(hi.to A).one;have v0:=keepC q0 A hb;have v1:=keepC q1 A hb;have v2:=keepC q2 A hb;clear H q0 q1 q2;generalize P i=q at *;have i1:((i:Nat):Int)<(len:Int):=I;have U:u<W.heap.size:=by have:=L.lt;omega
 have l2:E<W.heap.size:=by have:=J.lt;omega
 have l3:C<W.heap.size:=by have:=hi.lt;omega
 have X:b<W.heap.size:=I;have Y:w.heap.size<W.heap.size:=I;obtain⟨HB,HS,HW⟩:=η3 A hS hW;have KP:Hid (∀w',Bl W w'->w'.cell? ⟨w.heap.size,0,none⟩=some (.int .i64 p.x)/\w'.cell? ⟨w.heap.size,1,none⟩=some (.int .i64 p.y)/\w'.cell? ⟨w.heap.size,2,none⟩=some (.int .i64 p.z) /\
  w'.cell? ⟨u,0,none⟩=some (.int .i64 n.x)/\w'.cell? ⟨u,1,none⟩=some (.int .i64 n.y)/\w'.cell? ⟨u,2,none⟩=some (.int .i64 n.z)/\w'.cell? ⟨E,0,none⟩=some (.slice (some ⟨b,off,none⟩) len j)/\w'.cell? ⟨C,0,none⟩=some (.int .i64 (i:Int)) /\
  Γ3 w' b (off+i*3) (.int .i64 q.x) b (off+i*3+1) (.int .i64 q.y) b (off+i*3+2) (.int .i64 q.z)):=fun w' h =>
  ⟨keepC x0 h Y,keepC x1 h Y,keepC x2 h Y,keepC y0 h U,keepC y1 h U,keepC y2 h U,keepC z0 h l2,keepC u0 h l3,keepC v0 h X,keepC v1 h X,keepC v2 h X⟩
 clear L J hi hP A b1 hW;show Calls _ _ #[.agg #[.int .i64 p.x,.int .i64 p.y,.int .i64 p.z],_,_,_] w _
 go_enter func165,ntmps165
 go_wp2_with fail
 rw[HW.o];have L0:=O (Below.refl W.heap.size W)
 go_region_held3 (fun w'=>w'.cell? ⟨w.heap.size,0,none⟩=some (.int .i64 p.x)/\w'.cell? ⟨w.heap.size,1,none⟩=some (.int .i64 p.y)/\w'.cell? ⟨w.heap.size,2,none⟩=some (.int .i64 p.z) /\
  w'.cell? ⟨u,0,none⟩=some (.int .i64 n.x)/\w'.cell? ⟨u,1,none⟩=some (.int .i64 n.y)/\w'.cell? ⟨u,2,none⟩=some (.int .i64 n.z)/\w'.cell? ⟨E,0,none⟩=some (.slice (some ⟨b,off,none⟩) len j)/\w'.cell? ⟨C,0,none⟩=some (.int .i64 (i:Int)) /\
  Γ3 w' b (off+i*3) (.int .i64 q.x) b (off+i*3+1) (.int .i64 q.y) b (off+i*3+2) (.int .i64 q.z))
  (with_reducible exact(KP.o _ dZ))
  (first
   | (have _g:=L1.o;clear _g;go_at_call 166;refine(mG n (p-q) 200000000 8192 _ R (hp.sub hq) I).mono ?_;rintro e w2 ⟨rfl,G⟩
      have L2:Hid (Bl W w2):=ae L1.o G ρ;clear G)
   | (go_at_call 164;refine(gJ p q 4096 4096 _ hp hq I).mono ?_;rintro e w1 ⟨rfl,F⟩
      have L1:Hid (Bl W w1):=ae L0.o.drew F ρ;clear F))
 go_wp2;exact bodyPost_ret (results_tmp results165 _ _ _) rfl ⟨rfl,ae HB.o L2.o (ψ HS.o)⟩
theorem tG(g:Nat)(cb:Array Value)(G:Nat->Bool)(a:Option Addr)(len u:Nat)(P:Nat->V)(w:World)(W:Pts w a len u P)(X:len<=64)(eg:∀args w,(callFunc g args).run prog w=.ok (.enter g args) w)(E:∀w',Bl w w'->∀k,k<len->Calls prog g (#[dP (P k)]++cb) w' fun e Q=>e=.returned (.bool (G k))/\Bl w' Q):
 Calls prog 157 #[.slice a len u,.func (.func g) #[] cb] w fun e w' =>
  (∃r:Int,e=.returned (.int .i64 r)/\decide (r≥0)=(List.range len).any G)/\Bl w w':=by
 obtain⟨HP,J⟩:=η2 W E;clear W E
 go_enter func157,ntmps157
 go_wp2_with fail
 go_loopw [8] (fun v wr=>∃k:Nat,k<=len/\v=.int .i64 (k:Int)/\Hid (∀j,j<k->G j=false)/\Hid (Bl w wr)) (fun v _=>len-(intOf v).toNat)
 case atStart=>exact⟨0,Nat.zero_le _,rfl,(fun j L=>by omega),Below.refl _ _⟩
 case round =>
  obtain⟨k,hk,rfl,R,F⟩:=hrel;by_cases h0:k=len
  ·have hn:¬ (k:Int)<(len:Int):=I
   have H:=O h0;clear h0 eg;go_wp2;exact bodyPost_ret (results_tmp results157 _ _ _) rfl ⟨⟨-1,rfl,by
    symm;rw[show decide ((-1:Int)≥0)=false by decide,List.any_eq_false];intro j L;rw[R.o j (by have:=H.o;have:=List.mem_range.mp L;omega)];decide⟩,F.o⟩
  ·obtain⟨b,off,rfl,hb,hc,C⟩:=(HP.o.below F.o).cells I
   obtain⟨q0,q1,q2⟩:=C k I;have i1:((k:Nat):Int)<(len:Int):=I;clear C;obtain⟨H,Y⟩:=η2 h0 (J.o wr F.o k I);clear h0
   go_wp2_with fail
   refine Y.o.mono ?_;rintro e w1 ⟨rfl,A⟩;have U:=O (ae F.o A ρ);clear A;cases hpr:G k
   ·have i:=O hpr
    clear hpr;go_wp2;go_round
    case rel=>exact⟨k+1,by omega,rfl,(fun j L=>by by_cases e:j=k;rw[e];exact i.o;exact R.o j I),U.o⟩
    case measure=>exact μ
   ·have i:=O hpr
    clear hpr;go_wp2;exact bodyPost_ret (results_tmp results157 _ _ _) rfl ⟨⟨k,rfl,by
     rw[decide_eq_true I];symm;rw[List.any_eq_true];exact⟨k,List.mem_range.mpr (ψ H.o),i.o⟩⟩,U.o⟩
end Go.Proofs.Υ
