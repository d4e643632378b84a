/- Lemmas. -/
import Derived.Test.YtodehkjinmgflaaGreatDoorVA
set_option linter.all false
set_option maxHeartbeats 0
set_option maxRecDepth 99999
namespace Go.Proofs.Υ
open Go Go.RowKit
section
structure V where
 x:Int
 y:Int
 z:Int
deriving DecidableEq
namespace V
instance : Sub V := ⟨fun a b => ⟨a.x - b.x, a.y - b.y, a.z - b.z⟩⟩
instance : Neg V := ⟨fun a => ⟨-a.x, -a.y, -a.z⟩⟩
def zero:V:=⟨0,0,0⟩
def dot(a b:V):Int:=a.x*b.x+a.y*b.y+a.z*b.z
def cross(a b:V):V:=⟨a.y*b.z-a.z*b.y,a.z*b.x-a.x*b.z,a.x*b.y-a.y*b.x⟩
theorem sub_x(a b:V):(a-b).x=a.x-b.x:=rfl
theorem sub_y(a b:V):(a-b).y=a.y-b.y:=rfl
theorem sub_z(a b:V):(a-b).z=a.z-b.z:=rfl
theorem neg_x(a:V):(-a).x=-a.x:=rfl
theorem neg_y(a:V):(-a).y=-a.y:=rfl
theorem neg_z(a:V):(-a).z=-a.z:=rfl
theorem ext'{a b:V}(e:a.x=b.x)(i:a.y=b.y)(j:a.z=b.z):a=b:=by
 cases a;cases b;cases e;cases i;cases j;rfl
end V
open V
def T(n u v:V):Int:=dot n (cross u v)
theorem lO(n u v:V):T n v u=- T n u v:=by simp only[T,dot,cross];grind
theorem T_self(n u:V):T n u u=0:=by simp only[T,dot,cross];grind
theorem cJ(a b:V):dot a b=dot b a:=by simp only[dot];grind
theorem bn(g a b:V):dot g (a-b)=dot g a-dot g b:=by simp only[dot,sub_x,sub_y,sub_z];grind
theorem T_sub(n u v w:V):T n u (v-w)=T n u v-T n u w:=by simp only[T,dot,cross,sub_x,sub_y,sub_z];grind
theorem det_id(n u v w g:V):dot g w*T n u v+dot g u*T n v w+dot g v*T n w u=dot u (cross v w)*dot g n:=by
 simp only[T,dot,cross];grind
theorem det_n(n u v w g:V):dot u (cross v w)*dot g n=dot n u*dot g (cross v w)+dot n v*dot g (cross w u)+dot n w*dot g (cross u v):=by
 simp only[dot,cross];grind
theorem tu{n u v w:V}(e:dot n u=0)(i:dot n v=0)(j:dot n w=0)(g:V):dot g w*T n u v+dot g u*T n v w+dot g v*T n w u=0:=by
 rw[det_id,det_n,e,i,j];simp
theorem dj{n:V}(h:n≠V.zero):0<dot n n:=by
 unfold dot;have u:0<=n.x*n.x:=by rcases Int.le_total 0 n.x with a|a;exact Int.mul_nonneg a a;exact Int.mul_nonneg_of_nonpos_of_nonpos a a
 have A:0<=n.y*n.y:=by rcases Int.le_total 0 n.y with a|a;exact Int.mul_nonneg a a;exact Int.mul_nonneg_of_nonpos_of_nonpos a a
 have C:0<=n.z*n.z:=by rcases Int.le_total 0 n.z with a|a;exact Int.mul_nonneg a a;exact Int.mul_nonneg_of_nonpos_of_nonpos a a
 rcases Int.lt_or_le 0 (n.x*n.x+n.y*n.y+n.z*n.z)with h0|h0
 ·exact h0
 ·have e:n.x*n.x=0:=I
  have i:n.y*n.y=0:=I;have j:n.z*n.z=0:=I;exact absurd (V.ext' (b:=V.zero) (by have:=Int.mul_eq_zero.mp e;show n.x=0;omega) (by have:=Int.mul_eq_zero.mp i;show n.y=0;omega) (by have:=Int.mul_eq_zero.mp j;show n.z=0;omega)) h
theorem gF(n u w:V)(i:V)(e:dot n u=0)(j:dot n w=0):dot n n*dot i (cross u w)=dot i n*T n u w:=by
 have h:dot n n*dot i (cross u w)=dot i n*T n u w+dot n w*dot i (cross u n)-dot n u*dot i (cross w n):=by
  simp only[T,dot,cross];grind
 rw[h,e,j];simp
theorem para{n u w:V}(j:n≠V.zero)(A:dot n u=0)(C:dot n w=0)(h:T n u w=0)(g i:V):dot g w*dot i u=dot g u*dot i w:=by
 have hc:∀i,dot i (cross u w)=0:=fun i=>by
  have:=gF n u w i A C;rw[h,Int.mul_zero]at this;exact(Int.mul_eq_zero.mp this).resolve_left (by have:=dj j;omega)
 have e:dot g w*dot i u-dot g u*dot i w=dot (cross i g) (cross u w):=by simp only[dot,cross];grind
 rw[hc]at e;omega
def Rel(n u v:V):Prop:=0<T n u v\/T n u v=0/\dot v v<=dot u u
theorem Rel.nonneg{n u v:V}(h:Rel n u v):0<=T n u v:=by rcases h with h|h<;>omega
theorem rel_total{n u v:V}(h:¬ Rel n u v):Rel n v u:=by
 unfold Rel at *;rw[lO];omega
theorem pQ(n u:V):Rel n u u:=.inr ⟨T_self n u,Int.le_refl _⟩
theorem rel_trans{n u v w g:V}(G:dot n u=0)(H:dot n v=0)(J:dot n w=0)(C:0<dot g u)(F:0<dot g v)(E:0<dot g w)(j:Rel n u v)(A:Rel n v w):Rel n u w:=by
 have h:=tu G H J g;rw[lO n u w]at h;have R:0<=dot g w*T n u v:=Int.mul_nonneg (Int.le_of_lt E) j.nonneg;have U:0<=dot g u*T n v w:=Int.mul_nonneg (Int.le_of_lt C) A.nonneg;have e:dot g v*T n u w=dot g w*T n u v+dot g u*T n v w:=by
  rw[Int.mul_neg]at h;omega
 by_cases i:0<T n u v\/0<T n v w
 ·left
  have:0<dot g v*T n u w:=by
   rw[e]
   rcases i with i|i
   ·have:=Int.mul_pos E i;omega
   ·have:=Int.mul_pos C i;omega
  exact Int.pos_of_mul_pos_right this F |> fun h=>h
 ·right
  rcases j with j|⟨j,L⟩
  ·exact absurd (.inl j) i
  rcases A with A|⟨A,Q⟩
  ·exact absurd (.inr A) i
  rw[j,A,Int.mul_zero,Int.mul_zero]at e;exact⟨(Int.mul_eq_zero.mp e).resolve_left I,Int.le_trans Q L⟩
section Ring
variable (P : Nat → V) (on : List Nat) (n : V)
def gh(a:Nat):Prop:=a∈on/\∃g,∀q∈on,q≠a->0<dot g (P q-P a)
def Next(a b:Nat):Prop:=b∈on/\b≠a/\∀q∈on,q≠a->Rel n (P b-P a) (P q-P a)
structure Flat:Prop where
 n0:n≠V.zero
 pl:∀ p ∈ on,∀ q ∈ on,dot n (P p - P q)=0
 inj:∀ p ∈ on,∀ q ∈ on,P p=P q→p=q
variable {P on n}
def pick(P:Nat->V)(n:V)(a:Nat)(b:Option Nat)(i:Nat):Option Nat:=
 if i=a then b else match b with
 | none=>some i
 | some b=>if T n (P b-P a) (P i-P a)<0\/T n (P b-P a) (P i-P a)=0/\dot (P i-P a) (P i-P a) > dot (P b-P a) (P b-P a)then some i else some b
theorem pick_spec(J:Flat P on n){a:Nat}(ha:gh P on a)(done rest:List Nat)(C:∀q,q∈done\/q∈rest->q∈on)(b:Option Nat)(hb:match b with|none=>∀q∈done,q=a|some b=>b∈done/\b≠a/\∀q∈done,q≠a->Rel n (P b-P a) (P q-P a)):
 match rest.foldl (pick P n a) b with
 | none=>∀q,q∈done\/q∈rest->q=a
 | some b=>(b∈done\/b∈rest)/\b≠a/\∀q,q∈done\/q∈rest->q≠a->Rel n (P b-P a) (P q-P a):=by
 induction rest generalizing done b with
 | nil =>
  cases b with
  | none=>simpa using hb
  | some b=>simpa using hb
 | cons i rest ih =>
  have e:∀q,(q∈done++[i]\/q∈rest)↔(q∈done\/q∈i::rest):=fun q=>by simp[or_assoc]
  have:=ih (done++[i]) (fun q j=>C q ((e q).mp j)) (pick P n a b i) ?_
  ·simp only[List.foldl_cons]
   revert this
   cases List.foldl (pick P n a) (pick P n a b i) rest with
   | none=>intro h q j;exact h q ((e q).mpr j)
   | some c=>intro h;exact⟨(e c).mp h.1,h.2.1,fun q j=>h.2.2 q ((e q).mpr j)⟩
  ·obtain⟨F,g,G⟩:=ha
   have pl:∀q∈on,dot n (P q-P a)=0:=fun q j=>J.pl q j a F
   have hi:i∈on:=C i (.inr (by simp));have E:∀q∈done,q∈on:=fun q j=>C q (.inl j)
   unfold pick;by_cases A:i=a
   ·rw[if_pos A]
    cases b with
    | none=>intro q j;rcases List.mem_append.mp j with j|j;exact hb q j;simpa[A]using j
    | some b =>
     refine⟨List.mem_append_left _ hb.1,hb.2.1,fun q j u=>?_⟩
     rcases List.mem_append.mp j with j|j
     ·exact hb.2.2 q j u
     ·exact absurd (by simpa[A]using j) u
   ·rw[if_neg A]
    cases b with
    | none =>
     refine⟨by simp,A,fun q j u=>?_⟩
     rcases List.mem_append.mp j with j|j
     ·exact absurd (hb q j) u
     ·have:q=i:=by simpa using j
      subst this;exact pQ _ _
    | some b =>
     obtain⟨b1,b2,H⟩:=hb;dsimp only;by_cases h:T n (P b-P a) (P i-P a)<0\/T n (P b-P a) (P i-P a)=0/\dot (P i-P a) (P i-P a) > dot (P b-P a) (P b-P a)
     ·rw[if_pos h]
      have L:Rel n (P i-P a) (P b-P a):=by
       refine rel_total ?_;unfold Rel;omega
      refine⟨by simp,A,fun q j u=>?_⟩
      rcases List.mem_append.mp j with j|j
      ·exact rel_trans (pl i hi) (pl b (E b b1)) (pl q (E q j)) (G i hi A) (G b (E b b1) b2) (G q (E q j) u) L (H q j u)
      ·have:q=i:=by simpa using j
       subst this;exact pQ _ _
     ·rw[if_neg h]
      refine⟨List.mem_append_left _ b1,b2,fun q j u=>?_⟩
      rcases List.mem_append.mp j with j|j
      ·exact H q j u
      ·have:q=i:=by simpa using j
       subst this;unfold Rel;omega
def nx(P:Nat->V)(on:List Nat)(n:V)(a:Nat):Nat:=(on.foldl (pick P n a) none).getD 0
theorem oQ(u:Flat P on n){a:Nat}(ha:gh P on a)(j:∃q∈on,q≠a):
 on.foldl (pick P n a) none=some (nx P on n a)/\Next P on n a (nx P on n a):=by
 have h:=pick_spec u ha [] on (by simp) none (by simp);unfold nx;revert h
 cases on.foldl (pick P n a) none with
 | none=>intro h;obtain⟨q,e,i⟩:=j;exact absurd (h q (.inr e)) i
 | some b=>intro h;exact⟨rfl,by simpa using h.1,h.2.1,fun q e=>h.2.2 q (.inr e)⟩
theorem bound_list(f:Nat->Int)(l:List Nat):∃K,0<K/\∀q∈l,f q<K:=by
 induction l with
 | nil=>exact⟨1,by omega,by simp⟩
 | cons a l ih =>
  obtain⟨K,hK,h⟩:=ih;refine⟨max K (f a+1),by omega,fun q e=>?_⟩
  rcases List.mem_cons.mp e with rfl|e
  ·omega
  ·have:=h q e;omega
theorem ray{n e w g:V}(hn:n≠V.zero)(X:dot n e=0)(hw:dot n w=0)(E:0<dot g e)(R:0<dot g w)(h:T n e w=0)(Y:dot w w<=dot e e)(A:w≠e):
 ∃G β:Int,0<β/\β<G/\∀i,G*dot i w=β*dot i e:=by
 have j:=para hn X hw h;refine⟨dot g e,dot g w,R,?_,fun i=>?_⟩
 ·have F:=j g w
  have U:=j g e;rw[cJ w e]at F;have h3:dot g w*dot g w*dot e e=dot g e*dot g e*dot w w:=by
   have:=j g e;have J:dot g w*dot g w*dot e e=dot g w*(dot g w*dot e e):=by rw[Int.mul_assoc]
   rw[J,U];have L:dot g w*(dot g e*dot e w)=dot g e*(dot g w*dot e w):=by rw[Int.mul_left_comm]
   rw[L,F,Int.mul_assoc]
  have H:e≠V.zero:=by
   intro h0;rw[h0]at E;simp[dot,V.zero]at E
  have Q:=dj H
  rcases Int.lt_or_le (dot g w) (dot g e)with h|h
  ·exact h
  ·exfalso
   by_cases C:dot g w=dot g e
   ·refine A (V.ext' ?_ ?_ ?_)
    ·have:=j g ⟨1,0,0⟩
     rw[C]at this;have:=Int.eq_of_mul_eq_mul_left I this
     simpa[dot]using this.symm
    ·have:=j g ⟨0,1,0⟩
     rw[C]at this;have:=Int.eq_of_mul_eq_mul_left I this
     simpa[dot]using this.symm
    ·have:=j g ⟨0,0,1⟩
     rw[C]at this;have:=Int.eq_of_mul_eq_mul_left I this
     simpa[dot]using this.symm
   ·have u:dot g e<dot g w:=I
    have W:dot g e*dot g e<dot g w*dot g w:=Int.mul_lt_mul' I u I I;have h5:dot g e*dot g e*dot w w<=dot g e*dot g e*dot e e:=Int.mul_le_mul_of_nonneg_left Y (Int.mul_nonneg I I);have h6:dot g e*dot g e*dot e e<dot g w*dot g w*dot e e:=Int.mul_lt_mul_of_pos_right W Q;omega
 ·have:=j g i;rw[this]
theorem lZ(a b c:V):(a-c)-(b-c)=a-b:=by
 apply V.ext'<;>simp only[sub_x,sub_y,sub_z]<;>omega
theorem sub_eq_self{a b c:V}(h:a-c=b-c):a=b:=by
 have e:=congrArg V.x h;have i:=congrArg V.y h;have j:=congrArg V.z h;simp only[sub_x,sub_y,sub_z]at e i j;apply V.ext'<;>omega
theorem qD(g a b:V):dot g (a-b)=- dot g (b-a):=by rw[bn,bn];omega
theorem next_ray(A:Flat P on n){a b q:Nat}(ha:gh P on a)(hb:Next P on n a b)(C:q∈on)(u:q≠a)(F:q≠b)(h:T n (P b-P a) (P q-P a)=0):
 ∃H β:Int,0<β/\β<H/\∀i,H*dot i (P q-P a)=β*dot i (P b-P a):=by
 obtain⟨j,g,G⟩:=ha;obtain⟨e,E,Q⟩:=hb;have L:dot (P q-P a) (P q-P a)<=dot (P b-P a) (P b-P a):=by
  have:=Q q C u;unfold Rel at this;omega
 exact ray A.n0 (A.pl b e a j) (A.pl q C a j) (G b e E) (G q C u) h L fun J=>F (A.inj q C b e (sub_eq_self J))
theorem lz(R:Flat P on n){a b q:Nat}(ha:gh P on a)(hb:Next P on n a b)(U:gh P on q)(i:q≠a)(u:q≠b):0<T n (P b-P a) (P q-P a):=by
 obtain⟨A,h,F⟩:=U;have:=(hb.2.2 q A i).nonneg
 rcases Int.lt_or_eq_of_le this with h0|h0
 ·exact h0
 exfalso;obtain⟨C,β,E,j,W⟩:=next_ray R ha hb A i u h0.symm;have G:=F a ha.1 (Ne.symm i);have H:=F b hb.1 (Ne.symm u);have e:=W h;rw[qD]at G;have J:dot h (P b-P q)=dot h (P b-P a)-dot h (P q-P a):=by simp only[bn];omega
 rw[J]at H;generalize dot h (P b-P a)=X at *;generalize dot h (P q-P a)=Y at *;have L:X<0:=by
  rcases Int.lt_or_le X 0 with h|h
  ·exact h
  ·have:=Int.mul_nonneg (Int.le_of_lt E) h
   have:=Int.mul_neg_of_pos_of_neg (a:=C) (b:=Y) I I;omega
 have Q:C*Y<C*X:=Int.mul_lt_mul_of_pos_left I I;rw[e]at Q;have h6:C*X<β*X:=Int.mul_lt_mul_of_neg_right j L;omega
theorem vert_next(X:Flat P on n){a b:Nat}(ha:gh P on a)(hb:Next P on n a b):gh P on b:=by
 refine⟨hb.1,?_⟩;obtain⟨K,hK,Y⟩:=bound_list (fun q=>dot (P b-P a) (P q-P b)) on;have R:∀w,dot ⟨K*(cross n (P b-P a)).x-(P b-P a).x,K*(cross n (P b-P a)).y-(P b-P a).y,K*(cross n (P b-P a)).z-(P b-P a).z⟩ w=K*T n (P b-P a) w-dot (P b-P a) w:=fun w=>by
  simp only[T,dot,cross];grind
 refine⟨⟨K*(cross n (P b-P a)).x-(P b-P a).x,K*(cross n (P b-P a)).y-(P b-P a).y,K*(cross n (P b-P a)).z-(P b-P a).z⟩,fun q E F=>?_⟩;rw[R];obtain⟨C,g,H⟩:=ha;have G:=H b hb.1 hb.2.1;have L:P b-P a≠V.zero:=by intro h0;rw[h0]at G;simp[dot,V.zero]at G
 have Q:=dj L;by_cases e:q=a
 ·subst e
  have A:T n (P b-P q) (P q-P b)=0:=by
   have:T n (P b-P q) (P q-P b)=- T n (P b-P q) (P b-P q):=by simp only[T_sub];omega
   rw[this,T_self];rfl
  rw[A,qD];omega
 ·have A:T n (P b-P a) (P q-P b)=T n (P b-P a) (P q-P a):=by
   rw[<-lZ (P q) (P b) (P a),T_sub,T_self];omega
  rw[A];have j:=hb.2.2 q E e
  rcases j with j|⟨j,hl⟩
  ·have:=Y q E
   have:K*1<=K*T n (P b-P a) (P q-P a):=Int.mul_le_mul_of_nonneg_left I I;omega
  ·rw[j]
   obtain⟨J,β,aa,i,u⟩:=next_ray X ⟨C,g,H⟩ hb E e F j;have U:=u (P b-P a);have h3:dot (P b-P a) (P q-P b)=dot (P b-P a) (P q-P a)-dot (P b-P a) (P b-P a):=by
    rw[<-bn,lZ]
   have W:J*dot (P b-P a) (P q-P a)<J*dot (P b-P a) (P b-P a):=by
    rw[U];exact Int.mul_lt_mul_of_pos_right i Q
   have:=Int.lt_of_mul_lt_mul_left W I;omega
theorem next_inj(A:Flat P on n){a e b:Nat}(ha:gh P on a)(i:gh P on e)(hb:Next P on n a b)(j:Next P on n e b):a=e:=by
 refine Decidable.byContradiction fun u=>?_
 have F:=lz A ha hb i (Ne.symm u) (Ne.symm j.2.1);have G:=lz A i j ha u (Ne.symm hb.2.1);have C:T n (P b-P a) (P e-P a)=T n (P a-P b) (P b-P e)+0:=by simp only[T,dot,cross,sub_x,sub_y,sub_z];grind
 have E:T n (P b-P e) (P a-P e)=- T n (P a-P b) (P b-P e):=by simp only[T,dot,cross,sub_x,sub_y,sub_z];grind
 omega
end Ring
end
section
open V
def orb(f:Nat->Nat)(a:Nat):Nat->Nat
 | 0=>a
 | j+1=>f (orb f a j)
def per(f:Nat->Nat)(a:Nat):Nat->Nat->Nat
 | 0,j=>j
 | fuel+1,j=>if orb f a j=a then j else per f a fuel (j+1)
def ring(P:Nat->V)(on:List Nat)(n:V):List Nat:=
 (List.range (per (nx P on n) (on.headD 0) on.length 1)).map (orb (nx P on n) (on.headD 0))
theorem per_spec(f:Nat->Nat)(a:Nat)(u j:Nat)(h:∃k,j<=k/\k<j+u/\orb f a k=a):
 orb f a (per f a u j)=a/\j<=per f a u j/\per f a u j<j+u/\∀i,j<=i->i<per f a u j->orb f a i≠a:=by
 induction u generalizing j with
 | zero=>obtain⟨k,C,E,_⟩:=h;omega
 | succ u ih =>
  unfold per;by_cases A:orb f a j=a
  ·rw[if_pos A];exact⟨A,Nat.le_refl _,by omega,fun i C E=>by omega⟩
  ·rw[if_neg A]
   obtain⟨k,C,E,F⟩:=h;have J:j≠k:=fun e=>A (by rw[e];exact F)
   have:=ih (j+1) ⟨k,by omega,by omega,F⟩;refine⟨this.1,by omega,by omega,fun i H G=>?_⟩;by_cases hi:i=j
   ·rw[hi];exact A
   ·exact this.2.2.2 i I G
theorem fz:∀(l m:List Nat),l.Nodup->(∀x∈l,x∈m)->l.length<=m.length
 | [],_,_,_=>by simp
 | a::l,m,h,hs=>by
  have ha:a∈m:=hs a (by simp);have u:=fz l (m.erase a) (List.nodup_cons.mp h).2 fun x j=>by
   have i:x≠a:=fun e=>(List.nodup_cons.mp h).1 (e▸j)
   exact(List.mem_erase_of_ne i).mpr (hs x (by simp[j]))
  rw[List.length_erase_of_mem ha]at u;have:0<m.length:=List.length_pos_of_mem ha;simp only[List.length_cons];omega
section Ring
variable {P : Nat → V} {on : List Nat} {n : V}
theorem dW(e:Flat P on n)(i:∀a,∃q∈on,q≠a){a:Nat}(ha:gh P on a)(j:Nat):gh P on (orb (nx P on n) a j):=by
 induction j with
 | zero=>exact ha
 | succ j ih=>exact vert_next e ih (oQ e ih (i _)).2
theorem gH(i:Flat P on n)(e:∀a,∃q∈on,q≠a){a:Nat}(ha:gh P on a)(j:Nat):Next P on n (orb (nx P on n) a j) (orb (nx P on n) a (j+1)):=
 (oQ i (dW i e ha j) (e _)).2
theorem orb_back(e:Flat P on n)(j:∀a,∃q∈on,q≠a){a:Nat}(ha:gh P on a)(i d:Nat)(h:orb (nx P on n) a i=orb (nx P on n) a (i+d)):a=orb (nx P on n) a d:=by
 induction i with
 | zero=>simpa[orb]using h
 | succ i ih =>
  refine ih ?_;have A:=gH e j ha i;have u:=gH e j ha (i+d);rw[show i+d+1=i+1+d by omega,<-h]at u;exact next_inj e (dW e j ha i) (dW e j ha (i+d)) A u
theorem orb_period(E:Flat P on n)(C:∀a,∃q∈on,q≠a){a:Nat}(ha:gh P on a):∃k,1<=k/\k<1+on.length/\orb (nx P on n) a k=a:=by
 refine Classical.byContradiction fun A=>?_
 have u:∀k,1<=k->k<1+on.length->orb (nx P on n) a k≠a:=fun k F G H=>A ⟨k,F,G,H⟩
 have e:((List.range (on.length+1)).map (orb (nx P on n) a)).Nodup:=by
  unfold List.Nodup;rw[List.pairwise_map];refine List.Pairwise.imp_of_mem ?_ List.pairwise_lt_range;intro i j hi Q L J;rw[List.mem_range]at hi Q;have:=orb_back E C ha i (j-i) (by rw[show i+(j-i)=j by omega];exact J);exact u (j-i) I I this.symm
 have:=fz _ on e fun x R=>by
  obtain⟨j,_,rfl⟩:=List.mem_map.mp R;exact(dW E C ha j).1
 simp at this;omega
theorem mY(j:Flat P on n)(e:∀a,∃q∈on,q≠a){a:Nat}(ha:gh P on a):
 ∃k,k=per (nx P on n) a on.length 1/\1<=k/\k<1+on.length/\orb (nx P on n) a k=a/\∀i,1<=i->i<k->orb (nx P on n) a i≠a:=by
 have:=per_spec (nx P on n) a on.length 1 (orb_period j e ha);exact⟨_,rfl,this.2.1,this.2.2.1,this.1,this.2.2.2⟩
theorem tX(s:Nat->Int)(e:0<=s 1):∀m,2<=m->s m<=0->∃j,1<=j/\j+1<=m/\0<=s j/\s (j+1)<=0
 | 0,h,_=>by omega
 | 1,h,_=>by omega
 | 2,_,h=>⟨1,by omega,by omega,e,h⟩
 | m+3,_,h=>by
  by_cases i:0<=s (m+2)
  ·exact⟨m+2,by omega,by omega,i,h⟩
  ·obtain⟨j,a,b,c,d⟩:=tX s e (m+2) I I
   exact⟨j,a,by omega,c,d⟩
theorem vert_orb(A:Flat P on n)(G:∀a,∃q∈on,q≠a){a:Nat}(ha:gh P on a){k:Nat}(hk:1<=k)(L:orb (nx P on n) a k=a)(Q:∀i,1<=i->i<k->orb (nx P on n) a i≠a){v:Nat}(X:gh P on v):∃j,j<k/\orb (nx P on n) a j=v:=by
 refine Classical.byContradiction fun ab=>?_
 have E:∀j,j<k->v≠orb (nx P on n) a j:=fun j W h3=>ab ⟨j,W,h3.symm⟩
 have H:v≠a:=E 0 I;have ad:2<=k:=by
  refine Classical.byContradiction fun h=>?_
  have:k=1:=I;subst this;exact(gH A G ha 0).2.1 L
 have C:T n (P (orb (nx P on n) a (k-1))-P a) (P v-P a)<0:=by
  have W:=gH A G ha (k-1);rw[show k-1+1=k by omega,L]at W;have:=lz A (dW A G ha (k-1)) W X (E (k-1) I) H;have e:T n (P a-P (orb (nx P on n) a (k-1))) (P v-P (orb (nx P on n) a (k-1)))=- T n (P (orb (nx P on n) a (k-1))-P a) (P v-P a):=by
   simp only[T,dot,cross,sub_x,sub_y,sub_z];grind
  omega
 have F:0<T n (P (orb (nx P on n) a 1)-P a) (P v-P a):=lz A ha (gH A G ha 0) X H (E 1 I);have af:k≠2:=by intro h;subst h;simp at C;omega
 obtain⟨j,j1,jk,sj,ag⟩:=tX (fun j=>T n (P (orb (nx P on n) a j)-P a) (P v-P a)) (Int.le_of_lt F) (k-1) I (Int.le_of_lt C);have hb:=dW A G ha j;have hc:=dW A G ha (j+1);have J:=gH A G ha j;have Y:=Q j j1 I;have aa:=Q (j+1) I I;have R:=E j I;have U:=E (j+1) I;generalize orb (nx P on n) a j=b at *;generalize orb (nx P on n) a (j+1)=c at *;have hD:=lz A hb J ha (Ne.symm Y) (Ne.symm aa);have hm:=lz A hb J X R U;obtain⟨ac,h,hh⟩:=X;have p1:=hh a ha.1 (Ne.symm H);have p2:=hh b hb.1 (Ne.symm R);have p3:=hh c hc.1 (Ne.symm U);have hp:=tu (A.pl b hb.1 a ha.1) (A.pl c hc.1 a ha.1) (A.pl v ac a ha.1) h;have eD:T n (P c-P b) (P a-P b)=T n (P b-P a) (P c-P a):=by simp only[T,dot,cross,sub_x,sub_y,sub_z];grind
 have em:T n (P c-P b) (P v-P b)=T n (P b-P a) (P c-P a)+T n (P c-P a) (P v-P a)-T n (P b-P a) (P v-P a):=by simp only[T,dot,cross,sub_x,sub_y,sub_z];grind
 rw[eD]at hD;rw[em]at hm;have q1:dot h (P a-P v)=- dot h (P v-P a):=qD _ _ _;have q2:dot h (P b-P v)=dot h (P b-P a)-dot h (P v-P a):=by simp only[bn];omega
 have q3:dot h (P c-P v)=dot h (P c-P a)-dot h (P v-P a):=by simp only[bn];omega
 rw[q1]at p1;rw[q2]at p2;rw[q3]at p3;rw[lO n (P b-P a) (P v-P a)]at hp;generalize T n (P b-P a) (P c-P a)=D at *;generalize T n (P b-P a) (P v-P a)=r at *;generalize T n (P c-P a) (P v-P a)=p at *;generalize dot h (P v-P a)=t at *;generalize dot h (P b-P a)=u at *;generalize dot h (P c-P a)=w at *;have m1:0<=(-p)*(u-t):=Int.mul_nonneg I I;have m2:0<=r*(w-t):=Int.mul_nonneg I I;have m3:0<(D+p-r)*(-t):=Int.mul_pos hm p1;have:(-p)*(u-t)+r*(w-t)+(D+p-r)*(-t)=0:=by grind
 omega
theorem ring_mem(u:Flat P on n)(i:∀a,∃q∈on,q≠a)(ha:gh P on (on.headD 0)){v:Nat}:v∈ring P on n↔gh P on v:=by
 obtain⟨k,e,F,G,C,E⟩:=mY u i ha;unfold ring;rw[<-e]
 constructor
 ·intro h
  obtain⟨j,_,rfl⟩:=List.mem_map.mp h;exact dW u i ha j
 ·intro h
  obtain⟨j,A,rfl⟩:=vert_orb u i ha F C E h;exact List.mem_map.mpr ⟨j,List.mem_range.mpr A,rfl⟩
theorem vert_prev(j:Flat P on n)(i:∀a,∃q∈on,q≠a){v:Nat}(u:gh P on v):∃a,gh P on a/\Next P on n a v:=by
 obtain⟨k,e,E,F,A,C⟩:=mY j i u;have:=gH j i u (k-1);rw[show k-1+1=k by omega,A]at this;exact⟨_,dW j i u _,this⟩
end Ring
end
section
open V
def tri(P:Nat->V)(i j k:Nat):V:=cross (P j-P i) (P k-P i)
structure Face (P:Nat→V) (N:Nat) (n:V) (b:Nat):Prop where
 three:∃ i j k,k<j/\j<i/\i<N/\tri P i j k≠V.zero/\(n=tri P i j k\/n=-tri P i j k)/\∀ w,dot n (w - P i)=dot n (w - P b)
 o:∀ q,q<N→dot n (P q - P b)<=0
def aI(P:Nat->V)(N:Nat)(n:V)(b:Nat):List Nat:=(List.range N).filter fun q=>dot n (P q-P b)=0
theorem aG{P:Nat->V}{N:Nat}{n:V}{b q:Nat}:q∈aI P N n b↔q<N/\dot n (P q-P b)=0:=by
 simp[aI,List.mem_filter]
def Inj(P:Nat->V)(N:Nat):Prop:=∀p,p<N->∀q,q<N->P p=P q->p=q
def iC(P:Nat->V)(N:Nat):Prop:=∀n,n≠V.zero->∀b,∃q,q<N/\dot n (P q-P b)≠0
theorem dot_base(n a b c:V)(h:dot n (b-c)=0):dot n (a-b)=dot n (a-c):=by
 simp only[bn]at *;omega
theorem lA{n:V}(h:n≠V.zero):-n≠V.zero:=by
 intro e;apply h;have i:=congrArg V.x e;have j:=congrArg V.y e;have u:=congrArg V.z e;simp only[neg_x,neg_y,neg_z,V.zero]at i j u;apply V.ext'<;>simp only[V.zero]<;>omega
theorem bG(n a:V):dot (-n) a=- dot n a:=by simp only[dot,neg_x,neg_y,neg_z];grind
variable {P : Nat → V} {N : Nat}
theorem Face.n0{n:V}{b:Nat}(h:Face P N n b):n≠V.zero:=by
 obtain⟨i,j,k,_,_,_,h0,e,_⟩:=h.three
 rcases e with rfl|rfl
 ·exact h0
 ·exact lA h0
theorem Face.flat{n:V}{b:Nat}(h:Face P N n b)(i:Inj P N):Flat P (aI P N n b) n where
 n0:=h.n0
 pl p hp q hq:=by
  have j:=(aG.mp hp).2;have u:=(aG.mp hq).2;simp only[bn]at *;omega
 inj p hp q hq e:=i p (aG.mp hp).1 q (aG.mp hq).1 e
theorem tri_n(P:Nat->V)(i j k:Nat):dot (tri P i j k) (P j-P i)=0/\dot (tri P i j k) (P k-P i)=0:=by
 constructor<;>(simp only[tri,dot,cross,sub_x,sub_y,sub_z];grind)
theorem Face.points{n:V}{b:Nat}(h:Face P N n b):∃i j k,k<j/\j<i/\i∈aI P N n b/\j∈aI P N n b/\k∈aI P N n b/\T n (P j-P i) (P k-P i)≠0:=by
 obtain⟨i,j,k,E,F,G,h0,u,hb⟩:=h.three;have hi:dot n (P i-P i)=0:=by simp only[bn];omega
 have A:dot n (P j-P i)=0:=by
  rcases u with rfl|rfl
  ·exact(tri_n P i j k).1
  ·rw[bG,(tri_n P i j k).1];rfl
 have C:dot n (P k-P i)=0:=by
  rcases u with rfl|rfl
  ·exact(tri_n P i j k).2
  ·rw[bG,(tri_n P i j k).2];rfl
 rw[hb]at hi A C;refine⟨i,j,k,E,F,aG.mpr ⟨G,hi⟩,aG.mpr ⟨by omega,A⟩,aG.mpr ⟨by omega,C⟩,?_⟩;have:=dj h0;unfold T
 rcases u with rfl|rfl
 ·exact fun e=>by unfold tri at *;omega
 ·rw[bG];exact fun e=>by unfold tri at *;omega
theorem Face.two{n:V}{b:Nat}(h:Face P N n b)(a:Nat):∃q∈aI P N n b,q≠a:=by
 obtain⟨i,j,k,A,C,hi,u,E,_⟩:=h.points;by_cases e:i=a
 ·exact⟨j,u,by omega⟩
 ·exact⟨i,hi,e⟩
theorem oV{a b m:Nat}(ha:a<N)(hb:b<N)(hm:m<N)(h0:cross (P b-P a) (P m-P a)≠V.zero)(U:∀q,q<N->0<=dot (cross (P b-P a) (P m-P a)) (P q-P a)):Face P N (-cross (P b-P a) (P m-P a)) a:=by
 have u:a≠b:=by rintro rfl;exact h0 (by simp only[cross,sub_x,sub_y,sub_z,V.zero];apply V.ext'<;>dsimp only<;>grind)
 have A:a≠m:=by rintro rfl;exact h0 (by simp only[cross,sub_x,sub_y,sub_z,V.zero];apply V.ext'<;>dsimp only<;>grind)
 have C:b≠m:=by rintro rfl;exact h0 (by simp only[cross,sub_x,sub_y,sub_z,V.zero];apply V.ext'<;>dsimp only<;>grind)
 have key:∀i j k,k<j->j<i->i<N->(tri P i j k=cross (P b-P a) (P m-P a)\/tri P i j k=-cross (P b-P a) (P m-P a))->dot (cross (P b-P a) (P m-P a)) (P i-P a)=0->Face P N (-cross (P b-P a) (P m-P a)) a:=by
  intro i j k J L Q H hi;refine⟨⟨i,j,k,J,L,Q,?_,?_,fun w=>?_⟩,fun q R=>?_⟩
  ·rcases H with e|e<;>rw[e]
   ·exact h0
   ·exact lA h0
  ·rcases H with e|e<;>rw[e]
   ·exact .inr rfl
   ·exact .inl rfl
  ·exact dot_base _ _ _ _ (by rw[bG,hi];rfl)
  ·rw[bG];have:=U q R;omega
 have E:dot (cross (P b-P a) (P m-P a)) (P a-P a)=0:=by simp only[dot,sub_x,sub_y,sub_z];grind
 have F:dot (cross (P b-P a) (P m-P a)) (P b-P a)=0:=by simp only[dot,cross,sub_x,sub_y,sub_z];grind
 have G:dot (cross (P b-P a) (P m-P a)) (P m-P a)=0:=by simp only[dot,cross,sub_x,sub_y,sub_z];grind
 have t1:tri P a b m=cross (P b-P a) (P m-P a):=rfl;have t2:tri P a m b=-cross (P b-P a) (P m-P a):=by unfold tri;apply V.ext'<;>simp only[cross,sub_x,sub_y,sub_z,neg_x,neg_y,neg_z]<;>grind
 have t3:tri P b a m=-cross (P b-P a) (P m-P a):=by unfold tri;apply V.ext'<;>simp only[cross,sub_x,sub_y,sub_z,neg_x,neg_y,neg_z]<;>grind
 have t4:tri P b m a=cross (P b-P a) (P m-P a):=by unfold tri;apply V.ext'<;>simp only[cross,sub_x,sub_y,sub_z,neg_x,neg_y,neg_z]<;>grind
 have t5:tri P m a b=cross (P b-P a) (P m-P a):=by unfold tri;apply V.ext'<;>simp only[cross,sub_x,sub_y,sub_z,neg_x,neg_y,neg_z]<;>grind
 have t6:tri P m b a=-cross (P b-P a) (P m-P a):=by unfold tri;apply V.ext'<;>simp only[cross,sub_x,sub_y,sub_z,neg_x,neg_y,neg_z]<;>grind
 rcases Nat.lt_or_gt_of_ne u with W|W<;>rcases Nat.lt_or_gt_of_ne A with X|X<;>rcases Nat.lt_or_gt_of_ne C with Y|Y
 ·exact key m b a I I I (.inr t6) G
 ·exact key b m a I I I (.inl t4) F
 ·omega
 ·exact key b a m I I I (.inr t3) F
 ·exact key m a b I I I (.inl t5) G
 ·omega
 ·exact key a m b I I I (.inr t2) E
 ·exact key a b m I I I (.inl t1) E
theorem mz(R:Nat->Nat->Prop)(p:Nat->Prop)(e:∀a,p a->R a a)(j:∀a b,p a->p b->¬ R a b->R b a)(u:∀a b c,p a->p b->p c->R a b->R b c->R a c):
 ∀l:List Nat,(∀x∈l,p x)->l≠[]->∃m∈l,∀q∈l,R m q
 | [],_,h=>absurd rfl h
 | [a],hp,_=>⟨a,by simp,fun q i=>by
  have:q=a:=by simpa using i
  subst this;exact e q (hp q (by simp))⟩
 | a::b::l,hp,_=>by
  obtain⟨m,C,h⟩:=mz R p e j u (b::l) (fun x G=>hp x (List.mem_cons_of_mem _ G)) (by simp);have F:=hp m (List.mem_cons_of_mem _ C);have A:=hp a (by simp);by_cases E:R m a
  ·exact⟨m,List.mem_cons_of_mem _ C,fun q i=>by
    rcases List.mem_cons.mp i with rfl|i
    ·exact E
    ·exact h q i⟩
  ·exact⟨a,by simp,fun q i=>by
    rcases List.mem_cons.mp i with rfl|i
    ·exact e _ A
    ·exact u a m q A F (hp q (List.mem_cons_of_mem _ i)) (j m a F A E) (h q i)⟩
theorem edge{n:V}{b:Nat}(hF:Face P N n b)(A:iC P N){a c:Nat}(ha:a∈aI P N n b)(hc:c∈aI P N n b)(Y:P c-P a≠V.zero)(hs:∀q∈aI P N n b,0<=T n (P c-P a) (P q-P a)):
 ∃n',Face P N n' a/\dot n' (P c-P a)=0/\∀t∈aI P N n b,0<T n (P c-P a) (P t-P a)->dot n' (P t-P a)≠0:=by
 obtain⟨X,an⟩:=aG.mp ha;obtain⟨aa,ao⟩:=aG.mp hc;have he:dot n (P c-P a)=0:=by simp only[bn]at *;omega
 have j:∀q,dot n (P q-P a)=dot n (P q-P b):=fun q=>by simp only[bn]at *;omega
 obtain⟨q0,Q,R⟩:=A n hF.n0 b;have u:∀x y z:V,dot n z*0=0->dot n y*dot (P c-P a) (cross x z)=dot n z*dot (P c-P a) (cross x y)+dot n x*dot (P c-P a) (cross y z):=fun x y z _=>by
  have:dot n y*dot (P c-P a) (cross x z)=dot n z*dot (P c-P a) (cross x y)+dot n x*dot (P c-P a) (cross y z)-dot n (P c-P a)*dot x (cross y z):=by simp only[dot,cross];grind
  rw[he]at this;omega
 obtain⟨m,hm,E⟩:=mz (fun x y=>0<=dot (P c-P a) (cross (P x-P a) (P y-P a))) (fun x=>dot n (P x-P a)<0)
  (fun x _=>by
   have:dot (P c-P a) (cross (P x-P a) (P x-P a))=0:=by simp only[dot,cross];grind
   omega)
  (fun x y _ _ h=>by
   have:dot (P c-P a) (cross (P y-P a) (P x-P a))=- dot (P c-P a) (cross (P x-P a) (P y-P a)):=by simp only[dot,cross];grind
   omega)
  (fun x y z hx hy hz h1 h2=>by
   have e:=u (P x-P a) (P y-P a) (P z-P a) I;have m1:=Int.mul_nonneg (a:=- dot n (P z-P a)) I h1;have m2:=Int.mul_nonneg (a:=- dot n (P x-P a)) I h2
   rcases Int.lt_or_le (dot (P c-P a) (cross (P x-P a) (P z-P a))) 0 with h|h
   ·have m3:=Int.mul_pos_of_neg_of_neg hy h
    rw[Int.neg_mul]at m1 m2;omega
   ·exact h)
  ((List.range N).filter fun q=>dot n (P q-P a)<0)
  (fun x hx=>by simpa using(List.mem_filter.mp hx).2)
  (List.ne_nil_of_mem (a:=q0) (List.mem_filter.mpr ⟨List.mem_range.mpr Q,by have:=hF.o q0 Q;rw[<-j]at this R;simp;omega⟩))
 have ac:m<N:=List.mem_range.mp (List.mem_filter.mp hm).1;have ad:dot n (P m-P a)<0:=by simpa using(List.mem_filter.mp hm).2
 have G:∀q∈aI P N n b,dot n n*dot (cross (P c-P a) (P m-P a)) (P q-P a)=- (dot n (P m-P a))*T n (P c-P a) (P q-P a):=fun q J=>by
  have af:dot n (P q-P a)=0:=by rw[j];exact(aG.mp J).2
  have U:dot (cross (P c-P a) (P m-P a)) (P q-P a)=- dot (P m-P a) (cross (P c-P a) (P q-P a)):=by simp only[dot,cross];grind
  rw[U,Int.mul_neg,gF n (P c-P a) (P q-P a) (P m-P a) he af,cJ (P m-P a) n,Int.neg_mul]
 have F:=dj hF.n0;have C:∀q,q<N->0<=dot (cross (P c-P a) (P m-P a)) (P q-P a):=fun q J=>by
  by_cases ag:dot n (P q-P b)=0
  ·have L:=aG.mpr ⟨J,ag⟩
   have:=G q L;have W:=Int.mul_nonneg (a:=-(dot n (P m-P a))) I (hs q L);rw[<-this]at W;exact Int.nonneg_of_mul_nonneg_right W F |> fun h=>h
  ·have:=E q (List.mem_filter.mpr ⟨List.mem_range.mpr J,by have:=hF.o q J;rw[j];simp;omega⟩)
   have U:dot (cross (P c-P a) (P m-P a)) (P q-P a)=dot (P c-P a) (cross (P m-P a) (P q-P a)):=by simp only[dot,cross];grind
   omega
 have h0:cross (P c-P a) (P m-P a)≠V.zero:=by
  intro h0;have hz:∀i,dot i (cross n (cross (P c-P a) (P m-P a)))=dot n (P m-P a)*dot i (P c-P a)-dot n (P c-P a)*dot i (P m-P a):=fun i=>by simp only[dot,cross];grind
  have:=hz (P c-P a);rw[h0,he]at this;have U:dot (P c-P a) (cross n V.zero)=0:=by simp only[dot,cross,V.zero];grind
  rw[U,Int.zero_mul,Int.sub_zero]at this;have ab:=dj Y;have:=Int.mul_neg_of_neg_of_pos ad ab;omega
 refine⟨_,oV X aa ac h0 C,?_,fun t ht H=>?_⟩
 ·simp only[dot,cross,neg_x,neg_y,neg_z];grind
 ·rw[bG]
  have W:=G t ht;have h4:=Int.mul_pos (a:=-(dot n (P m-P a))) I H;rw[<-W]at h4;have:=Int.pos_of_mul_pos_right h4 F;omega
def nJ(P:Nat->V)(N:Nat)(v:Nat):Prop:=
 (∃n b,Face P N n b/\dot n (P v-P b)=0)/\∀t,t<N->t≠v->∃n b,Face P N n b/\dot n (P v-P b)=0/\dot n (P t-P b)≠0
def Top(P:Nat->V)(N:Nat)(v:Nat):Prop:=∃g,∀q,q<N->q≠v->0<dot g (P q-P v)
theorem nJ.top{v:Nat}(h:nJ P N v):Top P N v:=by
 have:∀l:List Nat,(∀t∈l,t<N)->∃g,(∀q,q<N->0<=dot g (P q-P v))/\∀t∈l,t≠v->0<dot g (P t-P v):=by
  intro l
  induction l with
  | nil=>intro _;exact⟨V.zero,fun q _=>by simp[dot,V.zero],by simp⟩
  | cons t l ih =>
   intro G;obtain⟨g,F,C⟩:=ih fun x i=>G x (List.mem_cons_of_mem _ i)
   by_cases u:t=v
   ·refine⟨g,F,fun x i j=>?_⟩
    rcases List.mem_cons.mp i with rfl|i
    ·exact absurd u j
    ·exact C x i j
   ·obtain⟨n,b,hF,L,Q⟩:=h.2 t (G t (by simp)) u
    have e:∀w,dot ⟨g.x-n.x,g.y-n.y,g.z-n.z⟩ w=dot g w-dot n w:=fun w=>by simp only[dot];grind
    have hb:∀q,dot n (P q-P v)=dot n (P q-P b):=fun q=>by simp only[bn]at *;omega
    refine⟨⟨g.x-n.x,g.y-n.y,g.z-n.z⟩,fun q E=>?_,fun x i j=>?_⟩
    ·rw[e,hb];have:=F q E;have:=hF.o q E;omega
    ·rw[e,hb]
     have A:=G x i;have:=hF.o x A
     rcases List.mem_cons.mp i with rfl|i
     ·have:=F x A;omega
     ·have:=C x i j;omega
 obtain⟨g,_,C⟩:=this (List.range N) fun t J=>List.mem_range.mp J
 exact⟨g,fun q E H=>C q (List.mem_range.mpr E) H⟩
theorem Top.vert{v:Nat}(h:Top P N v){n:V}{b:Nat}(u:v∈aI P N n b):gh P (aI P N n b) v:=by
 obtain⟨g,i⟩:=h;exact⟨u,g,fun q j e=>i q (aG.mp j).1 e⟩
theorem kR(n e u w:V)(C:e≠V.zero)(E:dot n e=0)(F:dot n u=0)(G:dot n w=0)(i:T n e u=0)(j:T n e w=0):T n u w=0:=by
 have h:=tu F G E e;rw[lO n e w,i,j]at h;have:=dj C;have A:dot e e*T n u w=0:=by simpa using h
 exact(Int.mul_eq_zero.mp A).resolve_left I
theorem Face.extr{n:V}{b:Nat}(hF:Face P N n b)(Q:Inj P N)(C:iC P N){v:Nat}(F:gh P (aI P N n b) v):nJ P N v:=by
 have W:=hF.flat Q;refine⟨⟨n,b,hF,(aG.mp F.1).2⟩,fun t ht ad=>?_⟩;by_cases R:dot n (P t-P b)=0
 case neg=>exact⟨n,b,hF,(aG.mp F.1).2,R⟩
 have A:=aG.mpr ⟨ht,R⟩;obtain⟨a,ha,G⟩:=vert_prev W hF.two F;have e:=(oQ W F (hF.two v)).2;generalize nx P (aI P N n b) n v=c at e;have u:∀{x y:Nat},x∈aI P N n b->y∈aI P N n b->x≠y->P x-P y≠V.zero:=fun{x y} U hy af h0=>af (W.inj x U y hy (by
  have U:=congrArg V.x h0;have hy:=congrArg V.y h0;have hz:=congrArg V.z h0;simp only[sub_x,sub_y,sub_z,V.zero]at U hy hz;apply V.ext'<;>omega))
 have s1:∀q∈aI P N n b,0<=T n (P v-P a) (P q-P a):=fun q L=>by
  by_cases E:q=a
  ·subst E
   have:T n (P v-P q) (P q-P q)=0:=by simp only[T_sub];omega
   omega
  ·exact(G.2.2 q L E).nonneg
 have s2:∀q∈aI P N n b,0<=T n (P c-P v) (P q-P v):=fun q L=>by
  by_cases E:q=v
  ·subst E
   have:T n (P c-P q) (P q-P q)=0:=by simp only[T_sub];omega
   omega
  ·exact(e.2.2 q L E).nonneg
 by_cases h1:0<T n (P v-P a) (P t-P a)
 ·obtain⟨n',H,h3,h4⟩:=edge hF C ha.1 F.1 (u F.1 ha.1 G.2.1) s1
  exact⟨n',a,H,h3,h4 t A h1⟩
 by_cases h2:0<T n (P c-P v) (P t-P v)
 ·obtain⟨n',H,h3,h4⟩:=edge hF C F.1 e.1 (u e.1 F.1 e.2.1) s2
  exact⟨n',v,H,by simp only[bn];omega,h4 t A h2⟩
 exfalso;have z1:T n (P v-P a) (P t-P a)=0:=by have:=s1 t A;omega
 have z2:T n (P c-P v) (P t-P v)=0:=by have:=s2 t A;omega
 have pl:=fun x U=>W.pl x U v F.1
 have ag:T n (P t-P v) (P a-P v)=0:=by
  have:T n (P v-P a) (P t-P a)=T n (P t-P v) (P a-P v):=by simp only[T,dot,cross,sub_x,sub_y,sub_z];grind
  omega
 have an:T n (P t-P v) (P c-P v)=0:=by rw[lO,z2];rfl
 have ac:=u A F.1 ad;have aa:T n (P c-P v) (P a-P v)=0:=kR n _ _ _ ac (pl t A) (pl c e.1) (pl a ha.1) an ag;obtain⟨_,g,hg⟩:=F;have ga:=hg a ha.1 (Ne.symm G.2.1);have gc:=hg c e.1 e.2.1;have all:∀q∈aI P N n b,T n (P c-P v) (P q-P v)=0:=fun q L=>by
  have k1:=s1 q L;have k2:=s2 q L;have e1:T n (P v-P a) (P q-P a)=- T n (P a-P v) (P q-P v):=by simp only[T,dot,cross,sub_x,sub_y,sub_z];grind
  have hp:=tu (pl c e.1) (pl a ha.1) (pl q L) g;rw[aa,lO n (P c-P v) (P q-P v)]at hp;rw[e1]at k1;have m1:=Int.mul_nonneg (Int.le_of_lt gc) (b:=- T n (P a-P v) (P q-P v)) I
  rcases Int.lt_or_eq_of_le k2 with h|h
  ·have m2:=Int.mul_pos ga h
   rw[Int.mul_neg]at hp m1;omega
  ·exact h.symm
 obtain⟨i,j,k,_,_,hi,X,Y,ab⟩:=hF.points;have J:=u e.1 G.1 e.2.1;have w1:=kR n _ _ _ J (pl c e.1) (pl i hi) (pl j X) (all i hi) (all j X);have w2:=kR n _ _ _ J (pl c e.1) (pl i hi) (pl k Y) (all i hi) (all k Y);have w3:=kR n _ _ _ J (pl c e.1) (pl j X) (pl k Y) (all j X) (all k Y);apply ab;have:T n (P j-P i) (P k-P i)=T n (P j-P v) (P k-P v)-T n (P i-P v) (P k-P v)+T n (P i-P v) (P j-P v):=by simp only[T,dot,cross,sub_x,sub_y,sub_z];grind
 omega
def Lex(a b:V):Prop:=a.x<b.x\/a.x=b.x/\(a.y<b.y\/a.y=b.y/\a.z<b.z)
def mP(a:V):Prop:=(-4096<=a.x/\a.x<=4096)/\(-4096<=a.y/\a.y<=4096)/\(-4096<=a.z/\a.z<=4096)
structure Sorted (P:Nat→V) (N:Nat):Prop where
 lt:∀ p q,p<q→q<N→Lex (P p) (P q)
 near:∀ p,p<N→mP (P p)
theorem Sorted.inj(h:Sorted P N):Inj P N:=fun p j q u e=>by
 refine Decidable.byContradiction fun i=>?_
 rcases Nat.lt_or_gt_of_ne i with l|l
 ·have:=h.lt p q l u;rw[e]at this;unfold Lex at this;omega
 ·have:=h.lt q p l j;rw[e]at this;unfold Lex at this;omega
theorem lex_pos{a b:V}(h:Lex a b)(ha:mP a)(hb:mP b):0<dot ⟨100000000,10000,1⟩ (b-a):=by
 unfold mP at ha hb;unfold Lex at h;simp only[dot,sub_x,sub_y,sub_z];omega
theorem head_filter(p:Nat->Bool):∀(l:List Nat),l.Pairwise (· < ·)->∀q∈l.filter p,(l.filter p).headD 0∈l.filter p/\((l.filter p).headD 0<=q):=by
 intro l j q e;have i:=List.Pairwise.filter p j;revert e i
 cases l.filter p with
 | nil=>intro h;simp at h
 | cons a m =>
  intro e i;refine⟨by simp,?_⟩
  rcases List.mem_cons.mp e with rfl|e
  ·simp
  ·have:=(List.pairwise_cons.mp i).1 q e
   simp;omega
theorem Face.head{n:V}{b:Nat}(hF:Face P N n b)(hS:Sorted P N):gh P (aI P N n b) ((aI P N n b).headD 0):=by
 obtain⟨i,_,_,_,_,hi,_⟩:=hF.points;have j:=fun q e=>head_filter (fun q=>decide (dot n (P q-P b)=0)) (List.range N) List.pairwise_lt_range q e
 refine⟨(j i hi).1,⟨100000000,10000,1⟩,fun q e u=>?_⟩;have C:=(j q e).2;have A:=(aG.mp e).1;exact lex_pos (hS.lt _ q (by unfold aI at u⊢;omega) A) (hS.near _ (aG.mp (j i hi).1).1) (hS.near q A)
theorem Face.ring_mem{n:V}{b:Nat}(hF:Face P N n b)(hS:Sorted P N)(v:Nat):v∈ring P (aI P N n b) n↔gh P (aI P N n b) v:=
 Υ.ring_mem (hF.flat hS.inj) hF.two (hF.head hS)
theorem extr_iff(hS:Sorted P N)(e:iC P N)(v:Nat):(v<N/\nJ P N v)↔∃n b,Face P N n b/\v∈ring P (aI P N n b) n:=by
 constructor
 ·rintro⟨j,h⟩
  obtain⟨n,b,hF,i⟩:=h.1;exact⟨n,b,hF,(hF.ring_mem hS v).mpr (h.top.vert (aG.mpr ⟨j,i⟩))⟩
 ·rintro⟨n,b,hF,i⟩
  have:=(hF.ring_mem hS v).mp i;exact⟨(aG.mp this.1).1,hF.extr hS.inj e this⟩
end
section
open V
variable {P : Nat → V} {N : Nat}
def eA(P:Nat->V)(N:Nat):Prop:=∃i j k m,i<N/\j<N/\k<N/\m<N/\dot (tri P i j k) (P m-P i)≠0
theorem eA.full(h:eA P N):iC P N:=by
 obtain⟨i,j,k,m,hi,C,E,F,e⟩:=h;intro n G b;refine Classical.byContradiction fun u=>?_
 have all:∀q,q<N->dot n (P q-P b)=0:=fun q A=>Classical.byContradiction fun h=>u ⟨q,A,h⟩
 have pl:∀q,q<N->dot n (P q-P i)=0:=fun q A=>by
  have:=all q A;have:=all i hi;simp only[bn]at *;omega
 have h:=det_n n (P m-P i) (P j-P i) (P k-P i) n;rw[pl j C,pl k E,pl m F]at h;simp only[Int.zero_mul,Int.add_zero]at h;have:=(Int.mul_eq_zero.mp h).resolve_right (by have:=dj G;omega);rw[cJ]at this;exact e this
theorem rF(i j k:Nat)(hi:i<N)(e:j<N)(u:k<N)(h0:tri P i j k≠V.zero):eA P N↔∃m,m<N/\dot (tri P i j k) (P m-P i)≠0:=by
 constructor
 ·intro h;exact h.full _ h0 i
 ·rintro⟨m,A,h⟩;exact⟨i,j,k,m,hi,e,u,A,h⟩
theorem tri_perm(P:Nat->V)(i j k:Nat):tri P j i k=-tri P i j k/\tri P i k j=-tri P i j k:=by
 unfold tri;constructor<;>(apply V.ext'<;>simp only[cross,sub_x,sub_y,sub_z,neg_x,neg_y,neg_z]<;>grind)
theorem jV(P:Nat->V)(i k:Nat):tri P i i k=V.zero/\tri P i k i=V.zero/\tri P i k k=V.zero:=by
 unfold tri;refine⟨?_,?_,?_⟩<;>(apply V.ext'<;>simp only[cross,sub_x,sub_y,sub_z,V.zero]<;>grind)
theorem tri_all(h:∀i j k,k<j->j<i->i<N->tri P i j k=V.zero)(i j k:Nat)(hi:i<N)(F:j<N)(G:k<N):tri P i j k=V.zero:=by
 have C:∀{a b c},tri P a b c=V.zero->tri P b a c=V.zero:=fun{a b c} h=>by rw[(tri_perm P a b c).1,h];rfl
 have E:∀{a b c},tri P a b c=V.zero->tri P a c b=V.zero:=fun{a b c} h=>by rw[(tri_perm P a b c).2,h];rfl
 rcases Nat.lt_trichotomy i j with A|rfl|A
 ·rcases Nat.lt_trichotomy i k with e|rfl|e
  ·rcases Nat.lt_trichotomy j k with u|rfl|u
   ·exact C (E (C (h k j i A u G)))
   ·exact(jV P i j).2.2
   ·exact C (E (h j k i e u F))
  ·exact(jV P i j).2.1
  ·exact C (h j i k e A F)
 ·exact(jV P i k).1
 ·rcases Nat.lt_trichotomy i k with e|rfl|e
  ·exact E (C (h k i j A e G))
  ·exact(jV P i j).2.1
  ·rcases Nat.lt_trichotomy j k with u|rfl|u
   ·exact E (h i k j u e hi)
   ·exact(jV P i j).2.2
   ·exact h i j k u A hi
theorem not_full4(h:∀i j k,k<j->j<i->i<N->tri P i j k=V.zero):¬ eA P N:=by
 rintro⟨i,j,k,m,hi,u,A,C,e⟩;rw[tri_all h i j k hi u A]at e;exact e (by simp[dot,V.zero])
def j6(p:Nat->Bool):Nat->Nat
 | 0=>0
 | k+1=>j6 p k ||| (if p k then 2 ^ k else 0)
theorem j5(p:Nat->Bool)(k i:Nat):(j6 p k).testBit i=(decide (i<k)&&p i):=by
 induction k with
 | zero=>simp[j6]
 | succ k ih =>
  unfold j6;rw[Nat.testBit_or,ih];by_cases j:p k=true
  ·rw[if_pos j,Nat.testBit_two_pow]
   by_cases hi:i=k
   ·subst hi;simp[j]
   ·rw[decide_eq_false (p:=k=i) (fun e=>hi e.symm),Bool.or_false]
    congr 1;simp;omega
  ·rw[if_neg j,Nat.zero_testBit,Bool.or_false]
   by_cases hi:i=k
   ·subst hi;simp[j]
   ·congr 1;simp;omega
theorem mr(p:Nat->Bool)(k:Nat):j6 p k<2 ^ k:=by
 induction k with
 | zero=>simp[j6]
 | succ k ih =>
  unfold j6;refine Nat.or_lt_two_pow (Nat.lt_of_lt_of_le ih (Nat.pow_le_pow_right I I)) ?_
  split
  ·exact Nat.pow_lt_pow_right I I
  ·exact Nat.two_pow_pos _
theorem jw(p q:Nat->Bool)(k:Nat)(h:∀i,i<k->p i=q i):j6 p k=j6 q k:=by
 refine Nat.eq_of_testBit_eq fun i=>?_
 rw[j5,j5];by_cases hi:i<k
 ·rw[h i hi]
 ·simp[hi]
theorem mask_inj(p q:Nat->Bool)(k:Nat)(h:j6 p k=j6 q k):∀i,i<k->p i=q i:=fun i hi=>by
 have:=congrArg (·.testBit i) h
 simpa[j5,hi]using this
theorem low_bit{m t:Nat}(L:m.testBit t=true)(A:∀i,i<t->m.testBit i=false)(i:Nat):(m &&& (m-1)).testBit i=(decide (t<i)&&m.testBit i):=by
 have j:m=2 ^ t*(m / 2 ^ t)+m % 2 ^ t:=(Nat.div_add_mod _ _).symm;have J:m % 2 ^ t=0:=Nat.eq_of_testBit_eq fun i=>by
  rw[Nat.testBit_mod_two_pow,Nat.zero_testBit];by_cases hi:i<t
  ·rw[A i hi];simp
  ·simp[hi]
 rw[J,Nat.add_zero]at j;have C:m / 2 ^ t % 2=1:=by
  have u:(m / 2 ^ t).testBit 0=true:=by rw[Nat.testBit_div_two_pow];simpa using L
  simpa[Nat.testBit_zero]using u
 generalize m / 2 ^ t=a at *;have Q:=Nat.two_pow_pos t;have e:m-1=2 ^ t*(a-1)+(2 ^ t-1):=by
  have:2 ^ t*a=2 ^ t*(a-1)+2 ^ t:=by
   rw[<-Nat.mul_succ];congr 1;omega
  omega
 rw[Nat.testBit_and,e,Nat.testBit_two_pow_mul_add _ I];by_cases u:i<t
 ·rw[A i u];simp
 ·rw[if_neg u]
  by_cases E:i=t
  ·subst E
   have:(a-1).testBit (i-i)=false:=by rw[Nat.sub_self,Nat.testBit_zero];simp;omega
   rw[this];simp
  ·have F:t<i:=I
   have H:m.testBit i=a.testBit (i-t):=by rw[j,Nat.testBit_two_pow_mul];simp;omega
   have:(a-1).testBit (i-t)=a.testBit (i-t):=by
    obtain⟨d,G⟩:∃d,i-t=d+1:=⟨i-t-1,by omega⟩;rw[G,Nat.testBit_succ,Nat.testBit_succ];congr 1;omega
   rw[H,this];simp[F]
end
section
open V
structure Pl where
 n:V
 o:Int
deriving DecidableEq
def cO(a:V):Nat:=Nat.gcd (Nat.gcd a.x.natAbs a.y.natAbs) a.z.natAbs
def aR(a:V):V:=⟨a.x.tdiv (cO a),a.y.tdiv (cO a),a.z.tdiv (cO a)⟩
theorem gcdV_x(a:V):(cO a:Int)∣a.x:=Int.ofNat_dvd_left.mpr (Nat.dvd_trans (Nat.gcd_dvd_left _ _) (Nat.gcd_dvd_left _ _))
theorem gcdV_y(a:V):(cO a:Int)∣a.y:=Int.ofNat_dvd_left.mpr (Nat.dvd_trans (Nat.gcd_dvd_left _ _) (Nat.gcd_dvd_right _ _))
theorem gcdV_z(a:V):(cO a:Int)∣a.z:=Int.ofNat_dvd_left.mpr (Nat.gcd_dvd_right _ _)
theorem fB{a:V}(h:a≠V.zero):0<cO a:=by
 refine Nat.pos_of_ne_zero fun h0=>h ?_
 have e:=Nat.eq_zero_of_gcd_eq_zero_left h0;have i:=Nat.eq_zero_of_gcd_eq_zero_right h0;have j:=Nat.eq_zero_of_gcd_eq_zero_left e;have u:=Nat.eq_zero_of_gcd_eq_zero_right e;exact V.ext' (Int.natAbs_eq_zero.mp j) (Int.natAbs_eq_zero.mp u) (Int.natAbs_eq_zero.mp i)
theorem i7(a:V):a.x=(cO a:Int)*(aR a).x/\a.y=(cO a:Int)*(aR a).y/\a.z=(cO a:Int)*(aR a).z:=
 ⟨(Int.mul_tdiv_cancel' (gcdV_x a)).symm,(Int.mul_tdiv_cancel' (gcdV_y a)).symm,(Int.mul_tdiv_cancel' (gcdV_z a)).symm⟩
theorem fW(a b:V):dot a b=(cO a:Int)*dot (aR a) b:=by
 obtain⟨e,i,j⟩:=i7 a;generalize(cO a:Int)=g at *;unfold dot;rw[e,i,j]
 grind
theorem im{a:V}(h:a≠V.zero):aR a≠V.zero:=fun e=>h (by
 obtain⟨i,j,u⟩:=i7 a;rw[e]at i j u;exact V.ext' (i.trans (by simp[V.zero])) (j.trans (by simp[V.zero])) (u.trans (by simp[V.zero])))
theorem tf{x k:Int}(g:Nat)(h:-k<=x/\x<=k)(i:0<=k):-k<=x.tdiv g/\x.tdiv g<=k:=by
 have e:(x.tdiv g).natAbs<=x.natAbs:=by
  rw[Int.natAbs_tdiv];exact Nat.div_le_self _ _
 omega
def rS(P:Nat->V)(len:Nat)(out:List Pl)(p:Pl):List Pl:=
 if(List.range len).any (fun i=>decide (dot p.n (P i) > p.o))then out else if p∈out then out else out++[p]
def stepR(P:Nat->V)(len i j k:Nat)(out:List Pl):List Pl:=
 if tri P i j k=V.zero then out else
  rS P len (rS P len out ⟨aR (tri P i j k),dot (aR (tri P i j k)) (P i)⟩) ⟨-aR (tri P i j k),dot (-aR (tri P i j k)) (P i)⟩
def kC(P:Nat->V)(len i j:Nat):Nat->List Pl->List Pl
 | 0,out=>out
 | k+1,out=>stepR P len i j k (kC P len i j k out)
def kD(P:Nat->V)(len i:Nat):Nat->List Pl->List Pl
 | 0,out=>out
 | j+1,out=>kC P len i j j (kD P len i j out)
def kE(P:Nat->V)(len:Nat):Nat->List Pl
 | 0=>[]
 | i+1=>kD P len i i (kE P len i)
def cw(P:Nat->V)(len:Nat):List Pl:=kE P len len
def PlOk(P:Nat->V)(len i j k:Nat)(p:Pl):Prop:=
 tri P i j k≠V.zero/\(p.n=aR (tri P i j k)\/p.n=-aR (tri P i j k))/\p.o=dot p.n (P i)/\∀q,q<len->dot p.n (P q)<=p.o
theorem sC{P:Nat->V}{len:Nat}{out:List Pl}{p x:Pl}:x∈rS P len out p↔x∈out\/(x=p/\∀q,q<len->dot p.n (P q)<=p.o):=by
 unfold rS
 split
 ·rename_i h
  obtain⟨q,u,A⟩:=List.any_eq_true.mp h;refine⟨Or.inl,?_⟩;rintro(e|⟨_,i⟩)
  ·exact e
  ·have:=i q (List.mem_range.mp u);have:=of_decide_eq_true A;omega
 ·rename_i h
  have j:∀q,q<len->dot p.n (P q)<=p.o:=fun q u=>Classical.byContradiction fun hc=>h (List.any_eq_true.mpr ⟨q,List.mem_range.mpr u,decide_eq_true I⟩)
  split
  ·rename_i C
   exact⟨Or.inl,fun e=>e.elim id fun i=>i.1▸C⟩
  ·rw[List.mem_append,List.mem_singleton]
   exact⟨fun e=>e.imp id fun i=>⟨i,j⟩,fun e=>e.imp id fun i=>i.1⟩
theorem om{P:Nat->V}{len:Nat}{out:List Pl}{p:Pl}(h:out.Nodup):(rS P len out p).Nodup:=by
 unfold rS
 split
 ·exact h
 ·split
  ·exact h
  ·rename_i i
   rw[List.nodup_append];exact⟨h,List.pairwise_singleton _ _,fun a ha b hb=>by rw[List.mem_singleton]at hb;subst hb;exact fun e=>i (e▸ha)⟩
theorem mem_stepR{P:Nat->V}{len i j k:Nat}{out:List Pl}{x:Pl}:x∈stepR P len i j k out↔x∈out\/PlOk P len i j k x:=by
 unfold stepR PlOk
 split
 ·rename_i h;exact⟨Or.inl,fun u=>u.elim id fun e=>absurd h e.1⟩
 ·rename_i h
  rw[sC,sC]
  constructor
  ·rintro((u|⟨rfl,e⟩)|⟨rfl,e⟩)
   ·exact .inl u
   ·exact .inr ⟨h,.inl rfl,rfl,e⟩
   ·exact .inr ⟨h,.inr rfl,rfl,e⟩
  ·rintro(u|⟨_,e|e,A,C⟩)
   ·exact .inl (.inl u)
   ·obtain⟨n,o⟩:=x;dsimp only at e A C;subst e;subst A;exact .inl (.inr ⟨rfl,C⟩)
   ·obtain⟨n,o⟩:=x;dsimp only at e A C;subst e;subst A;exact .inr ⟨rfl,C⟩
theorem nodup_stepR{P:Nat->V}{len i j k:Nat}{out:List Pl}(h:out.Nodup):(stepR P len i j k out).Nodup:=by
 unfold stepR
 split
 ·exact h
 ·exact om (om h)
theorem oo{P:Nat->V}{len i j:Nat}{out:List Pl}{x:Pl}:∀K,x∈kC P len i j K out↔x∈out\/∃k,k<K/\PlOk P len i j k x
 | 0=>by simp[kC]
 | K+1=>by
  rw[kC,mem_stepR,oo K]
  constructor
  ·rintro((h|⟨k,u,h⟩)|h)
   ·exact .inl h
   ·exact .inr ⟨k,by omega,h⟩
   ·exact .inr ⟨K,by omega,h⟩
  ·rintro(h|⟨k,u,h⟩)
   ·exact .inl (.inl h)
   ·by_cases e:k=K
    ·exact .inr (e▸h)
    ·exact .inl (.inr ⟨k,by omega,h⟩)
theorem oq{P:Nat->V}{len i:Nat}{out:List Pl}{x:Pl}:∀J,x∈kD P len i J out↔x∈out\/∃j k,k<j/\j<J/\PlOk P len i j k x
 | 0=>by simp[kD]
 | J+1=>by
  rw[kD,oo,oq J]
  constructor
  ·rintro((h|⟨j,k,u,A,h⟩)|⟨k,hk,h⟩)
   ·exact .inl h
   ·exact .inr ⟨j,k,u,by omega,h⟩
   ·exact .inr ⟨J,k,hk,by omega,h⟩
  ·rintro(h|⟨j,k,u,A,h⟩)
   ·exact .inl (.inl h)
   ·by_cases e:j=J
    ·subst e;exact .inr ⟨k,u,h⟩
    ·exact .inl (.inr ⟨j,k,u,by omega,h⟩)
theorem ot{P:Nat->V}{len:Nat}{x:Pl}:∀E,x∈kE P len E↔∃i j k,k<j/\j<i/\i<E/\PlOk P len i j k x
 | 0=>by simp[kE]
 | E+1=>by
  rw[kE,oq,ot E]
  constructor
  ·rintro(⟨i,j,k,u,A,C,h⟩|⟨j,k,u,A,h⟩)
   ·exact⟨i,j,k,u,A,by omega,h⟩
   ·exact⟨E,j,k,u,A,by omega,h⟩
  ·rintro⟨i,j,k,u,A,C,h⟩
   by_cases e:i=E
   ·subst e;exact .inr ⟨j,k,u,A,h⟩
   ·exact .inl ⟨i,j,k,u,A,by omega,h⟩
theorem dI{P:Nat->V}{len:Nat}{x:Pl}:x∈cw P len↔∃i j k,k<j/\j<i/\i<len/\PlOk P len i j k x:=ot len
theorem kY{P:Nat->V}{len i j:Nat}{out:List Pl}(h:out.Nodup):∀K,(kC P len i j K out).Nodup
 | 0=>h
 | K+1=>nodup_stepR (kY h K)
theorem kZ{P:Nat->V}{len i:Nat}{out:List Pl}(h:out.Nodup):∀J,(kD P len i J out).Nodup
 | 0=>h
 | J+1=>kY (kZ h J) J
theorem ld{P:Nat->V}{len:Nat}:∀e,(kE P len e).Nodup
 | 0=>List.nodup_nil
 | e+1=>kZ (ld e) e
theorem rx{P:Nat->V}{len:Nat}:(cw P len).Nodup:=ld len
def onR(p:V)(l:List Pl):Nat:=(l.filter fun m=>decide (dot m.n p=m.o)).length
def allR(p q:V)(l:List Pl):Bool:=l.all fun m=>decide (dot m.n p≠m.o) || decide (dot m.n q=m.o)
def iu(P:Nat->V)(len:Nat)(l:List Pl)(p:V):Bool:=
 decide (0<onR p l)&&(List.range len).all fun i=>decide (P i=p) || !allR p (P i) l
theorem onR_pos{p:V}{l:List Pl}:0<onR p l↔∃m∈l,dot m.n p=m.o:=by
 unfold onR;rw[List.length_pos_iff_exists_mem]
 constructor
 ·rintro⟨m,j⟩;obtain⟨e,i⟩:=List.mem_filter.mp j;exact⟨m,e,of_decide_eq_true i⟩
 ·rintro⟨m,e,i⟩;exact⟨m,List.mem_filter.mpr ⟨e,decide_eq_true i⟩⟩
theorem jH{p q:V}{l:List Pl}:allR p q l=false↔∃m∈l,dot m.n p=m.o/\dot m.n q≠m.o:=by
 unfold allR;rw[List.all_eq_false]
 constructor
 ·rintro⟨m,i,e⟩
  simp only[Bool.or_eq_true,decide_eq_true_eq,not_or,Classical.not_not]at e;exact⟨m,i,e⟩
 ·rintro⟨m,i,e⟩
  refine⟨m,i,?_⟩;simp only[Bool.or_eq_true,decide_eq_true_eq,not_or,Classical.not_not];exact e
theorem Face.pl{P:Nat->V}{N:Nat}{n:V}{b:Nat}(h:Face P N n b):∃m∈cw P N,∀w,dot m.n w=m.o↔dot n (w-P b)=0:=by
 obtain⟨i,j,k,E,F,G,h0,Q,H⟩:=h.three;have key:∀w,dot n (w-P b)=0↔dot n w=dot n (P i):=fun w=>by
  have:=H w;rw[<-this,bn];omega
 have L:=fB h0;have A:∀q,q<N->dot n (P q)<=dot n (P i):=fun q C=>by
  have a:=h.o q C;rw[<-H,bn]at a;omega
 have u:=fW (tri P i j k);generalize cO (tri P i j k)=g at *
 rcases Q with rfl|rfl
 ·refine⟨⟨aR (tri P i j k),dot (aR (tri P i j k)) (P i)⟩,dI.mpr ⟨i,j,k,E,F,G,h0,.inl rfl,rfl,fun q C=>?_⟩,fun w=>?_⟩
  ·have:=A q C;rw[u,u]at this;exact Int.le_of_mul_le_mul_left this I
  ·rw[key,u,u (P i)]
   exact⟨fun e=>by show(g:Int)*_=_;rw[e],fun e=>Int.eq_of_mul_eq_mul_left I e⟩
 ·refine⟨⟨-aR (tri P i j k),dot (-aR (tri P i j k)) (P i)⟩,dI.mpr ⟨i,j,k,E,F,G,h0,.inr rfl,rfl,fun q C=>?_⟩,fun w=>?_⟩
  ·have:=A q C;rw[bG,bG,u,u]at this
   show dot (-aR _) _<=dot (-aR _) _;rw[bG,bG];have:(g:Int)*dot (aR (tri P i j k)) (P i)<=g*dot (aR (tri P i j k)) (P q):=I;have:=Int.le_of_mul_le_mul_left this I;omega
  ·rw[key]
   show dot (-aR _) w=dot (-aR _) (P i)↔_;rw[bG,bG,bG,bG,u,u (P i)]
   constructor
   ·intro e;have:dot (aR (tri P i j k)) w=dot (aR (tri P i j k)) (P i):=I
    rw[this]
   ·intro e
    have J:(g:Int)*dot (aR (tri P i j k)) w=g*dot (aR (tri P i j k)) (P i):=I;have:=Int.eq_of_mul_eq_mul_left I J;omega
theorem tw{P:Nat->V}{N:Nat}{m:Pl}(h:m∈cw P N):∃n b,Face P N n b/\b<N/\∀w,dot m.n w=m.o↔dot n (w-P b)=0:=by
 obtain⟨i,j,k,F,G,C,h0,J,L,A⟩:=dI.mp h;have H:=fB h0;have u:=fW (tri P i j k);obtain⟨Q,R⟩:=m;dsimp only at *;subst L;generalize cO (tri P i j k)=g at *
 rcases J with rfl|rfl
 ·refine⟨tri P i j k,i,⟨⟨i,j,k,F,G,C,h0,.inl rfl,fun w=>rfl⟩,fun q E=>?_⟩,C,fun w=>?_⟩
  ·rw[bn,u,u (P i)]
   have:=Int.mul_le_mul_of_nonneg_left (A q E) (show(0:Int)<=g by omega);omega
  ·rw[bn,u,u (P i)]
   constructor
   ·intro e;rw[e];omega
   ·intro e;exact Int.eq_of_mul_eq_mul_left (show(g:Int)≠0 by omega) I
 ·refine⟨-tri P i j k,i,⟨⟨i,j,k,F,G,C,h0,.inr rfl,fun w=>rfl⟩,fun q E=>?_⟩,C,fun w=>?_⟩
  ·rw[bn,bG,bG,u,u (P i)]
   have:=A q E;rw[bG,bG]at this;have:=Int.mul_le_mul_of_nonneg_left (show dot (aR (tri P i j k)) (P i)<=dot (aR (tri P i j k)) (P q) by omega) (show(0:Int)<=g by omega);omega
  ·rw[bn,bG,bG,bG,bG,u,u (P i)]
   constructor
   ·intro e;have:dot (aR (tri P i j k)) w=dot (aR (tri P i j k)) (P i):=I
    rw[this];omega
   ·intro e
    have:=Int.eq_of_mul_eq_mul_left (show(g:Int)≠0 by omega) (show(g:Int)*dot (aR (tri P i j k)) w=g*dot (aR (tri P i j k)) (P i) by omega);omega
theorem mB{P:Nat->V}{N:Nat}(hi:Inj P N)(v:Nat)(W:v<N):iu P N (cw P N) (P v)=true↔nJ P N v:=by
 unfold iu nJ;rw[Bool.and_eq_true,decide_eq_true_iff,onR_pos,List.all_eq_true]
 constructor
 ·rintro⟨⟨m,H,G⟩,i⟩
  obtain⟨n,b,hF,_,L⟩:=tw H;refine⟨⟨n,b,hF,(L _).mp G⟩,fun t C J=>?_⟩;have:=i t (List.mem_range.mpr C);rw[Bool.or_eq_true,decide_eq_true_iff,Bool.not_eq_true',jH]at this
  rcases this with h|⟨R,A,E,F⟩
  ·exact absurd (hi t C v W h) J
  ·obtain⟨U,Q,u,_,j⟩:=tw A
   exact⟨U,Q,u,(j _).mp E,fun h=>F ((j _).mpr h)⟩
 ·rintro⟨⟨n,b,hF,G⟩,i⟩
  obtain⟨m,H,L⟩:=hF.pl;refine⟨⟨m,H,(L _).mpr G⟩,fun t C=>?_⟩;rw[Bool.or_eq_true,decide_eq_true_iff,Bool.not_eq_true',jH];by_cases e:t=v
  ·exact .inl (by rw[e])
  ·obtain⟨U,Q,u,E,F⟩:=i t (List.mem_range.mp C) e
   obtain⟨R,A,j⟩:=u.pl;exact .inr ⟨R,A,(j _).mpr E,fun h=>F ((j _).mp h)⟩
end
section
open V
variable {P : Nat → V} {N : Nat}
theorem turned{n:V}{b:Nat}(G:n≠V.zero)(A:∀q,q<N->dot n (P q-P b)<=0)(C:iC P N){a c:Nat}(ha:a∈aI P N n b)(hc:c∈aI P N n b)(ab:P c-P a≠V.zero)(hs:∀q∈aI P N n b,0<=T n (P c-P a) (P q-P a)):
 ∃n',Face P N n' a/\dot n' (P c-P a)=0/\∀t∈aI P N n b,0<T n (P c-P a) (P t-P a)->dot n' (P t-P a)≠0:=by
 obtain⟨aa,ap⟩:=aG.mp ha;obtain⟨ac,ar⟩:=aG.mp hc;have he:dot n (P c-P a)=0:=by simp only[bn]at *;omega
 have j:∀q,dot n (P q-P a)=dot n (P q-P b):=fun q=>by simp only[bn]at *;omega
 obtain⟨q0,U,W⟩:=C n G b;have u:∀x y z:V,dot n z*0=0->dot n y*dot (P c-P a) (cross x z)=dot n z*dot (P c-P a) (cross x y)+dot n x*dot (P c-P a) (cross y z):=fun x y z _=>by
  have:dot n y*dot (P c-P a) (cross x z)=dot n z*dot (P c-P a) (cross x y)+dot n x*dot (P c-P a) (cross y z)-dot n (P c-P a)*dot x (cross y z):=by simp only[dot,cross];grind
  rw[he]at this;omega
 obtain⟨m,hm,F⟩:=mz (fun x y=>0<=dot (P c-P a) (cross (P x-P a) (P y-P a))) (fun x=>dot n (P x-P a)<0)
  (fun x _=>by
   have:dot (P c-P a) (cross (P x-P a) (P x-P a))=0:=by simp only[dot,cross];grind
   omega)
  (fun x y _ _ h=>by
   have:dot (P c-P a) (cross (P y-P a) (P x-P a))=- dot (P c-P a) (cross (P x-P a) (P y-P a)):=by simp only[dot,cross];grind
   omega)
  (fun x y z hx hy hz h1 h2=>by
   have e:=u (P x-P a) (P y-P a) (P z-P a) I;have m1:=Int.mul_nonneg (a:=- dot n (P z-P a)) I h1;have m2:=Int.mul_nonneg (a:=- dot n (P x-P a)) I h2
   rcases Int.lt_or_le (dot (P c-P a) (cross (P x-P a) (P z-P a))) 0 with h|h
   ·have m3:=Int.mul_pos_of_neg_of_neg hy h
    rw[Int.neg_mul]at m1 m2;omega
   ·exact h)
  ((List.range N).filter fun q=>dot n (P q-P a)<0)
  (fun x hx=>by simpa using(List.mem_filter.mp hx).2)
  (List.ne_nil_of_mem (a:=q0) (List.mem_filter.mpr ⟨List.mem_range.mpr U,by have:=A q0 U;rw[<-j]at this W;simp;omega⟩))
 have af:m<N:=List.mem_range.mp (List.mem_filter.mp hm).1;have ag:dot n (P m-P a)<0:=by simpa using(List.mem_filter.mp hm).2
 have J:∀q∈aI P N n b,dot n n*dot (cross (P c-P a) (P m-P a)) (P q-P a)=- (dot n (P m-P a))*T n (P c-P a) (P q-P a):=fun q Q=>by
  have an:dot n (P q-P a)=0:=by rw[j];exact(aG.mp Q).2
  have X:dot (cross (P c-P a) (P m-P a)) (P q-P a)=- dot (P m-P a) (cross (P c-P a) (P q-P a)):=by simp only[dot,cross];grind
  rw[X,Int.mul_neg,gF n (P c-P a) (P q-P a) (P m-P a) he an,cJ (P m-P a) n,Int.neg_mul]
 have H:=dj G;have E:∀q,q<N->0<=dot (cross (P c-P a) (P m-P a)) (P q-P a):=fun q Q=>by
  by_cases ao:dot n (P q-P b)=0
  ·have R:=aG.mpr ⟨Q,ao⟩
   have:=J q R;have Y:=Int.mul_nonneg (a:=-(dot n (P m-P a))) I (hs q R);rw[<-this]at Y;exact Int.nonneg_of_mul_nonneg_right Y H |> fun h=>h
  ·have:=F q (List.mem_filter.mpr ⟨List.mem_range.mpr Q,by have:=A q Q;rw[j];simp;omega⟩)
   have X:dot (cross (P c-P a) (P m-P a)) (P q-P a)=dot (P c-P a) (cross (P m-P a) (P q-P a)):=by simp only[dot,cross];grind
   omega
 have h0:cross (P c-P a) (P m-P a)≠V.zero:=by
  intro h0;have hz:∀i,dot i (cross n (cross (P c-P a) (P m-P a)))=dot n (P m-P a)*dot i (P c-P a)-dot n (P c-P a)*dot i (P m-P a):=fun i=>by simp only[dot,cross];grind
  have:=hz (P c-P a);rw[h0,he]at this;have X:dot (P c-P a) (cross n V.zero)=0:=by simp only[dot,cross,V.zero];grind
  rw[X,Int.zero_mul,Int.sub_zero]at this;have ad:=dj ab;have:=Int.mul_neg_of_neg_of_pos ag ad;omega
 refine⟨_,oV aa ac af h0 E,?_,fun t ht L=>?_⟩
 ·simp only[dot,cross,neg_x,neg_y,neg_z];grind
 ·rw[bG]
  have Y:=J t ht;have h4:=Int.mul_pos (a:=-(dot n (P m-P a))) I L;rw[<-Y]at h4;have:=Int.pos_of_mul_pos_right h4 H;omega
theorem comb_dot(s t:Int)(h g u:V):dot (⟨s*h.x-t*g.x,s*h.y-t*g.y,s*h.z-t*g.z⟩:V) u=s*dot h u-t*dot g u:=by simp only[dot];grind
theorem face_two{f:V}{v a:Nat}(U:v<N)(ha:a<N)(W:f≠V.zero)(u:dot f (P a-P v)=0)(i:∀q,q<N->0<=dot f (P q-P v))(L:P a-P v≠V.zero)(A:iC P N):
 ∃n,Face P N n v/\dot n (P a-P v)=0:=by
 by_cases hc:∃c,c<N/\dot f (P c-P v)=0/\cross (P a-P v) (P c-P v)≠V.zero
 ·obtain⟨c,C,H,F⟩:=hc
  have key:=gF f (P a-P v) (P c-P v);have J:=dj W
  rcases Int.le_total 0 (T f (P a-P v) (P c-P v))with h|h
  ·refine⟨_,oV U ha C F fun q j=>?_,?_⟩
   ·have e:=key (P q-P v) u H
    rw[cJ (P q-P v) f,cJ (P q-P v)]at e;have:=Int.mul_nonneg (i q j) h;rw[<-e]at this;exact Int.nonneg_of_mul_nonneg_right this J
   ·simp only[dot,cross,neg_x,neg_y,neg_z];grind
  ·have G:cross (P c-P v) (P a-P v)≠V.zero:=fun e=>F (by
    have Y:=congrArg V.x e;have hy:=congrArg V.y e;have hz:=congrArg V.z e;simp only[cross,V.zero]at Y hy hz;apply V.ext'<;>simp only[cross,V.zero]<;>grind)
   refine⟨_,oV U C ha G fun q j=>?_,?_⟩
   ·have e:=gF f (P c-P v) (P a-P v) (P q-P v) H u
    rw[cJ (P q-P v) f,cJ (P q-P v),lO]at e;have:=Int.mul_nonneg (i q j) (show 0 <= - T f (P a-P v) (P c-P v) by omega);rw[<-e]at this;exact Int.nonneg_of_mul_nonneg_right this J
   ·simp only[dot,cross,neg_x,neg_y,neg_z];grind
 ·have E:∀q,q<N->dot f (P q-P v)=0->cross (P a-P v) (P q-P v)=V.zero:=fun q j h0=>Classical.byContradiction fun h=>hc ⟨q,j,h0,h⟩
  obtain⟨n',hF,X,-⟩:=turned (n:=-f) (b:=v) (lA W) (fun q j=>by rw[bG];have:=i q j;omega) A (a:=v) (c:=a)
   (aG.mpr ⟨U,by simp only[dot,sub_x,sub_y,sub_z];grind⟩) (aG.mpr ⟨ha,by rw[bG,u];rfl⟩) L (fun q j=>by
    obtain⟨R,Q⟩:=aG.mp j;rw[bG]at Q;have:=E q R I;unfold T;rw[this];simp[dot,V.zero])
  exact⟨n',hF,X⟩
theorem Top.face{v:Nat}(hT:Top P N v)(hv:v<N)(i:iC P N):∃n,Face P N n v:=by
 obtain⟨g,X⟩:=hT;have aa:∀q,q<N->q≠v->P q-P v≠V.zero:=fun q j h e=>by
  have:=X q j h;rw[e]at this;simp[dot,V.zero]at this
 have step:∀h:V,(∃q,q<N/\q≠v)->∃a,a<N/\a≠v/\∀q,q<N->q≠v->0<=dot g (P a-P v)*dot h (P q-P v)-dot h (P a-P v)*dot g (P q-P v):=by
  rintro h ⟨q0,A,Q⟩;obtain⟨m,hm,L⟩:=mz (fun x y=>0<=dot g (P x-P v)*dot h (P y-P v)-dot h (P x-P v)*dot g (P y-P v)) (fun x=>0<dot g (P x-P v))
   (fun x _=>by have:=Int.mul_comm (dot g (P x-P v)) (dot h (P x-P v));omega)
   (fun x y _ _ h0=>by
    have e1:=Int.mul_comm (dot g (P x-P v)) (dot h (P y-P v));have e2:=Int.mul_comm (dot h (P x-P v)) (dot g (P y-P v));omega)
   (fun x y z R hy hz E F=>by
    generalize dot g (P x-P v)=U at *;generalize dot g (P y-P v)=Y at *;generalize dot g (P z-P v)=W at *;generalize dot h (P x-P v)=kx at *;generalize dot h (P y-P v)=ky at *;generalize dot h (P z-P v)=kz at *;have m1:=Int.mul_nonneg (a:=W) I E;have m2:=Int.mul_nonneg (a:=U) I F;have e:Y*(U*kz-kx*W)=W*(U*ky-kx*Y)+U*(Y*kz-ky*W):=by grind
    exact Int.nonneg_of_mul_nonneg_right (by rw[e];omega) hy)
   ((List.range N).filter fun q=>decide (q≠v))
   (fun x R=>by
    obtain⟨E,F⟩:=List.mem_filter.mp R;exact X x (List.mem_range.mp E) (of_decide_eq_true F))
   (List.ne_nil_of_mem (a:=q0) (List.mem_filter.mpr ⟨List.mem_range.mpr A,decide_eq_true Q⟩))
  obtain⟨E,F⟩:=List.mem_filter.mp hm;exact⟨m,List.mem_range.mp E,of_decide_eq_true F,fun q j C=>L q (List.mem_filter.mpr ⟨List.mem_range.mpr j,decide_eq_true C⟩)⟩
 have J:∃q,q<N/\q≠v:=by
  obtain⟨q,j,A⟩:=i ⟨1,0,0⟩ (by intro e;have:=congrArg V.x e;simp[V.zero]at this) v;refine⟨q,j,?_⟩;rintro rfl;exact A (by simp[dot,sub_x,sub_y,sub_z])
 have ac:g≠V.zero:=by
  obtain⟨q,j,C⟩:=J;rintro rfl;have:=X q j C;simp[dot,V.zero]at this
 obtain⟨h,hh⟩:∃h:V,∀s t:Int,s≠0->(⟨s*h.x-t*g.x,s*h.y-t*g.y,s*h.z-t*g.z⟩:V)≠V.zero:=by
  by_cases R:g.y=0/\g.z=0
  ·refine⟨⟨0,1,0⟩,fun s t hs e=>?_⟩
   have:=congrArg V.y e;simp only[V.zero,R.1]at this;omega
  ·refine⟨⟨1,0,0⟩,fun s t hs e=>?_⟩
   have e1:=congrArg V.x e;have e2:=congrArg V.y e;have e3:=congrArg V.z e;simp only[V.zero]at e1 e2 e3;by_cases ht:t=0
   ·subst ht;omega
   ·refine R ⟨?_,?_⟩
    ·have:t*g.y=0:=I
     exact(Int.mul_eq_zero.mp this).resolve_left ht
    ·have:t*g.z=0:=I
     exact(Int.mul_eq_zero.mp this).resolve_left ht
 obtain⟨a,u,H,G⟩:=step h J;have ab:=X a u H;obtain⟨n,hF,-⟩:=face_two (f:=⟨dot g (P a-P v)*h.x-dot h (P a-P v)*g.x,dot g (P a-P v)*h.y-dot h (P a-P v)*g.y,dot g (P a-P v)*h.z-dot h (P a-P v)*g.z⟩) hv u
  (hh _ _ I) (by rw[comb_dot,Int.mul_comm];omega) (fun q j=>by
   rw[comb_dot];by_cases e:q=v
   ·subst e
    have:P q-P q=V.zero:=by apply V.ext'<;>simp only[sub_x,sub_y,sub_z,V.zero]<;>omega
    rw[this];simp[dot,V.zero]
   ·exact G q j e) (aa a u H) i
 exact⟨n,hF⟩
theorem Top.extr{v:Nat}(j:Top P N v)(u:v<N)(i:Inj P N)(e:iC P N):nJ P N v:=by
 obtain⟨n,hF⟩:=j.face u e;exact hF.extr i e (j.vert (aG.mpr ⟨u,by simp only[dot,sub_x,sub_y,sub_z];grind⟩))
end
section
open V
def rJ(P:Nat->V)(N:Nat)(Q:Nat->V)(M:Nat):Prop:=∀p,(∃i,i<N/\P i=p)↔∃i,i<M/\Q i=p
theorem rJ.symm{P Q:Nat->V}{N M:Nat}(h:rJ P N Q M):rJ Q M P N:=fun p=>(h p).symm
theorem rJ.full4{P Q:Nat->V}{N M:Nat}(h:rJ P N Q M)(L:eA P N):eA Q M:=by
 obtain⟨i,j,k,m,hi,R,U,W,E⟩:=L;obtain⟨X,e,F⟩:=(h _).mp ⟨i,hi,rfl⟩;obtain⟨Y,u,G⟩:=(h _).mp ⟨j,R,rfl⟩;obtain⟨k',A,H⟩:=(h _).mp ⟨k,U,rfl⟩;obtain⟨m',C,J⟩:=(h _).mp ⟨m,W,rfl⟩;refine⟨X,Y,k',m',e,u,A,C,?_⟩;unfold tri at *;rw[F,G,H,J];exact E
def PlS(S:V->Prop)(m:Pl):Prop:=∃a b c,S a/\S b/\S c/\cross (b-a) (c-a)≠V.zero/\m.n=aR (cross (b-a) (c-a))/\m.o=dot m.n a/\∀q,S q->dot m.n q<=m.o
theorem iw(u v:V):cross v u=-cross u v:=by apply V.ext'<;>simp only[cross,neg_x,neg_y,neg_z]<;>grind
theorem rZ(a:V):aR (-a)=-aR a:=by
 unfold aR cO;apply V.ext'<;>simp only[neg_x,neg_y,neg_z,Int.natAbs_neg,Int.neg_tdiv]
theorem oy(a b c:V):cross (b-a) (c-a)=cross (c-b) (a-b):=by apply V.ext'<;>simp only[cross,sub_x,sub_y,sub_z]<;>grind
theorem qE(a b c:V)(h:V)(e:h=cross (b-a) (c-a)\/h=-cross (b-a) (c-a)):dot h b=dot h a/\dot h c=dot h a:=by
 rcases e with rfl|rfl<;>constructor<;>simp only[dot,cross,sub_x,sub_y,sub_z,neg_x,neg_y,neg_z]<;>grind
theorem cross_ne{a b c:V}(h:cross (b-a) (c-a)≠V.zero):a≠b/\a≠c/\b≠c:=by
 refine⟨?_,?_,?_⟩<;>rintro rfl<;>apply h<;>apply V.ext'<;>simp only[cross,sub_x,sub_y,sub_z,V.zero]<;>grind
theorem pX{P:Nat->V}{N:Nat}{m:Pl}:m∈cw P N↔PlS (fun p=>∃i,i<N/\P i=p) m:=by
 rw[dI]
 constructor
 ·rintro⟨i,j,k,Y,h2,Q,h0,A,C,u⟩
  unfold tri at h0 A
  rcases A with A|A
  ·exact⟨P i,P j,P k,⟨i,Q,rfl⟩,⟨j,by omega,rfl⟩,⟨k,by omega,rfl⟩,h0,A,C,fun q G=>by obtain⟨x,E,rfl⟩:=G;exact u x E⟩
  ·refine⟨P i,P k,P j,⟨i,Q,rfl⟩,⟨k,by omega,rfl⟩,⟨j,by omega,rfl⟩,?_,?_,C,fun q G=>by obtain⟨x,E,rfl⟩:=G;exact u x E⟩
   ·rw[iw];exact lA h0
   ·rw[A,iw (P j-P i),rZ]
 ·rintro⟨a,b,c,⟨x,E,rfl⟩,⟨y,hy,rfl⟩,⟨z,hz,rfl⟩,h0,A,C,u⟩
  have F:∀q,q<N->dot m.n (P q)<=m.o:=fun q G=>u _ ⟨q,G,rfl⟩
  have X:=fW (cross (P y-P x) (P z-P x));have aa:=fB h0;have hb:dot m.n (P y)=m.o/\dot m.n (P z)=m.o:=by
   have:=qE (P x) (P y) (P z) _ (.inl rfl);rw[X,X,X]at this;rw[C,A];exact⟨Int.eq_of_mul_eq_mul_left I this.1,Int.eq_of_mul_eq_mul_left I this.2⟩
  obtain⟨d1,d2,d3⟩:=cross_ne h0;have R:x≠y:=fun e=>d1 (by rw[e])
  have U:x≠z:=fun e=>d2 (by rw[e])
  have W:y≠z:=fun e=>d3 (by rw[e])
  have key:∀i j k,k<j->j<i->i<N->dot m.n (P i)=m.o->(tri P i j k=cross (P y-P x) (P z-P x)\/tri P i j k=-cross (P y-P x) (P z-P x))->∃i j k,k<j/\j<i/\i<N/\PlOk P N i j k m:=fun i j k Y h2 Q h4 h5 =>
   ⟨i,j,k,Y,h2,Q,(by rcases h5 with e|e<;>rw[e];exact h0;exact lA h0),(by
    rcases h5 with e|e<;>rw[e,A]
    ·exact .inl rfl
    ·rw[rZ];right;apply V.ext'<;>simp only[neg_x,neg_y,neg_z]<;>omega),h4.symm,F⟩
  have nn:∀a:V,- -a=a:=fun a=>by apply V.ext'<;>simp only[neg_x,neg_y,neg_z]<;>omega
  have p1:=oy (P x) (P y) (P z);have p2:=oy (P y) (P z) (P x);have s1:=iw (P y-P x) (P z-P x);have s2:=iw (P z-P y) (P x-P y);have s3:=iw (P x-P z) (P y-P z)
  rcases Nat.lt_or_gt_of_ne R with H|H<;>rcases Nat.lt_or_gt_of_ne U with J|J<;>rcases Nat.lt_or_gt_of_ne W with L|L
  ·exact key z y x H L hz hb.2 (.inr (by unfold tri;rw[s3,<-p2,<-p1]))
  ·exact key y z x J L hy hb.1 (.inl (by unfold tri;exact p1.symm))
  ·omega
  ·exact key y x z J H hy hb.1 (.inr (by unfold tri;rw[s2,<-p1]))
  ·exact key z x y H J hz hb.2 (.inl (by unfold tri;rw[<-p2,<-p1]))
  ·omega
  ·exact key x z y L J E C.symm (.inr (by unfold tri;exact s1))
  ·exact key x y z L H E C.symm (.inl rfl)
theorem rJ.planes{P Q:Nat->V}{N M:Nat}(h:rJ P N Q M)(m:Pl):m∈cw P N↔m∈cw Q M:=by
 rw[pX,pX];have:(fun p=>∃i,i<N/\P i=p)=fun p=>∃i,i<M/\Q i=p:=funext fun p=>propext (h p)
 rw[this]
theorem je{P:Nat->V}{N:Nat}{l:List Pl}{p:V}:iu P N l p=true↔(∃m∈l,dot m.n p=m.o)/\∀q,(∃i,i<N/\P i=q)->q≠p->∃m∈l,dot m.n p=m.o/\dot m.n q≠m.o:=by
 unfold iu;rw[Bool.and_eq_true,decide_eq_true_iff,onR_pos,List.all_eq_true];refine and_congr Iff.rfl ⟨?_,?_⟩
 ·rintro h q ⟨i,hi,rfl⟩ j
  have:=h i (List.mem_range.mpr hi);rw[Bool.or_eq_true,decide_eq_true_iff,Bool.not_eq_true',jH]at this;exact this.resolve_left j
 ·intro h i hi
  rw[Bool.or_eq_true,decide_eq_true_iff,Bool.not_eq_true',jH];by_cases e:P i=p
  ·exact .inl e
  ·exact .inr (h _ ⟨i,List.mem_range.mp hi,rfl⟩ e)
theorem rJ.extreme{P Q:Nat->V}{N M:Nat}(h:rJ P N Q M)(p:V):iu P N (cw P N) p=iu Q M (cw Q M) p:=by
 rw[Bool.eq_iff_iff,je,je];simp only[h.planes,h _]
structure HullOf (P:Nat→V) (N:Nat) (Q:Nat→V) (M:Nat):Prop where
 sorted:Sorted Q M
 mem:∀ p,(∃ i,i<M/\Q i=p)↔∃ v,v<N/\P v=p/\Top P N v
end
section
open V
instance (a b : V) : Decidable (Lex a b) := by unfold Lex; infer_instance
theorem Lex.irrefl(a:V):¬ Lex a a:=by unfold Lex;omega
theorem lex_tri(a b:V):Lex a b\/a=b\/Lex b a:=by
 by_cases e:Lex a b
 ·exact .inl e
 ·by_cases i:Lex b a
  ·exact .inr (.inr i)
  ·refine .inr (.inl ?_)
   unfold Lex at e i;exact V.ext' I I I
theorem kF{a b c:V}(e:Lex a b)(i:Lex b c):Lex a c:=by unfold Lex at *;omega
def rC(p:V):List V->List V
 | []=>[p]
 | q::t=>if Lex q p then q::rC p t else if q=p then q::t else p::q::t
theorem j4{p x:V}:∀{l:List V},x∈rC p l↔x=p\/x∈l
 | []=>by simp[rC]
 | q::t=>by
  unfold rC
  split
  ·rw[List.mem_cons,j4,List.mem_cons]
   exact⟨fun h=>by rcases h with h|h|h;exact .inr (.inl h);exact .inl h;exact .inr (.inr h),fun h=>by rcases h with h|h|h;exact .inr (.inl h);exact .inl h;exact .inr (.inr h)⟩
  ·split
   ·rename_i _ h;subst h;rw[List.mem_cons];exact⟨.inr,fun h=>h.elim .inl id⟩
   ·rw[List.mem_cons]
theorem nP{p:V}:∀{l:List V},l.Pairwise Lex->(rC p l).Pairwise Lex
 | [],_=>List.pairwise_singleton _ _
 | q::t,h=>by
  obtain⟨u,A⟩:=List.pairwise_cons.mp h;unfold rC
  split
  ·rename_i j
   refine List.pairwise_cons.mpr ⟨fun x e=>?_,nP A⟩
   rcases j4.mp e with rfl|e
   ·exact j
   ·exact u x e
  ·split
   ·exact h
   ·rename_i j C
    have i:Lex p q:=((lex_tri q p).resolve_left j).resolve_left C;exact List.pairwise_cons.mpr ⟨fun x e=>by
     rcases List.mem_cons.mp e with rfl|e
     ·exact i
     ·exact kF i (u x e),h⟩
def gX(Q:Nat->V)(p:V->Bool):Nat->List V
 | 0=>[]
 | i+1=>if p (Q i)then rC (Q i) (gX Q p i)else gX Q p i
theorem fR{Q:Nat->V}{p:V->Bool}{x:V}:∀{n},x∈gX Q p n↔∃i,i<n/\Q i=x/\p x=true
 | 0=>by simp[gX]
 | n+1=>by
  unfold gX
  constructor
  ·intro h
   split at h
   ·rename_i j
    rcases j4.mp h with rfl|h
    ·exact⟨n,by omega,rfl,j⟩
    ·obtain⟨i,hi,h⟩:=fR.mp h;exact⟨i,by omega,h⟩
   ·obtain⟨i,hi,h⟩:=fR.mp h;exact⟨i,by omega,h⟩
  ·rintro⟨i,hi,rfl,j⟩
   by_cases e:i=n
   ·subst e;rw[if_pos j];exact j4.mpr (.inl rfl)
   ·have:Q i∈gX Q p n:=fR.mpr ⟨i,by omega,rfl,j⟩
    split
    ·exact j4.mpr (.inr this)
    ·exact this
theorem fu{Q:Nat->V}{p:V->Bool}:∀n,(gX Q p n).Pairwise Lex
 | 0=>List.Pairwise.nil
 | n+1=>by
  unfold gX
  split
  ·exact nP (fu n)
  ·exact fu n
theorem ou{p:V}:∀{l:List V},(rC p l).length<=l.length+1
 | []=>by simp[rC]
 | q::t=>by
  unfold rC
  split
  ·have:=ou (p:=p) (l:=t);simp only[List.length_cons];omega
  ·split<;>simp only[List.length_cons]<;>omega
theorem mu{Q:Nat->V}{p:V->Bool}:∀n,(gX Q p n).length<=n
 | 0=>Nat.le_refl _
 | n+1=>by
  have:=mu (Q:=Q) (p:=p) n;unfold gX
  split
  ·have:=ou (p:=Q n) (l:=gX Q p n);omega
  ·omega
def ofL(l:List V)(i:Nat):V:=l.getD i V.zero
theorem oR{l:List V}{x:V}:x∈l↔∃i,i<l.length/\ofL l i=x:=by
 unfold ofL;rw[List.mem_iff_getElem];exact⟨fun⟨i,hi,h⟩=>⟨i,hi,by simp[hi,h]⟩,fun⟨i,hi,h⟩=>⟨i,hi,by simpa[hi]using h⟩⟩
theorem sorted_ofL{l:List V}(h:l.Pairwise Lex)(j:∀x∈l,mP x):Sorted (ofL l) l.length where
 lt:=fun p q e i=>by
  have:=List.pairwise_iff_getElem.mp h p q I i e;unfold ofL
  simpa[i,show p<l.length by omega]using this
 near:=fun p u=>j _ (oR.mpr ⟨p,u,rfl⟩)
def ff(Q:Nat->V)(M:Nat):List V:=gX Q (fun _=>true) M
theorem pL(Q:Nat->V)(M:Nat):rJ (ofL (ff Q M)) (ff Q M).length Q M:=fun p=>by
 rw[<-oR];unfold ff;rw[fR];simp
theorem l6{Q:Nat->V}{M:Nat}(e:∀i,i<M->mP (Q i)):Sorted (ofL (ff Q M)) (ff Q M).length:=
 sorted_ofL (fu M) fun x j=>by obtain⟨i,hi,rfl,-⟩:=fR.mp j;exact e i hi
def dJ(Q:Nat->V)(M:Nat):List V:=gX Q (fun p=>iu Q M (cw Q M) p) M
structure HullOk (Q:Nat→V) (M:Nat):Prop where
 sorted:Sorted (ofL (dJ Q M)) (dJ Q M).length
 full:eA (ofL (dJ Q M)) (dJ Q M).length
 extr:∀ i,i<(dJ Q M).length→nJ (ofL (dJ Q M)) (dJ Q M).length i
end
section
open V
def insG{α:Type}(p:α->Bool)(x:α):List α->List α
 | []=>[x]
 | q::t=>if p q then q::insG p x t else x::q::t
theorem qj{e:Type}{p:e->Bool}{x y:e}:∀{l:List e},y∈insG p x l↔y=x\/y∈l
 | []=>by simp[insG]
 | q::t=>by
  unfold insG
  split
  ·rw[List.mem_cons,qj,List.mem_cons]
   exact⟨fun h=>by rcases h with h|h|h;exact .inr (.inl h);exact .inl h;exact .inr (.inr h),fun h=>by rcases h with h|h|h;exact .inr (.inl h);exact .inl h;exact .inr (.inr h)⟩
  ·rw[List.mem_cons]
theorem nQ{j:Type}(R:j->j->Prop)(p:j->Bool)(x:j)(A:∀y,p y=true↔R y x)(i:∀a b c,R a b->R b c->R a c):∀{l:List j},l.Pairwise R->(∀y∈l,¬ R y x->R x y)->(insG p x l).Pairwise R
 | [],_,_=>List.pairwise_singleton _ _
 | q::t,h,ht=>by
  obtain⟨C,F⟩:=List.pairwise_cons.mp h;unfold insG
  split
  ·rename_i u
   refine List.pairwise_cons.mpr ⟨fun y e=>?_,nQ R p x A i F fun y e=>ht y (List.mem_cons_of_mem _ e)⟩
   rcases qj.mp e with rfl|e
   ·exact(A _).mp u
   ·exact C y e
  ·rename_i u
   have E:=ht q (List.mem_cons_self ..) (fun h=>u ((A _).mpr h));exact List.pairwise_cons.mpr ⟨fun y e=>by
    rcases List.mem_cons.mp e with rfl|e
    ·exact E
    ·exact i _ _ _ E (C y e),h⟩
end
section
open V
variable {P : Nat → V} {N : Nat}
structure SideF (P:Nat→V) (N:Nat) (n:V) (b a c:Nat):Prop where
 ha:a ∈ aI P N n b
 hc:c ∈ aI P N n b
 ne:a≠c
 pos:∀ q ∈ aI P N n b,q≠a→q≠c→0<T n (P c - P a) (P q - P a)
theorem Face.vert_all{n:V}{b:Nat}(e:∀v,v<N->Top P N v){a:Nat}(ha:a∈aI P N n b):gh P (aI P N n b) a:=(e a (aG.mp ha).1).vert ha
theorem Face.third{n:V}{b:Nat}(hF:Face P N n b)(a c:Nat):∃t∈aI P N n b,t≠a/\t≠c:=by
 obtain⟨i,j,k,C,E,hi,e,u,-⟩:=hF.points;by_cases h:i=a\/i=c
 ·by_cases A:j=a\/j=c
  ·exact⟨k,u,by omega,by omega⟩
  ·exact⟨j,e,by omega,by omega⟩
 ·exact⟨i,hi,by omega,by omega⟩
theorem side_iff{n:V}{b:Nat}(hF:Face P N n b)(i:Inj P N)(A:∀v,v<N->Top P N v){a c:Nat}(ha:a∈aI P N n b):Next P (aI P N n b) n a c↔SideF P N n b a c:=by
 have F:=hF.flat i
 constructor
 ·intro h
  exact⟨ha,h.1,Ne.symm h.2.1,fun q j C E=>lz F (Face.vert_all A ha) h (Face.vert_all A j) C E⟩
 ·intro h
  refine⟨h.hc,Ne.symm h.ne,fun q j u=>?_⟩;by_cases e:q=c
  ·subst e;exact pQ _ _
  ·exact .inl (h.pos q j u e)
def cX(r:List Nat):List (Nat×Nat):=(List.range r.length).map fun i=>(r.getD i 0,r.getD ((i+1) % r.length) 0)
theorem rW{n:V}{b:Nat}(hF:Face P N n b)(u:Inj P N)(G:∀v,v<N->Top P N v):
 ∃k a,1<=k/\ring P (aI P N n b) n=(List.range k).map (orb (nx P (aI P N n b) n) a)/\orb (nx P (aI P N n b) n) a k=a/\(∀i,SideF P N n b (orb (nx P (aI P N n b) n) a i) (orb (nx P (aI P N n b) n) a (i+1))) /\
  (∀i j,i<j->j<k->orb (nx P (aI P N n b) n) a i≠orb (nx P (aI P N n b) n) a j)/\∀v∈aI P N n b,∃i,i<k/\orb (nx P (aI P N n b) n) a i=v:=by
 have C:=hF.flat u;have A:=hF.two;obtain⟨q0,E,-⟩:=A 0;have U:(aI P N n b).headD 0∈aI P N n b:=by
  cases H:aI P N n b with
  | nil=>rw[H]at E;exact absurd E (by simp)
  | cons x l=>simp
 have F:=Face.vert_all G U;obtain⟨k,e,R,kn,L,Q⟩:=mY C A F;refine⟨k,(aI P N n b).headD 0,R,by unfold ring;rw[<-e],L,fun i=>?_,fun i j W Y H=>?_,fun v J=>?_⟩
 ·exact(side_iff hF u G (dW C A F i).1).mp (gH C A F i)
 ·have:=orb_back C A F i (j-i) (by rw[show i+(j-i)=j by omega];exact H)
  exact Q (j-i) I I this.symm
 ·obtain⟨j,X,e⟩:=vert_orb C A F R L Q (Face.vert_all G J)
  exact⟨j,X,e⟩
end
section
open V
variable {P : Nat → V} {N : Nat}
structure Polys (P:Nat→V) (N:Nat) (fs:List (V × Nat)):Prop where
 ok:∀ f ∈ fs,Face P N f.1 f.2
 all:∀ n b,Face P N n b→∃ f ∈ fs,aI P N f.1 f.2=aI P N n b
 nodup:fs.Pairwise fun f g=>aI P N f.1 f.2≠aI P N g.1 g.2
theorem same_turn{n e:V}{b j:Nat}(hF:Face P N n b)(A:Face P N e j)(i:iC P N)(C:aI P N n b=aI P N e j){a c u:Nat}(ha:a∈aI P N n b)(hc:c∈aI P N n b)(G:u∈aI P N n b)(h:0<T n (P c-P a) (P u-P a)):0<T e (P c-P a) (P u-P a):=by
 have b1:∀q,dot n (P q-P a)=dot n (P q-P b):=fun q=>by
  have L:=(aG.mp ha).2;simp only[bn]at *;omega
 have b2:∀q,dot e (P q-P a)=dot e (P q-P j):=fun q=>by
  have L:=(aG.mp (C▸ha)).2;simp only[bn]at *;omega
 obtain⟨q,E,F⟩:=i n hF.n0 b;have Q:dot e (P q-P j)≠0:=fun h0=>F (aG.mp (C.symm▸aG.mpr ⟨E,h0⟩:q∈aI P N n b)).2
 have X:=hF.o q E;have Y:=A.o q E;have H:=gF n (P c-P a) (P u-P a) (P q-P a) (by rw[b1];exact(aG.mp hc).2) (by rw[b1];exact(aG.mp G).2);have J:=gF e (P c-P a) (P u-P a) (P q-P a) (by rw[b2];exact(aG.mp (C▸hc)).2) (by rw[b2];exact(aG.mp (C▸G)).2);rw[cJ (P q-P a) n,b1]at H;rw[cJ (P q-P a) e,b2]at J;have R:=Int.mul_neg_of_neg_of_pos (show dot n (P q-P b)<0 by omega) h;rw[<-H]at R;have U:dot (P q-P a) (cross (P c-P a) (P u-P a))<0:=by
  refine Classical.byContradiction fun hc=>?_
  have:=Int.mul_nonneg (Int.le_of_lt (dj hF.n0)) (show 0<=dot (P q-P a) (cross (P c-P a) (P u-P a)) by omega);omega
 have W:=Int.mul_neg_of_pos_of_neg (dj A.n0) U;rw[J]at W;refine Classical.byContradiction fun hc=>?_
 have:=Int.mul_nonneg_of_nonpos_of_nonpos (show dot e (P q-P j)<=0 by omega) (show T e (P c-P a) (P u-P a)<=0 by omega);omega
theorem SideF.same{n A:V}{b j a c:Nat}(hF:Face P N n b)(u:Face P N A j)(e:iC P N)(i:aI P N n b=aI P N A j)(h:SideF P N n b a c):SideF P N A j a c:=
 ⟨i▸h.ha,i▸h.hc,h.ne,fun q C E F=>same_turn hF u e i h.ha h.hc (i.symm▸C) (h.pos q (i.symm▸C) E F)⟩
def fan(g:Nat->Nat->Nat->Int)(r:List Nat):Int:=((List.range (r.length-2)).map fun k=>g (r.getD 0 0) (r.getD (k+1) 0) (r.getD (k+2) 0)).sum
theorem sum_append(l m:List Int):(l++m).sum=l.sum+m.sum:=by
 induction l with
 | nil=>simp
 | cons x l ih=>simp only[List.cons_append,List.sum_cons,ih];omega
def fans(P:Nat->V)(N:Nat)(fs:List (V×Nat))(g:Nat->Nat->Nat->Int):Int:=(fs.map fun f=>fan g (ring P (aI P N f.1 f.2) f.1)).sum
end
section
open V
variable {P : Nat → V} {N : Nat}
theorem jB{a:V}(h:a≠V.zero):cO (aR a)=1:=by
 have F:=fB h;obtain⟨A,C,E⟩:=i7 a;have e:cO a=cO a*cO (aR a):=by
  have i:a.x.natAbs=cO a*(aR a).x.natAbs:=by
   conv=>lhs;rw[A]
   rw[Int.natAbs_mul];rfl
  have j:a.y.natAbs=cO a*(aR a).y.natAbs:=by
   conv=>lhs;rw[C]
   rw[Int.natAbs_mul];rfl
  have u:a.z.natAbs=cO a*(aR a).z.natAbs:=by
   conv=>lhs;rw[E]
   rw[Int.natAbs_mul];rfl
  conv=>lhs;unfold cO
  rw[i,j,u,Nat.gcd_mul_left,Nat.gcd_mul_left]
  rfl
 have:cO a*cO (aR a)=cO a*1:=I;exact Nat.eq_of_mul_eq_mul_left F this
theorem fU{a:V}(ha:cO a=1)(x y:Int)(i:∃t,y*a.x=x*t)(j:∃t,y*a.y=x*t)(u:∃t,y*a.z=x*t):x.natAbs∣y.natAbs:=by
 have d:∀c:Int,(∃t,y*c=x*t)->x.natAbs∣y.natAbs*c.natAbs:=fun c ⟨t,A⟩=>by
  rw[<-Int.natAbs_mul,A,Int.natAbs_mul];exact Nat.dvd_mul_right _ _
 have e:=Nat.dvd_gcd (Nat.dvd_gcd (d _ i) (d _ j)) (d _ u);rw[Nat.gcd_mul_left,Nat.gcd_mul_left]at e;unfold cO at ha
 rwa [ha,Nat.mul_one]at e
theorem prim_unique{a b:V}(ha:cO a=1)(hb:cO b=1)(i:a.x*b.y=a.y*b.x)(j:a.x*b.z=a.z*b.x)(u:a.y*b.z=a.z*b.y)(E:0<dot a b):a=b:=by
 have c1:∀x y:Int,x*y=y*x:=Int.mul_comm;have ax:a.x.natAbs=b.x.natAbs:=Nat.dvd_antisymm
  (fU ha a.x b.x ⟨b.x,c1 _ _⟩ ⟨b.y,by rw[c1,<-i]⟩ ⟨b.z,by rw[c1,<-j]⟩)
  (fU hb b.x a.x ⟨a.x,c1 _ _⟩ ⟨a.y,by rw[i,c1]⟩ ⟨a.z,by rw[j,c1]⟩)
 have Q:a.y.natAbs=b.y.natAbs:=Nat.dvd_antisymm
  (fU ha a.y b.y ⟨b.x,by rw[c1,i]⟩ ⟨b.y,c1 _ _⟩ ⟨b.z,by rw[c1,<-u]⟩)
  (fU hb b.y a.y ⟨a.x,by rw[<-i,c1]⟩ ⟨a.y,c1 _ _⟩ ⟨a.z,by rw[u,c1]⟩)
 have R:a.z.natAbs=b.z.natAbs:=Nat.dvd_antisymm
  (fU ha a.z b.z ⟨b.x,by rw[c1,j]⟩ ⟨b.y,by rw[c1,u]⟩ ⟨b.z,c1 _ _⟩)
  (fU hb b.z a.z ⟨a.x,by rw[<-j,c1]⟩ ⟨a.y,by rw[<-u,c1]⟩ ⟨a.z,c1 _ _⟩)
 have sgn:∀x y:Int,x.natAbs=y.natAbs->x=y\/x=-y:=fun x y h=>Int.natAbs_eq_natAbs_iff.mp h
 have sq:∀x:Int,0<=x*x:=fun x=>by rcases Int.le_total 0 x with h|h;exact Int.mul_nonneg h h;exact Int.mul_nonneg_of_nonpos_of_nonpos h h
 unfold dot at E;have two:∀x y:Int,x*y=(-x)*y->x*y=0:=fun x y h=>by rw[Int.neg_mul]at h;omega
 rcases sgn _ _ ax with F|F<;>rcases sgn _ _ Q with G|G<;>rcases sgn _ _ R with H|H<;>rw[F,G]at i<;>rw[F,H]at j<;>rw[G,H]at u<;>rw[F,G,H]at E
 ·exact V.ext' F G H
 ·have A:b.x*b.z=0:=by rw[Int.neg_mul,c1 b.z]at j;omega
  have C:b.y*b.z=0:=by rw[Int.neg_mul,c1 b.z]at u;omega
  by_cases e:b.z=0
  ·exact V.ext' F G I
  ·have:=(Int.mul_eq_zero.mp A).resolve_right e
   have:=(Int.mul_eq_zero.mp C).resolve_right e;have:=sq b.z;simp only[*,Int.mul_neg]at E;omega
 ·have A:b.x*b.y=0:=by rw[Int.neg_mul,c1 b.y]at i;omega
  have C:b.y*b.z=0:=by rw[Int.neg_mul,c1 b.z]at u;omega
  by_cases e:b.y=0
  ·exact V.ext' F I H
  ·have:=(Int.mul_eq_zero.mp A).resolve_right e
   have:=(Int.mul_eq_zero.mp C).resolve_left e;have:=sq b.y;simp only[*,Int.mul_neg]at E;omega
 ·have A:b.x*b.y=0:=by rw[Int.neg_mul,c1 b.y]at i;omega
  have C:b.x*b.z=0:=by rw[Int.neg_mul,c1 b.z]at j;omega
  by_cases e:b.x=0
  ·have:=sq b.y;have:=sq b.z
   simp only[e,Int.neg_mul]at E;omega
  ·have J:=(Int.mul_eq_zero.mp A).resolve_left e
   have L:=(Int.mul_eq_zero.mp C).resolve_left e;exact V.ext' F I I
 ·have A:b.x*b.y=0:=by rw[Int.neg_mul,c1 b.y]at i;omega
  have C:b.x*b.z=0:=by rw[Int.neg_mul,c1 b.z]at j;omega
  by_cases e:b.x=0
  ·exact V.ext' I G H
  ·have:=(Int.mul_eq_zero.mp A).resolve_left e
   have:=(Int.mul_eq_zero.mp C).resolve_left e;have:=sq b.x;simp only[*,Int.mul_neg]at E;omega
 ·have A:b.x*b.y=0:=by rw[Int.neg_mul,c1 b.y]at i;omega
  have C:b.y*b.z=0:=by rw[Int.neg_mul,c1 b.z]at u;omega
  by_cases e:b.y=0
  ·have:=sq b.x;have:=sq b.z
   simp only[e,Int.neg_mul]at E;omega
  ·have J:=(Int.mul_eq_zero.mp A).resolve_right e
   have L:=(Int.mul_eq_zero.mp C).resolve_left e;exact V.ext' I G I
 ·have A:b.x*b.z=0:=by rw[Int.neg_mul,c1 b.z]at j;omega
  have C:b.y*b.z=0:=by rw[Int.neg_mul,c1 b.z]at u;omega
  by_cases e:b.z=0
  ·have:=sq b.x;have:=sq b.y
   simp only[e,Int.neg_mul]at E;omega
  ·have J:=(Int.mul_eq_zero.mp A).resolve_right e
   have L:=(Int.mul_eq_zero.mp C).resolve_right e;exact V.ext' I I H
 ·have:=sq b.x;have:=sq b.y;have:=sq b.z
  simp only[Int.neg_mul]at E;omega
end
section
open V
variable {P : Nat → V} {N : Nat}
def mX(P:Nat->V)(f:V×Nat):Pl:=⟨aR f.1,dot (aR f.1) (P f.2)⟩
theorem T_primV(n u v:V):T n u v=(cO n:Int)*T (aR n) u v:=fW n _
theorem mi{f:V×Nat}(hF:Face P N f.1 f.2)(w:V):dot (mX P f).n w=(mX P f).o↔dot f.1 (w-P f.2)=0:=by
 have i:=fB hF.n0;unfold mX;dsimp only;rw[bn,fW f.1 w,fW f.1 (P f.2)]
 constructor
 ·intro e;rw[e];omega
 ·intro e;exact Int.eq_of_mul_eq_mul_left (show(cO f.1:Int)≠0 by omega) I
theorem plOf_mem{f:V×Nat}(hF:Face P N f.1 f.2):mX P f∈cw P N:=by
 obtain⟨i,j,k,A,C,E,h0,F,H⟩:=hF.three;have L:=fB hF.n0;have u:=fW f.1;have hi:dot (aR f.1) (P i)=dot (aR f.1) (P f.2):=by
  have:=H (P i);have e:P i-P i=V.zero:=by apply V.ext'<;>simp only[sub_x,sub_y,sub_z,V.zero]<;>omega
  rw[e,show dot f.1 V.zero=0 by simp[dot,V.zero],bn,u,u]at this;exact Int.eq_of_mul_eq_mul_left (show(cO f.1:Int)≠0 by omega) I
 refine dI.mpr ⟨i,j,k,A,C,E,h0,?_,hi.symm,fun q G=>?_⟩
 ·show aR f.1=_\/aR f.1=_
  have J:∀a:V,aR (-a)=-aR a:=fun a=>by
   unfold aR cO;apply V.ext'<;>simp only[neg_x,neg_y,neg_z,Int.natAbs_neg,Int.neg_tdiv]
  rcases F with e|e
  ·exact .inl (by rw[e])
  ·exact .inr (by rw[e,J])
 ·have:=hF.o q G
  rw[bn,u,u]at this;show dot (aR f.1) _<=dot (aR f.1) _;exact Int.le_of_mul_le_mul_left (show(cO f.1:Int)*_<=cO f.1*_ by omega) I
theorem pl_same{m u:Pl}(h:m∈cw P N)(h':u∈cw P N)(Q:iC P N){a b c:Nat}(h0:cross (P b-P a) (P c-P a)≠V.zero)(ma:dot m.n (P a)=m.o)(mb:dot m.n (P b)=m.o)(mc:dot m.n (P c)=m.o)(F:dot u.n (P a)=u.o)(ag:dot u.n (P b)=u.o)(an:dot u.n (P c)=u.o):m=u:=by
 obtain⟨i,j,k,-,-,hi,t0,hn,ho,ac⟩:=dI.mp h;obtain⟨i',j',k',-,-,au,G,X,av,W⟩:=dI.mp h';have u0:m.n≠V.zero:=by rcases hn with e|e<;>rw[e];exact im t0;exact lA (im t0)
 have ar:u.n≠V.zero:=by rcases X with e|e<;>rw[e];exact im G;exact lA (im G)
 have H:∀a:V,cO (-a)=cO a:=fun a=>by unfold cO;simp only[neg_x,neg_y,neg_z,Int.natAbs_neg]
 have g1:cO m.n=1:=by rcases hn with e|e<;>rw[e];exact jB t0;rw[H];exact jB t0
 have g2:cO u.n=1:=by rcases X with e|e<;>rw[e];exact jB G;rw[H];exact jB G
 have d1:∀q,dot m.n (P q)=m.o->dot m.n (P q-P a)=0:=fun q U=>by rw[bn,U,ma];omega
 have d2:∀q,dot u.n (P q)=u.o->dot u.n (P q-P a)=0:=fun q U=>by rw[bn,U,F];omega
 have k1:=fun i=>gF m.n (P b-P a) (P c-P a) i (d1 b mb) (d1 c mc)
 have k2:=fun i=>gF u.n (P b-P a) (P c-P a) i (d2 b ag) (d2 c an)
 obtain⟨q,U,aw⟩:=Q m.n u0 a;have ad:dot m.n (P q-P a)<0:=by have:=ac q U;rw[bn,ma]at *;omega
 generalize hC:cross (P b-P a) (P c-P a)=C at *;have ay:=dj u0;have ao:=dj ar;have t1:T m.n (P b-P a) (P c-P a)≠0:=fun e=>by
  have:∀i,dot i C=0:=fun i=>by
   have:=k1 i;rw[e,Int.mul_zero]at this;exact(Int.mul_eq_zero.mp this).resolve_left I
  have:=this C;have:=dj h0;omega
 have ap:∀i:V,dot m.n m.n*dot u.n u.n*(dot i m.n*T m.n (P b-P a) (P c-P a)*dot u.n u.n-dot i u.n*T u.n (P b-P a) (P c-P a)*dot m.n m.n)=0:=fun i=>by
  rw[<-k1 i,<-k2 i];grind
 have L:∀i:V,dot i m.n*T m.n (P b-P a) (P c-P a)*dot u.n u.n=dot i u.n*T u.n (P b-P a) (P c-P a)*dot m.n m.n:=fun i=>by
  have:=(Int.mul_eq_zero.mp (ap i)).resolve_left (Int.mul_ne_zero I I);omega
 have pq:=L (P q-P a);rw[cJ (P q-P a),cJ (P q-P a)]at pq;have aa:dot u.n (P q-P a)<=0:=by have:=W q U;rw[bn,F]at *;omega
 generalize hs:T m.n (P b-P a) (P c-P a)*dot u.n u.n=s at *;generalize af:T u.n (P b-P a) (P c-P a)*dot m.n m.n=A at *;have E:∀i:V,dot i m.n*s=dot i u.n*A:=fun i=>by rw[<-hs,<-af,<-Int.mul_assoc,<-Int.mul_assoc];exact L i
 have s0:s≠0:=by rw[<-hs];exact Int.mul_ne_zero t1 I
 have R:dot m.n (P q-P a)*s=dot u.n (P q-P a)*A:=by
  have:=E (P q-P a);rwa [cJ (P q-P a),cJ (P q-P a)]at this
 have ab:0<s*A:=by
  have e1:dot m.n (P q-P a)*(s*A)=dot u.n (P q-P a)*(A*A):=by rw[<-Int.mul_assoc,R,Int.mul_assoc]
  have J:A≠0:=fun e=>by rw[e,Int.mul_zero]at R;exact(Int.mul_ne_zero I s0) R
  have sp:0<A*A:=by
   rcases Int.lt_or_gt_of_ne J with h|h
   ·exact Int.mul_pos_of_neg_of_neg h h
   ·exact Int.mul_pos h h
  have le:dot u.n (P q-P a)*(A*A)<=0:=Int.mul_nonpos_of_nonpos_of_nonneg aa (Int.le_of_lt sp);have ne:s*A≠0:=Int.mul_ne_zero s0 J;rw[<-e1]at le;refine Classical.byContradiction fun hc=>?_
  have:=Int.mul_pos_of_neg_of_neg ad (show s*A<0 by omega);omega
 have px:=E ⟨1,0,0⟩;have py:=E ⟨0,1,0⟩;have pz:=E ⟨0,0,1⟩;simp only[dot,Int.one_mul,Int.zero_mul,Int.add_zero,Int.zero_add]at px py pz;have Y:m.n=u.n:=by
  refine prim_unique g1 g2 ?_ ?_ ?_ ?_
  ·have e:(m.n.x*u.n.y-m.n.y*u.n.x)*(s*A)=0:=by
    have:(m.n.x*u.n.y-m.n.y*u.n.x)*(s*A)=(m.n.x*s)*(u.n.y*A)-(m.n.y*s)*(u.n.x*A):=by grind
    rw[this,px,py];grind
   have:=(Int.mul_eq_zero.mp e).resolve_right I;omega
  ·have e:(m.n.x*u.n.z-m.n.z*u.n.x)*(s*A)=0:=by
    have:(m.n.x*u.n.z-m.n.z*u.n.x)*(s*A)=(m.n.x*s)*(u.n.z*A)-(m.n.z*s)*(u.n.x*A):=by grind
    rw[this,px,pz];grind
   have:=(Int.mul_eq_zero.mp e).resolve_right I;omega
  ·have e:(m.n.y*u.n.z-m.n.z*u.n.y)*(s*A)=0:=by
    have:(m.n.y*u.n.z-m.n.z*u.n.y)*(s*A)=(m.n.y*s)*(u.n.z*A)-(m.n.z*s)*(u.n.y*A):=by grind
    rw[this,py,pz];grind
   have:=(Int.mul_eq_zero.mp e).resolve_right I;omega
  ·have e:dot m.n u.n*(s*A)=dot u.n u.n*(A*A):=by
    have h:=E u.n;rw[cJ u.n m.n]at h;rw[<-Int.mul_assoc,h,Int.mul_assoc]
   have sp:0<A*A:=by
    rcases Int.lt_trichotomy A 0 with h|h|h
    ·exact Int.mul_pos_of_neg_of_neg h h
    ·rw[h,Int.mul_zero]at ab;omega
    ·exact Int.mul_pos h h
   have:=Int.mul_pos ao sp;rw[<-e]at this;refine Classical.byContradiction fun hc=>?_
   have:=Int.mul_nonpos_of_nonpos_of_nonneg (show dot m.n u.n<=0 by omega) (Int.le_of_lt ab);omega
 obtain⟨n,o⟩:=m;obtain⟨n',o'⟩:=u;dsimp only at Y ma F;subst Y;rw[<-ma,<-F]
theorem mh{fs:List (V×Nat)}(u:Polys P N fs)(C:iC P N):(fs.map (mX P)).Nodup/\∀m,m∈cw P N↔m∈fs.map (mX P):=by
 constructor
 ·rw[List.nodup_iff_pairwise_ne,List.pairwise_map]
  refine u.nodup.imp_of_mem fun{f g} A Q G F=>G ?_
  unfold aI;refine List.filter_congr fun q E=>?_
  rw[decide_eq_decide,<-mi (u.ok f A),<-mi (u.ok g Q),F]
 ·intro m
  rw[List.mem_map]
  constructor
  ·intro L
   obtain⟨n,b,hF,hb,U⟩:=tw L;obtain⟨f,A,F⟩:=u.all n b hF;refine⟨f,A,?_⟩;obtain⟨i,j,k,W,X,hi,H,J,R⟩:=hF.points;have g:=fun q (E:q∈aI P N n b)=>(U (P q)).mpr (aG.mp E).2
   have g':=fun q (E:q∈aI P N n b)=>(mi (u.ok f A) (P q)).mpr (aG.mp (F▸E:q∈aI P N f.1 f.2)).2
   refine(pl_same L (plOf_mem (u.ok f A)) C (fun e=>R ?_) (g i hi) (g j H) (g k J) (g' i hi) (g' j H) (g' k J)).symm;unfold T;rw[e];simp[dot,V.zero]
  ·rintro⟨f,A,rfl⟩;exact plOf_mem (u.ok f A)
theorem gk{C:Type}(R:C->C->Prop)(j:∀a,¬ R a a)(i:∀a b,R a b->¬ R b a):∀l m:List C,l.Pairwise R->m.Pairwise R->(∀x,x∈l↔x∈m)->l=m
 | [],[],_,_,_=>rfl
 | [],y::m,_,_,h=>absurd ((h y).mpr (List.mem_cons_self ..)) (by simp)
 | x::l,[],_,_,h=>absurd ((h x).mp (List.mem_cons_self ..)) (by simp)
 | x::l,y::m,hl,hm,h=>by
  obtain⟨E,J⟩:=List.pairwise_cons.mp hl;obtain⟨F,L⟩:=List.pairwise_cons.mp hm;have e:x=y:=by
   rcases List.mem_cons.mp ((h x).mp (List.mem_cons_self ..))with e|G
   ·exact e
   ·rcases List.mem_cons.mp ((h y).mpr (List.mem_cons_self ..))with e|H
    ·exact e.symm
    ·exact absurd (F x G) (i _ _ (E y H))
  subst e;rw[gk R j i l m J L fun z=>?_]
  constructor
  ·intro u
   rcases List.mem_cons.mp ((h z).mp (List.mem_cons_of_mem _ u))with rfl|A
   ·exact absurd (E _ u) (j _)
   ·exact A
  ·intro u
   rcases List.mem_cons.mp ((h z).mpr (List.mem_cons_of_mem _ u))with rfl|A
   ·exact absurd (F _ u) (j _)
   ·exact A
end
section
open V
variable {P : Nat → V} {N : Nat}
def ptsOn(P:Nat->V)(N:Nat)(m:Pl):List Nat:=(List.range N).filter fun q=>decide (dot m.n (P q)=m.o)
def fy(P:Nat->V)(N:Nat)(m:Pl):List Nat:=ring P (ptsOn P N m) m.n
theorem ptsOn_plOf{f:V×Nat}(hF:Face P N f.1 f.2):ptsOn P N (mX P f)=aI P N f.1 f.2:=by
 unfold ptsOn aI;refine List.filter_congr fun q _=>?_
 rw[decide_eq_decide];exact mi hF (P q)
theorem pick_primV{n:V}(h:n≠V.zero)(a:Nat)(b:Option Nat)(i:Nat):pick P (aR n) a b i=pick P n a b i:=by
 have j:=fB h;have key:∀u v,(T (aR n) u v<0↔T n u v<0)/\(T (aR n) u v=0↔T n u v=0):=fun u v=>by
  rw[T_primV n u v];generalize T (aR n) u v=t;generalize cO n=g at *;have e:(0:Int)<(g:Int):=I;refine⟨⟨fun h=>Int.mul_neg_of_pos_of_neg e h,fun h=>?_⟩,⟨fun h=>by rw[h];simp,fun h=>(Int.mul_eq_zero.mp h).resolve_left I⟩⟩;refine Classical.byContradiction fun hc=>?_
  have:=Int.mul_nonneg (Int.le_of_lt e) (show 0<=t by omega);omega
 unfold pick;by_cases hi:i=a
 ·rw[if_pos hi,if_pos hi]
 ·rw[if_neg hi,if_neg hi]
  cases b with
  | none=>rfl
  | some b =>
   dsimp only;simp only[(key _ _).1,(key _ _).2]
theorem nx_primV{n:V}(h:n≠V.zero)(on:List Nat):nx P on (aR n)=nx P on n:=by
 funext a
 unfold nx;have e:pick P (aR n) a=pick P n a:=by funext b i;exact pick_primV h a b i
 rw[e]
theorem ring_primV{n:V}(h:n≠V.zero)(on:List Nat):ring P on (aR n)=ring P on n:=by
 unfold ring;rw[nx_primV h]
theorem ringPl_plOf{f:V×Nat}(hF:Face P N f.1 f.2):fy P N (mX P f)=ring P (aI P N f.1 f.2) f.1:=by
 unfold fy;rw[ptsOn_plOf hF];exact ring_primV hF.n0 _
theorem sf{n:V}{b c:Nat}(hF:Face P N n b)(hc:c∈aI P N n b):mX P (n,c)=mX P (n,b):=by
 have h:=(mi (f:=(n,b)) hF (P c)).mpr (aG.mp hc).2;unfold mX at *;dsimp only at *;rw[h]
end
section
open V
end
section
open V
variable {P : Nat → V} {N : Nat}
theorem T_cycle(n a c z:V):T n (c-a) (z-a)=T n (a-z) (c-z):=by simp only[T,dot,cross,sub_x,sub_y,sub_z];grind
theorem fan_turn{n:V}{b:Nat}(hF:Face P N n b)(e:Inj P N)(C:∀v,v<N->Top P N v)(k:Nat)(u:k+2<(ring P (aI P N n b) n).length):
 (ring P (aI P N n b) n).getD 0 0∈aI P N n b/\(ring P (aI P N n b) n).getD (k+1) 0∈aI P N n b/\(ring P (aI P N n b) n).getD (k+2) 0∈aI P N n b /\
 0<T n (P ((ring P (aI P N n b) n).getD (k+1) 0)-P ((ring P (aI P N n b) n).getD 0 0)) (P ((ring P (aI P N n b) n).getD (k+2) 0)-P ((ring P (aI P N n b) n).getD 0 0)):=by
 obtain⟨K,a,F,E,hK,j,A,G⟩:=rW hF e C;generalize orb (nx P (aI P N n b) n) a=o at *;rw[E]at u⊢;simp only[List.length_map,List.length_range]at u;have g:∀i,i<K->((List.range K).map o).getD i 0=o i:=fun i hi=>by simp[hi]
 rw[g 0 I,g (k+1) I,g (k+2) I];refine⟨(j 0).ha,(j (k+1)).ha,(j (k+2)).ha,?_⟩;have:=(j (k+1)).pos (o 0) (j 0).ha (A 0 (k+1) I I) (A 0 (k+2) I u);rw[T_cycle]at this;exact this
theorem det_face{n:V}{b a c d:Nat}(ha:a∈aI P N n b)(hc:c∈aI P N n b)(i:d∈aI P N n b)(t:V):
 dot n n*dot (P a-t) (cross (P c-t) (P d-t))=dot n (P a-t)*T n (P c-P a) (P d-P a):=by
 have e:dot (P a-t) (cross (P c-t) (P d-t))=dot (P a-t) (cross (P c-P a) (P d-P a)):=by simp only[dot,cross,sub_x,sub_y,sub_z];grind
 have j:=(aG.mp ha).2;have u:=(aG.mp hc).2;have A:=(aG.mp i).2;rw[e,gF n _ _ _ (by simp only[bn]at *;omega) (by simp only[bn]at *;omega),cJ (P a-t) n]
def tetD(P:Nat->V)(t:Nat)(a c d:Nat):Int:=dot (P a-P t) (cross (P c-P t) (P d-P t))
theorem tet_sign{n:V}{b a c d t:Nat}(hF:Face P N n b)(ha:a∈aI P N n b)(hc:c∈aI P N n b)(u:d∈aI P N n b)(E:t<N)(j:0<T n (P c-P a) (P d-P a)):
 0<=tetD P t a c d/\(dot n (P t-P b)≠0->0<tetD P t a c d):=by
 have h:=det_face ha hc u (P t);have A:=dj hF.n0;have H:=hF.o t E;have G:=(aG.mp ha).2;have e:dot n (P a-P t)=- dot n (P t-P b):=by simp only[bn]at *;omega
 rw[e]at h;change dot n n*tetD P t a c d=_ at h;have key:∀x:Int,0<=x->0<=x*T n (P c-P a) (P d-P a):=fun x F=>Int.mul_nonneg F I
 constructor
 ·refine Classical.byContradiction fun hc=>?_
  have:=Int.mul_neg_of_pos_of_neg A (show tetD P t a c d<0 by omega);have:=key (- dot n (P t-P b)) I;omega
 ·intro C
  have i:=Int.mul_pos (show 0 < - dot n (P t-P b) by omega) j;rw[<-h]at i;exact Int.pos_of_mul_pos_right i I
theorem sumF_le(l:List (V×Nat))(f g:V×Nat->Int)(h:∀x∈l,f x<=g x):(l.map f).sum<=(l.map g).sum:=by
 induction l with
 | nil=>exact Int.le_refl _
 | cons x l ih =>
  have:=ih fun y e=>h y (List.mem_cons_of_mem _ e)
  have:=h x (List.mem_cons_self ..);simp only[List.map_cons,List.sum_cons];omega
theorem pF(l:List Nat)(f:Nat->Int)(h:∀x∈l,0<=f x):0<=(l.map f).sum:=by
 induction l with
 | nil=>exact Int.le_refl _
 | cons x l ih =>
  have:=ih fun y e=>h y (List.mem_cons_of_mem _ e)
  have:=h x (List.mem_cons_self ..);simp only[List.map_cons,List.sum_cons];omega
theorem sum_pos(l:List Nat)(f:Nat->Int)(h:∀x∈l,0<=f x)(e:∃x∈l,0<f x):0<(l.map f).sum:=by
 induction l with
 | nil=>obtain⟨x,e,-⟩:=e;cases e
 | cons y l ih =>
  have u:=h y (List.mem_cons_self ..);have A:=pF l f fun z i=>h z (List.mem_cons_of_mem _ i)
  obtain⟨x,e,j⟩:=e;simp only[List.map_cons,List.sum_cons]
  rcases List.mem_cons.mp e with rfl|e
  ·omega
  ·have:=ih (fun z i=>h z (List.mem_cons_of_mem _ i)) ⟨x,e,j⟩
   omega
theorem sumF_pos(l:List (V×Nat))(f:V×Nat->Int)(h:∀x∈l,0<=f x)(i:∃x∈l,0<f x):0<(l.map f).sum:=by
 induction l with
 | nil=>obtain⟨x,i,-⟩:=i;cases i
 | cons y l ih =>
  have A:=h y (List.mem_cons_self ..);have C:0<=(l.map f).sum:=by
   have:=sumF_le l (fun _=>0) f fun z j=>h z (List.mem_cons_of_mem _ j)
   have e:(l.map fun _:V×Nat=>(0:Int)).sum=0:=by clear this i h ih;induction l with|nil=>rfl|cons x l ih=>simp only[List.map_cons,List.sum_cons,ih];rfl
   omega
  obtain⟨x,i,u⟩:=i;simp only[List.map_cons,List.sum_cons]
  rcases List.mem_cons.mp i with rfl|i
  ·omega
  ·have:=ih (fun z j=>h z (List.mem_cons_of_mem _ j)) ⟨x,i,u⟩
   omega
theorem ring_three{n:V}{b:Nat}(hF:Face P N n b)(j:Inj P N)(u:∀v,v<N->Top P N v):3<=(ring P (aI P N n b) n).length:=by
 obtain⟨K,a,G,C,hK,E,J,A⟩:=rW hF j u;rw[C,List.length_map,List.length_range];have H:K≠1:=fun e=>by subst e;exact(E 0).ne hK.symm
 generalize orb (nx P (aI P N n b) n) a=o at *;refine Classical.byContradiction fun hc=>?_
 have e:K=2:=I;subst e;obtain⟨t,F,t1,t2⟩:=Face.third hF (o 0) (o 1);obtain⟨i,hi,rfl⟩:=A t F
 rcases(show i=0\/i=1 by omega)with rfl|rfl
 ·exact t1 rfl
 ·exact t2 rfl
variable {fs : List (V × Nat)}
theorem fans_pos(j:Polys P N fs)(i:Inj P N)(u:iC P N)(G:∀v,v<N->Top P N v){t:Nat}(J:t<N):0<fans P N fs (tetD P t):=by
 have C:∃q,q<N/\q≠t:=by
  obtain⟨q,C,A⟩:=u ⟨1,0,0⟩ (by intro e;have:=congrArg V.x e;simp[V.zero]at this) t;exact⟨q,C,fun e=>A (by rw[e];simp only[bn];omega)⟩
 obtain⟨q,C,W⟩:=C;obtain⟨n,b,hF,-,A⟩:=((G q C).extr C i u).2 t J (Ne.symm W);obtain⟨f,E,Y⟩:=j.all n b hF;have U:dot f.1 (P t-P f.2)≠0:=fun h0=>A (aG.mp (Y▸aG.mpr ⟨J,h0⟩:t∈aI P N n b)).2
 have X:∀g∈fs,∀k∈List.range ((ring P (aI P N g.1 g.2) g.1).length-2),0<=tetD P t ((ring P (aI P N g.1 g.2) g.1).getD 0 0) ((ring P (aI P N g.1 g.2) g.1).getD (k+1) 0) ((ring P (aI P N g.1 g.2) g.1).getD (k+2) 0):=fun g H k hk=>by
  have:=List.mem_range.mp hk;obtain⟨L,Q,F,R⟩:=fan_turn (j.ok g H) i G k I;exact(tet_sign (j.ok g H) L Q F J R).1
 unfold fans;refine sumF_pos _ _ (fun g H=>pF _ _ (X g H)) ⟨f,E,?_⟩;have F:=ring_three (j.ok f E) i G;refine sum_pos _ _ (X f E) ⟨0,List.mem_range.mpr I,?_⟩;obtain⟨L,Q,F,R⟩:=fan_turn (j.ok f E) i G 0 I;exact(tet_sign (j.ok f E) L Q F J R).2 U
end
def dH(l:List Nat):List Nat:=(l.reverse.dropWhile (· == 0)).reverse
def dO(s:List UInt8):List Nat:=dH ((s.reverse.filter (· != 45)).map fun b=>b.toNat-48)
def df(neg:Bool)(d:List Nat):List UInt8:=if dH d=[] then[48] else(if neg then[45] else[])++(dH d).reverse.map fun x=>UInt8.ofNat (48+x)
def dD(s:List UInt8):Int:=if s=[48] then 0 else if s.headD 0=45 then -1 else 1
def j7:List Nat->List Nat->Int
 | x::a,y::b=>if x<y then -1 else if y<x then 1 else j7 a b
 | _,_=>0
def gP(a b:List Nat):Int:=if a.length<b.length then -1 else if b.length<a.length then 1 else j7 a.reverse b.reverse
def iL:List Nat->List Nat->Nat->List Nat
 | [],_,_=>[]
 | x::a,b,c=>if(x:Int)-c-b.headD 0<0 then((x:Int)-c-b.headD 0+10).toNat::iL a b.tail 1 else((x:Int)-c-b.headD 0).toNat::iL a b.tail 0
def lD(a b:List Nat):List Nat:=dH (iL a b 0)
def divI(b:List Nat):Nat->List Nat->Nat->Option (List Nat×Nat)
 | 0,_,_=>none
 | f+1,r,q=>if 0<=gP r b then divI b f (lD r b) (q+1)else some (r,q)
def divL(b:List Nat):List Nat->List Nat->Option (List Nat×List Nat)
 | [],r=>some ([],r)
 | x::a,r=>(divI b 11 (dH (x::r)) 0).bind fun p=>(divL b a p.1).map fun t=>(t.1++[p.2],t.2)
def iI(s t:List UInt8):Option (List UInt8×List UInt8):=
 (divL (dO t) (dO s).reverse []).bind fun p =>
  if((∀x∈p.1,x<=9)/\(∀x∈p.2,x<=9)/\(df (decide (dD s*dD t<0)) p.1).length<=20/\(df (decide (dD s<0)) p.2).length<=20)/\(df (decide (dD s<0)) p.2=[48]\/dD (df (decide (dD s<0)) p.2)=dD t)then some (df (decide (dD s*dD t<0)) p.1,df (decide (dD s<0)) p.2)else none
def rE:Nat->List UInt8->List UInt8->Option (List UInt8)
 | 0,_,_=>none
 | f+1,a,b=>if b=[48] then some a else(iI a b).bind fun p=>rE f b p.2
def mulD(s t:List UInt8):Option (List UInt8):=
 if(dO t).length=1/\∀x∈dO s,x*(dO t).headD 0<=9 then some (df (decide (dD s*dD t<0)) ((dO s).map (· * (dO t).headD 0)++[0,0]))else none
def textQD(num den:List UInt8):Option (List UInt8):=
 if dD den<0 then none else
  (rE 9 (df false (dO num)) (df false (dO den))).bind fun g=>(iI num g).bind fun p=>(iI den g).map fun q=>if q.1=[49] then p.1 else p.1++47::q.1
def quotD(s t:List UInt8):Option (List UInt8):=(mulD s [49]).bind fun a=>(mulD [49] t).bind fun b=>textQD a b
end Go.Proofs.Υ
