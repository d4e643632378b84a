/- Lemmas. -/
import Derived.Test.YtodehkjinmgflaaGreatDoorEA
set_option linter.all false
set_option maxHeartbeats 0
set_option maxRecDepth 99999
namespace Go.Proofs.Υ
open Go Go.RowKit
section
structure V where
 x:Int
 y:Int
 z:Int
deriving DecidableEq
namespace V
instance : Sub V := ⟨fun a b => ⟨a.x - b.x, a.y - b.y, a.z - b.z⟩⟩
instance : Neg V := ⟨fun a => ⟨-a.x, -a.y, -a.z⟩⟩
def zero:V:=⟨0,0,0⟩
def dot(a b:V):Int:=a.x*b.x+a.y*b.y+a.z*b.z
def cross(a b:V):V:=⟨a.y*b.z-a.z*b.y,a.z*b.x-a.x*b.z,a.x*b.y-a.y*b.x⟩
theorem sub_x(a b:V):(a-b).x=a.x-b.x:=rfl
theorem sub_y(a b:V):(a-b).y=a.y-b.y:=rfl
theorem sub_z(a b:V):(a-b).z=a.z-b.z:=rfl
theorem neg_x(a:V):(-a).x=-a.x:=rfl
theorem neg_y(a:V):(-a).y=-a.y:=rfl
theorem neg_z(a:V):(-a).z=-a.z:=rfl
theorem ext'{a b:V}(e:a.x=b.x)(j:a.y=b.y)(u:a.z=b.z):a=b:=by
 cases a;cases b;cases e;cases j;cases u;rfl
end V
open V
def T(n u v:V):Int:=dot n (cross u v)
theorem l6(n u v:V):T n v u=- T n u v:=by simp only[T,dot,cross];grind
theorem T_self(n u:V):T n u u=0:=by simp only[T,dot,cross];grind
theorem cR(a b:V):dot a b=dot b a:=by simp only[dot];grind
theorem bK(g a b:V):dot g (a-b)=dot g a-dot g b:=by simp only[dot,sub_x,sub_y,sub_z];grind
theorem T_sub(n u v w:V):T n u (v-w)=T n u v-T n u w:=by simp only[T,dot,cross,sub_x,sub_y,sub_z];grind
theorem det_id(n u v w g:V):dot g w*T n u v+dot g u*T n v w+dot g v*T n w u=dot u (cross v w)*dot g n:=by
 simp only[T,dot,cross];grind
theorem det_n(n u v w g:V):dot u (cross v w)*dot g n=dot n u*dot g (cross v w)+dot n v*dot g (cross w u)+dot n w*dot g (cross u v):=by
 simp only[dot,cross];grind
theorem tQ{n u v w:V}(e:dot n u=0)(j:dot n v=0)(A:dot n w=0)(g:V):dot g w*T n u v+dot g u*T n v w+dot g v*T n w u=0:=by
 rw[det_id,det_n,e,j,A];simp
theorem dp{n:V}(h:n≠V.zero):0<dot n n:=by
 unfold dot;have A:0<=n.x*n.x:=by rcases Int.le_total 0 n.x with a|a;exact Int.mul_nonneg a a;exact Int.mul_nonneg_of_nonpos_of_nonpos a a
 have C:0<=n.y*n.y:=by rcases Int.le_total 0 n.y with a|a;exact Int.mul_nonneg a a;exact Int.mul_nonneg_of_nonpos_of_nonpos a a
 have E:0<=n.z*n.z:=by rcases Int.le_total 0 n.z with a|a;exact Int.mul_nonneg a a;exact Int.mul_nonneg_of_nonpos_of_nonpos a a
 rcases Int.lt_or_le 0 (n.x*n.x+n.y*n.y+n.z*n.z)with h0|h0
 ·exact h0
 ·have e:n.x*n.x=0:=I
  have j:n.y*n.y=0:=I;have u:n.z*n.z=0:=I;exact absurd (V.ext' (b:=V.zero) (by have:=Int.mul_eq_zero.mp e;show n.x=0;omega) (by have:=Int.mul_eq_zero.mp j;show n.y=0;omega) (by have:=Int.mul_eq_zero.mp u;show n.z=0;omega)) h
theorem ig(n u w:V)(i:V)(e:dot n u=0)(j:dot n w=0):dot n n*dot i (cross u w)=dot i n*T n u w:=by
 have h:dot n n*dot i (cross u w)=dot i n*T n u w+dot n w*dot i (cross u n)-dot n u*dot i (cross w n):=by
  simp only[T,dot,cross];grind
 rw[h,e,j];simp
theorem para{n u w:V}(j:n≠V.zero)(A:dot n u=0)(C:dot n w=0)(h:T n u w=0)(g i:V):dot g w*dot i u=dot g u*dot i w:=by
 have hc:∀i,dot i (cross u w)=0:=fun i=>by
  have:=ig n u w i A C;rw[h,Int.mul_zero]at this;exact(Int.mul_eq_zero.mp this).resolve_left (by have:=dp j;omega)
 have e:dot g w*dot i u-dot g u*dot i w=dot (cross i g) (cross u w):=by simp only[dot,cross];grind
 rw[hc]at e;omega
def Rel(n u v:V):Prop:=0<T n u v\/T n u v=0/\dot v v<=dot u u
theorem Rel.nonneg{n u v:V}(h:Rel n u v):0<=T n u v:=by rcases h with h|h<;>omega
theorem rel_total{n u v:V}(h:¬ Rel n u v):Rel n v u:=by
 unfold Rel at *;rw[l6];omega
theorem rel_refl(n u:V):Rel n u u:=.inr ⟨T_self n u,Int.le_refl _⟩
theorem rel_trans{n u v w g:V}(H:dot n u=0)(J:dot n v=0)(L:dot n w=0)(E:0<dot g u)(G:0<dot g v)(F:0<dot g w)(A:Rel n u v)(C:Rel n v w):Rel n u w:=by
 have h:=tQ H J L g;rw[l6 n u w]at h;have U:0<=dot g w*T n u v:=Int.mul_nonneg (Int.le_of_lt F) A.nonneg;have W:0<=dot g u*T n v w:=Int.mul_nonneg (Int.le_of_lt E) C.nonneg;have e:dot g v*T n u w=dot g w*T n u v+dot g u*T n v w:=by
  rw[Int.mul_neg]at h;omega
 by_cases j:0<T n u v\/0<T n v w
 ·left
  have:0<dot g v*T n u w:=by
   rw[e]
   rcases j with j|j
   ·have:=Int.mul_pos F j;omega
   ·have:=Int.mul_pos E j;omega
  exact Int.pos_of_mul_pos_right this G |> fun h=>h
 ·right
  rcases A with A|⟨A,Q⟩
  ·exact absurd (.inl A) j
  rcases C with C|⟨C,R⟩
  ·exact absurd (.inr C) j
  rw[A,C,Int.mul_zero,Int.mul_zero]at e;exact⟨(Int.mul_eq_zero.mp e).resolve_left I,Int.le_trans R Q⟩
section Ring
variable (P : Nat → V) (on : List Nat) (n : V)
def gg(a:Nat):Prop:=a∈on/\∃g,∀q∈on,q≠a->0<dot g (P q-P a)
def Next(a b:Nat):Prop:=b∈on/\b≠a/\∀q∈on,q≠a->Rel n (P b-P a) (P q-P a)
structure Flat:Prop where
 n0:n≠V.zero
 pl:∀ p ∈ on,∀ q ∈ on,dot n (P p - P q)=0
 inj:∀ p ∈ on,∀ q ∈ on,P p=P q→p=q
variable {P on n}
def pick(P:Nat->V)(n:V)(a:Nat)(b:Option Nat)(i:Nat):Option Nat:=
 if i=a then b else match b with
 | none=>some i
 | some b=>if T n (P b-P a) (P i-P a)<0\/T n (P b-P a) (P i-P a)=0/\dot (P i-P a) (P i-P a) > dot (P b-P a) (P b-P a)then some i else some b
theorem pick_spec(J:Flat P on n){a:Nat}(ha:gg P on a)(done rest:List Nat)(C:∀q,q∈done\/q∈rest->q∈on)(b:Option Nat)(hb:match b with|none=>∀q∈done,q=a|some b=>b∈done/\b≠a/\∀q∈done,q≠a->Rel n (P b-P a) (P q-P a)):
 match rest.foldl (pick P n a) b with
 | none=>∀q,q∈done\/q∈rest->q=a
 | some b=>(b∈done\/b∈rest)/\b≠a/\∀q,q∈done\/q∈rest->q≠a->Rel n (P b-P a) (P q-P a):=by
 induction rest generalizing done b with
 | nil =>
  cases b with
  | none=>simpa using hb
  | some b=>simpa using hb
 | cons i rest ih =>
  have e:∀q,(q∈done++[i]\/q∈rest)↔(q∈done\/q∈i::rest):=fun q=>by simp[or_assoc]
  have:=ih (done++[i]) (fun q j=>C q ((e q).mp j)) (pick P n a b i) ?_
  ·simp only[List.foldl_cons]
   revert this
   cases List.foldl (pick P n a) (pick P n a b i) rest with
   | none=>intro h q j;exact h q ((e q).mpr j)
   | some c=>intro h;exact⟨(e c).mp h.1,h.2.1,fun q j=>h.2.2 q ((e q).mpr j)⟩
  ·obtain⟨F,g,G⟩:=ha
   have pl:∀q∈on,dot n (P q-P a)=0:=fun q j=>J.pl q j a F
   have hi:i∈on:=C i (.inr (by simp));have E:∀q∈done,q∈on:=fun q j=>C q (.inl j)
   unfold pick;by_cases A:i=a
   ·rw[if_pos A]
    cases b with
    | none=>intro q j;rcases List.mem_append.mp j with j|j;exact hb q j;simpa[A]using j
    | some b =>
     refine⟨List.mem_append_left _ hb.1,hb.2.1,fun q j u=>?_⟩
     rcases List.mem_append.mp j with j|j
     ·exact hb.2.2 q j u
     ·exact absurd (by simpa[A]using j) u
   ·rw[if_neg A]
    cases b with
    | none =>
     refine⟨by simp,A,fun q j u=>?_⟩
     rcases List.mem_append.mp j with j|j
     ·exact absurd (hb q j) u
     ·have:q=i:=by simpa using j
      subst this;exact rel_refl _ _
    | some b =>
     obtain⟨b1,b2,H⟩:=hb;dsimp only;by_cases h:T n (P b-P a) (P i-P a)<0\/T n (P b-P a) (P i-P a)=0/\dot (P i-P a) (P i-P a) > dot (P b-P a) (P b-P a)
     ·rw[if_pos h]
      have L:Rel n (P i-P a) (P b-P a):=by
       refine rel_total ?_;unfold Rel;omega
      refine⟨by simp,A,fun q j u=>?_⟩
      rcases List.mem_append.mp j with j|j
      ·exact rel_trans (pl i hi) (pl b (E b b1)) (pl q (E q j)) (G i hi A) (G b (E b b1) b2) (G q (E q j) u) L (H q j u)
      ·have:q=i:=by simpa using j
       subst this;exact rel_refl _ _
     ·rw[if_neg h]
      refine⟨List.mem_append_left _ b1,b2,fun q j u=>?_⟩
      rcases List.mem_append.mp j with j|j
      ·exact H q j u
      ·have:q=i:=by simpa using j
       subst this;unfold Rel;omega
def nx(P:Nat->V)(on:List Nat)(n:V)(a:Nat):Nat:=(on.foldl (pick P n a) none).getD 0
theorem o9(A:Flat P on n){a:Nat}(ha:gg P on a)(u:∃q∈on,q≠a):
 on.foldl (pick P n a) none=some (nx P on n a)/\Next P on n a (nx P on n a):=by
 have h:=pick_spec A ha [] on (by simp) none (by simp);unfold nx;revert h
 cases on.foldl (pick P n a) none with
 | none=>intro h;obtain⟨q,e,j⟩:=u;exact absurd (h q (.inr e)) j
 | some b=>intro h;exact⟨rfl,by simpa using h.1,h.2.1,fun q e=>h.2.2 q (.inr e)⟩
theorem bound_list(f:Nat->Int)(l:List Nat):∃K,0<K/\∀q∈l,f q<K:=by
 induction l with
 | nil=>exact⟨1,by omega,by simp⟩
 | cons a l ih =>
  obtain⟨K,hK,h⟩:=ih;refine⟨max K (f a+1),by omega,fun q e=>?_⟩
  rcases List.mem_cons.mp e with rfl|e
  ·omega
  ·have:=h q e;omega
theorem ray{n e w g:V}(hn:n≠V.zero)(X:dot n e=0)(hw:dot n w=0)(E:0<dot g e)(R:0<dot g w)(h:T n e w=0)(Y:dot w w<=dot e e)(A:w≠e):
 ∃G β:Int,0<β/\β<G/\∀i,G*dot i w=β*dot i e:=by
 have j:=para hn X hw h;refine⟨dot g e,dot g w,R,?_,fun i=>?_⟩
 ·have F:=j g w
  have U:=j g e;rw[cR w e]at F;have h3:dot g w*dot g w*dot e e=dot g e*dot g e*dot w w:=by
   have:=j g e;have J:dot g w*dot g w*dot e e=dot g w*(dot g w*dot e e):=by rw[Int.mul_assoc]
   rw[J,U];have L:dot g w*(dot g e*dot e w)=dot g e*(dot g w*dot e w):=by rw[Int.mul_left_comm]
   rw[L,F,Int.mul_assoc]
  have H:e≠V.zero:=by
   intro h0;rw[h0]at E;simp[dot,V.zero]at E
  have Q:=dp H
  rcases Int.lt_or_le (dot g w) (dot g e)with h|h
  ·exact h
  ·exfalso
   by_cases C:dot g w=dot g e
   ·refine A (V.ext' ?_ ?_ ?_)
    ·have:=j g ⟨1,0,0⟩
     rw[C]at this;have:=Int.eq_of_mul_eq_mul_left I this
     simpa[dot]using this.symm
    ·have:=j g ⟨0,1,0⟩
     rw[C]at this;have:=Int.eq_of_mul_eq_mul_left I this
     simpa[dot]using this.symm
    ·have:=j g ⟨0,0,1⟩
     rw[C]at this;have:=Int.eq_of_mul_eq_mul_left I this
     simpa[dot]using this.symm
   ·have u:dot g e<dot g w:=I
    have W:dot g e*dot g e<dot g w*dot g w:=Int.mul_lt_mul' I u I I;have h5:dot g e*dot g e*dot w w<=dot g e*dot g e*dot e e:=Int.mul_le_mul_of_nonneg_left Y (Int.mul_nonneg I I);have h6:dot g e*dot g e*dot e e<dot g w*dot g w*dot e e:=Int.mul_lt_mul_of_pos_right W Q;omega
 ·have:=j g i;rw[this]
theorem mr(a b c:V):(a-c)-(b-c)=a-b:=by
 apply V.ext'<;>simp only[sub_x,sub_y,sub_z]<;>omega
theorem sub_eq_self{a b c:V}(h:a-c=b-c):a=b:=by
 have e:=congrArg V.x h;have j:=congrArg V.y h;have u:=congrArg V.z h;simp only[sub_x,sub_y,sub_z]at e j u;apply V.ext'<;>omega
theorem qW(g a b:V):dot g (a-b)=- dot g (b-a):=by rw[bK,bK];omega
theorem next_ray(A:Flat P on n){a b q:Nat}(ha:gg P on a)(hb:Next P on n a b)(C:q∈on)(u:q≠a)(F:q≠b)(h:T n (P b-P a) (P q-P a)=0):
 ∃H β:Int,0<β/\β<H/\∀i,H*dot i (P q-P a)=β*dot i (P b-P a):=by
 obtain⟨j,g,G⟩:=ha;obtain⟨e,E,Q⟩:=hb;have L:dot (P q-P a) (P q-P a)<=dot (P b-P a) (P b-P a):=by
  have:=Q q C u;unfold Rel at this;omega
 exact ray A.n0 (A.pl b e a j) (A.pl q C a j) (G b e E) (G q C u) h L fun J=>F (A.inj q C b e (sub_eq_self J))
theorem nB(U:Flat P on n){a b q:Nat}(ha:gg P on a)(hb:Next P on n a b)(W:gg P on q)(j:q≠a)(A:q≠b):0<T n (P b-P a) (P q-P a):=by
 obtain⟨C,h,G⟩:=W;have:=(hb.2.2 q C j).nonneg
 rcases Int.lt_or_eq_of_le this with h0|h0
 ·exact h0
 exfalso;obtain⟨E,β,F,u,hr⟩:=next_ray U ha hb C j A h0.symm;have H:=G a ha.1 (Ne.symm j);have J:=G b hb.1 (Ne.symm A);have e:=hr h;rw[qW]at H;have L:dot h (P b-P q)=dot h (P b-P a)-dot h (P q-P a):=by simp only[bK];omega
 rw[L]at J;generalize dot h (P b-P a)=X at *;generalize dot h (P q-P a)=Y at *;have Q:X<0:=by
  rcases Int.lt_or_le X 0 with h|h
  ·exact h
  ·have:=Int.mul_nonneg (Int.le_of_lt F) h
   have:=Int.mul_neg_of_pos_of_neg (a:=E) (b:=Y) I I;omega
 have R:E*Y<E*X:=Int.mul_lt_mul_of_pos_left I I;rw[e]at R;have h6:E*X<β*X:=Int.mul_lt_mul_of_neg_right u Q;omega
theorem vert_next(Y:Flat P on n){a b:Nat}(ha:gg P on a)(hb:Next P on n a b):gg P on b:=by
 refine⟨hb.1,?_⟩;obtain⟨K,hK,hk⟩:=bound_list (fun q=>dot (P b-P a) (P q-P b)) on;have U:∀w,dot ⟨K*(cross n (P b-P a)).x-(P b-P a).x,K*(cross n (P b-P a)).y-(P b-P a).y,K*(cross n (P b-P a)).z-(P b-P a).z⟩ w=K*T n (P b-P a) w-dot (P b-P a) w:=fun w=>by
  simp only[T,dot,cross];grind
 refine⟨⟨K*(cross n (P b-P a)).x-(P b-P a).x,K*(cross n (P b-P a)).y-(P b-P a).y,K*(cross n (P b-P a)).z-(P b-P a).z⟩,fun q F G=>?_⟩;rw[U];obtain⟨E,g,J⟩:=ha;have H:=J b hb.1 hb.2.1;have Q:P b-P a≠V.zero:=by intro h0;rw[h0]at H;simp[dot,V.zero]at H
 have R:=dp Q;by_cases e:q=a
 ·subst e
  have C:T n (P b-P q) (P q-P b)=0:=by
   have:T n (P b-P q) (P q-P b)=- T n (P b-P q) (P b-P q):=by simp only[T_sub];omega
   rw[this,T_self];rfl
  rw[C,qW];omega
 ·have C:T n (P b-P a) (P q-P b)=T n (P b-P a) (P q-P a):=by
   rw[<-mr (P q) (P b) (P a),T_sub,T_self];omega
  rw[C];have u:=hb.2.2 q F e
  rcases u with u|⟨u,hl⟩
  ·have:=hk q F
   have:K*1<=K*T n (P b-P a) (P q-P a):=Int.mul_le_mul_of_nonneg_left I I;omega
  ·rw[u]
   obtain⟨L,β,aa,j,A⟩:=next_ray Y ⟨E,g,J⟩ hb F e G u;have W:=A (P b-P a);have h3:dot (P b-P a) (P q-P b)=dot (P b-P a) (P q-P a)-dot (P b-P a) (P b-P a):=by
    rw[<-bK,mr]
   have X:L*dot (P b-P a) (P q-P a)<L*dot (P b-P a) (P b-P a):=by
    rw[W];exact Int.mul_lt_mul_of_pos_right j R
   have:=Int.lt_of_mul_lt_mul_left X I;omega
theorem next_inj(C:Flat P on n){a e b:Nat}(ha:gg P on a)(j:gg P on e)(hb:Next P on n a b)(u:Next P on n e b):a=e:=by
 refine Decidable.byContradiction fun A=>?_
 have G:=nB C ha hb j (Ne.symm A) (Ne.symm u.2.1);have H:=nB C j u ha A (Ne.symm hb.2.1);have E:T n (P b-P a) (P e-P a)=T n (P a-P b) (P b-P e)+0:=by simp only[T,dot,cross,sub_x,sub_y,sub_z];grind
 have F:T n (P b-P e) (P a-P e)=- T n (P a-P b) (P b-P e):=by simp only[T,dot,cross,sub_x,sub_y,sub_z];grind
 omega
end Ring
end
section
open V
def orb(f:Nat->Nat)(a:Nat):Nat->Nat
 | 0=>a
 | j+1=>f (orb f a j)
def per(f:Nat->Nat)(a:Nat):Nat->Nat->Nat
 | 0,j=>j
 | fuel+1,j=>if orb f a j=a then j else per f a fuel (j+1)
def ring(P:Nat->V)(on:List Nat)(n:V):List Nat:=
 (List.range (per (nx P on n) (on.headD 0) on.length 1)).map (orb (nx P on n) (on.headD 0))
theorem per_spec(f:Nat->Nat)(a:Nat)(u j:Nat)(h:∃k,j<=k/\k<j+u/\orb f a k=a):
 orb f a (per f a u j)=a/\j<=per f a u j/\per f a u j<j+u/\∀i,j<=i->i<per f a u j->orb f a i≠a:=by
 induction u generalizing j with
 | zero=>obtain⟨k,C,E,_⟩:=h;omega
 | succ u ih =>
  unfold per;by_cases A:orb f a j=a
  ·rw[if_pos A];exact⟨A,Nat.le_refl _,by omega,fun i C E=>by omega⟩
  ·rw[if_neg A]
   obtain⟨k,C,E,F⟩:=h;have J:j≠k:=fun e=>A (by rw[e];exact F)
   have:=ih (j+1) ⟨k,by omega,by omega,F⟩;refine⟨this.1,by omega,by omega,fun i H G=>?_⟩;by_cases hi:i=j
   ·rw[hi];exact A
   ·exact this.2.2.2 i I G
theorem fB:∀(l m:List Nat),l.Nodup->(∀x∈l,x∈m)->l.length<=m.length
 | [],_,_,_=>by simp
 | a::l,m,h,hs=>by
  have ha:a∈m:=hs a (by simp);have A:=fB l (m.erase a) (List.nodup_cons.mp h).2 fun x u=>by
   have j:x≠a:=fun e=>(List.nodup_cons.mp h).1 (e▸u)
   exact(List.mem_erase_of_ne j).mpr (hs x (by simp[u]))
  rw[List.length_erase_of_mem ha]at A;have:0<m.length:=List.length_pos_of_mem ha;simp only[List.length_cons];omega
section Ring
variable {P : Nat → V} {on : List Nat} {n : V}
theorem eQ(e:Flat P on n)(u:∀a,∃q∈on,q≠a){a:Nat}(ha:gg P on a)(j:Nat):gg P on (orb (nx P on n) a j):=by
 induction j with
 | zero=>exact ha
 | succ j ih=>exact vert_next e ih (o9 e ih (u _)).2
theorem iz(u:Flat P on n)(e:∀a,∃q∈on,q≠a){a:Nat}(ha:gg P on a)(j:Nat):Next P on n (orb (nx P on n) a j) (orb (nx P on n) a (j+1)):=
 (o9 u (eQ u e ha j) (e _)).2
theorem orb_back(e:Flat P on n)(j:∀a,∃q∈on,q≠a){a:Nat}(ha:gg P on a)(i d:Nat)(h:orb (nx P on n) a i=orb (nx P on n) a (i+d)):a=orb (nx P on n) a d:=by
 induction i with
 | zero=>simpa[orb]using h
 | succ i ih =>
  refine ih ?_;have A:=iz e j ha i;have u:=iz e j ha (i+d);rw[show i+d+1=i+1+d by omega,<-h]at u;exact next_inj e (eQ e j ha i) (eQ e j ha (i+d)) A u
theorem orb_period(E:Flat P on n)(C:∀a,∃q∈on,q≠a){a:Nat}(ha:gg P on a):∃k,1<=k/\k<1+on.length/\orb (nx P on n) a k=a:=by
 refine Classical.byContradiction fun A=>?_
 have u:∀k,1<=k->k<1+on.length->orb (nx P on n) a k≠a:=fun k F G H=>A ⟨k,F,G,H⟩
 have e:((List.range (on.length+1)).map (orb (nx P on n) a)).Nodup:=by
  unfold List.Nodup;rw[List.pairwise_map];refine List.Pairwise.imp_of_mem ?_ List.pairwise_lt_range;intro i j hi Q L J;rw[List.mem_range]at hi Q;have:=orb_back E C ha i (j-i) (by rw[show i+(j-i)=j by omega];exact J);exact u (j-i) I I this.symm
 have:=fB _ on e fun x R=>by
  obtain⟨j,_,rfl⟩:=List.mem_map.mp R;exact(eQ E C ha j).1
 simp at this;omega
theorem qy(j:Flat P on n)(e:∀a,∃q∈on,q≠a){a:Nat}(ha:gg P on a):
 ∃k,k=per (nx P on n) a on.length 1/\1<=k/\k<1+on.length/\orb (nx P on n) a k=a/\∀i,1<=i->i<k->orb (nx P on n) a i≠a:=by
 have:=per_spec (nx P on n) a on.length 1 (orb_period j e ha);exact⟨_,rfl,this.2.1,this.2.2.1,this.1,this.2.2.2⟩
theorem uA(s:Nat->Int)(e:0<=s 1):∀m,2<=m->s m<=0->∃j,1<=j/\j+1<=m/\0<=s j/\s (j+1)<=0
 | 0,h,_=>by omega
 | 1,h,_=>by omega
 | 2,_,h=>⟨1,by omega,by omega,e,h⟩
 | m+3,_,h=>by
  by_cases u:0<=s (m+2)
  ·exact⟨m+2,by omega,by omega,u,h⟩
  ·obtain⟨j,a,b,c,d⟩:=uA s e (m+2) I I
   exact⟨j,a,by omega,c,d⟩
theorem vert_orb(A:Flat P on n)(G:∀a,∃q∈on,q≠a){a:Nat}(ha:gg P on a){k:Nat}(hk:1<=k)(L:orb (nx P on n) a k=a)(Q:∀i,1<=i->i<k->orb (nx P on n) a i≠a){v:Nat}(X:gg P on v):∃j,j<k/\orb (nx P on n) a j=v:=by
 refine Classical.byContradiction fun ab=>?_
 have E:∀j,j<k->v≠orb (nx P on n) a j:=fun j W h3=>ab ⟨j,W,h3.symm⟩
 have H:v≠a:=E 0 I;have ad:2<=k:=by
  refine Classical.byContradiction fun h=>?_
  have:k=1:=I;subst this;exact(iz A G ha 0).2.1 L
 have C:T n (P (orb (nx P on n) a (k-1))-P a) (P v-P a)<0:=by
  have W:=iz A G ha (k-1);rw[show k-1+1=k by omega,L]at W;have:=nB A (eQ A G ha (k-1)) W X (E (k-1) I) H;have e:T n (P a-P (orb (nx P on n) a (k-1))) (P v-P (orb (nx P on n) a (k-1)))=- T n (P (orb (nx P on n) a (k-1))-P a) (P v-P a):=by
   simp only[T,dot,cross,sub_x,sub_y,sub_z];grind
  omega
 have F:0<T n (P (orb (nx P on n) a 1)-P a) (P v-P a):=nB A ha (iz A G ha 0) X H (E 1 I);have af:k≠2:=by intro h;subst h;simp at C;omega
 obtain⟨j,j1,jk,sj,ag⟩:=uA (fun j=>T n (P (orb (nx P on n) a j)-P a) (P v-P a)) (Int.le_of_lt F) (k-1) I (Int.le_of_lt C);have hb:=eQ A G ha j;have hc:=eQ A G ha (j+1);have J:=iz A G ha j;have Y:=Q j j1 I;have aa:=Q (j+1) I I;have R:=E j I;have U:=E (j+1) I;generalize orb (nx P on n) a j=b at *;generalize orb (nx P on n) a (j+1)=c at *;have hD:=nB A hb J ha (Ne.symm Y) (Ne.symm aa);have hm:=nB A hb J X R U;obtain⟨ac,h,hh⟩:=X;have p1:=hh a ha.1 (Ne.symm H);have p2:=hh b hb.1 (Ne.symm R);have p3:=hh c hc.1 (Ne.symm U);have hp:=tQ (A.pl b hb.1 a ha.1) (A.pl c hc.1 a ha.1) (A.pl v ac a ha.1) h;have eD:T n (P c-P b) (P a-P b)=T n (P b-P a) (P c-P a):=by simp only[T,dot,cross,sub_x,sub_y,sub_z];grind
 have em:T n (P c-P b) (P v-P b)=T n (P b-P a) (P c-P a)+T n (P c-P a) (P v-P a)-T n (P b-P a) (P v-P a):=by simp only[T,dot,cross,sub_x,sub_y,sub_z];grind
 rw[eD]at hD;rw[em]at hm;have q1:dot h (P a-P v)=- dot h (P v-P a):=qW _ _ _;have q2:dot h (P b-P v)=dot h (P b-P a)-dot h (P v-P a):=by simp only[bK];omega
 have q3:dot h (P c-P v)=dot h (P c-P a)-dot h (P v-P a):=by simp only[bK];omega
 rw[q1]at p1;rw[q2]at p2;rw[q3]at p3;rw[l6 n (P b-P a) (P v-P a)]at hp;generalize T n (P b-P a) (P c-P a)=D at *;generalize T n (P b-P a) (P v-P a)=r at *;generalize T n (P c-P a) (P v-P a)=p at *;generalize dot h (P v-P a)=t at *;generalize dot h (P b-P a)=u at *;generalize dot h (P c-P a)=w at *;have m1:0<=(-p)*(u-t):=Int.mul_nonneg I I;have m2:0<=r*(w-t):=Int.mul_nonneg I I;have m3:0<(D+p-r)*(-t):=Int.mul_pos hm p1;have:(-p)*(u-t)+r*(w-t)+(D+p-r)*(-t)=0:=by grind
 omega
theorem ring_mem(A:Flat P on n)(u:∀a,∃q∈on,q≠a)(ha:gg P on (on.headD 0)){v:Nat}:v∈ring P on n↔gg P on v:=by
 obtain⟨k,e,G,H,E,F⟩:=qy A u ha;unfold ring;rw[<-e]
 constructor
 ·intro h
  obtain⟨j,_,rfl⟩:=List.mem_map.mp h;exact eQ A u ha j
 ·intro h
  obtain⟨j,C,rfl⟩:=vert_orb A u ha G E F h;exact List.mem_map.mpr ⟨j,List.mem_range.mpr C,rfl⟩
theorem vert_prev(u:Flat P on n)(j:∀a,∃q∈on,q≠a){v:Nat}(A:gg P on v):∃a,gg P on a/\Next P on n a v:=by
 obtain⟨k,e,F,G,C,E⟩:=qy u j A;have:=iz u j A (k-1);rw[show k-1+1=k by omega,C]at this;exact⟨_,eQ u j A _,this⟩
end Ring
end
section
open V
def tri(P:Nat->V)(i j k:Nat):V:=cross (P j-P i) (P k-P i)
structure Face (P:Nat→V) (N:Nat) (n:V) (b:Nat):Prop where
 three:∃ i j k,k<j/\j<i/\i<N/\tri P i j k≠V.zero/\(n=tri P i j k\/n=-tri P i j k)/\∀ w,dot n (w - P i)=dot n (w - P b)
 o:∀ q,q<N→dot n (P q - P b)<=0
def bj(P:Nat->V)(N:Nat)(n:V)(b:Nat):List Nat:=(List.range N).filter fun q=>dot n (P q-P b)=0
theorem aG{P:Nat->V}{N:Nat}{n:V}{b q:Nat}:q∈bj P N n b↔q<N/\dot n (P q-P b)=0:=by
 simp[bj,List.mem_filter]
def Inj(P:Nat->V)(N:Nat):Prop:=∀p,p<N->∀q,q<N->P p=P q->p=q
def i7(P:Nat->V)(N:Nat):Prop:=∀n,n≠V.zero->∀b,∃q,q<N/\dot n (P q-P b)≠0
theorem dot_base(n a b c:V)(h:dot n (b-c)=0):dot n (a-b)=dot n (a-c):=by
 simp only[bK]at *;omega
theorem lL{n:V}(h:n≠V.zero):-n≠V.zero:=by
 intro e;apply h;have j:=congrArg V.x e;have u:=congrArg V.y e;have A:=congrArg V.z e;simp only[neg_x,neg_y,neg_z,V.zero]at j u A;apply V.ext'<;>simp only[V.zero]<;>omega
theorem bE(n a:V):dot (-n) a=- dot n a:=by simp only[dot,neg_x,neg_y,neg_z];grind
variable {P : Nat → V} {N : Nat}
theorem Face.n0{n:V}{b:Nat}(h:Face P N n b):n≠V.zero:=by
 obtain⟨i,j,k,_,_,_,h0,e,_⟩:=h.three
 rcases e with rfl|rfl
 ·exact h0
 ·exact lL h0
theorem Face.flat{n:V}{b:Nat}(h:Face P N n b)(j:Inj P N):Flat P (bj P N n b) n where
 n0:=h.n0
 pl p hp q hq:=by
  have u:=(aG.mp hp).2;have A:=(aG.mp hq).2;simp only[bK]at *;omega
 inj p hp q hq e:=j p (aG.mp hp).1 q (aG.mp hq).1 e
theorem tri_n(P:Nat->V)(i j k:Nat):dot (tri P i j k) (P j-P i)=0/\dot (tri P i j k) (P k-P i)=0:=by
 constructor<;>(simp only[tri,dot,cross,sub_x,sub_y,sub_z];grind)
theorem Face.points{n:V}{b:Nat}(h:Face P N n b):∃i j k,k<j/\j<i/\i∈bj P N n b/\j∈bj P N n b/\k∈bj P N n b/\T n (P j-P i) (P k-P i)≠0:=by
 obtain⟨i,j,k,E,F,G,h0,u,hb⟩:=h.three;have hi:dot n (P i-P i)=0:=by simp only[bK];omega
 have A:dot n (P j-P i)=0:=by
  rcases u with rfl|rfl
  ·exact(tri_n P i j k).1
  ·rw[bE,(tri_n P i j k).1];rfl
 have C:dot n (P k-P i)=0:=by
  rcases u with rfl|rfl
  ·exact(tri_n P i j k).2
  ·rw[bE,(tri_n P i j k).2];rfl
 rw[hb]at hi A C;refine⟨i,j,k,E,F,aG.mpr ⟨G,hi⟩,aG.mpr ⟨by omega,A⟩,aG.mpr ⟨by omega,C⟩,?_⟩;have:=dp h0;unfold T
 rcases u with rfl|rfl
 ·exact fun e=>by unfold tri at *;omega
 ·rw[bE];exact fun e=>by unfold tri at *;omega
theorem Face.two{n:V}{b:Nat}(h:Face P N n b)(a:Nat):∃q∈bj P N n b,q≠a:=by
 obtain⟨i,j,k,A,C,hi,u,E,_⟩:=h.points;by_cases e:i=a
 ·exact⟨j,u,by omega⟩
 ·exact⟨i,hi,e⟩
theorem pB{a b m:Nat}(ha:a<N)(hb:b<N)(hm:m<N)(h0:cross (P b-P a) (P m-P a)≠V.zero)(U:∀q,q<N->0<=dot (cross (P b-P a) (P m-P a)) (P q-P a)):Face P N (-cross (P b-P a) (P m-P a)) a:=by
 have u:a≠b:=by rintro rfl;exact h0 (by simp only[cross,sub_x,sub_y,sub_z,V.zero];apply V.ext'<;>dsimp only<;>grind)
 have A:a≠m:=by rintro rfl;exact h0 (by simp only[cross,sub_x,sub_y,sub_z,V.zero];apply V.ext'<;>dsimp only<;>grind)
 have C:b≠m:=by rintro rfl;exact h0 (by simp only[cross,sub_x,sub_y,sub_z,V.zero];apply V.ext'<;>dsimp only<;>grind)
 have key:∀i j k,k<j->j<i->i<N->(tri P i j k=cross (P b-P a) (P m-P a)\/tri P i j k=-cross (P b-P a) (P m-P a))->dot (cross (P b-P a) (P m-P a)) (P i-P a)=0->Face P N (-cross (P b-P a) (P m-P a)) a:=by
  intro i j k J L Q H hi;refine⟨⟨i,j,k,J,L,Q,?_,?_,fun w=>?_⟩,fun q R=>?_⟩
  ·rcases H with e|e<;>rw[e]
   ·exact h0
   ·exact lL h0
  ·rcases H with e|e<;>rw[e]
   ·exact .inr rfl
   ·exact .inl rfl
  ·exact dot_base _ _ _ _ (by rw[bE,hi];rfl)
  ·rw[bE];have:=U q R;omega
 have E:dot (cross (P b-P a) (P m-P a)) (P a-P a)=0:=by simp only[dot,sub_x,sub_y,sub_z];grind
 have F:dot (cross (P b-P a) (P m-P a)) (P b-P a)=0:=by simp only[dot,cross,sub_x,sub_y,sub_z];grind
 have G:dot (cross (P b-P a) (P m-P a)) (P m-P a)=0:=by simp only[dot,cross,sub_x,sub_y,sub_z];grind
 have t1:tri P a b m=cross (P b-P a) (P m-P a):=rfl;have t2:tri P a m b=-cross (P b-P a) (P m-P a):=by unfold tri;apply V.ext'<;>simp only[cross,sub_x,sub_y,sub_z,neg_x,neg_y,neg_z]<;>grind
 have t3:tri P b a m=-cross (P b-P a) (P m-P a):=by unfold tri;apply V.ext'<;>simp only[cross,sub_x,sub_y,sub_z,neg_x,neg_y,neg_z]<;>grind
 have t4:tri P b m a=cross (P b-P a) (P m-P a):=by unfold tri;apply V.ext'<;>simp only[cross,sub_x,sub_y,sub_z,neg_x,neg_y,neg_z]<;>grind
 have t5:tri P m a b=cross (P b-P a) (P m-P a):=by unfold tri;apply V.ext'<;>simp only[cross,sub_x,sub_y,sub_z,neg_x,neg_y,neg_z]<;>grind
 have t6:tri P m b a=-cross (P b-P a) (P m-P a):=by unfold tri;apply V.ext'<;>simp only[cross,sub_x,sub_y,sub_z,neg_x,neg_y,neg_z]<;>grind
 rcases Nat.lt_or_gt_of_ne u with W|W<;>rcases Nat.lt_or_gt_of_ne A with X|X<;>rcases Nat.lt_or_gt_of_ne C with Y|Y
 ·exact key m b a I I I (.inr t6) G
 ·exact key b m a I I I (.inl t4) F
 ·omega
 ·exact key b a m I I I (.inr t3) F
 ·exact key m a b I I I (.inl t5) G
 ·omega
 ·exact key a m b I I I (.inr t2) E
 ·exact key a b m I I I (.inl t1) E
theorem mK(R:Nat->Nat->Prop)(p:Nat->Prop)(e:∀a,p a->R a a)(u:∀a b,p a->p b->¬ R a b->R b a)(A:∀a b c,p a->p b->p c->R a b->R b c->R a c):
 ∀l:List Nat,(∀x∈l,p x)->l≠[]->∃m∈l,∀q∈l,R m q
 | [],_,h=>absurd rfl h
 | [a],hp,_=>⟨a,by simp,fun q j=>by
  have:q=a:=by simpa using j
  subst this;exact e q (hp q (by simp))⟩
 | a::b::l,hp,_=>by
  obtain⟨m,E,h⟩:=mK R p e u A (b::l) (fun x H=>hp x (List.mem_cons_of_mem _ H)) (by simp);have G:=hp m (List.mem_cons_of_mem _ E);have C:=hp a (by simp);by_cases F:R m a
  ·exact⟨m,List.mem_cons_of_mem _ E,fun q j=>by
    rcases List.mem_cons.mp j with rfl|j
    ·exact F
    ·exact h q j⟩
  ·exact⟨a,by simp,fun q j=>by
    rcases List.mem_cons.mp j with rfl|j
    ·exact e _ C
    ·exact A a m q C G (hp q (List.mem_cons_of_mem _ j)) (u m a G C F) (h q j)⟩
theorem edge{n:V}{b:Nat}(hF:Face P N n b)(A:i7 P N){a c:Nat}(ha:a∈bj P N n b)(hc:c∈bj P N n b)(Y:P c-P a≠V.zero)(hs:∀q∈bj P N n b,0<=T n (P c-P a) (P q-P a)):
 ∃n',Face P N n' a/\dot n' (P c-P a)=0/\∀t∈bj P N n b,0<T n (P c-P a) (P t-P a)->dot n' (P t-P a)≠0:=by
 obtain⟨X,an⟩:=aG.mp ha;obtain⟨aa,ao⟩:=aG.mp hc;have he:dot n (P c-P a)=0:=by simp only[bK]at *;omega
 have j:∀q,dot n (P q-P a)=dot n (P q-P b):=fun q=>by simp only[bK]at *;omega
 obtain⟨q0,Q,R⟩:=A n hF.n0 b;have u:∀x y z:V,dot n z*0=0->dot n y*dot (P c-P a) (cross x z)=dot n z*dot (P c-P a) (cross x y)+dot n x*dot (P c-P a) (cross y z):=fun x y z _=>by
  have:dot n y*dot (P c-P a) (cross x z)=dot n z*dot (P c-P a) (cross x y)+dot n x*dot (P c-P a) (cross y z)-dot n (P c-P a)*dot x (cross y z):=by simp only[dot,cross];grind
  rw[he]at this;omega
 obtain⟨m,hm,E⟩:=mK (fun x y=>0<=dot (P c-P a) (cross (P x-P a) (P y-P a))) (fun x=>dot n (P x-P a)<0)
  (fun x _=>by
   have:dot (P c-P a) (cross (P x-P a) (P x-P a))=0:=by simp only[dot,cross];grind
   omega)
  (fun x y _ _ h=>by
   have:dot (P c-P a) (cross (P y-P a) (P x-P a))=- dot (P c-P a) (cross (P x-P a) (P y-P a)):=by simp only[dot,cross];grind
   omega)
  (fun x y z hx hy hz h1 h2=>by
   have e:=u (P x-P a) (P y-P a) (P z-P a) I;have m1:=Int.mul_nonneg (a:=- dot n (P z-P a)) I h1;have m2:=Int.mul_nonneg (a:=- dot n (P x-P a)) I h2
   rcases Int.lt_or_le (dot (P c-P a) (cross (P x-P a) (P z-P a))) 0 with h|h
   ·have m3:=Int.mul_pos_of_neg_of_neg hy h
    rw[Int.neg_mul]at m1 m2;omega
   ·exact h)
  ((List.range N).filter fun q=>dot n (P q-P a)<0)
  (fun x hx=>by simpa using(List.mem_filter.mp hx).2)
  (List.ne_nil_of_mem (a:=q0) (List.mem_filter.mpr ⟨List.mem_range.mpr Q,by have:=hF.o q0 Q;rw[<-j]at this R;simp;omega⟩))
 have ac:m<N:=List.mem_range.mp (List.mem_filter.mp hm).1;have ad:dot n (P m-P a)<0:=by simpa using(List.mem_filter.mp hm).2
 have G:∀q∈bj P N n b,dot n n*dot (cross (P c-P a) (P m-P a)) (P q-P a)=- (dot n (P m-P a))*T n (P c-P a) (P q-P a):=fun q J=>by
  have af:dot n (P q-P a)=0:=by rw[j];exact(aG.mp J).2
  have U:dot (cross (P c-P a) (P m-P a)) (P q-P a)=- dot (P m-P a) (cross (P c-P a) (P q-P a)):=by simp only[dot,cross];grind
  rw[U,Int.mul_neg,ig n (P c-P a) (P q-P a) (P m-P a) he af,cR (P m-P a) n,Int.neg_mul]
 have F:=dp hF.n0;have C:∀q,q<N->0<=dot (cross (P c-P a) (P m-P a)) (P q-P a):=fun q J=>by
  by_cases ag:dot n (P q-P b)=0
  ·have L:=aG.mpr ⟨J,ag⟩
   have:=G q L;have W:=Int.mul_nonneg (a:=-(dot n (P m-P a))) I (hs q L);rw[<-this]at W;exact Int.nonneg_of_mul_nonneg_right W F |> fun h=>h
  ·have:=E q (List.mem_filter.mpr ⟨List.mem_range.mpr J,by have:=hF.o q J;rw[j];simp;omega⟩)
   have U:dot (cross (P c-P a) (P m-P a)) (P q-P a)=dot (P c-P a) (cross (P m-P a) (P q-P a)):=by simp only[dot,cross];grind
   omega
 have h0:cross (P c-P a) (P m-P a)≠V.zero:=by
  intro h0;have hz:∀i,dot i (cross n (cross (P c-P a) (P m-P a)))=dot n (P m-P a)*dot i (P c-P a)-dot n (P c-P a)*dot i (P m-P a):=fun i=>by simp only[dot,cross];grind
  have:=hz (P c-P a);rw[h0,he]at this;have U:dot (P c-P a) (cross n V.zero)=0:=by simp only[dot,cross,V.zero];grind
  rw[U,Int.zero_mul,Int.sub_zero]at this;have ab:=dp Y;have:=Int.mul_neg_of_neg_of_pos ad ab;omega
 refine⟨_,pB X aa ac h0 C,?_,fun t ht H=>?_⟩
 ·simp only[dot,cross,neg_x,neg_y,neg_z];grind
 ·rw[bE]
  have W:=G t ht;have h4:=Int.mul_pos (a:=-(dot n (P m-P a))) I H;rw[<-W]at h4;have:=Int.pos_of_mul_pos_right h4 F;omega
def nW(P:Nat->V)(N:Nat)(v:Nat):Prop:=
 (∃n b,Face P N n b/\dot n (P v-P b)=0)/\∀t,t<N->t≠v->∃n b,Face P N n b/\dot n (P v-P b)=0/\dot n (P t-P b)≠0
def Top(P:Nat->V)(N:Nat)(v:Nat):Prop:=∃g,∀q,q<N->q≠v->0<dot g (P q-P v)
theorem nW.top{v:Nat}(h:nW P N v):Top P N v:=by
 have:∀l:List Nat,(∀t∈l,t<N)->∃g,(∀q,q<N->0<=dot g (P q-P v))/\∀t∈l,t≠v->0<dot g (P t-P v):=by
  intro l
  induction l with
  | nil=>intro _;exact⟨V.zero,fun q _=>by simp[dot,V.zero],by simp⟩
  | cons t l ih =>
   intro F;obtain⟨g,g1,g2⟩:=ih fun x j=>F x (List.mem_cons_of_mem _ j)
   by_cases A:t=v
   ·refine⟨g,g1,fun x j u=>?_⟩
    rcases List.mem_cons.mp j with rfl|j
    ·exact absurd A u
    ·exact g2 x j u
   ·obtain⟨n,b,hF,J,L⟩:=h.2 t (F t (by simp)) A
    have e:∀w,dot ⟨g.x-n.x,g.y-n.y,g.z-n.z⟩ w=dot g w-dot n w:=fun w=>by simp only[dot];grind
    have hb:∀q,dot n (P q-P v)=dot n (P q-P b):=fun q=>by simp only[bK]at *;omega
    refine⟨⟨g.x-n.x,g.y-n.y,g.z-n.z⟩,fun q E=>?_,fun x j u=>?_⟩
    ·rw[e,hb];have:=g1 q E;have:=hF.o q E;omega
    ·rw[e,hb]
     have C:=F x j;have:=hF.o x C
     rcases List.mem_cons.mp j with rfl|j
     ·have:=g1 x C;omega
     ·have:=g2 x j u;omega
 obtain⟨g,_,g2⟩:=this (List.range N) fun t H=>List.mem_range.mp H
 exact⟨g,fun q E G=>g2 q (List.mem_range.mpr E) G⟩
theorem Top.vert{v:Nat}(h:Top P N v){n:V}{b:Nat}(A:v∈bj P N n b):gg P (bj P N n b) v:=by
 obtain⟨g,j⟩:=h;exact⟨A,g,fun q u e=>j q (aG.mp u).1 e⟩
theorem lk(n e u w:V)(E:e≠V.zero)(F:dot n e=0)(G:dot n u=0)(H:dot n w=0)(j:T n e u=0)(A:T n e w=0):T n u w=0:=by
 have h:=tQ G H F e;rw[l6 n e w,j,A]at h;have:=dp E;have C:dot e e*T n u w=0:=by simpa using h
 exact(Int.mul_eq_zero.mp C).resolve_left I
theorem Face.extr{n:V}{b:Nat}(hF:Face P N n b)(Q:Inj P N)(C:i7 P N){v:Nat}(F:gg P (bj P N n b) v):nW P N v:=by
 have W:=hF.flat Q;refine⟨⟨n,b,hF,(aG.mp F.1).2⟩,fun t ht ad=>?_⟩;by_cases R:dot n (P t-P b)=0
 case neg=>exact⟨n,b,hF,(aG.mp F.1).2,R⟩
 have A:=aG.mpr ⟨ht,R⟩;obtain⟨a,ha,G⟩:=vert_prev W hF.two F;have e:=(o9 W F (hF.two v)).2;generalize nx P (bj P N n b) n v=c at e;have u:∀{x y:Nat},x∈bj P N n b->y∈bj P N n b->x≠y->P x-P y≠V.zero:=fun{x y} U hy af h0=>af (W.inj x U y hy (by
  have U:=congrArg V.x h0;have hy:=congrArg V.y h0;have hz:=congrArg V.z h0;simp only[sub_x,sub_y,sub_z,V.zero]at U hy hz;apply V.ext'<;>omega))
 have s1:∀q∈bj P N n b,0<=T n (P v-P a) (P q-P a):=fun q L=>by
  by_cases E:q=a
  ·subst E
   have:T n (P v-P q) (P q-P q)=0:=by simp only[T_sub];omega
   omega
  ·exact(G.2.2 q L E).nonneg
 have s2:∀q∈bj P N n b,0<=T n (P c-P v) (P q-P v):=fun q L=>by
  by_cases E:q=v
  ·subst E
   have:T n (P c-P q) (P q-P q)=0:=by simp only[T_sub];omega
   omega
  ·exact(e.2.2 q L E).nonneg
 by_cases h1:0<T n (P v-P a) (P t-P a)
 ·obtain⟨n',H,h3,h4⟩:=edge hF C ha.1 F.1 (u F.1 ha.1 G.2.1) s1
  exact⟨n',a,H,h3,h4 t A h1⟩
 by_cases h2:0<T n (P c-P v) (P t-P v)
 ·obtain⟨n',H,h3,h4⟩:=edge hF C F.1 e.1 (u e.1 F.1 e.2.1) s2
  exact⟨n',v,H,by simp only[bK];omega,h4 t A h2⟩
 exfalso;have z1:T n (P v-P a) (P t-P a)=0:=by have:=s1 t A;omega
 have z2:T n (P c-P v) (P t-P v)=0:=by have:=s2 t A;omega
 have pl:=fun x U=>W.pl x U v F.1
 have ag:T n (P t-P v) (P a-P v)=0:=by
  have:T n (P v-P a) (P t-P a)=T n (P t-P v) (P a-P v):=by simp only[T,dot,cross,sub_x,sub_y,sub_z];grind
  omega
 have an:T n (P t-P v) (P c-P v)=0:=by rw[l6,z2];rfl
 have ac:=u A F.1 ad;have aa:T n (P c-P v) (P a-P v)=0:=lk n _ _ _ ac (pl t A) (pl c e.1) (pl a ha.1) an ag;obtain⟨_,g,hg⟩:=F;have ga:=hg a ha.1 (Ne.symm G.2.1);have gc:=hg c e.1 e.2.1;have all:∀q∈bj P N n b,T n (P c-P v) (P q-P v)=0:=fun q L=>by
  have k1:=s1 q L;have k2:=s2 q L;have e1:T n (P v-P a) (P q-P a)=- T n (P a-P v) (P q-P v):=by simp only[T,dot,cross,sub_x,sub_y,sub_z];grind
  have hp:=tQ (pl c e.1) (pl a ha.1) (pl q L) g;rw[aa,l6 n (P c-P v) (P q-P v)]at hp;rw[e1]at k1;have m1:=Int.mul_nonneg (Int.le_of_lt gc) (b:=- T n (P a-P v) (P q-P v)) I
  rcases Int.lt_or_eq_of_le k2 with h|h
  ·have m2:=Int.mul_pos ga h
   rw[Int.mul_neg]at hp m1;omega
  ·exact h.symm
 obtain⟨i,j,k,_,_,hi,X,Y,ab⟩:=hF.points;have J:=u e.1 G.1 e.2.1;have w1:=lk n _ _ _ J (pl c e.1) (pl i hi) (pl j X) (all i hi) (all j X);have w2:=lk n _ _ _ J (pl c e.1) (pl i hi) (pl k Y) (all i hi) (all k Y);have w3:=lk n _ _ _ J (pl c e.1) (pl j X) (pl k Y) (all j X) (all k Y);apply ab;have:T n (P j-P i) (P k-P i)=T n (P j-P v) (P k-P v)-T n (P i-P v) (P k-P v)+T n (P i-P v) (P j-P v):=by simp only[T,dot,cross,sub_x,sub_y,sub_z];grind
 omega
def Lex(a b:V):Prop:=a.x<b.x\/a.x=b.x/\(a.y<b.y\/a.y=b.y/\a.z<b.z)
def m7(a:V):Prop:=(-4096<=a.x/\a.x<=4096)/\(-4096<=a.y/\a.y<=4096)/\(-4096<=a.z/\a.z<=4096)
structure Sorted (P:Nat→V) (N:Nat):Prop where
 lt:∀ p q,p<q→q<N→Lex (P p) (P q)
 near:∀ p,p<N→m7 (P p)
theorem Sorted.inj(h:Sorted P N):Inj P N:=fun p u q A e=>by
 refine Decidable.byContradiction fun j=>?_
 rcases Nat.lt_or_gt_of_ne j with l|l
 ·have:=h.lt p q l A;rw[e]at this;unfold Lex at this;omega
 ·have:=h.lt q p l u;rw[e]at this;unfold Lex at this;omega
theorem lex_pos{a b:V}(h:Lex a b)(ha:m7 a)(hb:m7 b):0<dot ⟨100000000,10000,1⟩ (b-a):=by
 unfold m7 at ha hb;unfold Lex at h;simp only[dot,sub_x,sub_y,sub_z];omega
theorem head_filter(p:Nat->Bool):∀(l:List Nat),l.Pairwise (· < ·)->∀q∈l.filter p,(l.filter p).headD 0∈l.filter p/\((l.filter p).headD 0<=q):=by
 intro l u q e;have j:=List.Pairwise.filter p u;revert e j
 cases l.filter p with
 | nil=>intro h;simp at h
 | cons a m =>
  intro e j;refine⟨by simp,?_⟩
  rcases List.mem_cons.mp e with rfl|e
  ·simp
  ·have:=(List.pairwise_cons.mp j).1 q e
   simp;omega
theorem Face.head{n:V}{b:Nat}(hF:Face P N n b)(hS:Sorted P N):gg P (bj P N n b) ((bj P N n b).headD 0):=by
 obtain⟨i,_,_,_,_,hi,_⟩:=hF.points;have j:=fun q e=>head_filter (fun q=>decide (dot n (P q-P b)=0)) (List.range N) List.pairwise_lt_range q e
 refine⟨(j i hi).1,⟨100000000,10000,1⟩,fun q e u=>?_⟩;have C:=(j q e).2;have A:=(aG.mp e).1;exact lex_pos (hS.lt _ q (by unfold bj at u⊢;omega) A) (hS.near _ (aG.mp (j i hi).1).1) (hS.near q A)
theorem Face.ring_mem{n:V}{b:Nat}(hF:Face P N n b)(hS:Sorted P N)(v:Nat):v∈ring P (bj P N n b) n↔gg P (bj P N n b) v:=
 Υ.ring_mem (hF.flat hS.inj) hF.two (hF.head hS)
theorem extr_iff(hS:Sorted P N)(e:i7 P N)(v:Nat):(v<N/\nW P N v)↔∃n b,Face P N n b/\v∈ring P (bj P N n b) n:=by
 constructor
 ·rintro⟨u,h⟩
  obtain⟨n,b,hF,j⟩:=h.1;exact⟨n,b,hF,(hF.ring_mem hS v).mpr (h.top.vert (aG.mpr ⟨u,j⟩))⟩
 ·rintro⟨n,b,hF,j⟩
  have:=(hF.ring_mem hS v).mp j;exact⟨(aG.mp this.1).1,hF.extr hS.inj e this⟩
end
section
open V
variable {P : Nat → V} {N : Nat}
def eE(P:Nat->V)(N:Nat):Prop:=∃i j k m,i<N/\j<N/\k<N/\m<N/\dot (tri P i j k) (P m-P i)≠0
theorem eE.full(h:eE P N):i7 P N:=by
 obtain⟨i,j,k,m,hi,C,E,F,e⟩:=h;intro n G b;refine Classical.byContradiction fun u=>?_
 have all:∀q,q<N->dot n (P q-P b)=0:=fun q A=>Classical.byContradiction fun h=>u ⟨q,A,h⟩
 have pl:∀q,q<N->dot n (P q-P i)=0:=fun q A=>by
  have:=all q A;have:=all i hi;simp only[bK]at *;omega
 have h:=det_n n (P m-P i) (P j-P i) (P k-P i) n;rw[pl j C,pl k E,pl m F]at h;simp only[Int.zero_mul,Int.add_zero]at h;have:=(Int.mul_eq_zero.mp h).resolve_right (by have:=dp G;omega);rw[cR]at this;exact e this
theorem rY(i j k:Nat)(hi:i<N)(e:j<N)(u:k<N)(h0:tri P i j k≠V.zero):eE P N↔∃m,m<N/\dot (tri P i j k) (P m-P i)≠0:=by
 constructor
 ·intro h;exact h.full _ h0 i
 ·rintro⟨m,A,h⟩;exact⟨i,j,k,m,hi,e,u,A,h⟩
theorem tri_perm(P:Nat->V)(i j k:Nat):tri P j i k=-tri P i j k/\tri P i k j=-tri P i j k:=by
 unfold tri;constructor<;>(apply V.ext'<;>simp only[cross,sub_x,sub_y,sub_z,neg_x,neg_y,neg_z]<;>grind)
theorem j7(P:Nat->V)(i k:Nat):tri P i i k=V.zero/\tri P i k i=V.zero/\tri P i k k=V.zero:=by
 unfold tri;refine⟨?_,?_,?_⟩<;>(apply V.ext'<;>simp only[cross,sub_x,sub_y,sub_z,V.zero]<;>grind)
theorem tri_all(h:∀i j k,k<j->j<i->i<N->tri P i j k=V.zero)(i j k:Nat)(hi:i<N)(F:j<N)(G:k<N):tri P i j k=V.zero:=by
 have C:∀{a b c},tri P a b c=V.zero->tri P b a c=V.zero:=fun{a b c} h=>by rw[(tri_perm P a b c).1,h];rfl
 have E:∀{a b c},tri P a b c=V.zero->tri P a c b=V.zero:=fun{a b c} h=>by rw[(tri_perm P a b c).2,h];rfl
 rcases Nat.lt_trichotomy i j with A|rfl|A
 ·rcases Nat.lt_trichotomy i k with e|rfl|e
  ·rcases Nat.lt_trichotomy j k with u|rfl|u
   ·exact C (E (C (h k j i A u G)))
   ·exact(j7 P i j).2.2
   ·exact C (E (h j k i e u F))
  ·exact(j7 P i j).2.1
  ·exact C (h j i k e A F)
 ·exact(j7 P i k).1
 ·rcases Nat.lt_trichotomy i k with e|rfl|e
  ·exact E (C (h k i j A e G))
  ·exact(j7 P i j).2.1
  ·rcases Nat.lt_trichotomy j k with u|rfl|u
   ·exact E (h i k j u e hi)
   ·exact(j7 P i j).2.2
   ·exact h i j k u A hi
theorem not_full4(h:∀i j k,k<j->j<i->i<N->tri P i j k=V.zero):¬ eE P N:=by
 rintro⟨i,j,k,m,hi,u,A,C,e⟩;rw[tri_all h i j k hi u A]at e;exact e (by simp[dot,V.zero])
def ku(p:Nat->Bool):Nat->Nat
 | 0=>0
 | k+1=>ku p k ||| (if p k then 2 ^ k else 0)
theorem kr(p:Nat->Bool)(k i:Nat):(ku p k).testBit i=(decide (i<k)&&p i):=by
 induction k with
 | zero=>simp[ku]
 | succ k ih =>
  unfold ku;rw[Nat.testBit_or,ih];by_cases j:p k=true
  ·rw[if_pos j,Nat.testBit_two_pow]
   by_cases hi:i=k
   ·subst hi;simp[j]
   ·rw[decide_eq_false (p:=k=i) (fun e=>hi e.symm),Bool.or_false]
    congr 1;simp;omega
  ·rw[if_neg j,Nat.zero_testBit,Bool.or_false]
   by_cases hi:i=k
   ·subst hi;simp[j]
   ·congr 1;simp;omega
theorem mF(p:Nat->Bool)(k:Nat):ku p k<2 ^ k:=by
 induction k with
 | zero=>simp[ku]
 | succ k ih =>
  unfold ku;refine Nat.or_lt_two_pow (Nat.lt_of_lt_of_le ih (Nat.pow_le_pow_right I I)) ?_
  split
  ·exact Nat.pow_lt_pow_right I I
  ·exact Nat.two_pow_pos _
theorem jE(p q:Nat->Bool)(k:Nat)(h:∀i,i<k->p i=q i):ku p k=ku q k:=by
 refine Nat.eq_of_testBit_eq fun i=>?_
 rw[kr,kr];by_cases hi:i<k
 ·rw[h i hi]
 ·simp[hi]
theorem mask_inj(p q:Nat->Bool)(k:Nat)(h:ku p k=ku q k):∀i,i<k->p i=q i:=fun i hi=>by
 have:=congrArg (·.testBit i) h
 simpa[kr,hi]using this
theorem low_bit{m t:Nat}(L:m.testBit t=true)(A:∀i,i<t->m.testBit i=false)(i:Nat):(m &&& (m-1)).testBit i=(decide (t<i)&&m.testBit i):=by
 have j:m=2 ^ t*(m / 2 ^ t)+m % 2 ^ t:=(Nat.div_add_mod _ _).symm;have J:m % 2 ^ t=0:=Nat.eq_of_testBit_eq fun i=>by
  rw[Nat.testBit_mod_two_pow,Nat.zero_testBit];by_cases hi:i<t
  ·rw[A i hi];simp
  ·simp[hi]
 rw[J,Nat.add_zero]at j;have C:m / 2 ^ t % 2=1:=by
  have u:(m / 2 ^ t).testBit 0=true:=by rw[Nat.testBit_div_two_pow];simpa using L
  simpa[Nat.testBit_zero]using u
 generalize m / 2 ^ t=a at *;have Q:=Nat.two_pow_pos t;have e:m-1=2 ^ t*(a-1)+(2 ^ t-1):=by
  have:2 ^ t*a=2 ^ t*(a-1)+2 ^ t:=by
   rw[<-Nat.mul_succ];congr 1;omega
  omega
 rw[Nat.testBit_and,e,Nat.testBit_two_pow_mul_add _ I];by_cases u:i<t
 ·rw[A i u];simp
 ·rw[if_neg u]
  by_cases E:i=t
  ·subst E
   have:(a-1).testBit (i-i)=false:=by rw[Nat.sub_self,Nat.testBit_zero];simp;omega
   rw[this];simp
  ·have F:t<i:=I
   have H:m.testBit i=a.testBit (i-t):=by rw[j,Nat.testBit_two_pow_mul];simp;omega
   have:(a-1).testBit (i-t)=a.testBit (i-t):=by
    obtain⟨d,G⟩:∃d,i-t=d+1:=⟨i-t-1,by omega⟩;rw[G,Nat.testBit_succ,Nat.testBit_succ];congr 1;omega
   rw[H,this];simp[F]
end
section
open V
structure Pl where
 n:V
 o:Int
deriving DecidableEq
def cK(a:V):Nat:=Nat.gcd (Nat.gcd a.x.natAbs a.y.natAbs) a.z.natAbs
def aW(a:V):V:=⟨a.x.tdiv (cK a),a.y.tdiv (cK a),a.z.tdiv (cK a)⟩
theorem gcdV_x(a:V):(cK a:Int)∣a.x:=Int.ofNat_dvd_left.mpr (Nat.dvd_trans (Nat.gcd_dvd_left _ _) (Nat.gcd_dvd_left _ _))
theorem gcdV_y(a:V):(cK a:Int)∣a.y:=Int.ofNat_dvd_left.mpr (Nat.dvd_trans (Nat.gcd_dvd_left _ _) (Nat.gcd_dvd_right _ _))
theorem gcdV_z(a:V):(cK a:Int)∣a.z:=Int.ofNat_dvd_left.mpr (Nat.gcd_dvd_right _ _)
theorem fD{a:V}(h:a≠V.zero):0<cK a:=by
 refine Nat.pos_of_ne_zero fun h0=>h ?_
 have e:=Nat.eq_zero_of_gcd_eq_zero_left h0;have j:=Nat.eq_zero_of_gcd_eq_zero_right h0;have u:=Nat.eq_zero_of_gcd_eq_zero_left e;have A:=Nat.eq_zero_of_gcd_eq_zero_right e;exact V.ext' (Int.natAbs_eq_zero.mp u) (Int.natAbs_eq_zero.mp A) (Int.natAbs_eq_zero.mp j)
theorem ji(a:V):a.x=(cK a:Int)*(aW a).x/\a.y=(cK a:Int)*(aW a).y/\a.z=(cK a:Int)*(aW a).z:=
 ⟨(Int.mul_tdiv_cancel' (gcdV_x a)).symm,(Int.mul_tdiv_cancel' (gcdV_y a)).symm,(Int.mul_tdiv_cancel' (gcdV_z a)).symm⟩
theorem fW(a b:V):dot a b=(cK a:Int)*dot (aW a) b:=by
 obtain⟨e,j,u⟩:=ji a;generalize(cK a:Int)=g at *;unfold dot;rw[e,j,u]
 grind
theorem iy{a:V}(h:a≠V.zero):aW a≠V.zero:=fun e=>h (by
 obtain⟨j,u,A⟩:=ji a;rw[e]at j u A;exact V.ext' (j.trans (by simp[V.zero])) (u.trans (by simp[V.zero])) (A.trans (by simp[V.zero])))
theorem tH{x k:Int}(g:Nat)(h:-k<=x/\x<=k)(j:0<=k):-k<=x.tdiv g/\x.tdiv g<=k:=by
 have e:(x.tdiv g).natAbs<=x.natAbs:=by
  rw[Int.natAbs_tdiv];exact Nat.div_le_self _ _
 omega
def sG(P:Nat->V)(len:Nat)(out:List Pl)(p:Pl):List Pl:=
 if(List.range len).any (fun i=>decide (dot p.n (P i) > p.o))then out else if p∈out then out else out++[p]
def stepR(P:Nat->V)(len i j k:Nat)(out:List Pl):List Pl:=
 if tri P i j k=V.zero then out else
  sG P len (sG P len out ⟨aW (tri P i j k),dot (aW (tri P i j k)) (P i)⟩) ⟨-aW (tri P i j k),dot (-aW (tri P i j k)) (P i)⟩
def kR(P:Nat->V)(len i j:Nat):Nat->List Pl->List Pl
 | 0,out=>out
 | k+1,out=>stepR P len i j k (kR P len i j k out)
def kS(P:Nat->V)(len i:Nat):Nat->List Pl->List Pl
 | 0,out=>out
 | j+1,out=>kR P len i j j (kS P len i j out)
def kT(P:Nat->V)(len:Nat):Nat->List Pl
 | 0=>[]
 | i+1=>kS P len i i (kT P len i)
def cx(P:Nat->V)(len:Nat):List Pl:=kT P len len
def PlOk(P:Nat->V)(len i j k:Nat)(p:Pl):Prop:=
 tri P i j k≠V.zero/\(p.n=aW (tri P i j k)\/p.n=-aW (tri P i j k))/\p.o=dot p.n (P i)/\∀q,q<len->dot p.n (P q)<=p.o
theorem sU{P:Nat->V}{len:Nat}{out:List Pl}{p x:Pl}:x∈sG P len out p↔x∈out\/(x=p/\∀q,q<len->dot p.n (P q)<=p.o):=by
 unfold sG
 split
 ·rename_i h
  obtain⟨q,A,C⟩:=List.any_eq_true.mp h;refine⟨Or.inl,?_⟩;rintro(e|⟨_,j⟩)
  ·exact e
  ·have:=j q (List.mem_range.mp A);have:=of_decide_eq_true C;omega
 ·rename_i h
  have u:∀q,q<len->dot p.n (P q)<=p.o:=fun q A=>Classical.byContradiction fun hc=>h (List.any_eq_true.mpr ⟨q,List.mem_range.mpr A,decide_eq_true I⟩)
  split
  ·rename_i E
   exact⟨Or.inl,fun e=>e.elim id fun j=>j.1▸E⟩
  ·rw[List.mem_append,List.mem_singleton]
   exact⟨fun e=>e.imp id fun j=>⟨j,u⟩,fun e=>e.imp id fun j=>j.1⟩
theorem oF{P:Nat->V}{len:Nat}{out:List Pl}{p:Pl}(h:out.Nodup):(sG P len out p).Nodup:=by
 unfold sG
 split
 ·exact h
 ·split
  ·exact h
  ·rename_i j
   rw[List.nodup_append];exact⟨h,List.pairwise_singleton _ _,fun a ha b hb=>by rw[List.mem_singleton]at hb;subst hb;exact fun e=>j (e▸ha)⟩
theorem mem_stepR{P:Nat->V}{len i j k:Nat}{out:List Pl}{x:Pl}:x∈stepR P len i j k out↔x∈out\/PlOk P len i j k x:=by
 unfold stepR PlOk
 split
 ·rename_i h;exact⟨Or.inl,fun u=>u.elim id fun e=>absurd h e.1⟩
 ·rename_i h
  rw[sU,sU]
  constructor
  ·rintro((u|⟨rfl,e⟩)|⟨rfl,e⟩)
   ·exact .inl u
   ·exact .inr ⟨h,.inl rfl,rfl,e⟩
   ·exact .inr ⟨h,.inr rfl,rfl,e⟩
  ·rintro(u|⟨_,e|e,A,C⟩)
   ·exact .inl (.inl u)
   ·obtain⟨n,o⟩:=x;dsimp only at e A C;subst e;subst A;exact .inl (.inr ⟨rfl,C⟩)
   ·obtain⟨n,o⟩:=x;dsimp only at e A C;subst e;subst A;exact .inr ⟨rfl,C⟩
theorem nodup_stepR{P:Nat->V}{len i j k:Nat}{out:List Pl}(h:out.Nodup):(stepR P len i j k out).Nodup:=by
 unfold stepR
 split
 ·exact h
 ·exact oF (oF h)
theorem oG{P:Nat->V}{len i j:Nat}{out:List Pl}{x:Pl}:∀K,x∈kR P len i j K out↔x∈out\/∃k,k<K/\PlOk P len i j k x
 | 0=>by simp[kR]
 | K+1=>by
  rw[kR,mem_stepR,oG K]
  constructor
  ·rintro((h|⟨k,u,h⟩)|h)
   ·exact .inl h
   ·exact .inr ⟨k,by omega,h⟩
   ·exact .inr ⟨K,by omega,h⟩
  ·rintro(h|⟨k,u,h⟩)
   ·exact .inl (.inl h)
   ·by_cases e:k=K
    ·exact .inr (e▸h)
    ·exact .inl (.inr ⟨k,by omega,h⟩)
theorem oH{P:Nat->V}{len i:Nat}{out:List Pl}{x:Pl}:∀J,x∈kS P len i J out↔x∈out\/∃j k,k<j/\j<J/\PlOk P len i j k x
 | 0=>by simp[kS]
 | J+1=>by
  rw[kS,oG,oH J]
  constructor
  ·rintro((h|⟨j,k,u,A,h⟩)|⟨k,hk,h⟩)
   ·exact .inl h
   ·exact .inr ⟨j,k,u,by omega,h⟩
   ·exact .inr ⟨J,k,hk,by omega,h⟩
  ·rintro(h|⟨j,k,u,A,h⟩)
   ·exact .inl (.inl h)
   ·by_cases e:j=J
    ·subst e;exact .inr ⟨k,u,h⟩
    ·exact .inl (.inr ⟨j,k,u,by omega,h⟩)
theorem oI{P:Nat->V}{len:Nat}{x:Pl}:∀E,x∈kT P len E↔∃i j k,k<j/\j<i/\i<E/\PlOk P len i j k x
 | 0=>by simp[kT]
 | E+1=>by
  rw[kT,oH,oI E]
  constructor
  ·rintro(⟨i,j,k,u,A,C,h⟩|⟨j,k,u,A,h⟩)
   ·exact⟨i,j,k,u,A,by omega,h⟩
   ·exact⟨E,j,k,u,A,by omega,h⟩
  ·rintro⟨i,j,k,u,A,C,h⟩
   by_cases e:i=E
   ·subst e;exact .inr ⟨j,k,u,A,h⟩
   ·exact .inl ⟨i,j,k,u,A,by omega,h⟩
theorem dH{P:Nat->V}{len:Nat}{x:Pl}:x∈cx P len↔∃i j k,k<j/\j<i/\i<len/\PlOk P len i j k x:=oI len
theorem lz{P:Nat->V}{len i j:Nat}{out:List Pl}(h:out.Nodup):∀K,(kR P len i j K out).Nodup
 | 0=>h
 | K+1=>nodup_stepR (lz h K)
theorem lA{P:Nat->V}{len i:Nat}{out:List Pl}(h:out.Nodup):∀J,(kS P len i J out).Nodup
 | 0=>h
 | J+1=>lz (lA h J) J
theorem lB{P:Nat->V}{len:Nat}:∀e,(kT P len e).Nodup
 | 0=>List.nodup_nil
 | e+1=>lA (lB e) e
theorem rP{P:Nat->V}{len:Nat}:(cx P len).Nodup:=lB len
def onR(p:V)(l:List Pl):Nat:=(l.filter fun m=>decide (dot m.n p=m.o)).length
def allR(p q:V)(l:List Pl):Bool:=l.all fun m=>decide (dot m.n p≠m.o) || decide (dot m.n q=m.o)
def iD(P:Nat->V)(len:Nat)(l:List Pl)(p:V):Bool:=
 decide (0<onR p l)&&(List.range len).all fun i=>decide (P i=p) || !allR p (P i) l
theorem onR_pos{p:V}{l:List Pl}:0<onR p l↔∃m∈l,dot m.n p=m.o:=by
 unfold onR;rw[List.length_pos_iff_exists_mem]
 constructor
 ·rintro⟨m,u⟩;obtain⟨e,j⟩:=List.mem_filter.mp u;exact⟨m,e,of_decide_eq_true j⟩
 ·rintro⟨m,e,j⟩;exact⟨m,List.mem_filter.mpr ⟨e,decide_eq_true j⟩⟩
theorem jO{p q:V}{l:List Pl}:allR p q l=false↔∃m∈l,dot m.n p=m.o/\dot m.n q≠m.o:=by
 unfold allR;rw[List.all_eq_false]
 constructor
 ·rintro⟨m,j,e⟩
  simp only[Bool.or_eq_true,decide_eq_true_eq,not_or,Classical.not_not]at e;exact⟨m,j,e⟩
 ·rintro⟨m,j,e⟩
  refine⟨m,j,?_⟩;simp only[Bool.or_eq_true,decide_eq_true_eq,not_or,Classical.not_not];exact e
theorem Face.pl{P:Nat->V}{N:Nat}{n:V}{b:Nat}(h:Face P N n b):∃m∈cx P N,∀w,dot m.n w=m.o↔dot n (w-P b)=0:=by
 obtain⟨i,j,k,E,F,G,h0,Q,H⟩:=h.three;have key:∀w,dot n (w-P b)=0↔dot n w=dot n (P i):=fun w=>by
  have:=H w;rw[<-this,bK];omega
 have L:=fD h0;have A:∀q,q<N->dot n (P q)<=dot n (P i):=fun q C=>by
  have a:=h.o q C;rw[<-H,bK]at a;omega
 have u:=fW (tri P i j k);generalize cK (tri P i j k)=g at *
 rcases Q with rfl|rfl
 ·refine⟨⟨aW (tri P i j k),dot (aW (tri P i j k)) (P i)⟩,dH.mpr ⟨i,j,k,E,F,G,h0,.inl rfl,rfl,fun q C=>?_⟩,fun w=>?_⟩
  ·have:=A q C;rw[u,u]at this;exact Int.le_of_mul_le_mul_left this I
  ·rw[key,u,u (P i)]
   exact⟨fun e=>by show(g:Int)*_=_;rw[e],fun e=>Int.eq_of_mul_eq_mul_left I e⟩
 ·refine⟨⟨-aW (tri P i j k),dot (-aW (tri P i j k)) (P i)⟩,dH.mpr ⟨i,j,k,E,F,G,h0,.inr rfl,rfl,fun q C=>?_⟩,fun w=>?_⟩
  ·have:=A q C;rw[bE,bE,u,u]at this
   show dot (-aW _) _<=dot (-aW _) _;rw[bE,bE];have:(g:Int)*dot (aW (tri P i j k)) (P i)<=g*dot (aW (tri P i j k)) (P q):=I;have:=Int.le_of_mul_le_mul_left this I;omega
  ·rw[key]
   show dot (-aW _) w=dot (-aW _) (P i)↔_;rw[bE,bE,bE,bE,u,u (P i)]
   constructor
   ·intro e;have:dot (aW (tri P i j k)) w=dot (aW (tri P i j k)) (P i):=I
    rw[this]
   ·intro e
    have J:(g:Int)*dot (aW (tri P i j k)) w=g*dot (aW (tri P i j k)) (P i):=I;have:=Int.eq_of_mul_eq_mul_left I J;omega
theorem tR{P:Nat->V}{N:Nat}{m:Pl}(h:m∈cx P N):∃n b,Face P N n b/\b<N/\∀w,dot m.n w=m.o↔dot n (w-P b)=0:=by
 obtain⟨i,j,k,F,G,C,h0,J,L,A⟩:=dH.mp h;have H:=fD h0;have u:=fW (tri P i j k);obtain⟨Q,R⟩:=m;dsimp only at *;subst L;generalize cK (tri P i j k)=g at *
 rcases J with rfl|rfl
 ·refine⟨tri P i j k,i,⟨⟨i,j,k,F,G,C,h0,.inl rfl,fun w=>rfl⟩,fun q E=>?_⟩,C,fun w=>?_⟩
  ·rw[bK,u,u (P i)]
   have:=Int.mul_le_mul_of_nonneg_left (A q E) (show(0:Int)<=g by omega);omega
  ·rw[bK,u,u (P i)]
   constructor
   ·intro e;rw[e];omega
   ·intro e;exact Int.eq_of_mul_eq_mul_left (show(g:Int)≠0 by omega) I
 ·refine⟨-tri P i j k,i,⟨⟨i,j,k,F,G,C,h0,.inr rfl,fun w=>rfl⟩,fun q E=>?_⟩,C,fun w=>?_⟩
  ·rw[bK,bE,bE,u,u (P i)]
   have:=A q E;rw[bE,bE]at this;have:=Int.mul_le_mul_of_nonneg_left (show dot (aW (tri P i j k)) (P i)<=dot (aW (tri P i j k)) (P q) by omega) (show(0:Int)<=g by omega);omega
  ·rw[bK,bE,bE,bE,bE,u,u (P i)]
   constructor
   ·intro e;have:dot (aW (tri P i j k)) w=dot (aW (tri P i j k)) (P i):=I
    rw[this];omega
   ·intro e
    have:=Int.eq_of_mul_eq_mul_left (show(g:Int)≠0 by omega) (show(g:Int)*dot (aW (tri P i j k)) w=g*dot (aW (tri P i j k)) (P i) by omega);omega
theorem mM{P:Nat->V}{N:Nat}(hi:Inj P N)(v:Nat)(X:v<N):iD P N (cx P N) (P v)=true↔nW P N v:=by
 unfold iD nW;rw[Bool.and_eq_true,decide_eq_true_iff,onR_pos,List.all_eq_true]
 constructor
 ·rintro⟨⟨m,J,H⟩,j⟩
  obtain⟨n,b,hF,_,Q⟩:=tR J;refine⟨⟨n,b,hF,(Q _).mp H⟩,fun t E L=>?_⟩;have:=j t (List.mem_range.mpr E);rw[Bool.or_eq_true,decide_eq_true_iff,Bool.not_eq_true',jO]at this
  rcases this with h|⟨U,C,F,G⟩
  ·exact absurd (hi t E v X h) L
  ·obtain⟨W,R,A,_,u⟩:=tR C
   exact⟨W,R,A,(u _).mp F,fun h=>G ((u _).mpr h)⟩
 ·rintro⟨⟨n,b,hF,H⟩,j⟩
  obtain⟨m,J,Q⟩:=hF.pl;refine⟨⟨m,J,(Q _).mpr H⟩,fun t E=>?_⟩;rw[Bool.or_eq_true,decide_eq_true_iff,Bool.not_eq_true',jO];by_cases e:t=v
  ·exact .inl (by rw[e])
  ·obtain⟨W,R,A,F,G⟩:=j t (List.mem_range.mp E) e
   obtain⟨U,C,u⟩:=A.pl;exact .inr ⟨U,C,(u _).mpr F,fun h=>G ((u _).mp h)⟩
end
section
open V
variable {P : Nat → V} {N : Nat}
theorem turned{n:V}{b:Nat}(G:n≠V.zero)(A:∀q,q<N->dot n (P q-P b)<=0)(C:i7 P N){a c:Nat}(ha:a∈bj P N n b)(hc:c∈bj P N n b)(ab:P c-P a≠V.zero)(hs:∀q∈bj P N n b,0<=T n (P c-P a) (P q-P a)):
 ∃n',Face P N n' a/\dot n' (P c-P a)=0/\∀t∈bj P N n b,0<T n (P c-P a) (P t-P a)->dot n' (P t-P a)≠0:=by
 obtain⟨aa,ap⟩:=aG.mp ha;obtain⟨ac,ar⟩:=aG.mp hc;have he:dot n (P c-P a)=0:=by simp only[bK]at *;omega
 have j:∀q,dot n (P q-P a)=dot n (P q-P b):=fun q=>by simp only[bK]at *;omega
 obtain⟨q0,U,W⟩:=C n G b;have u:∀x y z:V,dot n z*0=0->dot n y*dot (P c-P a) (cross x z)=dot n z*dot (P c-P a) (cross x y)+dot n x*dot (P c-P a) (cross y z):=fun x y z _=>by
  have:dot n y*dot (P c-P a) (cross x z)=dot n z*dot (P c-P a) (cross x y)+dot n x*dot (P c-P a) (cross y z)-dot n (P c-P a)*dot x (cross y z):=by simp only[dot,cross];grind
  rw[he]at this;omega
 obtain⟨m,hm,F⟩:=mK (fun x y=>0<=dot (P c-P a) (cross (P x-P a) (P y-P a))) (fun x=>dot n (P x-P a)<0)
  (fun x _=>by
   have:dot (P c-P a) (cross (P x-P a) (P x-P a))=0:=by simp only[dot,cross];grind
   omega)
  (fun x y _ _ h=>by
   have:dot (P c-P a) (cross (P y-P a) (P x-P a))=- dot (P c-P a) (cross (P x-P a) (P y-P a)):=by simp only[dot,cross];grind
   omega)
  (fun x y z hx hy hz h1 h2=>by
   have e:=u (P x-P a) (P y-P a) (P z-P a) I;have m1:=Int.mul_nonneg (a:=- dot n (P z-P a)) I h1;have m2:=Int.mul_nonneg (a:=- dot n (P x-P a)) I h2
   rcases Int.lt_or_le (dot (P c-P a) (cross (P x-P a) (P z-P a))) 0 with h|h
   ·have m3:=Int.mul_pos_of_neg_of_neg hy h
    rw[Int.neg_mul]at m1 m2;omega
   ·exact h)
  ((List.range N).filter fun q=>dot n (P q-P a)<0)
  (fun x hx=>by simpa using(List.mem_filter.mp hx).2)
  (List.ne_nil_of_mem (a:=q0) (List.mem_filter.mpr ⟨List.mem_range.mpr U,by have:=A q0 U;rw[<-j]at this W;simp;omega⟩))
 have af:m<N:=List.mem_range.mp (List.mem_filter.mp hm).1;have ag:dot n (P m-P a)<0:=by simpa using(List.mem_filter.mp hm).2
 have J:∀q∈bj P N n b,dot n n*dot (cross (P c-P a) (P m-P a)) (P q-P a)=- (dot n (P m-P a))*T n (P c-P a) (P q-P a):=fun q Q=>by
  have an:dot n (P q-P a)=0:=by rw[j];exact(aG.mp Q).2
  have X:dot (cross (P c-P a) (P m-P a)) (P q-P a)=- dot (P m-P a) (cross (P c-P a) (P q-P a)):=by simp only[dot,cross];grind
  rw[X,Int.mul_neg,ig n (P c-P a) (P q-P a) (P m-P a) he an,cR (P m-P a) n,Int.neg_mul]
 have H:=dp G;have E:∀q,q<N->0<=dot (cross (P c-P a) (P m-P a)) (P q-P a):=fun q Q=>by
  by_cases ao:dot n (P q-P b)=0
  ·have R:=aG.mpr ⟨Q,ao⟩
   have:=J q R;have Y:=Int.mul_nonneg (a:=-(dot n (P m-P a))) I (hs q R);rw[<-this]at Y;exact Int.nonneg_of_mul_nonneg_right Y H |> fun h=>h
  ·have:=F q (List.mem_filter.mpr ⟨List.mem_range.mpr Q,by have:=A q Q;rw[j];simp;omega⟩)
   have X:dot (cross (P c-P a) (P m-P a)) (P q-P a)=dot (P c-P a) (cross (P m-P a) (P q-P a)):=by simp only[dot,cross];grind
   omega
 have h0:cross (P c-P a) (P m-P a)≠V.zero:=by
  intro h0;have hz:∀i,dot i (cross n (cross (P c-P a) (P m-P a)))=dot n (P m-P a)*dot i (P c-P a)-dot n (P c-P a)*dot i (P m-P a):=fun i=>by simp only[dot,cross];grind
  have:=hz (P c-P a);rw[h0,he]at this;have X:dot (P c-P a) (cross n V.zero)=0:=by simp only[dot,cross,V.zero];grind
  rw[X,Int.zero_mul,Int.sub_zero]at this;have ad:=dp ab;have:=Int.mul_neg_of_neg_of_pos ag ad;omega
 refine⟨_,pB aa ac af h0 E,?_,fun t ht L=>?_⟩
 ·simp only[dot,cross,neg_x,neg_y,neg_z];grind
 ·rw[bE]
  have Y:=J t ht;have h4:=Int.mul_pos (a:=-(dot n (P m-P a))) I L;rw[<-Y]at h4;have:=Int.pos_of_mul_pos_right h4 H;omega
theorem comb_dot(s t:Int)(h g u:V):dot (⟨s*h.x-t*g.x,s*h.y-t*g.y,s*h.z-t*g.z⟩:V) u=s*dot h u-t*dot g u:=by simp only[dot];grind
theorem face_two{f:V}{v a:Nat}(W:v<N)(ha:a<N)(X:f≠V.zero)(A:dot f (P a-P v)=0)(j:∀q,q<N->0<=dot f (P q-P v))(Q:P a-P v≠V.zero)(C:i7 P N):
 ∃n,Face P N n v/\dot n (P a-P v)=0:=by
 by_cases hc:∃c,c<N/\dot f (P c-P v)=0/\cross (P a-P v) (P c-P v)≠V.zero
 ·obtain⟨c,E,J,G⟩:=hc
  have key:=ig f (P a-P v) (P c-P v);have L:=dp X
  rcases Int.le_total 0 (T f (P a-P v) (P c-P v))with h|h
  ·refine⟨_,pB W ha E G fun q u=>?_,?_⟩
   ·have e:=key (P q-P v) A J
    rw[cR (P q-P v) f,cR (P q-P v)]at e;have:=Int.mul_nonneg (j q u) h;rw[<-e]at this;exact Int.nonneg_of_mul_nonneg_right this L
   ·simp only[dot,cross,neg_x,neg_y,neg_z];grind
  ·have H:cross (P c-P v) (P a-P v)≠V.zero:=fun e=>G (by
    have hx:=congrArg V.x e;have hy:=congrArg V.y e;have hz:=congrArg V.z e;simp only[cross,V.zero]at hx hy hz;apply V.ext'<;>simp only[cross,V.zero]<;>grind)
   refine⟨_,pB W E ha H fun q u=>?_,?_⟩
   ·have e:=ig f (P c-P v) (P a-P v) (P q-P v) J A
    rw[cR (P q-P v) f,cR (P q-P v),l6]at e;have:=Int.mul_nonneg (j q u) (show 0 <= - T f (P a-P v) (P c-P v) by omega);rw[<-e]at this;exact Int.nonneg_of_mul_nonneg_right this L
   ·simp only[dot,cross,neg_x,neg_y,neg_z];grind
 ·have F:∀q,q<N->dot f (P q-P v)=0->cross (P a-P v) (P q-P v)=V.zero:=fun q u h0=>Classical.byContradiction fun h=>hc ⟨q,u,h0,h⟩
  obtain⟨n',hF,Y,-⟩:=turned (n:=-f) (b:=v) (lL X) (fun q u=>by rw[bE];have:=j q u;omega) C (a:=v) (c:=a)
   (aG.mpr ⟨W,by simp only[dot,sub_x,sub_y,sub_z];grind⟩) (aG.mpr ⟨ha,by rw[bE,A];rfl⟩) Q (fun q u=>by
    obtain⟨U,R⟩:=aG.mp u;rw[bE]at R;have:=F q U I;unfold T;rw[this];simp[dot,V.zero])
  exact⟨n',hF,Y⟩
theorem Top.face{v:Nat}(hT:Top P N v)(hv:v<N)(j:i7 P N):∃n,Face P N n v:=by
 obtain⟨g,Y⟩:=hT;have aa:∀q,q<N->q≠v->P q-P v≠V.zero:=fun q u h e=>by
  have:=Y q u h;rw[e]at this;simp[dot,V.zero]at this
 have step:∀h:V,(∃q,q<N/\q≠v)->∃a,a<N/\a≠v/\∀q,q<N->q≠v->0<=dot g (P a-P v)*dot h (P q-P v)-dot h (P a-P v)*dot g (P q-P v):=by
  rintro h ⟨q0,C,R⟩;obtain⟨m,hm,Q⟩:=mK (fun x y=>0<=dot g (P x-P v)*dot h (P y-P v)-dot h (P x-P v)*dot g (P y-P v)) (fun x=>0<dot g (P x-P v))
   (fun x _=>by have:=Int.mul_comm (dot g (P x-P v)) (dot h (P x-P v));omega)
   (fun x y _ _ h0=>by
    have e1:=Int.mul_comm (dot g (P x-P v)) (dot h (P y-P v));have e2:=Int.mul_comm (dot h (P x-P v)) (dot g (P y-P v));omega)
   (fun x y z U hy hz F G=>by
    generalize dot g (P x-P v)=W at *;generalize dot g (P y-P v)=gy at *;generalize dot g (P z-P v)=X at *;generalize dot h (P x-P v)=kx at *;generalize dot h (P y-P v)=ky at *;generalize dot h (P z-P v)=kz at *;have m1:=Int.mul_nonneg (a:=X) I F;have m2:=Int.mul_nonneg (a:=W) I G;have e:gy*(W*kz-kx*X)=X*(W*ky-kx*gy)+W*(gy*kz-ky*X):=by grind
    exact Int.nonneg_of_mul_nonneg_right (by rw[e];omega) hy)
   ((List.range N).filter fun q=>decide (q≠v))
   (fun x U=>by
    obtain⟨F,G⟩:=List.mem_filter.mp U;exact Y x (List.mem_range.mp F) (of_decide_eq_true G))
   (List.ne_nil_of_mem (a:=q0) (List.mem_filter.mpr ⟨List.mem_range.mpr C,decide_eq_true R⟩))
  obtain⟨F,G⟩:=List.mem_filter.mp hm;exact⟨m,List.mem_range.mp F,of_decide_eq_true G,fun q u E=>Q q (List.mem_filter.mpr ⟨List.mem_range.mpr u,decide_eq_true E⟩)⟩
 have L:∃q,q<N/\q≠v:=by
  obtain⟨q,u,C⟩:=j ⟨1,0,0⟩ (by intro e;have:=congrArg V.x e;simp[V.zero]at this) v;refine⟨q,u,?_⟩;rintro rfl;exact C (by simp[dot,sub_x,sub_y,sub_z])
 have ac:g≠V.zero:=by
  obtain⟨q,u,E⟩:=L;rintro rfl;have:=Y q u E;simp[dot,V.zero]at this
 obtain⟨h,hh⟩:∃h:V,∀s t:Int,s≠0->(⟨s*h.x-t*g.x,s*h.y-t*g.y,s*h.z-t*g.z⟩:V)≠V.zero:=by
  by_cases U:g.y=0/\g.z=0
  ·refine⟨⟨0,1,0⟩,fun s t hs e=>?_⟩
   have:=congrArg V.y e;simp only[V.zero,U.1]at this;omega
  ·refine⟨⟨1,0,0⟩,fun s t hs e=>?_⟩
   have e1:=congrArg V.x e;have e2:=congrArg V.y e;have e3:=congrArg V.z e;simp only[V.zero]at e1 e2 e3;by_cases ht:t=0
   ·subst ht;omega
   ·refine U ⟨?_,?_⟩
    ·have:t*g.y=0:=I
     exact(Int.mul_eq_zero.mp this).resolve_left ht
    ·have:t*g.z=0:=I
     exact(Int.mul_eq_zero.mp this).resolve_left ht
 obtain⟨a,A,J,H⟩:=step h L;have ab:=Y a A J;obtain⟨n,hF,-⟩:=face_two (f:=⟨dot g (P a-P v)*h.x-dot h (P a-P v)*g.x,dot g (P a-P v)*h.y-dot h (P a-P v)*g.y,dot g (P a-P v)*h.z-dot h (P a-P v)*g.z⟩) hv A
  (hh _ _ I) (by rw[comb_dot,Int.mul_comm];omega) (fun q u=>by
   rw[comb_dot];by_cases e:q=v
   ·subst e
    have:P q-P q=V.zero:=by apply V.ext'<;>simp only[sub_x,sub_y,sub_z,V.zero]<;>omega
    rw[this];simp[dot,V.zero]
   ·exact H q u e) (aa a A J) j
 exact⟨n,hF⟩
theorem Top.extr{v:Nat}(u:Top P N v)(A:v<N)(j:Inj P N)(e:i7 P N):nW P N v:=by
 obtain⟨n,hF⟩:=u.face A e;exact hF.extr j e (u.vert (aG.mpr ⟨A,by simp only[dot,sub_x,sub_y,sub_z];grind⟩))
end
section
open V
def sn(P:Nat->V)(N:Nat)(Q:Nat->V)(M:Nat):Prop:=∀p,(∃i,i<N/\P i=p)↔∃i,i<M/\Q i=p
theorem sn.symm{P Q:Nat->V}{N M:Nat}(h:sn P N Q M):sn Q M P N:=fun p=>(h p).symm
theorem sn.full4{P Q:Nat->V}{N M:Nat}(h:sn P N Q M)(L:eE P N):eE Q M:=by
 obtain⟨i,j,k,m,hi,R,U,W,E⟩:=L;obtain⟨X,e,F⟩:=(h _).mp ⟨i,hi,rfl⟩;obtain⟨Y,u,G⟩:=(h _).mp ⟨j,R,rfl⟩;obtain⟨k',A,H⟩:=(h _).mp ⟨k,U,rfl⟩;obtain⟨m',C,J⟩:=(h _).mp ⟨m,W,rfl⟩;refine⟨X,Y,k',m',e,u,A,C,?_⟩;unfold tri at *;rw[F,G,H,J];exact E
def PlS(S:V->Prop)(m:Pl):Prop:=∃a b c,S a/\S b/\S c/\cross (b-a) (c-a)≠V.zero/\m.n=aW (cross (b-a) (c-a))/\m.o=dot m.n a/\∀q,S q->dot m.n q<=m.o
theorem iE(u v:V):cross v u=-cross u v:=by apply V.ext'<;>simp only[cross,neg_x,neg_y,neg_z]<;>grind
theorem sL(a:V):aW (-a)=-aW a:=by
 unfold aW cK;apply V.ext'<;>simp only[neg_x,neg_y,neg_z,Int.natAbs_neg,Int.neg_tdiv]
theorem oN(a b c:V):cross (b-a) (c-a)=cross (c-b) (a-b):=by apply V.ext'<;>simp only[cross,sub_x,sub_y,sub_z]<;>grind
theorem qX(a b c:V)(h:V)(e:h=cross (b-a) (c-a)\/h=-cross (b-a) (c-a)):dot h b=dot h a/\dot h c=dot h a:=by
 rcases e with rfl|rfl<;>constructor<;>simp only[dot,cross,sub_x,sub_y,sub_z,neg_x,neg_y,neg_z]<;>grind
theorem cross_ne{a b c:V}(h:cross (b-a) (c-a)≠V.zero):a≠b/\a≠c/\b≠c:=by
 refine⟨?_,?_,?_⟩<;>rintro rfl<;>apply h<;>apply V.ext'<;>simp only[cross,sub_x,sub_y,sub_z,V.zero]<;>grind
theorem qw{P:Nat->V}{N:Nat}{m:Pl}:m∈cx P N↔PlS (fun p=>∃i,i<N/\P i=p) m:=by
 rw[dH]
 constructor
 ·rintro⟨i,j,k,Y,h2,Q,h0,A,C,u⟩
  unfold tri at h0 A
  rcases A with A|A
  ·exact⟨P i,P j,P k,⟨i,Q,rfl⟩,⟨j,by omega,rfl⟩,⟨k,by omega,rfl⟩,h0,A,C,fun q G=>by obtain⟨x,E,rfl⟩:=G;exact u x E⟩
  ·refine⟨P i,P k,P j,⟨i,Q,rfl⟩,⟨k,by omega,rfl⟩,⟨j,by omega,rfl⟩,?_,?_,C,fun q G=>by obtain⟨x,E,rfl⟩:=G;exact u x E⟩
   ·rw[iE];exact lL h0
   ·rw[A,iE (P j-P i),sL]
 ·rintro⟨a,b,c,⟨x,E,rfl⟩,⟨y,hy,rfl⟩,⟨z,hz,rfl⟩,h0,A,C,u⟩
  have F:∀q,q<N->dot m.n (P q)<=m.o:=fun q G=>u _ ⟨q,G,rfl⟩
  have X:=fW (cross (P y-P x) (P z-P x));have aa:=fD h0;have hb:dot m.n (P y)=m.o/\dot m.n (P z)=m.o:=by
   have:=qX (P x) (P y) (P z) _ (.inl rfl);rw[X,X,X]at this;rw[C,A];exact⟨Int.eq_of_mul_eq_mul_left I this.1,Int.eq_of_mul_eq_mul_left I this.2⟩
  obtain⟨d1,d2,d3⟩:=cross_ne h0;have R:x≠y:=fun e=>d1 (by rw[e])
  have U:x≠z:=fun e=>d2 (by rw[e])
  have W:y≠z:=fun e=>d3 (by rw[e])
  have key:∀i j k,k<j->j<i->i<N->dot m.n (P i)=m.o->(tri P i j k=cross (P y-P x) (P z-P x)\/tri P i j k=-cross (P y-P x) (P z-P x))->∃i j k,k<j/\j<i/\i<N/\PlOk P N i j k m:=fun i j k Y h2 Q h4 h5 =>
   ⟨i,j,k,Y,h2,Q,(by rcases h5 with e|e<;>rw[e];exact h0;exact lL h0),(by
    rcases h5 with e|e<;>rw[e,A]
    ·exact .inl rfl
    ·rw[sL];right;apply V.ext'<;>simp only[neg_x,neg_y,neg_z]<;>omega),h4.symm,F⟩
  have nn:∀a:V,- -a=a:=fun a=>by apply V.ext'<;>simp only[neg_x,neg_y,neg_z]<;>omega
  have p1:=oN (P x) (P y) (P z);have p2:=oN (P y) (P z) (P x);have s1:=iE (P y-P x) (P z-P x);have s2:=iE (P z-P y) (P x-P y);have s3:=iE (P x-P z) (P y-P z)
  rcases Nat.lt_or_gt_of_ne R with H|H<;>rcases Nat.lt_or_gt_of_ne U with J|J<;>rcases Nat.lt_or_gt_of_ne W with L|L
  ·exact key z y x H L hz hb.2 (.inr (by unfold tri;rw[s3,<-p2,<-p1]))
  ·exact key y z x J L hy hb.1 (.inl (by unfold tri;exact p1.symm))
  ·omega
  ·exact key y x z J H hy hb.1 (.inr (by unfold tri;rw[s2,<-p1]))
  ·exact key z x y H J hz hb.2 (.inl (by unfold tri;rw[<-p2,<-p1]))
  ·omega
  ·exact key x z y L J E C.symm (.inr (by unfold tri;exact s1))
  ·exact key x y z L H E C.symm (.inl rfl)
theorem sn.planes{P Q:Nat->V}{N M:Nat}(h:sn P N Q M)(m:Pl):m∈cx P N↔m∈cx Q M:=by
 rw[qw,qw];have:(fun p=>∃i,i<N/\P i=p)=fun p=>∃i,i<M/\Q i=p:=funext fun p=>propext (h p)
 rw[this]
theorem jm{P:Nat->V}{N:Nat}{l:List Pl}{p:V}:iD P N l p=true↔(∃m∈l,dot m.n p=m.o)/\∀q,(∃i,i<N/\P i=q)->q≠p->∃m∈l,dot m.n p=m.o/\dot m.n q≠m.o:=by
 unfold iD;rw[Bool.and_eq_true,decide_eq_true_iff,onR_pos,List.all_eq_true];refine and_congr Iff.rfl ⟨?_,?_⟩
 ·rintro h q ⟨i,hi,rfl⟩ j
  have:=h i (List.mem_range.mpr hi);rw[Bool.or_eq_true,decide_eq_true_iff,Bool.not_eq_true',jO]at this;exact this.resolve_left j
 ·intro h i hi
  rw[Bool.or_eq_true,decide_eq_true_iff,Bool.not_eq_true',jO];by_cases e:P i=p
  ·exact .inl e
  ·exact .inr (h _ ⟨i,List.mem_range.mp hi,rfl⟩ e)
theorem sn.extreme{P Q:Nat->V}{N M:Nat}(h:sn P N Q M)(p:V):iD P N (cx P N) p=iD Q M (cx Q M) p:=by
 rw[Bool.eq_iff_iff,jm,jm];simp only[h.planes,h _]
structure HullOf (P:Nat→V) (N:Nat) (Q:Nat→V) (M:Nat):Prop where
 sorted:Sorted Q M
 mem:∀ p,(∃ i,i<M/\Q i=p)↔∃ v,v<N/\P v=p/\Top P N v
end
section
open V
instance (a b : V) : Decidable (Lex a b) := by unfold Lex; infer_instance
theorem Lex.irrefl(a:V):¬ Lex a a:=by unfold Lex;omega
theorem lex_tri(a b:V):Lex a b\/a=b\/Lex b a:=by
 by_cases e:Lex a b
 ·exact .inl e
 ·by_cases j:Lex b a
  ·exact .inr (.inr j)
  ·refine .inr (.inl ?_)
   unfold Lex at e j;exact V.ext' I I I
theorem kV{a b c:V}(e:Lex a b)(j:Lex b c):Lex a c:=by unfold Lex at *;omega
def rU(p:V):List V->List V
 | []=>[p]
 | q::t=>if Lex q p then q::rU p t else if q=p then q::t else p::q::t
theorem ko{p x:V}:∀{l:List V},x∈rU p l↔x=p\/x∈l
 | []=>by simp[rU]
 | q::t=>by
  unfold rU
  split
  ·rw[List.mem_cons,ko,List.mem_cons]
   exact⟨fun h=>by rcases h with h|h|h;exact .inr (.inl h);exact .inl h;exact .inr (.inr h),fun h=>by rcases h with h|h|h;exact .inr (.inl h);exact .inl h;exact .inr (.inr h)⟩
  ·split
   ·rename_i _ h;subst h;rw[List.mem_cons];exact⟨.inr,fun h=>h.elim .inl id⟩
   ·rw[List.mem_cons]
theorem om{p:V}:∀{l:List V},l.Pairwise Lex->(rU p l).Pairwise Lex
 | [],_=>List.pairwise_singleton _ _
 | q::t,h=>by
  obtain⟨A,C⟩:=List.pairwise_cons.mp h;unfold rU
  split
  ·rename_i u
   refine List.pairwise_cons.mpr ⟨fun x e=>?_,om C⟩
   rcases ko.mp e with rfl|e
   ·exact u
   ·exact A x e
  ·split
   ·exact h
   ·rename_i u E
    have j:Lex p q:=((lex_tri q p).resolve_left u).resolve_left E;exact List.pairwise_cons.mpr ⟨fun x e=>by
     rcases List.mem_cons.mp e with rfl|e
     ·exact j
     ·exact kV j (A x e),h⟩
def gX(Q:Nat->V)(p:V->Bool):Nat->List V
 | 0=>[]
 | i+1=>if p (Q i)then rU (Q i) (gX Q p i)else gX Q p i
theorem fR{Q:Nat->V}{p:V->Bool}{x:V}:∀{n},x∈gX Q p n↔∃i,i<n/\Q i=x/\p x=true
 | 0=>by simp[gX]
 | n+1=>by
  unfold gX
  constructor
  ·intro h
   split at h
   ·rename_i j
    rcases ko.mp h with rfl|h
    ·exact⟨n,by omega,rfl,j⟩
    ·obtain⟨i,hi,h⟩:=fR.mp h;exact⟨i,by omega,h⟩
   ·obtain⟨i,hi,h⟩:=fR.mp h;exact⟨i,by omega,h⟩
  ·rintro⟨i,hi,rfl,j⟩
   by_cases e:i=n
   ·subst e;rw[if_pos j];exact ko.mpr (.inl rfl)
   ·have:Q i∈gX Q p n:=fR.mpr ⟨i,by omega,rfl,j⟩
    split
    ·exact ko.mpr (.inr this)
    ·exact this
theorem ft{Q:Nat->V}{p:V->Bool}:∀n,(gX Q p n).Pairwise Lex
 | 0=>List.Pairwise.nil
 | n+1=>by
  unfold gX
  split
  ·exact om (ft n)
  ·exact ft n
theorem oJ{p:V}:∀{l:List V},(rU p l).length<=l.length+1
 | []=>by simp[rU]
 | q::t=>by
  unfold rU
  split
  ·have:=oJ (p:=p) (l:=t);simp only[List.length_cons];omega
  ·split<;>simp only[List.length_cons]<;>omega
theorem mH{Q:Nat->V}{p:V->Bool}:∀n,(gX Q p n).length<=n
 | 0=>Nat.le_refl _
 | n+1=>by
  have:=mH (Q:=Q) (p:=p) n;unfold gX
  split
  ·have:=oJ (p:=Q n) (l:=gX Q p n);omega
  ·omega
def ofL(l:List V)(i:Nat):V:=l.getD i V.zero
theorem pd{l:List V}{x:V}:x∈l↔∃i,i<l.length/\ofL l i=x:=by
 unfold ofL;rw[List.mem_iff_getElem];exact⟨fun⟨i,hi,h⟩=>⟨i,hi,by simp[hi,h]⟩,fun⟨i,hi,h⟩=>⟨i,hi,by simpa[hi]using h⟩⟩
theorem sorted_ofL{l:List V}(h:l.Pairwise Lex)(u:∀x∈l,m7 x):Sorted (ofL l) l.length where
 lt:=fun p q e j=>by
  have:=List.pairwise_iff_getElem.mp h p q I j e;unfold ofL
  simpa[j,show p<l.length by omega]using this
 near:=fun p A=>u _ (pd.mpr ⟨p,A,rfl⟩)
def ff(Q:Nat->V)(M:Nat):List V:=gX Q (fun _=>true) M
theorem pX(Q:Nat->V)(M:Nat):sn (ofL (ff Q M)) (ff Q M).length Q M:=fun p=>by
 rw[<-pd];unfold ff;rw[fR];simp
theorem mt{Q:Nat->V}{M:Nat}(e:∀i,i<M->m7 (Q i)):Sorted (ofL (ff Q M)) (ff Q M).length:=
 sorted_ofL (ft M) fun x j=>by obtain⟨i,hi,rfl,-⟩:=fR.mp j;exact e i hi
def dI(Q:Nat->V)(M:Nat):List V:=gX Q (fun p=>iD Q M (cx Q M) p) M
structure HullOk (Q:Nat→V) (M:Nat):Prop where
 sorted:Sorted (ofL (dI Q M)) (dI Q M).length
 full:eE (ofL (dI Q M)) (dI Q M).length
 extr:∀ i,i<(dI Q M).length→nW (ofL (dI Q M)) (dI Q M).length i
end
section
open V
def insG{α:Type}(p:α->Bool)(x:α):List α->List α
 | []=>[x]
 | q::t=>if p q then q::insG p x t else x::q::t
theorem qG{e:Type}{p:e->Bool}{x y:e}:∀{l:List e},y∈insG p x l↔y=x\/y∈l
 | []=>by simp[insG]
 | q::t=>by
  unfold insG
  split
  ·rw[List.mem_cons,qG,List.mem_cons]
   exact⟨fun h=>by rcases h with h|h|h;exact .inr (.inl h);exact .inl h;exact .inr (.inr h),fun h=>by rcases h with h|h|h;exact .inr (.inl h);exact .inl h;exact .inr (.inr h)⟩
  ·rw[List.mem_cons]
theorem oo{u:Type}(R:u->u->Prop)(p:u->Bool)(x:u)(C:∀y,p y=true↔R y x)(j:∀a b c,R a b->R b c->R a c):∀{l:List u},l.Pairwise R->(∀y∈l,¬ R y x->R x y)->(insG p x l).Pairwise R
 | [],_,_=>List.pairwise_singleton _ _
 | q::t,h,ht=>by
  obtain⟨E,G⟩:=List.pairwise_cons.mp h;unfold insG
  split
  ·rename_i A
   refine List.pairwise_cons.mpr ⟨fun y e=>?_,oo R p x C j G fun y e=>ht y (List.mem_cons_of_mem _ e)⟩
   rcases qG.mp e with rfl|e
   ·exact(C _).mp A
   ·exact E y e
  ·rename_i A
   have F:=ht q (List.mem_cons_self ..) (fun h=>A ((C _).mpr h));exact List.pairwise_cons.mpr ⟨fun y e=>by
    rcases List.mem_cons.mp e with rfl|e
    ·exact F
    ·exact j _ _ _ F (E y e),h⟩
end
section
open V
variable {P : Nat → V} {N : Nat}
structure SideF (P:Nat→V) (N:Nat) (n:V) (b a c:Nat):Prop where
 ha:a ∈ bj P N n b
 hc:c ∈ bj P N n b
 ne:a≠c
 pos:∀ q ∈ bj P N n b,q≠a→q≠c→0<T n (P c - P a) (P q - P a)
theorem Face.vert_all{n:V}{b:Nat}(e:∀v,v<N->Top P N v){a:Nat}(ha:a∈bj P N n b):gg P (bj P N n b) a:=(e a (aG.mp ha).1).vert ha
def cW(r:List Nat):List (Nat×Nat):=(List.range r.length).map fun i=>(r.getD i 0,r.getD ((i+1) % r.length) 0)
end
section
open V
variable {P : Nat → V} {N : Nat}
structure Polys (P:Nat→V) (N:Nat) (fs:List (V × Nat)):Prop where
 ok:∀ f ∈ fs,Face P N f.1 f.2
 all:∀ n b,Face P N n b→∃ f ∈ fs,bj P N f.1 f.2=bj P N n b
 nodup:fs.Pairwise fun f g=>bj P N f.1 f.2≠bj P N g.1 g.2
theorem same_turn{n e:V}{b A:Nat}(hF:Face P N n b)(C:Face P N e A)(j:i7 P N)(E:bj P N n b=bj P N e A){a c u:Nat}(ha:a∈bj P N n b)(hc:c∈bj P N n b)(H:u∈bj P N n b)(h:0<T n (P c-P a) (P u-P a)):0<T e (P c-P a) (P u-P a):=by
 have b1:∀q,dot n (P q-P a)=dot n (P q-P b):=fun q=>by
  have Q:=(aG.mp ha).2;simp only[bK]at *;omega
 have b2:∀q,dot e (P q-P a)=dot e (P q-P A):=fun q=>by
  have Q:=(aG.mp (E▸ha)).2;simp only[bK]at *;omega
 obtain⟨q,F,G⟩:=j n hF.n0 b;have R:dot e (P q-P A)≠0:=fun h0=>G (aG.mp (E.symm▸aG.mpr ⟨F,h0⟩:q∈bj P N n b)).2
 have Y:=hF.o q F;have o2:=C.o q F;have J:=ig n (P c-P a) (P u-P a) (P q-P a) (by rw[b1];exact(aG.mp hc).2) (by rw[b1];exact(aG.mp H).2);have L:=ig e (P c-P a) (P u-P a) (P q-P a) (by rw[b2];exact(aG.mp (E▸hc)).2) (by rw[b2];exact(aG.mp (E▸H)).2);rw[cR (P q-P a) n,b1]at J;rw[cR (P q-P a) e,b2]at L;have U:=Int.mul_neg_of_neg_of_pos (show dot n (P q-P b)<0 by omega) h;rw[<-J]at U;have W:dot (P q-P a) (cross (P c-P a) (P u-P a))<0:=by
  refine Classical.byContradiction fun hc=>?_
  have:=Int.mul_nonneg (Int.le_of_lt (dp hF.n0)) (show 0<=dot (P q-P a) (cross (P c-P a) (P u-P a)) by omega);omega
 have X:=Int.mul_neg_of_pos_of_neg (dp C.n0) W;rw[L]at X;refine Classical.byContradiction fun hc=>?_
 have:=Int.mul_nonneg_of_nonpos_of_nonpos (show dot e (P q-P A)<=0 by omega) (show T e (P c-P a) (P u-P a)<=0 by omega);omega
theorem SideF.same{n C:V}{b u a c:Nat}(hF:Face P N n b)(A:Face P N C u)(e:i7 P N)(j:bj P N n b=bj P N C u)(h:SideF P N n b a c):SideF P N C u a c:=
 ⟨j▸h.ha,j▸h.hc,h.ne,fun q E F G=>same_turn hF A e j h.ha h.hc (j.symm▸E) (h.pos q (j.symm▸E) F G)⟩
end
section
open V
variable {P : Nat → V} {N : Nat}
theorem jJ{a:V}(h:a≠V.zero):cK (aW a)=1:=by
 have G:=fD h;obtain⟨C,E,F⟩:=ji a;have e:cK a=cK a*cK (aW a):=by
  have j:a.x.natAbs=cK a*(aW a).x.natAbs:=by
   conv=>lhs;rw[C]
   rw[Int.natAbs_mul];rfl
  have u:a.y.natAbs=cK a*(aW a).y.natAbs:=by
   conv=>lhs;rw[E]
   rw[Int.natAbs_mul];rfl
  have A:a.z.natAbs=cK a*(aW a).z.natAbs:=by
   conv=>lhs;rw[F]
   rw[Int.natAbs_mul];rfl
  conv=>lhs;unfold cK
  rw[j,u,A,Nat.gcd_mul_left,Nat.gcd_mul_left]
  rfl
 have:cK a*cK (aW a)=cK a*1:=I;exact Nat.eq_of_mul_eq_mul_left G this
theorem fU{a:V}(ha:cK a=1)(x y:Int)(j:∃t,y*a.x=x*t)(u:∃t,y*a.y=x*t)(A:∃t,y*a.z=x*t):x.natAbs∣y.natAbs:=by
 have d:∀c:Int,(∃t,y*c=x*t)->x.natAbs∣y.natAbs*c.natAbs:=fun c ⟨t,C⟩=>by
  rw[<-Int.natAbs_mul,C,Int.natAbs_mul];exact Nat.dvd_mul_right _ _
 have e:=Nat.dvd_gcd (Nat.dvd_gcd (d _ j) (d _ u)) (d _ A);rw[Nat.gcd_mul_left,Nat.gcd_mul_left]at e;unfold cK at ha
 rwa [ha,Nat.mul_one]at e
theorem prim_unique{a b:V}(ha:cK a=1)(hb:cK b=1)(j:a.x*b.y=a.y*b.x)(u:a.x*b.z=a.z*b.x)(A:a.y*b.z=a.z*b.y)(F:0<dot a b):a=b:=by
 have c1:∀x y:Int,x*y=y*x:=Int.mul_comm;have ax:a.x.natAbs=b.x.natAbs:=Nat.dvd_antisymm
  (fU ha a.x b.x ⟨b.x,c1 _ _⟩ ⟨b.y,by rw[c1,<-j]⟩ ⟨b.z,by rw[c1,<-u]⟩)
  (fU hb b.x a.x ⟨a.x,c1 _ _⟩ ⟨a.y,by rw[j,c1]⟩ ⟨a.z,by rw[u,c1]⟩)
 have R:a.y.natAbs=b.y.natAbs:=Nat.dvd_antisymm
  (fU ha a.y b.y ⟨b.x,by rw[c1,j]⟩ ⟨b.y,c1 _ _⟩ ⟨b.z,by rw[c1,<-A]⟩)
  (fU hb b.y a.y ⟨a.x,by rw[<-j,c1]⟩ ⟨a.y,c1 _ _⟩ ⟨a.z,by rw[A,c1]⟩)
 have U:a.z.natAbs=b.z.natAbs:=Nat.dvd_antisymm
  (fU ha a.z b.z ⟨b.x,by rw[c1,u]⟩ ⟨b.y,by rw[c1,A]⟩ ⟨b.z,c1 _ _⟩)
  (fU hb b.z a.z ⟨a.x,by rw[<-u,c1]⟩ ⟨a.y,by rw[<-A,c1]⟩ ⟨a.z,c1 _ _⟩)
 have sgn:∀x y:Int,x.natAbs=y.natAbs->x=y\/x=-y:=fun x y h=>Int.natAbs_eq_natAbs_iff.mp h
 have sq:∀x:Int,0<=x*x:=fun x=>by rcases Int.le_total 0 x with h|h;exact Int.mul_nonneg h h;exact Int.mul_nonneg_of_nonpos_of_nonpos h h
 unfold dot at F;have two:∀x y:Int,x*y=(-x)*y->x*y=0:=fun x y h=>by rw[Int.neg_mul]at h;omega
 rcases sgn _ _ ax with G|G<;>rcases sgn _ _ R with H|H<;>rcases sgn _ _ U with J|J<;>rw[G,H]at j<;>rw[G,J]at u<;>rw[H,J]at A<;>rw[G,H,J]at F
 ·exact V.ext' G H J
 ·have C:b.x*b.z=0:=by rw[Int.neg_mul,c1 b.z]at u;omega
  have E:b.y*b.z=0:=by rw[Int.neg_mul,c1 b.z]at A;omega
  by_cases e:b.z=0
  ·exact V.ext' G H I
  ·have:=(Int.mul_eq_zero.mp C).resolve_right e
   have:=(Int.mul_eq_zero.mp E).resolve_right e;have:=sq b.z;simp only[*,Int.mul_neg]at F;omega
 ·have C:b.x*b.y=0:=by rw[Int.neg_mul,c1 b.y]at j;omega
  have E:b.y*b.z=0:=by rw[Int.neg_mul,c1 b.z]at A;omega
  by_cases e:b.y=0
  ·exact V.ext' G I J
  ·have:=(Int.mul_eq_zero.mp C).resolve_right e
   have:=(Int.mul_eq_zero.mp E).resolve_left e;have:=sq b.y;simp only[*,Int.mul_neg]at F;omega
 ·have C:b.x*b.y=0:=by rw[Int.neg_mul,c1 b.y]at j;omega
  have E:b.x*b.z=0:=by rw[Int.neg_mul,c1 b.z]at u;omega
  by_cases e:b.x=0
  ·have:=sq b.y;have:=sq b.z
   simp only[e,Int.neg_mul]at F;omega
  ·have L:=(Int.mul_eq_zero.mp C).resolve_left e
   have Q:=(Int.mul_eq_zero.mp E).resolve_left e;exact V.ext' G I I
 ·have C:b.x*b.y=0:=by rw[Int.neg_mul,c1 b.y]at j;omega
  have E:b.x*b.z=0:=by rw[Int.neg_mul,c1 b.z]at u;omega
  by_cases e:b.x=0
  ·exact V.ext' I H J
  ·have:=(Int.mul_eq_zero.mp C).resolve_left e
   have:=(Int.mul_eq_zero.mp E).resolve_left e;have:=sq b.x;simp only[*,Int.mul_neg]at F;omega
 ·have C:b.x*b.y=0:=by rw[Int.neg_mul,c1 b.y]at j;omega
  have E:b.y*b.z=0:=by rw[Int.neg_mul,c1 b.z]at A;omega
  by_cases e:b.y=0
  ·have:=sq b.x;have:=sq b.z
   simp only[e,Int.neg_mul]at F;omega
  ·have L:=(Int.mul_eq_zero.mp C).resolve_right e
   have Q:=(Int.mul_eq_zero.mp E).resolve_left e;exact V.ext' I H I
 ·have C:b.x*b.z=0:=by rw[Int.neg_mul,c1 b.z]at u;omega
  have E:b.y*b.z=0:=by rw[Int.neg_mul,c1 b.z]at A;omega
  by_cases e:b.z=0
  ·have:=sq b.x;have:=sq b.y
   simp only[e,Int.neg_mul]at F;omega
  ·have L:=(Int.mul_eq_zero.mp C).resolve_right e
   have Q:=(Int.mul_eq_zero.mp E).resolve_right e;exact V.ext' I I J
 ·have:=sq b.x;have:=sq b.y;have:=sq b.z
  simp only[Int.neg_mul]at F;omega
end
section
open V
variable {P : Nat → V} {N : Nat}
def nA(P:Nat->V)(f:V×Nat):Pl:=⟨aW f.1,dot (aW f.1) (P f.2)⟩
theorem T_primV(n u v:V):T n u v=(cK n:Int)*T (aW n) u v:=fW n _
theorem mA{f:V×Nat}(hF:Face P N f.1 f.2)(w:V):dot (nA P f).n w=(nA P f).o↔dot f.1 (w-P f.2)=0:=by
 have j:=fD hF.n0;unfold nA;dsimp only;rw[bK,fW f.1 w,fW f.1 (P f.2)]
 constructor
 ·intro e;rw[e];omega
 ·intro e;exact Int.eq_of_mul_eq_mul_left (show(cK f.1:Int)≠0 by omega) I
theorem plOf_mem{f:V×Nat}(hF:Face P N f.1 f.2):nA P f∈cx P N:=by
 obtain⟨i,j,k,A,C,E,h0,F,H⟩:=hF.three;have L:=fD hF.n0;have u:=fW f.1;have hi:dot (aW f.1) (P i)=dot (aW f.1) (P f.2):=by
  have:=H (P i);have e:P i-P i=V.zero:=by apply V.ext'<;>simp only[sub_x,sub_y,sub_z,V.zero]<;>omega
  rw[e,show dot f.1 V.zero=0 by simp[dot,V.zero],bK,u,u]at this;exact Int.eq_of_mul_eq_mul_left (show(cK f.1:Int)≠0 by omega) I
 refine dH.mpr ⟨i,j,k,A,C,E,h0,?_,hi.symm,fun q G=>?_⟩
 ·show aW f.1=_\/aW f.1=_
  have J:∀a:V,aW (-a)=-aW a:=fun a=>by
   unfold aW cK;apply V.ext'<;>simp only[neg_x,neg_y,neg_z,Int.natAbs_neg,Int.neg_tdiv]
  rcases F with e|e
  ·exact .inl (by rw[e])
  ·exact .inr (by rw[e,J])
 ·have:=hF.o q G
  rw[bK,u,u]at this;show dot (aW f.1) _<=dot (aW f.1) _;exact Int.le_of_mul_le_mul_left (show(cK f.1:Int)*_<=cK f.1*_ by omega) I
theorem pl_same{m u:Pl}(h:m∈cx P N)(h':u∈cx P N)(Q:i7 P N){a b c:Nat}(h0:cross (P b-P a) (P c-P a)≠V.zero)(ma:dot m.n (P a)=m.o)(mb:dot m.n (P b)=m.o)(mc:dot m.n (P c)=m.o)(F:dot u.n (P a)=u.o)(ag:dot u.n (P b)=u.o)(an:dot u.n (P c)=u.o):m=u:=by
 obtain⟨i,j,k,-,-,hi,t0,hn,ho,ac⟩:=dH.mp h;obtain⟨i',j',k',-,-,au,G,X,av,W⟩:=dH.mp h';have u0:m.n≠V.zero:=by rcases hn with e|e<;>rw[e];exact iy t0;exact lL (iy t0)
 have ar:u.n≠V.zero:=by rcases X with e|e<;>rw[e];exact iy G;exact lL (iy G)
 have H:∀a:V,cK (-a)=cK a:=fun a=>by unfold cK;simp only[neg_x,neg_y,neg_z,Int.natAbs_neg]
 have g1:cK m.n=1:=by rcases hn with e|e<;>rw[e];exact jJ t0;rw[H];exact jJ t0
 have g2:cK u.n=1:=by rcases X with e|e<;>rw[e];exact jJ G;rw[H];exact jJ G
 have d1:∀q,dot m.n (P q)=m.o->dot m.n (P q-P a)=0:=fun q U=>by rw[bK,U,ma];omega
 have d2:∀q,dot u.n (P q)=u.o->dot u.n (P q-P a)=0:=fun q U=>by rw[bK,U,F];omega
 have k1:=fun i=>ig m.n (P b-P a) (P c-P a) i (d1 b mb) (d1 c mc)
 have k2:=fun i=>ig u.n (P b-P a) (P c-P a) i (d2 b ag) (d2 c an)
 obtain⟨q,U,aw⟩:=Q m.n u0 a;have ad:dot m.n (P q-P a)<0:=by have:=ac q U;rw[bK,ma]at *;omega
 generalize hC:cross (P b-P a) (P c-P a)=C at *;have ay:=dp u0;have ao:=dp ar;have t1:T m.n (P b-P a) (P c-P a)≠0:=fun e=>by
  have:∀i,dot i C=0:=fun i=>by
   have:=k1 i;rw[e,Int.mul_zero]at this;exact(Int.mul_eq_zero.mp this).resolve_left I
  have:=this C;have:=dp h0;omega
 have ap:∀i:V,dot m.n m.n*dot u.n u.n*(dot i m.n*T m.n (P b-P a) (P c-P a)*dot u.n u.n-dot i u.n*T u.n (P b-P a) (P c-P a)*dot m.n m.n)=0:=fun i=>by
  rw[<-k1 i,<-k2 i];grind
 have L:∀i:V,dot i m.n*T m.n (P b-P a) (P c-P a)*dot u.n u.n=dot i u.n*T u.n (P b-P a) (P c-P a)*dot m.n m.n:=fun i=>by
  have:=(Int.mul_eq_zero.mp (ap i)).resolve_left (Int.mul_ne_zero I I);omega
 have pq:=L (P q-P a);rw[cR (P q-P a),cR (P q-P a)]at pq;have aa:dot u.n (P q-P a)<=0:=by have:=W q U;rw[bK,F]at *;omega
 generalize hs:T m.n (P b-P a) (P c-P a)*dot u.n u.n=s at *;generalize af:T u.n (P b-P a) (P c-P a)*dot m.n m.n=A at *;have E:∀i:V,dot i m.n*s=dot i u.n*A:=fun i=>by rw[<-hs,<-af,<-Int.mul_assoc,<-Int.mul_assoc];exact L i
 have s0:s≠0:=by rw[<-hs];exact Int.mul_ne_zero t1 I
 have R:dot m.n (P q-P a)*s=dot u.n (P q-P a)*A:=by
  have:=E (P q-P a);rwa [cR (P q-P a),cR (P q-P a)]at this
 have ab:0<s*A:=by
  have e1:dot m.n (P q-P a)*(s*A)=dot u.n (P q-P a)*(A*A):=by rw[<-Int.mul_assoc,R,Int.mul_assoc]
  have J:A≠0:=fun e=>by rw[e,Int.mul_zero]at R;exact(Int.mul_ne_zero I s0) R
  have sp:0<A*A:=by
   rcases Int.lt_or_gt_of_ne J with h|h
   ·exact Int.mul_pos_of_neg_of_neg h h
   ·exact Int.mul_pos h h
  have le:dot u.n (P q-P a)*(A*A)<=0:=Int.mul_nonpos_of_nonpos_of_nonneg aa (Int.le_of_lt sp);have ne:s*A≠0:=Int.mul_ne_zero s0 J;rw[<-e1]at le;refine Classical.byContradiction fun hc=>?_
  have:=Int.mul_pos_of_neg_of_neg ad (show s*A<0 by omega);omega
 have px:=E ⟨1,0,0⟩;have py:=E ⟨0,1,0⟩;have pz:=E ⟨0,0,1⟩;simp only[dot,Int.one_mul,Int.zero_mul,Int.add_zero,Int.zero_add]at px py pz;have Y:m.n=u.n:=by
  refine prim_unique g1 g2 ?_ ?_ ?_ ?_
  ·have e:(m.n.x*u.n.y-m.n.y*u.n.x)*(s*A)=0:=by
    have:(m.n.x*u.n.y-m.n.y*u.n.x)*(s*A)=(m.n.x*s)*(u.n.y*A)-(m.n.y*s)*(u.n.x*A):=by grind
    rw[this,px,py];grind
   have:=(Int.mul_eq_zero.mp e).resolve_right I;omega
  ·have e:(m.n.x*u.n.z-m.n.z*u.n.x)*(s*A)=0:=by
    have:(m.n.x*u.n.z-m.n.z*u.n.x)*(s*A)=(m.n.x*s)*(u.n.z*A)-(m.n.z*s)*(u.n.x*A):=by grind
    rw[this,px,pz];grind
   have:=(Int.mul_eq_zero.mp e).resolve_right I;omega
  ·have e:(m.n.y*u.n.z-m.n.z*u.n.y)*(s*A)=0:=by
    have:(m.n.y*u.n.z-m.n.z*u.n.y)*(s*A)=(m.n.y*s)*(u.n.z*A)-(m.n.z*s)*(u.n.y*A):=by grind
    rw[this,py,pz];grind
   have:=(Int.mul_eq_zero.mp e).resolve_right I;omega
  ·have e:dot m.n u.n*(s*A)=dot u.n u.n*(A*A):=by
    have h:=E u.n;rw[cR u.n m.n]at h;rw[<-Int.mul_assoc,h,Int.mul_assoc]
   have sp:0<A*A:=by
    rcases Int.lt_trichotomy A 0 with h|h|h
    ·exact Int.mul_pos_of_neg_of_neg h h
    ·rw[h,Int.mul_zero]at ab;omega
    ·exact Int.mul_pos h h
   have:=Int.mul_pos ao sp;rw[<-e]at this;refine Classical.byContradiction fun hc=>?_
   have:=Int.mul_nonpos_of_nonpos_of_nonneg (show dot m.n u.n<=0 by omega) (Int.le_of_lt ab);omega
 obtain⟨n,o⟩:=m;obtain⟨n',o'⟩:=u;dsimp only at Y ma F;subst Y;rw[<-ma,<-F]
theorem mz{fs:List (V×Nat)}(u:Polys P N fs)(C:i7 P N):(fs.map (nA P)).Nodup/\∀m,m∈cx P N↔m∈fs.map (nA P):=by
 constructor
 ·rw[List.nodup_iff_pairwise_ne,List.pairwise_map]
  refine u.nodup.imp_of_mem fun{f g} A Q G F=>G ?_
  unfold bj;refine List.filter_congr fun q E=>?_
  rw[decide_eq_decide,<-mA (u.ok f A),<-mA (u.ok g Q),F]
 ·intro m
  rw[List.mem_map]
  constructor
  ·intro L
   obtain⟨n,b,hF,hb,U⟩:=tR L;obtain⟨f,A,F⟩:=u.all n b hF;refine⟨f,A,?_⟩;obtain⟨i,j,k,W,X,hi,H,J,R⟩:=hF.points;have g:=fun q (E:q∈bj P N n b)=>(U (P q)).mpr (aG.mp E).2
   have g':=fun q (E:q∈bj P N n b)=>(mA (u.ok f A) (P q)).mpr (aG.mp (F▸E:q∈bj P N f.1 f.2)).2
   refine(pl_same L (plOf_mem (u.ok f A)) C (fun e=>R ?_) (g i hi) (g j H) (g k J) (g' i hi) (g' j H) (g' k J)).symm;unfold T;rw[e];simp[dot,V.zero]
  ·rintro⟨f,A,rfl⟩;exact plOf_mem (u.ok f A)
theorem gF{E:Type}(R:E->E->Prop)(u:∀a,¬ R a a)(j:∀a b,R a b->¬ R b a):∀l m:List E,l.Pairwise R->m.Pairwise R->(∀x,x∈l↔x∈m)->l=m
 | [],[],_,_,_=>rfl
 | [],y::m,_,_,h=>absurd ((h y).mpr (List.mem_cons_self ..)) (by simp)
 | x::l,[],_,_,h=>absurd ((h x).mp (List.mem_cons_self ..)) (by simp)
 | x::l,y::m,hl,hm,h=>by
  obtain⟨F,L⟩:=List.pairwise_cons.mp hl;obtain⟨G,Q⟩:=List.pairwise_cons.mp hm;have e:x=y:=by
   rcases List.mem_cons.mp ((h x).mp (List.mem_cons_self ..))with e|H
   ·exact e
   ·rcases List.mem_cons.mp ((h y).mpr (List.mem_cons_self ..))with e|J
    ·exact e.symm
    ·exact absurd (G x H) (j _ _ (F y J))
  subst e;rw[gF R u j l m L Q fun z=>?_]
  constructor
  ·intro A
   rcases List.mem_cons.mp ((h z).mp (List.mem_cons_of_mem _ A))with rfl|C
   ·exact absurd (F _ A) (u _)
   ·exact C
  ·intro A
   rcases List.mem_cons.mp ((h z).mpr (List.mem_cons_of_mem _ A))with rfl|C
   ·exact absurd (G _ A) (u _)
   ·exact C
end
section
open V
variable {P : Nat → V} {N : Nat}
def ptsOn(P:Nat->V)(N:Nat)(m:Pl):List Nat:=(List.range N).filter fun q=>decide (dot m.n (P q)=m.o)
def fx(P:Nat->V)(N:Nat)(m:Pl):List Nat:=ring P (ptsOn P N m) m.n
theorem ptsOn_plOf{f:V×Nat}(hF:Face P N f.1 f.2):ptsOn P N (nA P f)=bj P N f.1 f.2:=by
 unfold ptsOn bj;refine List.filter_congr fun q _=>?_
 rw[decide_eq_decide];exact mA hF (P q)
theorem pick_primV{n:V}(h:n≠V.zero)(a:Nat)(b:Option Nat)(i:Nat):pick P (aW n) a b i=pick P n a b i:=by
 have j:=fD h;have key:∀u v,(T (aW n) u v<0↔T n u v<0)/\(T (aW n) u v=0↔T n u v=0):=fun u v=>by
  rw[T_primV n u v];generalize T (aW n) u v=t;generalize cK n=g at *;have e:(0:Int)<(g:Int):=I;refine⟨⟨fun h=>Int.mul_neg_of_pos_of_neg e h,fun h=>?_⟩,⟨fun h=>by rw[h];simp,fun h=>(Int.mul_eq_zero.mp h).resolve_left I⟩⟩;refine Classical.byContradiction fun hc=>?_
  have:=Int.mul_nonneg (Int.le_of_lt e) (show 0<=t by omega);omega
 unfold pick;by_cases hi:i=a
 ·rw[if_pos hi,if_pos hi]
 ·rw[if_neg hi,if_neg hi]
  cases b with
  | none=>rfl
  | some b =>
   dsimp only;simp only[(key _ _).1,(key _ _).2]
theorem nx_primV{n:V}(h:n≠V.zero)(on:List Nat):nx P on (aW n)=nx P on n:=by
 funext a
 unfold nx;have e:pick P (aW n) a=pick P n a:=by funext b i;exact pick_primV h a b i
 rw[e]
theorem ring_primV{n:V}(h:n≠V.zero)(on:List Nat):ring P on (aW n)=ring P on n:=by
 unfold ring;rw[nx_primV h]
theorem ringPl_plOf{f:V×Nat}(hF:Face P N f.1 f.2):fx P N (nA P f)=ring P (bj P N f.1 f.2) f.1:=by
 unfold fx;rw[ptsOn_plOf hF];exact ring_primV hF.n0 _
theorem sN{n:V}{b c:Nat}(hF:Face P N n b)(hc:c∈bj P N n b):nA P (n,c)=nA P (n,b):=by
 have h:=(mA (f:=(n,b)) hF (P c)).mpr (aG.mp hc).2;unfold nA at *;dsimp only at *;rw[h]
end
section
open V
end
section
open V
variable {P : Nat → V} {N : Nat}
variable {fs : List (V × Nat)}
end
def dG(l:List Nat):List Nat:=(l.reverse.dropWhile (· == 0)).reverse
def dN(s:List UInt8):List Nat:=dG ((s.reverse.filter (· != 45)).map fun b=>b.toNat-48)
def df(neg:Bool)(d:List Nat):List UInt8:=if dG d=[] then[48] else(if neg then[45] else[])++(dG d).reverse.map fun x=>UInt8.ofNat (48+x)
def dr(s:List UInt8):Int:=if s=[48] then 0 else if s.headD 0=45 then -1 else 1
def kA:List Nat->List Nat->Int
 | x::a,y::b=>if x<y then -1 else if y<x then 1 else kA a b
 | _,_=>0
def gQ(a b:List Nat):Int:=if a.length<b.length then -1 else if b.length<a.length then 1 else kA a.reverse b.reverse
def iS:List Nat->List Nat->Nat->List Nat
 | [],_,_=>[]
 | x::a,b,c=>if(x:Int)-c-b.headD 0<0 then((x:Int)-c-b.headD 0+10).toNat::iS a b.tail 1 else((x:Int)-c-b.headD 0).toNat::iS a b.tail 0
def lO(a b:List Nat):List Nat:=dG (iS a b 0)
def divI(b:List Nat):Nat->List Nat->Nat->Option (List Nat×Nat)
 | 0,_,_=>none
 | f+1,r,q=>if 0<=gQ r b then divI b f (lO r b) (q+1)else some (r,q)
def divL(b:List Nat):List Nat->List Nat->Option (List Nat×List Nat)
 | [],r=>some ([],r)
 | x::a,r=>(divI b 11 (dG (x::r)) 0).bind fun p=>(divL b a p.1).map fun t=>(t.1++[p.2],t.2)
def iP(s t:List UInt8):Option (List UInt8×List UInt8):=
 (divL (dN t) (dN s).reverse []).bind fun p =>
  if((∀x∈p.1,x<=9)/\(∀x∈p.2,x<=9)/\(df (decide (dr s*dr t<0)) p.1).length<=20/\(df (decide (dr s<0)) p.2).length<=20)/\(df (decide (dr s<0)) p.2=[48]\/dr (df (decide (dr s<0)) p.2)=dr t)then some (df (decide (dr s*dr t<0)) p.1,df (decide (dr s<0)) p.2)else none
def rX:Nat->List UInt8->List UInt8->Option (List UInt8)
 | 0,_,_=>none
 | f+1,a,b=>if b=[48] then some a else(iP a b).bind fun p=>rX f b p.2
def mulD(s t:List UInt8):Option (List UInt8):=
 if(dN t).length=1/\∀x∈dN s,x*(dN t).headD 0<=9 then some (df (decide (dr s*dr t<0)) ((dN s).map (· * (dN t).headD 0)++[0,0]))else none
def textQD(num den:List UInt8):Option (List UInt8):=
 if dr den<0 then none else
  (rX 9 (df false (dN num)) (df false (dN den))).bind fun g=>(iP num g).bind fun p=>(iP den g).map fun q=>if q.1=[49] then p.1 else p.1++47::q.1
def quotD(s t:List UInt8):Option (List UInt8):=(mulD s [49]).bind fun a=>(mulD [49] t).bind fun b=>textQD a b
end Go.Proofs.Υ
