/- Plain geometry of points with integer coordinates: the polygon of a face by gift wrapping. The polygon of a face: its vertices are the extreme points. The faces of the hull of points: the vertices of the faces are the extreme points. Points in one plane; sets of points as bits. The reference's answers in plain terms: planes by all triples, extreme points. A face through each point at which some linear function is least; extreme points are such points. Points in any order and with repetitions; the hull of the extreme points. Sorted lists of points: the points of a list in order, and the hull as the reference lists it. Insertion into lists in order, as a loop finds the place. The sides of all faces: each is a side of just one face, and is a side of another one in the other direction. The surface is closed: sums over the sides of all faces, and over the triangles of all faces. Primitive normals; the reference's walk along a face; sorted lists. The reference's planes are those of the faces, each once; its walk goes from vertex to vertex. The rings of the reference's planes. The first example of the chapter: a tetrahedron. The tetrahedra qj the first vertex and the triangles of the faces: none is negative, some are positive; the centre of mass lies inside. -/
import Derived.Test.YtaibkpbklfodiaaGreatDoorPA

set_option linter.all false
set_option maxHeartbeats 100000000
section
namespace Dowel
structure V where
 x:Int
 y:Int
 z:Int
deriving DecidableEq
namespace V
instance : Sub V := ⟨fun a b => ⟨a.x - b.x, a.y - b.y, a.z - b.z⟩⟩
instance : Neg V := ⟨fun a => ⟨-a.x, -a.y, -a.z⟩⟩
def zero:V:=⟨0,0,0⟩
def dot (a b:V):Int:=a.x*b.x+a.y*b.y+a.z*b.z
def cross (a b:V):V:=⟨a.y*b.z - a.z*b.y,a.z*b.x - a.x*b.z,a.x*b.y - a.y*b.x⟩
theorem sub_x (a b:V):(a - b).x=a.x - b.x:=rfl
theorem sub_y (a b:V):(a - b).y=a.y - b.y:=rfl
theorem sub_z (a b:V):(a - b).z=a.z - b.z:=rfl
theorem neg_x (a:V):(-a).x=-a.x:=rfl
theorem neg_y (a:V):(-a).y=-a.y:=rfl
theorem neg_z (a:V):(-a).z=-a.z:=rfl
theorem ext' {a b:V} (hx:a.x=b.x) (hy:a.y=b.y) (hz:a.z=b.z):a=b:=by
 cases a;cases b;cases hx;cases hy;cases hz;rfl
end V
open V
def T (n u v:V):Int:=dot n (cross u v)
theorem jR (n u v:V):T n v u=- T n u v:=by simp only [T,dot,cross];grind
theorem T_self (n u:V):T n u u=0:=by simp only [T,dot,cross];grind
theorem cK (a b:V):dot a b=dot b a:=by simp only [dot];grind
theorem aY (g a b:V):dot g (a - b)=dot g a - dot g b:=by simp only [dot,sub_x,sub_y,sub_z];grind
theorem T_sub (n u v w:V):T n u (v - w)=T n u v - T n u w:=by simp only [T,dot,cross,sub_x,sub_y,sub_z];grind
theorem det_id (n u v w g:V):dot g w*T n u v+dot g u*T n v w+dot g v*T n w u=dot u (cross v w)*dot g n:=by
 simp only [T,dot,cross];grind
theorem det_n (n u v w g:V):dot u (cross v w)*dot g n=dot n u*dot g (cross v w)+dot n v*dot g (cross w u)+dot n w*dot g (cross u v):=by
 simp only [dot,cross];grind
theorem pJ {n u v w:V} (hu:dot n u=0) (hv:dot n v=0) (hw:dot n w=0) (g:V):dot g w*T n u v+dot g u*T n v w+dot g v*T n w u=0:=by
 rw [det_id,det_n,hu,hv,hw];simp
theorem di {n:V} (h:n≠V.zero):0<dot n n:=by
 unfold dot;have hx:0≤n.x*n.x:=by rcases Int.le_total 0 n.x with a | a;exact Int.mul_nonneg a a;exact Int.mul_nonneg_of_nonpos_of_nonpos a a
 have hy:0≤n.y*n.y:=by rcases Int.le_total 0 n.y with a | a;exact Int.mul_nonneg a a;exact Int.mul_nonneg_of_nonpos_of_nonpos a a
 have hz:0≤n.z*n.z:=by rcases Int.le_total 0 n.z with a | a;exact Int.mul_nonneg a a;exact Int.mul_nonneg_of_nonpos_of_nonpos a a
 rcases Int.lt_or_le 0 (n.x*n.x+n.y*n.y+n.z*n.z) with h0 | h0
 ·exact h0
 ·have ex:n.x*n.x=0:=ω
  have ey:n.y*n.y=0:=ω;have ez:n.z*n.z=0:=ω;exact absurd (V.ext' (b:=V.zero) (by have:=Int.mul_eq_zero.mp ex;show n.x=0;omega) (by have:=Int.mul_eq_zero.mp ey;show n.y=0;omega) (by have:=Int.mul_eq_zero.mp ez;show n.z=0;omega)) h
theorem fw (n u w:V) (i:V) (hu:dot n u=0) (hw:dot n w=0):dot n n*dot i (cross u w)=dot i n*T n u w:=by
 have h:dot n n*dot i (cross u w)=dot i n*T n u w+dot n w*dot i (cross u n) - dot n u*dot i (cross w n):=by
  simp only [T,dot,cross];grind
 rw [h,hu,hw];simp
theorem para {n u w:V} (hn:n≠V.zero) (hu:dot n u=0) (hw:dot n w=0) (h:T n u w=0) (g i:V):dot g w*dot i u=dot g u*dot i w:=by
 have hc:∀ i,dot i (cross u w)=0:=fun i=>by
  have:=fw n u w i hu hw;rw [h,Int.mul_zero] at this;exact (Int.mul_eq_zero.mp this).resolve_left (by have:=di hn;omega)
 have e:dot g w*dot i u - dot g u*dot i w=dot (cross i g) (cross u w):=by simp only [dot,cross];grind
 rw [hc] at e;omega
def Rel (n u v:V):Prop:=0<T n u v∨T n u v=0∧dot v v≤dot u u
theorem Rel.nonneg {n u v:V} (h:Rel n u v):0≤T n u v:=by rcases h with h | h <;> omega
theorem rel_total {n u v:V} (h:¬ Rel n u v):Rel n v u:=by
 unfold Rel at *;rw [jR];omega
theorem mK (n u:V):Rel n u u:=.inr ⟨T_self n u,Int.le_refl _⟩
theorem rel_trans {n u v w g:V} (hu:dot n u=0) (hv:dot n v=0) (hw:dot n w=0) (gu:0<dot g u) (gv:0<dot g v) (gw:0<dot g w)
  (h1:Rel n u v) (h2:Rel n v w):Rel n u w:=by
 have h:=pJ hu hv hw g;rw [jR n u w] at h;have a1:0≤dot g w*T n u v:=Int.mul_nonneg (Int.le_of_lt gw) h1.nonneg;have a2:0≤dot g u*T n v w:=Int.mul_nonneg (Int.le_of_lt gu) h2.nonneg;have e:dot g v*T n u w=dot g w*T n u v+dot g u*T n v w:=by
  rw [Int.mul_neg] at h;omega
 by_cases hp:0<T n u v∨0<T n v w
 ·left
  have:0<dot g v*T n u w:=by
   rw [e]
   rcases hp with hp | hp
   ·have:=Int.mul_pos gw hp;omega
   ·have:=Int.mul_pos gu hp;omega
  exact Int.pos_of_mul_pos_right this gv |> fun h=>h
 ·right
  rcases h1 with h1 | ⟨h1,l1⟩
  ·exact absurd (.inl h1) hp
  rcases h2 with h2 | ⟨h2,l2⟩
  ·exact absurd (.inr h2) hp
  rw [h1,h2,Int.mul_zero,Int.mul_zero] at e;exact ⟨(Int.mul_eq_zero.mp e).resolve_left ω,Int.le_trans l2 l1⟩
section Ring
variable (P : Nat → V) (on : List Nat) (n : V)
def fm (a:Nat):Prop:=a ∈ on∧∃ g,∀ q ∈ on,q≠a→0<dot g (P q - P a)
def Next (a b:Nat):Prop:=b ∈ on∧b≠a∧∀ q ∈ on,q≠a→Rel n (P b - P a) (P q - P a)
structure Flat:Prop where
 n0:n≠V.zero
 pl:∀ p ∈ on,∀ q ∈ on,dot n (P p - P q)=0
 inj:∀ p ∈ on,∀ q ∈ on,P p=P q→p=q
variable {P on n}
def pick (P:Nat→V) (n:V) (a:Nat) (b:Option Nat) (i:Nat):Option Nat:=
 if i=a then b else match b with
 | none=>some i
 | some b=>if T n (P b - P a) (P i - P a)<0∨T n (P b - P a) (P i - P a)=0∧dot (P i - P a) (P i - P a) > dot (P b - P a) (P b - P a) then some i else some b
theorem pick_spec (hf:Flat P on n) {a:Nat} (ha:fm P on a) (done rest:List Nat) (hon:∀ q,q ∈ done∨q ∈ rest→q ∈ on) (b:Option Nat)
  (hb:match b with | none=>∀ q ∈ done,q=a | some b=>b ∈ done∧b≠a∧∀ q ∈ done,q≠a→Rel n (P b - P a) (P q - P a)) :
  match rest.foldl (pick P n a) b with
  | none=>∀ q,q ∈ done∨q ∈ rest→q=a
  | some b=>(b ∈ done∨b ∈ rest)∧b≠a∧∀ q,q ∈ done∨q ∈ rest→q≠a→Rel n (P b - P a) (P q - P a):=by
 induction rest generalizing done b with
 | nil =>
  cases b with
  | none=>simpa using hb
  | some b=>simpa using hb
 | cons i rest ih =>
  have e:∀ q,(q ∈ done ++ [i]∨q ∈ rest)↔(q ∈ done∨q ∈ i :: rest):=fun q=>by simp [or_assoc]
  have:=ih (done ++ [i]) (fun q hq=>hon q ((e q).mp hq)) (pick P n a b i) ?_
  ·simp only [List.foldl_cons]
   revert this
   cases List.foldl (pick P n a) (pick P n a b i) rest with
   | none=>intro h q hq;exact h q ((e q).mpr hq)
   | some c=>intro h;exact ⟨(e c).mp h.1,h.2.1,fun q hq=>h.2.2 q ((e q).mpr hq)⟩
  ·obtain ⟨ham,g,hg⟩:=ha
   have pl:∀ q ∈ on,dot n (P q - P a)=0:=fun q hq=>hf.pl q hq a ham
   have hi:i ∈ on:=hon i (.inr (by simp));have hd:∀ q ∈ done,q ∈ on:=fun q hq=>hon q (.inl hq)
   unfold pick;by_cases hia:i=a
   ·rw [if_pos hia]
    cases b with
    | none=>intro q hq;rcases List.mem_append.mp hq with hq | hq;exact hb q hq;simpa [hia] using hq
    | some b =>
     refine ⟨List.mem_append_left _ hb.1,hb.2.1,fun q hq hqa=>?_⟩
     rcases List.mem_append.mp hq with hq | hq
     ·exact hb.2.2 q hq hqa
     ·exact absurd (by simpa [hia] using hq) hqa
   ·rw [if_neg hia]
    cases b with
    | none =>
     refine ⟨by simp,hia,fun q hq hqa=>?_⟩
     rcases List.mem_append.mp hq with hq | hq
     ·exact absurd (hb q hq) hqa
     ·have:q=i:=by simpa using hq
      subst this;exact mK _ _
    | some b =>
     obtain ⟨b1,b2,b3⟩:=hb;dsimp only;by_cases h:T n (P b - P a) (P i - P a)<0∨T n (P b - P a) (P i - P a)=0∧dot (P i - P a) (P i - P a) > dot (P b - P a) (P b - P a)
     ·rw [if_pos h]
      have hr:Rel n (P i - P a) (P b - P a):=by
       refine rel_total ?_;unfold Rel;omega
      refine ⟨by simp,hia,fun q hq hqa=>?_⟩
      rcases List.mem_append.mp hq with hq | hq
      ·exact rel_trans (pl i hi) (pl b (hd b b1)) (pl q (hd q hq)) (hg i hi hia) (hg b (hd b b1) b2) (hg q (hd q hq) hqa) hr (b3 q hq hqa)
      ·have:q=i:=by simpa using hq
       subst this;exact mK _ _
     ·rw [if_neg h]
      refine ⟨List.mem_append_left _ b1,b2,fun q hq hqa=>?_⟩
      rcases List.mem_append.mp hq with hq | hq
      ·exact b3 q hq hqa
      ·have:q=i:=by simpa using hq
       subst this;unfold Rel;omega
def nx (P:Nat→V) (on:List Nat) (n:V) (a:Nat):Nat:=(on.foldl (pick P n a) none).getD 0
theorem l8 (hf:Flat P on n) {a:Nat} (ha:fm P on a) (h2:∃ q ∈ on,q≠a) :
  on.foldl (pick P n a) none=some (nx P on n a)∧Next P on n a (nx P on n a):=by
 have h:=pick_spec hf ha [] on (by simp) none (by simp);unfold nx;revert h
 cases on.foldl (pick P n a) none with
 | none=>intro h;obtain ⟨q,hq,hqa⟩:=h2;exact absurd (h q (.inr hq)) hqa
 | some b=>intro h;exact ⟨rfl,by simpa using h.1,h.2.1,fun q hq=>h.2.2 q (.inr hq)⟩
theorem bound_list (f:Nat→Int) (l:List Nat):∃ K,0<K∧∀ q ∈ l,f q<K:=by
 induction l with
 | nil=>exact ⟨1,by omega,by simp⟩
 | cons a l ih =>
  obtain ⟨K,hK,h⟩:=ih;refine ⟨max K (f a+1),by omega,fun q hq=>?_⟩
  rcases List.mem_cons.mp hq with rfl | hq
  ·omega
  ·have:=h q hq;omega
theorem ray {n e w g:V} (hn:n≠V.zero) (he:dot n e=0) (hw:dot n w=0) (ge:0<dot g e) (gw:0<dot g w) (h:T n e w=0) (hl:dot w w≤dot e e) (hne:w≠e) :
  ∃ α β:Int,0<β∧β<α∧∀ i,α*dot i w=β*dot i e:=by
 have hp:=para hn he hw h;refine ⟨dot g e,dot g w,gw,?_,fun i=>?_⟩
 ·have h1:=hp g w
  have h2:=hp g e;rw [cK w e] at h1;have h3:dot g w*dot g w*dot e e=dot g e*dot g e*dot w w:=by
   have:=hp g e;have e1:dot g w*dot g w*dot e e=dot g w*(dot g w*dot e e):=by rw [Int.mul_assoc]
   rw [e1,h2];have e2:dot g w*(dot g e*dot e w)=dot g e*(dot g w*dot e w):=by rw [Int.mul_left_comm]
   rw [e2,h1,Int.mul_assoc]
  have e0:e≠V.zero:=by
   intro h0;rw [h0] at ge;simp [dot,V.zero] at ge
  have ee:=di e0
  rcases Int.lt_or_le (dot g w) (dot g e) with h | h
  ·exact h
  ·exfalso
   by_cases hq:dot g w=dot g e
   ·refine hne (V.ext' ?_ ?_ ?_)
    ·have:=hp g ⟨1,0,0⟩
     rw [hq] at this;have:=Int.eq_of_mul_eq_mul_left ω this
     simpa [dot] using this.symm
    ·have:=hp g ⟨0,1,0⟩
     rw [hq] at this;have:=Int.eq_of_mul_eq_mul_left ω this
     simpa [dot] using this.symm
    ·have:=hp g ⟨0,0,1⟩
     rw [hq] at this;have:=Int.eq_of_mul_eq_mul_left ω this
     simpa [dot] using this.symm
   ·have hlt:dot g e<dot g w:=ω
    have h4:dot g e*dot g e<dot g w*dot g w:=Int.mul_lt_mul' ω hlt ω ω;have h5:dot g e*dot g e*dot w w≤dot g e*dot g e*dot e e:=Int.mul_le_mul_of_nonneg_left hl (Int.mul_nonneg ω ω);have h6:dot g e*dot g e*dot e e<dot g w*dot g w*dot e e:=Int.mul_lt_mul_of_pos_right h4 ee;omega
 ·have:=hp g i;rw [this]
theorem jZ (a b c:V):(a - c) - (b - c)=a - b:=by
 apply V.ext' <;> simp only [sub_x,sub_y,sub_z] <;> omega
theorem sub_eq_self {a b c:V} (h:a - c=b - c):a=b:=by
 have hx:=congrArg V.x h;have hy:=congrArg V.y h;have hz:=congrArg V.z h;simp only [sub_x,sub_y,sub_z] at hx hy hz;apply V.ext' <;> omega
theorem nr (g a b:V):dot g (a - b)=- dot g (b - a):=by rw [aY,aY];omega
theorem next_ray (hf:Flat P on n) {a b q:Nat} (ha:fm P on a) (hb:Next P on n a b) (hq:q ∈ on) (hqa:q≠a) (hqb:q≠b) (h:T n (P b - P a) (P q - P a)=0) :
  ∃ α β:Int,0<β∧β<α∧∀ i,α*dot i (P q - P a)=β*dot i (P b - P a):=by
 obtain ⟨ham,g,hg⟩:=ha;obtain ⟨hbm,hba,hr⟩:=hb;have hl:dot (P q - P a) (P q - P a)≤dot (P b - P a) (P b - P a):=by
  have:=hr q hq hqa;unfold Rel at this;omega
 exact ray hf.n0 (hf.pl b hbm a ham) (hf.pl q hq a ham) (hg b hbm hba) (hg q hq hqa) h hl fun he=>hqb (hf.inj q hq b hbm (sub_eq_self he))
theorem jF (hf:Flat P on n) {a b q:Nat} (ha:fm P on a) (hb:Next P on n a b) (hq:fm P on q) (hqa:q≠a) (hqb:q≠b):0<T n (P b - P a) (P q - P a):=by
 obtain ⟨hqm,h,hh⟩:=hq;have:=(hb.2.2 q hqm hqa).nonneg
 rcases Int.lt_or_eq_of_le this with h0 | h0
 ·exact h0
 exfalso;obtain ⟨α,β,hβ,hαβ,hr⟩:=next_ray hf ha hb hqm hqa hqb h0.symm;have h1:=hh a ha.1 (Ne.symm hqa);have h2:=hh b hb.1 (Ne.symm hqb);have e:=hr h;rw [nr] at h1;have h3:dot h (P b - P q)=dot h (P b - P a) - dot h (P q - P a):=by simp only [aY];omega
 rw [h3] at h2;generalize dot h (P b - P a)=X at *;generalize dot h (P q - P a)=Y at *;have h4:X<0:=by
  rcases Int.lt_or_le X 0 with h | h
  ·exact h
  ·have:=Int.mul_nonneg (Int.le_of_lt hβ) h
   have:=Int.mul_neg_of_pos_of_neg (a:=α) (b:=Y) ω ω;omega
 have h5:α*Y<α*X:=Int.mul_lt_mul_of_pos_left ω ω;rw [e] at h5;have h6:α*X<β*X:=Int.mul_lt_mul_of_neg_right hαβ h4;omega
theorem vert_next (hf:Flat P on n) {a b:Nat} (ha:fm P on a) (hb:Next P on n a b):fm P on b:=by
 refine ⟨hb.1,?_⟩;obtain ⟨K,hK,hk⟩:=bound_list (fun q=>dot (P b - P a) (P q - P b)) on;have eg:∀ w,dot ⟨K*(cross n (P b - P a)).x - (P b - P a).x,K*(cross n (P b - P a)).y - (P b - P a).y,K*(cross n (P b - P a)).z - (P b - P a).z⟩ w=K*T n (P b - P a) w - dot (P b - P a) w:=fun w=>by
  simp only [T,dot,cross];grind
 refine ⟨⟨K*(cross n (P b - P a)).x - (P b - P a).x,K*(cross n (P b - P a)).y - (P b - P a).y,K*(cross n (P b - P a)).z - (P b - P a).z⟩,fun q hq hqb=>?_⟩;rw [eg];obtain ⟨ham,g,hg⟩:=ha;have gb:=hg b hb.1 hb.2.1;have e0:P b - P a≠V.zero:=by intro h0;rw [h0] at gb;simp [dot,V.zero] at gb
 have ee:=di e0;by_cases hqa:q=a
 ·subst hqa
  have h1:T n (P b - P q) (P q - P b)=0:=by
   have:T n (P b - P q) (P q - P b)=- T n (P b - P q) (P b - P q):=by simp only [T_sub];omega
   rw [this,T_self];rfl
  rw [h1,nr];omega
 ·have h1:T n (P b - P a) (P q - P b)=T n (P b - P a) (P q - P a):=by
   rw [← jZ (P q) (P b) (P a),T_sub,T_self];omega
  rw [h1];have hr:=hb.2.2 q hq hqa
  rcases hr with hr | ⟨hr,hl⟩
  ·have:=hk q hq
   have:K*1≤K*T n (P b - P a) (P q - P a):=Int.mul_le_mul_of_nonneg_left ω ω;omega
  ·rw [hr]
   obtain ⟨α,β,hβ,hαβ,hray⟩:=next_ray hf ⟨ham,g,hg⟩ hb hq hqa hqb hr;have h2:=hray (P b - P a);have h3:dot (P b - P a) (P q - P b)=dot (P b - P a) (P q - P a) - dot (P b - P a) (P b - P a):=by
    rw [← aY,jZ]
   have h4:α*dot (P b - P a) (P q - P a)<α*dot (P b - P a) (P b - P a):=by
    rw [h2];exact Int.mul_lt_mul_of_pos_right hαβ ee
   have:=Int.lt_of_mul_lt_mul_left h4 ω;omega
theorem next_inj (hf:Flat P on n) {a a' b:Nat} (ha:fm P on a) (ha':fm P on a') (hb:Next P on n a b) (hb':Next P on n a' b):a=a':=by
 refine Decidable.byContradiction fun hne=>?_
 have h1:=jF hf ha hb ha' (Ne.symm hne) (Ne.symm hb'.2.1);have h2:=jF hf ha' hb' ha hne (Ne.symm hb.2.1);have e1:T n (P b - P a) (P a' - P a)=T n (P a - P b) (P b - P a')+0:=by simp only [T,dot,cross,sub_x,sub_y,sub_z];grind
 have e2:T n (P b - P a') (P a - P a')=- T n (P a - P b) (P b - P a'):=by simp only [T,dot,cross,sub_x,sub_y,sub_z];grind
 omega
end Ring
end Dowel
end

section
namespace Dowel
open V
def orb (f:Nat→Nat) (a:Nat):Nat→Nat
 | 0=>a
 | j+1=>f (orb f a j)
def per (f:Nat→Nat) (a:Nat):Nat→Nat→Nat
 | 0,j=>j
 | fuel+1,j=>if orb f a j=a then j else per f a fuel (j+1)
def ring (P:Nat→V) (on:List Nat) (n:V):List Nat:=
 (List.range (per (nx P on n) (on.headD 0) on.length 1)).map (orb (nx P on n) (on.headD 0))
theorem per_spec (f:Nat→Nat) (a:Nat) (fuel j:Nat) (h:∃ k,j≤k∧k<j+fuel∧orb f a k=a) :
  orb f a (per f a fuel j)=a∧j≤per f a fuel j∧per f a fuel j<j+fuel∧∀ i,j≤i→i<per f a fuel j→orb f a i≠a:=by
 induction fuel generalizing j with
 | zero=>obtain ⟨k,h1,h2,_⟩:=h;omega
 | succ fuel ih =>
  unfold per;by_cases hj:orb f a j=a
  ·rw [if_pos hj];exact ⟨hj,Nat.le_refl _,by omega,fun i h1 h2=>by omega⟩
  ·rw [if_neg hj]
   obtain ⟨k,h1,h2,h3⟩:=h;have hk:j≠k:=fun e=>hj (by rw [e];exact h3)
   have:=ih (j+1) ⟨k,by omega,by omega,h3⟩;refine ⟨this.1,by omega,by omega,fun i h4 h5=>?_⟩;by_cases hi:i=j
   ·rw [hi];exact hj
   ·exact this.2.2.2 i ω h5
theorem eN:∀ (l m:List Nat),l.Nodup→(∀ x ∈ l,x ∈ m)→l.length≤m.length
 | [],_,_,_=>by simp
 | a :: l,m,h,hs=>by
  have ha:a ∈ m:=hs a (by simp);have h1:=eN l (m.erase a) (List.nodup_cons.mp h).2 fun x hx=>by
   have hxa:x≠a:=fun e=>(List.nodup_cons.mp h).1 (e ▸ hx)
   exact (List.mem_erase_of_ne hxa).mpr (hs x (by simp [hx]))
  rw [List.length_erase_of_mem ha] at h1;have:0<m.length:=List.length_pos_of_mem ha;simp only [List.length_cons];omega
section Ring
variable {P : Nat → V} {on : List Nat} {n : V}
theorem dH (hf:Flat P on n) (h2:∀ a,∃ q ∈ on,q≠a) {a:Nat} (ha:fm P on a) (j:Nat):fm P on (orb (nx P on n) a j):=by
 induction j with
 | zero=>exact ha
 | succ j ih=>exact vert_next hf ih (l8 hf ih (h2 _)).2
theorem fy (hf:Flat P on n) (h2:∀ a,∃ q ∈ on,q≠a) {a:Nat} (ha:fm P on a) (j:Nat):Next P on n (orb (nx P on n) a j) (orb (nx P on n) a (j+1)):=
 (l8 hf (dH hf h2 ha j) (h2 _)).2
theorem orb_back (hf:Flat P on n) (h2:∀ a,∃ q ∈ on,q≠a) {a:Nat} (ha:fm P on a) (i d:Nat) (h:orb (nx P on n) a i=orb (nx P on n) a (i+d)):a=orb (nx P on n) a d:=by
 induction i with
 | zero=>simpa [orb] using h
 | succ i ih =>
  refine ih ?_;have h1:=fy hf h2 ha i;have h3:=fy hf h2 ha (i+d);rw [show i+d+1=i+1+d by omega,← h] at h3;exact next_inj hf (dH hf h2 ha i) (dH hf h2 ha (i+d)) h1 h3
theorem orb_period (hf:Flat P on n) (h2:∀ a,∃ q ∈ on,q≠a) {a:Nat} (ha:fm P on a):∃ k,1≤k∧k<1+on.length∧orb (nx P on n) a k=a:=by
 refine Classical.byContradiction fun hno=>?_
 have hne:∀ k,1≤k→k<1+on.length→orb (nx P on n) a k≠a:=fun k h1 h3 h4=>hno ⟨k,h1,h3,h4⟩
 have hnd:((List.range (on.length+1)).map (orb (nx P on n) a)).Nodup:=by
  unfold List.Nodup;rw [List.pairwise_map];refine List.Pairwise.imp_of_mem ?_ List.pairwise_lt_range;intro i j hi hj hij he;rw [List.mem_range] at hi hj;have:=orb_back hf h2 ha i (j - i) (by rw [show i+(j - i)=j by omega];exact he);exact hne (j - i) ω ω this.symm
 have:=eN _ on hnd fun x hx=>by
  obtain ⟨j,_,rfl⟩:=List.mem_map.mp hx;exact (dH hf h2 ha j).1
 simp at this;omega
theorem kQ (hf:Flat P on n) (h2:∀ a,∃ q ∈ on,q≠a) {a:Nat} (ha:fm P on a) :
  ∃ k,k=per (nx P on n) a on.length 1∧1≤k∧k<1+on.length∧orb (nx P on n) a k=a∧∀ i,1≤i→i<k→orb (nx P on n) a i≠a:=by
 have:=per_spec (nx P on n) a on.length 1 (orb_period hf h2 ha);exact ⟨_,rfl,this.2.1,this.2.2.1,this.1,this.2.2.2⟩
theorem qj (s:Nat→Int) (h1:0≤s 1):∀ m,2≤m→s m≤0→∃ j,1≤j∧j+1≤m∧0≤s j∧s (j+1)≤0
 | 0,h,_=>by omega
 | 1,h,_=>by omega
 | 2,_,h=>⟨1,by omega,by omega,h1,h⟩
 | m+3,_,h=>by
  by_cases hs:0≤s (m+2)
  ·exact ⟨m+2,by omega,by omega,hs,h⟩
  ·obtain ⟨j,a,b,c,d⟩:=qj s h1 (m+2) ω ω
   exact ⟨j,a,by omega,c,d⟩
theorem vert_orb (hf:Flat P on n) (h2:∀ a,∃ q ∈ on,q≠a) {a:Nat} (ha:fm P on a) {k:Nat} (hk:1≤k) (hka:orb (nx P on n) a k=a)
  (hkm:∀ i,1≤i→i<k→orb (nx P on n) a i≠a) {v:Nat} (hv:fm P on v):∃ j,j<k∧orb (nx P on n) a j=v:=by
 refine Classical.byContradiction fun hno=>?_
 have hne:∀ j,j<k→v≠orb (nx P on n) a j:=fun j h1 h3=>hno ⟨j,h1,h3.symm⟩
 have hva:v≠a:=hne 0 ω;have hk2:2≤k:=by
  refine Classical.byContradiction fun h=>?_
  have:k=1:=ω;subst this;exact (fy hf h2 ha 0).2.1 hka
 have hlast:T n (P (orb (nx P on n) a (k - 1)) - P a) (P v - P a)<0:=by
  have h1:=fy hf h2 ha (k - 1);rw [show k - 1+1=k by omega,hka] at h1;have:=jF hf (dH hf h2 ha (k - 1)) h1 hv (hne (k - 1) ω) hva;have e:T n (P a - P (orb (nx P on n) a (k - 1))) (P v - P (orb (nx P on n) a (k - 1)))=- T n (P (orb (nx P on n) a (k - 1)) - P a) (P v - P a):=by
   simp only [T,dot,cross,sub_x,sub_y,sub_z];grind
  omega
 have hfirst:0<T n (P (orb (nx P on n) a 1) - P a) (P v - P a):=jF hf ha (fy hf h2 ha 0) hv hva (hne 1 ω);have hk3:k≠2:=by intro h;subst h;simp at hlast;omega
 obtain ⟨j,j1,jk,sj,sj1⟩:=qj (fun j=>T n (P (orb (nx P on n) a j) - P a) (P v - P a)) (Int.le_of_lt hfirst) (k - 1) ω (Int.le_of_lt hlast);have hb:=dH hf h2 ha j;have hc:=dH hf h2 ha (j+1);have hbc:=fy hf h2 ha j;have hab:=hkm j j1 ω;have hac:=hkm (j+1) ω ω;have hvb:=hne j ω;have hvc:=hne (j+1) ω;generalize orb (nx P on n) a j=b at *;generalize orb (nx P on n) a (j+1)=c at *;have hD:=jF hf hb hbc ha (Ne.symm hab) (Ne.symm hac);have hm:=jF hf hb hbc hv hvb hvc;obtain ⟨hvm,h,hh⟩:=hv;have p1:=hh a ha.1 (Ne.symm hva);have p2:=hh b hb.1 (Ne.symm hvb);have p3:=hh c hc.1 (Ne.symm hvc);have hp:=pJ (hf.pl b hb.1 a ha.1) (hf.pl c hc.1 a ha.1) (hf.pl v hvm a ha.1) h;have eD:T n (P c - P b) (P a - P b)=T n (P b - P a) (P c - P a):=by simp only [T,dot,cross,sub_x,sub_y,sub_z];grind
 have em:T n (P c - P b) (P v - P b)=T n (P b - P a) (P c - P a)+T n (P c - P a) (P v - P a) - T n (P b - P a) (P v - P a):=by simp only [T,dot,cross,sub_x,sub_y,sub_z];grind
 rw [eD] at hD;rw [em] at hm;have q1:dot h (P a - P v)=- dot h (P v - P a):=nr _ _ _;have q2:dot h (P b - P v)=dot h (P b - P a) - dot h (P v - P a):=by simp only [aY];omega
 have q3:dot h (P c - P v)=dot h (P c - P a) - dot h (P v - P a):=by simp only [aY];omega
 rw [q1] at p1;rw [q2] at p2;rw [q3] at p3;rw [jR n (P b - P a) (P v - P a)] at hp;generalize T n (P b - P a) (P c - P a)=D at *;generalize T n (P b - P a) (P v - P a)=r at *;generalize T n (P c - P a) (P v - P a)=p at *;generalize dot h (P v - P a)=t at *;generalize dot h (P b - P a)=u at *;generalize dot h (P c - P a)=w at *;have m1:0≤(-p)*(u - t):=Int.mul_nonneg ω ω;have m2:0≤r*(w - t):=Int.mul_nonneg ω ω;have m3:0<(D+p - r)*(-t):=Int.mul_pos hm p1;have:(-p)*(u - t)+r*(w - t)+(D+p - r)*(-t)=0:=by grind
 omega
theorem ring_mem (hf:Flat P on n) (h2:∀ a,∃ q ∈ on,q≠a) (ha:fm P on (on.headD 0)) {v:Nat}:v ∈ ring P on n↔fm P on v:=by
 obtain ⟨k,e,k1,kn,hk,hm⟩:=kQ hf h2 ha;unfold ring;rw [← e]
 constructor
 ·intro h
  obtain ⟨j,_,rfl⟩:=List.mem_map.mp h;exact dH hf h2 ha j
 ·intro h
  obtain ⟨j,hj,rfl⟩:=vert_orb hf h2 ha k1 hk hm h;exact List.mem_map.mpr ⟨j,List.mem_range.mpr hj,rfl⟩
theorem vert_prev (hf:Flat P on n) (h2:∀ a,∃ q ∈ on,q≠a) {v:Nat} (hv:fm P on v):∃ a,fm P on a∧Next P on n a v:=by
 obtain ⟨k,e,k1,kn,hk,hm⟩:=kQ hf h2 hv;have:=fy hf h2 hv (k - 1);rw [show k - 1+1=k by omega,hk] at this;exact ⟨_,dH hf h2 hv _,this⟩
end Ring
end Dowel
end

section
namespace Dowel
open V
def tri (P:Nat→V) (i j k:Nat):V:=cross (P j - P i) (P k - P i)
structure Face (P:Nat→V) (N:Nat) (n:V) (b:Nat):Prop where
 three:∃ i j k,k<j∧j<i∧i<N∧tri P i j k≠V.zero∧(n=tri P i j k∨n=-tri P i j k)∧∀ w,dot n (w - P i)=dot n (w - P b)
 out:∀ q,q<N→dot n (P q - P b)≤0
def aH (P:Nat→V) (N:Nat) (n:V) (b:Nat):List Nat:=(List.range N).filter fun q=>dot n (P q - P b)=0
theorem aD {P:Nat→V} {N:Nat} {n:V} {b q:Nat}:q ∈ aH P N n b↔q<N∧dot n (P q - P b)=0:=by
 simp [aH,List.mem_filter]
def Inj (P:Nat→V) (N:Nat):Prop:=∀ p,p<N→∀ q,q<N→P p=P q→p=q
def fG (P:Nat→V) (N:Nat):Prop:=∀ n,n≠V.zero→∀ b,∃ q,q<N∧dot n (P q - P b)≠0
theorem dot_base (n a b c:V) (h:dot n (b - c)=0):dot n (a - b)=dot n (a - c):=by
 simp only [aY] at *;omega
theorem jG {n:V} (h:n≠V.zero):-n≠V.zero:=by
 intro e;apply h;have hx:=congrArg V.x e;have hy:=congrArg V.y e;have hz:=congrArg V.z e;simp only [neg_x,neg_y,neg_z,V.zero] at hx hy hz;apply V.ext' <;> simp only [V.zero] <;> omega
theorem bo (n a:V):dot (-n) a=- dot n a:=by simp only [dot,neg_x,neg_y,neg_z];grind
variable {P : Nat → V} {N : Nat}
theorem Face.n0 {n:V} {b:Nat} (h:Face P N n b):n≠V.zero:=by
 obtain ⟨i,j,k,_,_,_,h0,hn,_⟩:=h.three
 rcases hn with rfl | rfl
 ·exact h0
 ·exact jG h0
theorem Face.flat {n:V} {b:Nat} (h:Face P N n b) (hinj:Inj P N):Flat P (aH P N n b) n where
 n0:=h.n0
 pl p hp q hq:=by
  have h1:=(aD.mp hp).2;have h2:=(aD.mp hq).2;simp only [aY] at *;omega
 inj p hp q hq e:=hinj p (aD.mp hp).1 q (aD.mp hq).1 e
theorem tri_n (P:Nat→V) (i j k:Nat):dot (tri P i j k) (P j - P i)=0∧dot (tri P i j k) (P k - P i)=0:=by
 constructor <;> (simp only [tri,dot,cross,sub_x,sub_y,sub_z];grind)
theorem Face.points {n:V} {b:Nat} (h:Face P N n b):∃ i j k,k<j∧j<i∧i ∈ aH P N n b∧j ∈ aH P N n b∧k ∈ aH P N n b∧T n (P j - P i) (P k - P i)≠0:=by
 obtain ⟨i,j,k,h1,h2,h3,h0,hn,hb⟩:=h.three;have hi:dot n (P i - P i)=0:=by simp only [aY];omega
 have hj:dot n (P j - P i)=0:=by
  rcases hn with rfl | rfl
  ·exact (tri_n P i j k).1
  ·rw [bo,(tri_n P i j k).1];rfl
 have hk:dot n (P k - P i)=0:=by
  rcases hn with rfl | rfl
  ·exact (tri_n P i j k).2
  ·rw [bo,(tri_n P i j k).2];rfl
 rw [hb] at hi hj hk;refine ⟨i,j,k,h1,h2,aD.mpr ⟨h3,hi⟩,aD.mpr ⟨by omega,hj⟩,aD.mpr ⟨by omega,hk⟩,?_⟩;have:=di h0;unfold T
 rcases hn with rfl | rfl
 ·exact fun e=>by unfold tri at *;omega
 ·rw [bo];exact fun e=>by unfold tri at *;omega
theorem Face.two {n:V} {b:Nat} (h:Face P N n b) (a:Nat):∃ q ∈ aH P N n b,q≠a:=by
 obtain ⟨i,j,k,h1,h2,hi,hj,hk,_⟩:=h.points;by_cases e:i=a
 ·exact ⟨j,hj,by omega⟩
 ·exact ⟨i,hi,e⟩
theorem mi {a b m:Nat} (ha:a<N) (hb:b<N) (hm:m<N) (h0:cross (P b - P a) (P m - P a)≠V.zero)
  (hs:∀ q,q<N→0≤dot (cross (P b - P a) (P m - P a)) (P q - P a)):Face P N (-cross (P b - P a) (P m - P a)) a:=by
 have hab:a≠b:=by rintro rfl;exact h0 (by simp only [cross,sub_x,sub_y,sub_z,V.zero];apply V.ext' <;> dsimp only <;> grind)
 have ham:a≠m:=by rintro rfl;exact h0 (by simp only [cross,sub_x,sub_y,sub_z,V.zero];apply V.ext' <;> dsimp only <;> grind)
 have hbm:b≠m:=by rintro rfl;exact h0 (by simp only [cross,sub_x,sub_y,sub_z,V.zero];apply V.ext' <;> dsimp only <;> grind)
 have key:∀ i j k,k<j→j<i→i<N→(tri P i j k=cross (P b - P a) (P m - P a)∨tri P i j k=-cross (P b - P a) (P m - P a))→dot (cross (P b - P a) (P m - P a)) (P i - P a)=0→Face P N (-cross (P b - P a) (P m - P a)) a:=by
  intro i j k h1 h2 h3 ht hi;refine ⟨⟨i,j,k,h1,h2,h3,?_,?_,fun w=>?_⟩,fun q hq=>?_⟩
  ·rcases ht with e | e <;> rw [e]
   ·exact h0
   ·exact jG h0
  ·rcases ht with e | e <;> rw [e]
   ·exact .inr rfl
   ·exact .inl rfl
  ·exact dot_base _ _ _ _ (by rw [bo,hi];rfl)
  ·rw [bo];have:=hs q hq;omega
 have e0:dot (cross (P b - P a) (P m - P a)) (P a - P a)=0:=by simp only [dot,sub_x,sub_y,sub_z];grind
 have e1:dot (cross (P b - P a) (P m - P a)) (P b - P a)=0:=by simp only [dot,cross,sub_x,sub_y,sub_z];grind
 have e2:dot (cross (P b - P a) (P m - P a)) (P m - P a)=0:=by simp only [dot,cross,sub_x,sub_y,sub_z];grind
 have t1:tri P a b m=cross (P b - P a) (P m - P a):=rfl;have t2:tri P a m b=-cross (P b - P a) (P m - P a):=by unfold tri;apply V.ext' <;> simp only [cross,sub_x,sub_y,sub_z,neg_x,neg_y,neg_z] <;> grind
 have t3:tri P b a m=-cross (P b - P a) (P m - P a):=by unfold tri;apply V.ext' <;> simp only [cross,sub_x,sub_y,sub_z,neg_x,neg_y,neg_z] <;> grind
 have t4:tri P b m a=cross (P b - P a) (P m - P a):=by unfold tri;apply V.ext' <;> simp only [cross,sub_x,sub_y,sub_z,neg_x,neg_y,neg_z] <;> grind
 have t5:tri P m a b=cross (P b - P a) (P m - P a):=by unfold tri;apply V.ext' <;> simp only [cross,sub_x,sub_y,sub_z,neg_x,neg_y,neg_z] <;> grind
 have t6:tri P m b a=-cross (P b - P a) (P m - P a):=by unfold tri;apply V.ext' <;> simp only [cross,sub_x,sub_y,sub_z,neg_x,neg_y,neg_z] <;> grind
 rcases Nat.lt_or_gt_of_ne hab with l1 | l1 <;> rcases Nat.lt_or_gt_of_ne ham with l2 | l2 <;> rcases Nat.lt_or_gt_of_ne hbm with l3 | l3
 ·exact key m b a ω ω ω (.inr t6) e2
 ·exact key b m a ω ω ω (.inl t4) e1
 ·omega
 ·exact key b a m ω ω ω (.inr t3) e1
 ·exact key m a b ω ω ω (.inl t5) e2
 ·omega
 ·exact key a m b ω ω ω (.inr t2) e0
 ·exact key a b m ω ω ω (.inl t1) e0
theorem iZ (R:Nat→Nat→Prop) (p:Nat→Prop) (hrefl:∀ a,p a→R a a) (htot:∀ a b,p a→p b→¬ R a b→R b a) (htr:∀ a b c,p a→p b→p c→R a b→R b c→R a c) :
  ∀ l:List Nat,(∀ x ∈ l,p x)→l≠[]→∃ m ∈ l,∀ q ∈ l,R m q
 | [],_,h=>absurd rfl h
 | [a],hp,_=>⟨a,by simp,fun q hq=>by
   have:q=a:=by simpa using hq
   subst this;exact hrefl q (hp q (by simp))⟩
 | a :: b :: l,hp,_=>by
  obtain ⟨m,hm,h⟩:=iZ R p hrefl htot htr (b :: l) (fun x hx=>hp x (List.mem_cons_of_mem _ hx)) (by simp);have pm:=hp m (List.mem_cons_of_mem _ hm);have pa:=hp a (by simp);by_cases hr:R m a
  ·exact ⟨m,List.mem_cons_of_mem _ hm,fun q hq=>by
    rcases List.mem_cons.mp hq with rfl | hq
    ·exact hr
    ·exact h q hq⟩
  ·exact ⟨a,by simp,fun q hq=>by
    rcases List.mem_cons.mp hq with rfl | hq
    ·exact hrefl _ pa
    ·exact htr a m q pa pm (hp q (List.mem_cons_of_mem _ hq)) (htot m a pm pa hr) (h q hq)⟩
theorem edge {n:V} {b:Nat} (hF:Face P N n b) (hfull:fG P N) {a c:Nat} (ha:a ∈ aH P N n b) (hc:c ∈ aH P N n b) (hac:P c - P a≠V.zero)
  (hs:∀ q ∈ aH P N n b,0≤T n (P c - P a) (P q - P a)) :
  ∃ n',Face P N n' a∧dot n' (P c - P a)=0∧∀ t ∈ aH P N n b,0<T n (P c - P a) (P t - P a)→dot n' (P t - P a)≠0:=by
 obtain ⟨haN,hab⟩:=aD.mp ha;obtain ⟨hcN,hcb⟩:=aD.mp hc;have he:dot n (P c - P a)=0:=by simp only [aY] at *;omega
 have hbase:∀ q,dot n (P q - P a)=dot n (P q - P b):=fun q=>by simp only [aY] at *;omega
 obtain ⟨q0,hq0,hq0n⟩:=hfull n hF.n0 b;have htrans:∀ x y z:V,dot n z*0=0→dot n y*dot (P c - P a) (cross x z)=dot n z*dot (P c - P a) (cross x y)+dot n x*dot (P c - P a) (cross y z):=fun x y z _=>by
  have:dot n y*dot (P c - P a) (cross x z)=dot n z*dot (P c - P a) (cross x y)+dot n x*dot (P c - P a) (cross y z) - dot n (P c - P a)*dot x (cross y z):=by simp only [dot,cross];grind
  rw [he] at this;omega
 obtain ⟨m,hm,hmax⟩:=iZ (fun x y=>0≤dot (P c - P a) (cross (P x - P a) (P y - P a))) (fun x=>dot n (P x - P a)<0)
  (fun x _=>by
   have:dot (P c - P a) (cross (P x - P a) (P x - P a))=0:=by simp only [dot,cross];grind
   omega)
  (fun x y _ _ h=>by
   have:dot (P c - P a) (cross (P y - P a) (P x - P a))=- dot (P c - P a) (cross (P x - P a) (P y - P a)):=by simp only [dot,cross];grind
   omega)
  (fun x y z hx hy hz h1 h2=>by
   have e:=htrans (P x - P a) (P y - P a) (P z - P a) ω;have m1:=Int.mul_nonneg (a:=- dot n (P z - P a)) ω h1;have m2:=Int.mul_nonneg (a:=- dot n (P x - P a)) ω h2
   rcases Int.lt_or_le (dot (P c - P a) (cross (P x - P a) (P z - P a))) 0 with h | h
   ·have m3:=Int.mul_pos_of_neg_of_neg hy h
    rw [Int.neg_mul] at m1 m2;omega
   ·exact h)
  ((List.range N).filter fun q=>dot n (P q - P a)<0)
  (fun x hx=>by simpa using (List.mem_filter.mp hx).2)
  (List.ne_nil_of_mem (a:=q0) (List.mem_filter.mpr ⟨List.mem_range.mpr hq0,by have:=hF.out q0 hq0;rw [← hbase] at this hq0n;simp;omega⟩))
 have hmN:m<N:=List.mem_range.mp (List.mem_filter.mp hm).1;have hmn:dot n (P m - P a)<0:=by simpa using (List.mem_filter.mp hm).2
 have hon:∀ q ∈ aH P N n b,dot n n*dot (cross (P c - P a) (P m - P a)) (P q - P a)=- (dot n (P m - P a))*T n (P c - P a) (P q - P a):=fun q hq=>by
  have hqa:dot n (P q - P a)=0:=by rw [hbase];exact (aD.mp hq).2
  have e1:dot (cross (P c - P a) (P m - P a)) (P q - P a)=- dot (P m - P a) (cross (P c - P a) (P q - P a)):=by simp only [dot,cross];grind
  rw [e1,Int.mul_neg,fw n (P c - P a) (P q - P a) (P m - P a) he hqa,cK (P m - P a) n,Int.neg_mul]
 have hnn:=di hF.n0;have hside:∀ q,q<N→0≤dot (cross (P c - P a) (P m - P a)) (P q - P a):=fun q hq=>by
  by_cases hqn:dot n (P q - P b)=0
  ·have hq':=aD.mpr ⟨hq,hqn⟩
   have:=hon q hq';have h3:=Int.mul_nonneg (a:=-(dot n (P m - P a))) ω (hs q hq');rw [← this] at h3;exact Int.nonneg_of_mul_nonneg_right h3 hnn |> fun h=>h
  ·have:=hmax q (List.mem_filter.mpr ⟨List.mem_range.mpr hq,by have:=hF.out q hq;rw [hbase];simp;omega⟩)
   have e1:dot (cross (P c - P a) (P m - P a)) (P q - P a)=dot (P c - P a) (cross (P m - P a) (P q - P a)):=by simp only [dot,cross];grind
   omega
 have h0:cross (P c - P a) (P m - P a)≠V.zero:=by
  intro h0;have hz:∀ i,dot i (cross n (cross (P c - P a) (P m - P a)))=dot n (P m - P a)*dot i (P c - P a) - dot n (P c - P a)*dot i (P m - P a):=fun i=>by simp only [dot,cross];grind
  have:=hz (P c - P a);rw [h0,he] at this;have e1:dot (P c - P a) (cross n V.zero)=0:=by simp only [dot,cross,V.zero];grind
  rw [e1,Int.zero_mul,Int.sub_zero] at this;have hee:=di hac;have:=Int.mul_neg_of_neg_of_pos hmn hee;omega
 refine ⟨_,mi haN hcN hmN h0 hside,?_,fun t ht hpos=>?_⟩
 ·simp only [dot,cross,neg_x,neg_y,neg_z];grind
 ·rw [bo]
  have h3:=hon t ht;have h4:=Int.mul_pos (a:=-(dot n (P m - P a))) ω hpos;rw [← h3] at h4;have:=Int.pos_of_mul_pos_right h4 hnn;omega
def lp (P:Nat→V) (N:Nat) (v:Nat):Prop:=
 (∃ n b,Face P N n b∧dot n (P v - P b)=0)∧∀ t,t<N→t≠v→∃ n b,Face P N n b∧dot n (P v - P b)=0∧dot n (P t - P b)≠0
def Top (P:Nat→V) (N:Nat) (v:Nat):Prop:=∃ g,∀ q,q<N→q≠v→0<dot g (P q - P v)
theorem lp.top {v:Nat} (h:lp P N v):Top P N v:=by
 have:∀ l:List Nat,(∀ t ∈ l,t<N)→∃ g,(∀ q,q<N→0≤dot g (P q - P v))∧∀ t ∈ l,t≠v→0<dot g (P t - P v):=by
  intro l
  induction l with
  | nil=>intro _;exact ⟨V.zero,fun q _=>by simp [dot,V.zero],by simp⟩
  | cons t l ih =>
   intro hl;obtain ⟨g,g1,g2⟩:=ih fun x hx=>hl x (List.mem_cons_of_mem _ hx)
   by_cases htv:t=v
   ·refine ⟨g,g1,fun x hx hxv=>?_⟩
    rcases List.mem_cons.mp hx with rfl | hx
    ·exact absurd htv hxv
    ·exact g2 x hx hxv
   ·obtain ⟨n,b,hF,h1,h2⟩:=h.2 t (hl t (by simp)) htv
    have e:∀ w,dot ⟨g.x - n.x,g.y - n.y,g.z - n.z⟩ w=dot g w - dot n w:=fun w=>by simp only [dot];grind
    have hb:∀ q,dot n (P q - P v)=dot n (P q - P b):=fun q=>by simp only [aY] at *;omega
    refine ⟨⟨g.x - n.x,g.y - n.y,g.z - n.z⟩,fun q hq=>?_,fun x hx hxv=>?_⟩
    ·rw [e,hb];have:=g1 q hq;have:=hF.out q hq;omega
    ·rw [e,hb]
     have hxN:=hl x hx;have:=hF.out x hxN
     rcases List.mem_cons.mp hx with rfl | hx
     ·have:=g1 x hxN;omega
     ·have:=g2 x hx hxv;omega
 obtain ⟨g,_,g2⟩:=this (List.range N) fun t ht=>List.mem_range.mp ht
 exact ⟨g,fun q hq hqv=>g2 q (List.mem_range.mpr hq) hqv⟩
theorem Top.vert {v:Nat} (h:Top P N v) {n:V} {b:Nat} (hv:v ∈ aH P N n b):fm P (aH P N n b) v:=by
 obtain ⟨g,hg⟩:=h;exact ⟨hv,g,fun q hq hqv=>hg q (aD.mp hq).1 hqv⟩
theorem jr (n e u w:V) (he:e≠V.zero) (pe:dot n e=0) (pu:dot n u=0) (pw:dot n w=0) (h1:T n e u=0) (h2:T n e w=0):T n u w=0:=by
 have h:=pJ pu pw pe e;rw [jR n e w,h1,h2] at h;have:=di he;have h3:dot e e*T n u w=0:=by simpa using h
 exact (Int.mul_eq_zero.mp h3).resolve_left ω
theorem Face.extr {n:V} {b:Nat} (hF:Face P N n b) (hinj:Inj P N) (hfull:fG P N) {v:Nat} (hv:fm P (aH P N n b) v):lp P N v:=by
 have hf:=hF.flat hinj;refine ⟨⟨n,b,hF,(aD.mp hv.1).2⟩,fun t ht htv=>?_⟩;by_cases hon:dot n (P t - P b)=0
 case neg=>exact ⟨n,b,hF,(aD.mp hv.1).2,hon⟩
 have htm:=aD.mpr ⟨ht,hon⟩;obtain ⟨a,ha,hav⟩:=vert_prev hf hF.two hv;have hvc:=(l8 hf hv (hF.two v)).2;generalize nx P (aH P N n b) n v=c at hvc;have sub_ne:∀ {x y:Nat},x ∈ aH P N n b→y ∈ aH P N n b→x≠y→P x - P y≠V.zero:=fun {x y} hx hy hxy h0=>hxy (hf.inj x hx y hy (by
  have hx:=congrArg V.x h0;have hy:=congrArg V.y h0;have hz:=congrArg V.z h0;simp only [sub_x,sub_y,sub_z,V.zero] at hx hy hz;apply V.ext' <;> omega))
 have s1:∀ q ∈ aH P N n b,0≤T n (P v - P a) (P q - P a):=fun q hq=>by
  by_cases hqa:q=a
  ·subst hqa
   have:T n (P v - P q) (P q - P q)=0:=by simp only [T_sub];omega
   omega
  ·exact (hav.2.2 q hq hqa).nonneg
 have s2:∀ q ∈ aH P N n b,0≤T n (P c - P v) (P q - P v):=fun q hq=>by
  by_cases hqa:q=v
  ·subst hqa
   have:T n (P c - P q) (P q - P q)=0:=by simp only [T_sub];omega
   omega
  ·exact (hvc.2.2 q hq hqa).nonneg
 by_cases h1:0<T n (P v - P a) (P t - P a)
 ·obtain ⟨n',hF',h3,h4⟩:=edge hF hfull ha.1 hv.1 (sub_ne hv.1 ha.1 hav.2.1) s1
  exact ⟨n',a,hF',h3,h4 t htm h1⟩
 by_cases h2:0<T n (P c - P v) (P t - P v)
 ·obtain ⟨n',hF',h3,h4⟩:=edge hF hfull hv.1 hvc.1 (sub_ne hvc.1 hv.1 hvc.2.1) s2
  exact ⟨n',v,hF',by simp only [aY];omega,h4 t htm h2⟩
 exfalso;have z1:T n (P v - P a) (P t - P a)=0:=by have:=s1 t htm;omega
 have z2:T n (P c - P v) (P t - P v)=0:=by have:=s2 t htm;omega
 have pl:=fun x hx=>hf.pl x hx v hv.1
 have z1':T n (P t - P v) (P a - P v)=0:=by
  have:T n (P v - P a) (P t - P a)=T n (P t - P v) (P a - P v):=by simp only [T,dot,cross,sub_x,sub_y,sub_z];grind
  omega
 have z2':T n (P t - P v) (P c - P v)=0:=by rw [jR,z2];rfl
 have hte:=sub_ne htm hv.1 htv;have hca:T n (P c - P v) (P a - P v)=0:=jr n _ _ _ hte (pl t htm) (pl c hvc.1) (pl a ha.1) z2' z1';obtain ⟨_,g,hg⟩:=hv;have ga:=hg a ha.1 (Ne.symm hav.2.1);have gc:=hg c hvc.1 hvc.2.1;have all:∀ q ∈ aH P N n b,T n (P c - P v) (P q - P v)=0:=fun q hq=>by
  have k1:=s1 q hq;have k2:=s2 q hq;have e1:T n (P v - P a) (P q - P a)=- T n (P a - P v) (P q - P v):=by simp only [T,dot,cross,sub_x,sub_y,sub_z];grind
  have hp:=pJ (pl c hvc.1) (pl a ha.1) (pl q hq) g;rw [hca,jR n (P c - P v) (P q - P v)] at hp;rw [e1] at k1;have m1:=Int.mul_nonneg (Int.le_of_lt gc) (b:=- T n (P a - P v) (P q - P v)) ω
  rcases Int.lt_or_eq_of_le k2 with h | h
  ·have m2:=Int.mul_pos ga h
   rw [Int.mul_neg] at hp m1;omega
  ·exact h.symm
 obtain ⟨i,j,k,_,_,hi,hj,hk,hne⟩:=hF.points;have hce:=sub_ne hvc.1 hav.1 hvc.2.1;have w1:=jr n _ _ _ hce (pl c hvc.1) (pl i hi) (pl j hj) (all i hi) (all j hj);have w2:=jr n _ _ _ hce (pl c hvc.1) (pl i hi) (pl k hk) (all i hi) (all k hk);have w3:=jr n _ _ _ hce (pl c hvc.1) (pl j hj) (pl k hk) (all j hj) (all k hk);apply hne;have:T n (P j - P i) (P k - P i)=T n (P j - P v) (P k - P v) - T n (P i - P v) (P k - P v)+T n (P i - P v) (P j - P v):=by simp only [T,dot,cross,sub_x,sub_y,sub_z];grind
 omega
def Lex (a b:V):Prop:=a.x<b.x∨a.x=b.x∧(a.y<b.y∨a.y=b.y∧a.z<b.z)
def jc (a:V):Prop:=(-4096≤a.x∧a.x≤4096)∧(-4096≤a.y∧a.y≤4096)∧(-4096≤a.z∧a.z≤4096)
structure Sorted (P:Nat→V) (N:Nat):Prop where
 lt:∀ p q,p<q→q<N→Lex (P p) (P q)
 near:∀ p,p<N→jc (P p)
theorem Sorted.inj (h:Sorted P N):Inj P N:=fun p hp q hq e=>by
 refine Decidable.byContradiction fun hne=>?_
 rcases Nat.lt_or_gt_of_ne hne with l | l
 ·have:=h.lt p q l hq;rw [e] at this;unfold Lex at this;omega
 ·have:=h.lt q p l hp;rw [e] at this;unfold Lex at this;omega
theorem pR {a b:V} (h:Lex a b) (ha:jc a) (hb:jc b):0<dot ⟨100000000,10000,1⟩ (b - a):=by
 unfold jc at ha hb;unfold Lex at h;simp only [dot,sub_x,sub_y,sub_z];omega
theorem head_filter (p:Nat→Bool):∀ (l:List Nat),l.Pairwise (· < ·)→∀ q ∈ l.filter p,(l.filter p).headD 0 ∈ l.filter p∧((l.filter p).headD 0≤q):=by
 intro l hl q hq;have hs:=List.Pairwise.filter p hl;revert hq hs
 cases l.filter p with
 | nil=>intro h;simp at h
 | cons a m =>
  intro hq hs;refine ⟨by simp,?_⟩
  rcases List.mem_cons.mp hq with rfl | hq
  ·simp
  ·have:=(List.pairwise_cons.mp hs).1 q hq
   simp;omega
theorem Face.head {n:V} {b:Nat} (hF:Face P N n b) (hS:Sorted P N):fm P (aH P N n b) ((aH P N n b).headD 0):=by
 obtain ⟨i,_,_,_,_,hi,_⟩:=hF.points;have hh:=fun q hq=>head_filter (fun q=>decide (dot n (P q - P b)=0)) (List.range N) List.pairwise_lt_range q hq
 refine ⟨(hh i hi).1,⟨100000000,10000,1⟩,fun q hq hne=>?_⟩;have h1:=(hh q hq).2;have hN:=(aD.mp hq).1;exact pR (hS.lt _ q (by unfold aH at hne ⊢;omega) hN) (hS.near _ (aD.mp (hh i hi).1).1) (hS.near q hN)
theorem Face.ring_mem {n:V} {b:Nat} (hF:Face P N n b) (hS:Sorted P N) (v:Nat):v ∈ ring P (aH P N n b) n↔fm P (aH P N n b) v:=
 Dowel.ring_mem (hF.flat hS.inj) hF.two (hF.head hS)
theorem extr_iff (hS:Sorted P N) (hfull:fG P N) (v:Nat):(v<N∧lp P N v)↔∃ n b,Face P N n b∧v ∈ ring P (aH P N n b) n:=by
 constructor
 ·rintro ⟨hN,h⟩
  obtain ⟨n,b,hF,hv⟩:=h.1;exact ⟨n,b,hF,(hF.ring_mem hS v).mpr (h.top.vert (aD.mpr ⟨hN,hv⟩))⟩
 ·rintro ⟨n,b,hF,hv⟩
  have:=(hF.ring_mem hS v).mp hv;exact ⟨(aD.mp this.1).1,hF.extr hS.inj hfull this⟩
end Dowel
end

section
namespace Dowel
open V
variable {P : Nat → V} {N : Nat}
def dq (P:Nat→V) (N:Nat):Prop:=∃ i j k m,i<N∧j<N∧k<N∧m<N∧dot (tri P i j k) (P m - P i)≠0
theorem dq.full (h:dq P N):fG P N:=by
 obtain ⟨i,j,k,m,hi,hj,hk,hm,hne⟩:=h;intro n hn b;refine Classical.byContradiction fun hno=>?_
 have all:∀ q,q<N→dot n (P q - P b)=0:=fun q hq=>Classical.byContradiction fun h=>hno ⟨q,hq,h⟩
 have pl:∀ q,q<N→dot n (P q - P i)=0:=fun q hq=>by
  have:=all q hq;have:=all i hi;simp only [aY] at *;omega
 have h:=det_n n (P m - P i) (P j - P i) (P k - P i) n;rw [pl j hj,pl k hk,pl m hm] at h;simp only [Int.zero_mul,Int.add_zero] at h;have:=(Int.mul_eq_zero.mp h).resolve_right (by have:=di hn;omega);rw [cK] at this;exact hne this
theorem n8 (i j k:Nat) (hi:i<N) (hj:j<N) (hk:k<N) (h0:tri P i j k≠V.zero):dq P N↔∃ m,m<N∧dot (tri P i j k) (P m - P i)≠0:=by
 constructor
 ·intro h;exact h.full _ h0 i
 ·rintro ⟨m,hm,h⟩;exact ⟨i,j,k,m,hi,hj,hk,hm,h⟩
theorem tri_perm (P:Nat→V) (i j k:Nat):tri P j i k=-tri P i j k∧tri P i k j=-tri P i j k:=by
 unfold tri;constructor <;> (apply V.ext' <;> simp only [cross,sub_x,sub_y,sub_z,neg_x,neg_y,neg_z] <;> grind)
theorem iJ (P:Nat→V) (i k:Nat):tri P i i k=V.zero∧tri P i k i=V.zero∧tri P i k k=V.zero:=by
 unfold tri;refine ⟨?_,?_,?_⟩ <;> (apply V.ext' <;> simp only [cross,sub_x,sub_y,sub_z,V.zero] <;> grind)
theorem tri_all (h:∀ i j k,k<j→j<i→i<N→tri P i j k=V.zero) (i j k:Nat) (hi:i<N) (hj:j<N) (hk:k<N):tri P i j k=V.zero:=by
 have sw:∀ {a b c},tri P a b c=V.zero→tri P b a c=V.zero:=fun {a b c} h=>by rw [(tri_perm P a b c).1,h];rfl
 have sx:∀ {a b c},tri P a b c=V.zero→tri P a c b=V.zero:=fun {a b c} h=>by rw [(tri_perm P a b c).2,h];rfl
 rcases Nat.lt_trichotomy i j with l1 | rfl | l1
 ·rcases Nat.lt_trichotomy i k with l2 | rfl | l2
  ·rcases Nat.lt_trichotomy j k with l3 | rfl | l3
   ·exact sw (sx (sw (h k j i l1 l3 hk)))
   ·exact (iJ P i j).2.2
   ·exact sw (sx (h j k i l2 l3 hj))
  ·exact (iJ P i j).2.1
  ·exact sw (h j i k l2 l1 hj)
 ·exact (iJ P i k).1
 ·rcases Nat.lt_trichotomy i k with l2 | rfl | l2
  ·exact sx (sw (h k i j l1 l2 hk))
  ·exact (iJ P i j).2.1
  ·rcases Nat.lt_trichotomy j k with l3 | rfl | l3
   ·exact sx (h i k j l3 l2 hi)
   ·exact (iJ P i j).2.2
   ·exact h i j k l3 l1 hi
theorem not_full4 (h:∀ i j k,k<j→j<i→i<N→tri P i j k=V.zero):¬ dq P N:=by
 rintro ⟨i,j,k,m,hi,hj,hk,hm,hne⟩;rw [tri_all h i j k hi hj hk] at hne;exact hne (by simp [dot,V.zero])
theorem oO (h0:0<N):dq P N↔∃ i j k,k<j∧j<i∧i<N∧dot (P i - P 0) (cross (P j - P 0) (P k - P 0))≠0:=by
 constructor
 ·rintro ⟨i,j,k,m,hi,hj,hk,hm,hne⟩
  refine Classical.byContradiction fun hno=>hne ?_
  have z:∀ i j k,k<j→j<i→i<N→dot (P i - P 0) (cross (P j - P 0) (P k - P 0))=0:=fun i j k h1 h2 h3=>Classical.byContradiction fun h=>hno ⟨i,j,k,h1,h2,h3,h⟩
  have sw:∀ a b c:V,dot b (cross a c)=- dot a (cross b c):=fun a b c=>by simp only [dot,cross];grind
  have sx:∀ a b c:V,dot a (cross c b)=- dot a (cross b c):=fun a b c=>by simp only [dot,cross];grind
  have same:∀ a b:V,dot a (cross a b)=0∧dot a (cross b a)=0∧dot a (cross b b)=0:=fun a b=>by simp only [dot,cross];grind
  have all:∀ i j k,i<N→j<N→k<N→dot (P i - P 0) (cross (P j - P 0) (P k - P 0))=0:=by
   intro i j k hi hj hk
   rcases Nat.lt_trichotomy i j with l1 | rfl | l1
   ·rcases Nat.lt_trichotomy i k with l2 | rfl | l2
    ·rcases Nat.lt_trichotomy j k with l3 | rfl | l3
     ·have:=z k j i l1 l3 hk;rw [sw,sx,sw] ;omega
     ·exact (same _ _).2.2
     ·have:=z j k i l2 l3 hj;rw [sw,sx];omega
    ·exact (same _ _).2.1
    ·have:=z j i k l2 l1 hj;rw [sw];omega
   ·exact (same _ _).1
   ·rcases Nat.lt_trichotomy i k with l2 | rfl | l2
    ·have:=z k i j l1 l2 hk;rw [sx,sw];omega
    ·exact (same _ _).2.1
    ·rcases Nat.lt_trichotomy j k with l3 | rfl | l3
     ·have:=z i k j l3 l2 hi;rw [sx];omega
     ·exact (same _ _).2.2
     ·exact z i j k l3 l1 hi
  have a1:=all j k m hj hk hm;have a2:=all i k m hi hk hm;have a3:=all i j m hi hj hm;have a4:=all i j k hi hj hk;have e:dot (tri P i j k) (P m - P i)=dot (P j - P 0) (cross (P k - P 0) (P m - P 0)) - dot (P i - P 0) (cross (P k - P 0) (P m - P 0))+dot (P i - P 0) (cross (P j - P 0) (P m - P 0)) - dot (P i - P 0) (cross (P j - P 0) (P k - P 0)):=by
   simp only [tri,dot,cross,sub_x,sub_y,sub_z];grind
  omega
 ·rintro ⟨i,j,k,h1,h2,h3,hne⟩
  refine ⟨0,j,k,i,h0,by omega,by omega,h3,?_⟩;rw [cK];exact hne
def iW (p:Nat→Bool):Nat→Nat
 | 0=>0
 | k+1=>iW p k ||| (if p k then 2 ^ k else 0)
theorem iV (p:Nat→Bool) (k i:Nat):(iW p k).testBit i=(decide (i<k) && p i):=by
 induction k with
 | zero=>simp [iW]
 | succ k ih =>
  unfold iW;rw [Nat.testBit_or,ih];by_cases hp:p k=true
  ·rw [if_pos hp,Nat.testBit_two_pow]
   by_cases hi:i=k
   ·subst hi;simp [hp]
   ·rw [decide_eq_false (p:=k=i) (fun e=>hi e.symm),Bool.or_false]
    congr 1;simp;omega
  ·rw [if_neg hp,Nat.zero_testBit,Bool.or_false]
   by_cases hi:i=k
   ·subst hi;simp [hp]
   ·congr 1;simp;omega
theorem j9 (p:Nat→Bool) (k:Nat):iW p k<2 ^ k:=by
 induction k with
 | zero=>simp [iW]
 | succ k ih =>
  unfold iW;refine Nat.or_lt_two_pow (Nat.lt_of_lt_of_le ih (Nat.pow_le_pow_right ω ω)) ?_
  split
  ·exact Nat.pow_lt_pow_right ω ω
  ·exact Nat.two_pow_pos _
theorem ip (p q:Nat→Bool) (k:Nat) (h:∀ i,i<k→p i=q i):iW p k=iW q k:=by
 refine Nat.eq_of_testBit_eq fun i=>?_
 rw [iV,iV];by_cases hi:i<k
 ·rw [h i hi]
 ·simp [hi]
theorem mask_inj (p q:Nat→Bool) (k:Nat) (h:iW p k=iW q k):∀ i,i<k→p i=q i:=fun i hi=>by
 have:=congrArg (·.testBit i) h
 simpa [iV,hi] using this
theorem low_bit {m t:Nat} (ht:m.testBit t=true) (hl:∀ i,i<t→m.testBit i=false) (i:Nat):(m &&& (m - 1)).testBit i=(decide (t<i) && m.testBit i):=by
 have hdm:m=2 ^ t*(m / 2 ^ t)+m % 2 ^ t:=(Nat.div_add_mod _ _).symm;have hr:m % 2 ^ t=0:=Nat.eq_of_testBit_eq fun i=>by
  rw [Nat.testBit_mod_two_pow,Nat.zero_testBit];by_cases hi:i<t
  ·rw [hl i hi];simp
  ·simp [hi]
 rw [hr,Nat.add_zero] at hdm;have hodd:m / 2 ^ t % 2=1:=by
  have h1:(m / 2 ^ t).testBit 0=true:=by rw [Nat.testBit_div_two_pow];simpa using ht
  simpa [Nat.testBit_zero] using h1
 generalize m / 2 ^ t=a at *;have hp:=Nat.two_pow_pos t;have e:m - 1=2 ^ t*(a - 1)+(2 ^ t - 1):=by
  have:2 ^ t*a=2 ^ t*(a - 1)+2 ^ t:=by
   rw [← Nat.mul_succ];congr 1;omega
  omega
 rw [Nat.testBit_and,e,Nat.testBit_two_pow_mul_add _ ω];by_cases h1:i<t
 ·rw [hl i h1];simp
 ·rw [if_neg h1]
  by_cases h2:i=t
  ·subst h2
   have:(a - 1).testBit (i - i)=false:=by rw [Nat.sub_self,Nat.testBit_zero];simp;omega
   rw [this];simp
  ·have h3:t<i:=ω
   have hm:m.testBit i=a.testBit (i - t):=by rw [hdm,Nat.testBit_two_pow_mul];simp;omega
   have:(a - 1).testBit (i - t)=a.testBit (i - t):=by
    obtain ⟨d,hd⟩:∃ d,i - t=d+1:=⟨i - t - 1,by omega⟩;rw [hd,Nat.testBit_succ,Nat.testBit_succ];congr 1;omega
   rw [hm,this];simp [h3]
end Dowel
end

section
namespace Dowel
open V
structure Pl where
 n:V
 o:Int
deriving DecidableEq
def cx (a:V):Nat:=Nat.gcd (Nat.gcd a.x.natAbs a.y.natAbs) a.z.natAbs
def aQ (a:V):V:=⟨a.x.tdiv (cx a),a.y.tdiv (cx a),a.z.tdiv (cx a)⟩
theorem gcdV_x (a:V):(cx a:Int) ∣ a.x:=Int.ofNat_dvd_left.mpr (Nat.dvd_trans (Nat.gcd_dvd_left _ _) (Nat.gcd_dvd_left _ _))
theorem gcdV_y (a:V):(cx a:Int) ∣ a.y:=Int.ofNat_dvd_left.mpr (Nat.dvd_trans (Nat.gcd_dvd_left _ _) (Nat.gcd_dvd_right _ _))
theorem gcdV_z (a:V):(cx a:Int) ∣ a.z:=Int.ofNat_dvd_left.mpr (Nat.gcd_dvd_right _ _)
theorem eO {a:V} (h:a≠V.zero):0<cx a:=by
 refine Nat.pos_of_ne_zero fun h0=>h ?_
 have h1:=Nat.eq_zero_of_gcd_eq_zero_left h0;have h2:=Nat.eq_zero_of_gcd_eq_zero_right h0;have h3:=Nat.eq_zero_of_gcd_eq_zero_left h1;have h4:=Nat.eq_zero_of_gcd_eq_zero_right h1;exact V.ext' (Int.natAbs_eq_zero.mp h3) (Int.natAbs_eq_zero.mp h4) (Int.natAbs_eq_zero.mp h2)
theorem ji (a:V):a.x=(cx a:Int)*(aQ a).x∧a.y=(cx a:Int)*(aQ a).y∧a.z=(cx a:Int)*(aQ a).z:=
 ⟨(Int.mul_tdiv_cancel' (gcdV_x a)).symm,(Int.mul_tdiv_cancel' (gcdV_y a)).symm,(Int.mul_tdiv_cancel' (gcdV_z a)).symm⟩
theorem fi (a b:V):dot a b=(cx a:Int)*dot (aQ a) b:=by
 obtain ⟨h1,h2,h3⟩:=ji a;generalize (cx a:Int)=g at *;unfold dot;rw [h1,h2,h3]
 grind
theorem iS {a:V} (h:a≠V.zero):aQ a≠V.zero:=fun e=>h (by
 obtain ⟨h1,h2,h3⟩:=ji a;rw [e] at h1 h2 h3;exact V.ext' (h1.trans (by simp [V.zero])) (h2.trans (by simp [V.zero])) (h3.trans (by simp [V.zero])))
theorem jd {x k:Int} (g:Nat) (h:-k≤x∧x≤k) (hk:0≤k):-k≤x.tdiv g∧x.tdiv g≤k:=by
 have h1:(x.tdiv g).natAbs≤x.natAbs:=by
  rw [Int.natAbs_tdiv];exact Nat.div_le_self _ _
 omega
def eW (P:Nat→V) (len:Nat) (out:List Pl) (p:Pl):List Pl:=
 if (List.range len).any (fun i=>decide (dot p.n (P i) > p.o)) then out else if p ∈ out then out else out ++ [p]
def j3 (P:Nat→V) (len i j k:Nat) (out:List Pl):List Pl:=
 if tri P i j k=V.zero then out else
  eW P len (eW P len out ⟨aQ (tri P i j k),dot (aQ (tri P i j k)) (P i)⟩) ⟨-aQ (tri P i j k),dot (-aQ (tri P i j k)) (P i)⟩
def dO (P:Nat→V) (len i j:Nat):Nat→List Pl→List Pl
 | 0,out=>out
 | k+1,out=>j3 P len i j k (dO P len i j k out)
def dA (P:Nat→V) (len i:Nat):Nat→List Pl→List Pl
 | 0,out=>out
 | j+1,out=>dO P len i j j (dA P len i j out)
def dm (P:Nat→V) (len:Nat):Nat→List Pl
 | 0=>[]
 | i+1=>dA P len i i (dm P len i)
def bD (P:Nat→V) (len:Nat):List Pl:=dm P len len
def PlOk (P:Nat→V) (len i j k:Nat) (p:Pl):Prop:=
 tri P i j k≠V.zero∧(p.n=aQ (tri P i j k)∨p.n=-aQ (tri P i j k))∧p.o=dot p.n (P i)∧∀ q,q<len→dot p.n (P q)≤p.o
theorem oK {P:Nat→V} {len:Nat} {out:List Pl} {p x:Pl}:x ∈ eW P len out p↔x ∈ out∨(x=p∧∀ q,q<len→dot p.n (P q)≤p.o):=by
 unfold eW
 split
 ·rename_i h
  obtain ⟨q,hq,hd⟩:=List.any_eq_true.mp h;refine ⟨Or.inl,?_⟩;rintro (h1 | ⟨_,h2⟩)
  ·exact h1
  ·have:=h2 q (List.mem_range.mp hq);have:=of_decide_eq_true hd;omega
 ·rename_i h
  have hall:∀ q,q<len→dot p.n (P q)≤p.o:=fun q hq=>Classical.byContradiction fun hc=>h (List.any_eq_true.mpr ⟨q,List.mem_range.mpr hq,decide_eq_true ω⟩)
  split
  ·rename_i hm
   exact ⟨Or.inl,fun h1=>h1.elim id fun h2=>h2.1 ▸ hm⟩
  ·rw [List.mem_append,List.mem_singleton]
   exact ⟨fun h1=>h1.imp id fun h2=>⟨h2,hall⟩,fun h1=>h1.imp id fun h2=>h2.1⟩
theorem mem_stepR {P:Nat→V} {len i j k:Nat} {out:List Pl} {x:Pl}:x ∈ j3 P len i j k out↔x ∈ out∨PlOk P len i j k x:=by
 unfold j3 PlOk
 split
 ·rename_i h;exact ⟨Or.inl,fun h1=>h1.elim id fun h2=>absurd h h2.1⟩
 ·rename_i h
  rw [oK,oK]
  constructor
  ·rintro ((h1 | ⟨rfl,h2⟩) | ⟨rfl,h2⟩)
   ·exact .inl h1
   ·exact .inr ⟨h,.inl rfl,rfl,h2⟩
   ·exact .inr ⟨h,.inr rfl,rfl,h2⟩
  ·rintro (h1 | ⟨_,h2 | h2,h3,h4⟩)
   ·exact .inl (.inl h1)
   ·obtain ⟨n,o⟩:=x;dsimp only at h2 h3 h4;subst h2;subst h3;exact .inl (.inr ⟨rfl,h4⟩)
   ·obtain ⟨n,o⟩:=x;dsimp only at h2 h3 h4;subst h2;subst h3;exact .inr ⟨rfl,h4⟩
theorem lN {P:Nat→V} {len i j:Nat} {out:List Pl} {x:Pl}:∀ K,x ∈ dO P len i j K out↔x ∈ out∨∃ k,k<K∧PlOk P len i j k x
 | 0=>by simp [dO]
 | K+1=>by
  rw [dO,mem_stepR,lN K]
  constructor
  ·rintro ((h | ⟨k,hk,h⟩) | h)
   ·exact .inl h
   ·exact .inr ⟨k,by omega,h⟩
   ·exact .inr ⟨K,by omega,h⟩
  ·rintro (h | ⟨k,hk,h⟩)
   ·exact .inl (.inl h)
   ·by_cases e:k=K
    ·exact .inr (e ▸ h)
    ·exact .inl (.inr ⟨k,by omega,h⟩)
theorem lO {P:Nat→V} {len i:Nat} {out:List Pl} {x:Pl}:∀ J,x ∈ dA P len i J out↔x ∈ out∨∃ j k,k<j∧j<J∧PlOk P len i j k x
 | 0=>by simp [dA]
 | J+1=>by
  rw [dA,lN,lO J]
  constructor
  ·rintro ((h | ⟨j,k,h1,h2,h⟩) | ⟨k,hk,h⟩)
   ·exact .inl h
   ·exact .inr ⟨j,k,h1,by omega,h⟩
   ·exact .inr ⟨J,k,hk,by omega,h⟩
  ·rintro (h | ⟨j,k,h1,h2,h⟩)
   ·exact .inl (.inl h)
   ·by_cases e:j=J
    ·subst e;exact .inr ⟨k,h1,h⟩
    ·exact .inl (.inr ⟨j,k,h1,by omega,h⟩)
theorem lP {P:Nat→V} {len:Nat} {x:Pl}:∀ I,x ∈ dm P len I↔∃ i j k,k<j∧j<i∧i<I∧PlOk P len i j k x
 | 0=>by simp [dm]
 | I+1=>by
  rw [dm,lO,lP I]
  constructor
  ·rintro (⟨i,j,k,h1,h2,h3,h⟩ | ⟨j,k,h1,h2,h⟩)
   ·exact ⟨i,j,k,h1,h2,by omega,h⟩
   ·exact ⟨I,j,k,h1,h2,by omega,h⟩
  ·rintro ⟨i,j,k,h1,h2,h3,h⟩
   by_cases e:i=I
   ·subst e;exact .inr ⟨j,k,h1,h2,h⟩
   ·exact .inl ⟨i,j,k,h1,h2,by omega,h⟩
theorem dt {P:Nat→V} {len:Nat} {x:Pl}:x ∈ bD P len↔∃ i j k,k<j∧j<i∧i<len∧PlOk P len i j k x:=lP len
def onR (p:V) (l:List Pl):Nat:=(l.filter fun m=>decide (dot m.n p=m.o)).length
def lj (p q:V) (l:List Pl):Bool:=l.all fun m=>decide (dot m.n p≠m.o) || decide (dot m.n q=m.o)
def cC (P:Nat→V) (len:Nat) (l:List Pl) (p:V):Bool:=
 decide (0<onR p l) && (List.range len).all fun i=>decide (P i=p) || !lj p (P i) l
theorem onR_pos {p:V} {l:List Pl}:0<onR p l↔∃ m ∈ l,dot m.n p=m.o:=by
 unfold onR;rw [List.length_pos_iff_exists_mem]
 constructor
 ·rintro ⟨m,hm⟩;obtain ⟨h1,h2⟩:=List.mem_filter.mp hm;exact ⟨m,h1,of_decide_eq_true h2⟩
 ·rintro ⟨m,h1,h2⟩;exact ⟨m,List.mem_filter.mpr ⟨h1,decide_eq_true h2⟩⟩
theorem iy {p q:V} {l:List Pl}:lj p q l=false↔∃ m ∈ l,dot m.n p=m.o∧dot m.n q≠m.o:=by
 unfold lj;rw [List.all_eq_false]
 constructor
 ·rintro ⟨m,h1,h2⟩
  simp only [Bool.or_eq_true,decide_eq_true_eq,not_or,Classical.not_not] at h2;exact ⟨m,h1,h2⟩
 ·rintro ⟨m,h1,h2⟩
  refine ⟨m,h1,?_⟩;simp only [Bool.or_eq_true,decide_eq_true_eq,not_or,Classical.not_not];exact h2
theorem Face.pl {P:Nat→V} {N:Nat} {n:V} {b:Nat} (h:Face P N n b):∃ m ∈ bD P N,∀ w,dot m.n w=m.o↔dot n (w - P b)=0:=by
 obtain ⟨i,j,k,h1,h2,h3,h0,hn,hw⟩:=h.three;have key:∀ w,dot n (w - P b)=0↔dot n w=dot n (P i):=fun w=>by
  have:=hw w;rw [← this,aY];omega
 have hgp:=eO h0;have hle:∀ q,q<N→dot n (P q)≤dot n (P i):=fun q hq=>by
  have a:=h.out q hq;rw [← hw,aY] at a;omega
 have hd:=fi (tri P i j k);generalize cx (tri P i j k)=g at *
 rcases hn with rfl | rfl
 ·refine ⟨⟨aQ (tri P i j k),dot (aQ (tri P i j k)) (P i)⟩,dt.mpr ⟨i,j,k,h1,h2,h3,h0,.inl rfl,rfl,fun q hq=>?_⟩,fun w=>?_⟩
  ·have:=hle q hq;rw [hd,hd] at this;exact Int.le_of_mul_le_mul_left this ω
  ·rw [key,hd,hd (P i)]
   exact ⟨fun e=>by show (g:Int)*_=_;rw [e],fun e=>Int.eq_of_mul_eq_mul_left ω e⟩
 ·refine ⟨⟨-aQ (tri P i j k),dot (-aQ (tri P i j k)) (P i)⟩,dt.mpr ⟨i,j,k,h1,h2,h3,h0,.inr rfl,rfl,fun q hq=>?_⟩,fun w=>?_⟩
  ·have:=hle q hq;rw [bo,bo,hd,hd] at this
   show dot (-aQ _) _≤dot (-aQ _) _;rw [bo,bo];have:(g:Int)*dot (aQ (tri P i j k)) (P i)≤g*dot (aQ (tri P i j k)) (P q):=ω;have:=Int.le_of_mul_le_mul_left this ω;omega
  ·rw [key]
   show dot (-aQ _) w=dot (-aQ _) (P i)↔_;rw [bo,bo,bo,bo,hd,hd (P i)]
   constructor
   ·intro e;have:dot (aQ (tri P i j k)) w=dot (aQ (tri P i j k)) (P i):=ω
    rw [this]
   ·intro e
    have e2:(g:Int)*dot (aQ (tri P i j k)) w=g*dot (aQ (tri P i j k)) (P i):=ω;have:=Int.eq_of_mul_eq_mul_left ω e2;omega
theorem pK {P:Nat→V} {N:Nat} {m:Pl} (h:m ∈ bD P N):∃ n b,Face P N n b∧b<N∧∀ w,dot m.n w=m.o↔dot n (w - P b)=0:=by
 obtain ⟨i,j,k,h1,h2,h3,h0,hn,ho,hle⟩:=dt.mp h;have hgp:=eO h0;have hd:=fi (tri P i j k);obtain ⟨mn,mo⟩:=m;dsimp only at *;subst ho;generalize cx (tri P i j k)=g at *
 rcases hn with rfl | rfl
 ·refine ⟨tri P i j k,i,⟨⟨i,j,k,h1,h2,h3,h0,.inl rfl,fun w=>rfl⟩,fun q hq=>?_⟩,h3,fun w=>?_⟩
  ·rw [aY,hd,hd (P i)]
   have:=Int.mul_le_mul_of_nonneg_left (hle q hq) (show (0:Int)≤g by omega);omega
  ·rw [aY,hd,hd (P i)]
   constructor
   ·intro e;rw [e];omega
   ·intro e;exact Int.eq_of_mul_eq_mul_left (show (g:Int)≠0 by omega) ω
 ·refine ⟨-tri P i j k,i,⟨⟨i,j,k,h1,h2,h3,h0,.inr rfl,fun w=>rfl⟩,fun q hq=>?_⟩,h3,fun w=>?_⟩
  ·rw [aY,bo,bo,hd,hd (P i)]
   have:=hle q hq;rw [bo,bo] at this;have:=Int.mul_le_mul_of_nonneg_left (show dot (aQ (tri P i j k)) (P i)≤dot (aQ (tri P i j k)) (P q) by omega) (show (0:Int)≤g by omega);omega
  ·rw [aY,bo,bo,bo,bo,hd,hd (P i)]
   constructor
   ·intro e;have:dot (aQ (tri P i j k)) w=dot (aQ (tri P i j k)) (P i):=ω
    rw [this];omega
   ·intro e
    have:=Int.eq_of_mul_eq_mul_left (show (g:Int)≠0 by omega) (show (g:Int)*dot (aQ (tri P i j k)) w=g*dot (aQ (tri P i j k)) (P i) by omega);omega
theorem kd {P:Nat→V} {N:Nat} (hi:Inj P N) (v:Nat) (hv:v<N):cC P N (bD P N) (P v)=true↔lp P N v:=by
 unfold cC lp;rw [Bool.and_eq_true,decide_eq_true_iff,onR_pos,List.all_eq_true]
 constructor
 ·rintro ⟨⟨m,hm,he⟩,hall⟩
  obtain ⟨n,b,hF,_,hw⟩:=pK hm;refine ⟨⟨n,b,hF,(hw _).mp he⟩,fun t ht hne=>?_⟩;have:=hall t (List.mem_range.mpr ht);rw [Bool.or_eq_true,decide_eq_true_iff,Bool.not_eq_true',iy] at this
  rcases this with h | ⟨m',hm',h1,h2⟩
  ·exact absurd (hi t ht v hv h) hne
  ·obtain ⟨n',b',hF',_,hw'⟩:=pK hm'
   exact ⟨n',b',hF',(hw' _).mp h1,fun h=>h2 ((hw' _).mpr h)⟩
 ·rintro ⟨⟨n,b,hF,he⟩,hall⟩
  obtain ⟨m,hm,hw⟩:=hF.pl;refine ⟨⟨m,hm,(hw _).mpr he⟩,fun t ht=>?_⟩;rw [Bool.or_eq_true,decide_eq_true_iff,Bool.not_eq_true',iy];by_cases e:t=v
  ·exact .inl (by rw [e])
  ·obtain ⟨n',b',hF',h1,h2⟩:=hall t (List.mem_range.mp ht) e
   obtain ⟨m',hm',hw'⟩:=hF'.pl;exact .inr ⟨m',hm',(hw' _).mpr h1,fun h=>h2 ((hw' _).mp h)⟩
end Dowel
end

section
namespace Dowel
open V
variable {P : Nat → V} {N : Nat}
theorem turned {n:V} {b:Nat} (hn0:n≠V.zero) (hout:∀ q,q<N→dot n (P q - P b)≤0) (hfull:fG P N) {a c:Nat} (ha:a ∈ aH P N n b) (hc:c ∈ aH P N n b) (hac:P c - P a≠V.zero)
  (hs:∀ q ∈ aH P N n b,0≤T n (P c - P a) (P q - P a)) :
  ∃ n',Face P N n' a∧dot n' (P c - P a)=0∧∀ t ∈ aH P N n b,0<T n (P c - P a) (P t - P a)→dot n' (P t - P a)≠0:=by
 obtain ⟨haN,hab⟩:=aD.mp ha;obtain ⟨hcN,hcb⟩:=aD.mp hc;have he:dot n (P c - P a)=0:=by simp only [aY] at *;omega
 have hbase:∀ q,dot n (P q - P a)=dot n (P q - P b):=fun q=>by simp only [aY] at *;omega
 obtain ⟨q0,hq0,hq0n⟩:=hfull n hn0 b;have htrans:∀ x y z:V,dot n z*0=0→dot n y*dot (P c - P a) (cross x z)=dot n z*dot (P c - P a) (cross x y)+dot n x*dot (P c - P a) (cross y z):=fun x y z _=>by
  have:dot n y*dot (P c - P a) (cross x z)=dot n z*dot (P c - P a) (cross x y)+dot n x*dot (P c - P a) (cross y z) - dot n (P c - P a)*dot x (cross y z):=by simp only [dot,cross];grind
  rw [he] at this;omega
 obtain ⟨m,hm,hmax⟩:=iZ (fun x y=>0≤dot (P c - P a) (cross (P x - P a) (P y - P a))) (fun x=>dot n (P x - P a)<0)
  (fun x _=>by
   have:dot (P c - P a) (cross (P x - P a) (P x - P a))=0:=by simp only [dot,cross];grind
   omega)
  (fun x y _ _ h=>by
   have:dot (P c - P a) (cross (P y - P a) (P x - P a))=- dot (P c - P a) (cross (P x - P a) (P y - P a)):=by simp only [dot,cross];grind
   omega)
  (fun x y z hx hy hz h1 h2=>by
   have e:=htrans (P x - P a) (P y - P a) (P z - P a) ω;have m1:=Int.mul_nonneg (a:=- dot n (P z - P a)) ω h1;have m2:=Int.mul_nonneg (a:=- dot n (P x - P a)) ω h2
   rcases Int.lt_or_le (dot (P c - P a) (cross (P x - P a) (P z - P a))) 0 with h | h
   ·have m3:=Int.mul_pos_of_neg_of_neg hy h
    rw [Int.neg_mul] at m1 m2;omega
   ·exact h)
  ((List.range N).filter fun q=>dot n (P q - P a)<0)
  (fun x hx=>by simpa using (List.mem_filter.mp hx).2)
  (List.ne_nil_of_mem (a:=q0) (List.mem_filter.mpr ⟨List.mem_range.mpr hq0,by have:=hout q0 hq0;rw [← hbase] at this hq0n;simp;omega⟩))
 have hmN:m<N:=List.mem_range.mp (List.mem_filter.mp hm).1;have hmn:dot n (P m - P a)<0:=by simpa using (List.mem_filter.mp hm).2
 have hon:∀ q ∈ aH P N n b,dot n n*dot (cross (P c - P a) (P m - P a)) (P q - P a)=- (dot n (P m - P a))*T n (P c - P a) (P q - P a):=fun q hq=>by
  have hqa:dot n (P q - P a)=0:=by rw [hbase];exact (aD.mp hq).2
  have e1:dot (cross (P c - P a) (P m - P a)) (P q - P a)=- dot (P m - P a) (cross (P c - P a) (P q - P a)):=by simp only [dot,cross];grind
  rw [e1,Int.mul_neg,fw n (P c - P a) (P q - P a) (P m - P a) he hqa,cK (P m - P a) n,Int.neg_mul]
 have hnn:=di hn0;have hside:∀ q,q<N→0≤dot (cross (P c - P a) (P m - P a)) (P q - P a):=fun q hq=>by
  by_cases hqn:dot n (P q - P b)=0
  ·have hq':=aD.mpr ⟨hq,hqn⟩
   have:=hon q hq';have h3:=Int.mul_nonneg (a:=-(dot n (P m - P a))) ω (hs q hq');rw [← this] at h3;exact Int.nonneg_of_mul_nonneg_right h3 hnn |> fun h=>h
  ·have:=hmax q (List.mem_filter.mpr ⟨List.mem_range.mpr hq,by have:=hout q hq;rw [hbase];simp;omega⟩)
   have e1:dot (cross (P c - P a) (P m - P a)) (P q - P a)=dot (P c - P a) (cross (P m - P a) (P q - P a)):=by simp only [dot,cross];grind
   omega
 have h0:cross (P c - P a) (P m - P a)≠V.zero:=by
  intro h0;have hz:∀ i,dot i (cross n (cross (P c - P a) (P m - P a)))=dot n (P m - P a)*dot i (P c - P a) - dot n (P c - P a)*dot i (P m - P a):=fun i=>by simp only [dot,cross];grind
  have:=hz (P c - P a);rw [h0,he] at this;have e1:dot (P c - P a) (cross n V.zero)=0:=by simp only [dot,cross,V.zero];grind
  rw [e1,Int.zero_mul,Int.sub_zero] at this;have hee:=di hac;have:=Int.mul_neg_of_neg_of_pos hmn hee;omega
 refine ⟨_,mi haN hcN hmN h0 hside,?_,fun t ht hpos=>?_⟩
 ·simp only [dot,cross,neg_x,neg_y,neg_z];grind
 ·rw [bo]
  have h3:=hon t ht;have h4:=Int.mul_pos (a:=-(dot n (P m - P a))) ω hpos;rw [← h3] at h4;have:=Int.pos_of_mul_pos_right h4 hnn;omega
theorem comb_dot (s t:Int) (h g u:V):dot (⟨s*h.x - t*g.x,s*h.y - t*g.y,s*h.z - t*g.z⟩:V) u=s*dot h u - t*dot g u:=by simp only [dot];grind
theorem face_two {f:V} {v a:Nat} (hv:v<N) (ha:a<N) (hf:f≠V.zero) (hfa:dot f (P a - P v)=0) (hall:∀ q,q<N→0≤dot f (P q - P v)) (hne:P a - P v≠V.zero) (hfull:fG P N) :
  ∃ n,Face P N n v∧dot n (P a - P v)=0:=by
 by_cases hc:∃ c,c<N∧dot f (P c - P v)=0∧cross (P a - P v) (P c - P v)≠V.zero
 ·obtain ⟨c,hcN,hfc,hcr⟩:=hc
  have key:=fw f (P a - P v) (P c - P v);have hff:=di hf
  rcases Int.le_total 0 (T f (P a - P v) (P c - P v)) with h | h
  ·refine ⟨_,mi hv ha hcN hcr fun q hq=>?_,?_⟩
   ·have e:=key (P q - P v) hfa hfc
    rw [cK (P q - P v) f,cK (P q - P v)] at e;have:=Int.mul_nonneg (hall q hq) h;rw [← e] at this;exact Int.nonneg_of_mul_nonneg_right this hff
   ·simp only [dot,cross,neg_x,neg_y,neg_z];grind
  ·have hcr':cross (P c - P v) (P a - P v)≠V.zero:=fun e=>hcr (by
    have hx:=congrArg V.x e;have hy:=congrArg V.y e;have hz:=congrArg V.z e;simp only [cross,V.zero] at hx hy hz;apply V.ext' <;> simp only [cross,V.zero] <;> grind)
   refine ⟨_,mi hv hcN ha hcr' fun q hq=>?_,?_⟩
   ·have e:=fw f (P c - P v) (P a - P v) (P q - P v) hfc hfa
    rw [cK (P q - P v) f,cK (P q - P v),jR] at e;have:=Int.mul_nonneg (hall q hq) (show 0 ≤ - T f (P a - P v) (P c - P v) by omega);rw [← e] at this;exact Int.nonneg_of_mul_nonneg_right this hff
   ·simp only [dot,cross,neg_x,neg_y,neg_z];grind
 ·have hcol:∀ q,q<N→dot f (P q - P v)=0→cross (P a - P v) (P q - P v)=V.zero:=fun q hq h0=>Classical.byContradiction fun h=>hc ⟨q,hq,h0,h⟩
  obtain ⟨n',hF,h1,-⟩:=turned (n:=-f) (b:=v) (jG hf) (fun q hq=>by rw [bo];have:=hall q hq;omega) hfull (a:=v) (c:=a)
   (aD.mpr ⟨hv,by simp only [dot,sub_x,sub_y,sub_z];grind⟩) (aD.mpr ⟨ha,by rw [bo,hfa];rfl⟩) hne (fun q hq=>by
    obtain ⟨hqN,hq0⟩:=aD.mp hq;rw [bo] at hq0;have:=hcol q hqN ω;unfold T;rw [this];simp [dot,V.zero])
  exact ⟨n',hF,h1⟩
theorem Top.face {v:Nat} (hT:Top P N v) (hv:v<N) (hfull:fG P N):∃ n,Face P N n v:=by
 obtain ⟨g,hg⟩:=hT;have hne:∀ q,q<N→q≠v→P q - P v≠V.zero:=fun q hq h e=>by
  have:=hg q hq h;rw [e] at this;simp [dot,V.zero] at this
 have step:∀ h:V,(∃ q,q<N∧q≠v)→∃ a,a<N∧a≠v∧∀ q,q<N→q≠v→0≤dot g (P a - P v)*dot h (P q - P v) - dot h (P a - P v)*dot g (P q - P v):=by
  rintro h ⟨q0,hq0,hq0v⟩;obtain ⟨m,hm,hmax⟩:=iZ (fun x y=>0≤dot g (P x - P v)*dot h (P y - P v) - dot h (P x - P v)*dot g (P y - P v)) (fun x=>0<dot g (P x - P v))
   (fun x _=>by have:=Int.mul_comm (dot g (P x - P v)) (dot h (P x - P v));omega)
   (fun x y _ _ h0=>by
    have e1:=Int.mul_comm (dot g (P x - P v)) (dot h (P y - P v));have e2:=Int.mul_comm (dot h (P x - P v)) (dot g (P y - P v));omega)
   (fun x y z hx hy hz h1 h2=>by
    generalize dot g (P x - P v)=gx at *;generalize dot g (P y - P v)=gy at *;generalize dot g (P z - P v)=gz at *;generalize dot h (P x - P v)=kx at *;generalize dot h (P y - P v)=ky at *;generalize dot h (P z - P v)=kz at *;have m1:=Int.mul_nonneg (a:=gz) ω h1;have m2:=Int.mul_nonneg (a:=gx) ω h2;have e:gy*(gx*kz - kx*gz)=gz*(gx*ky - kx*gy)+gx*(gy*kz - ky*gz):=by grind
    exact Int.nonneg_of_mul_nonneg_right (by rw [e];omega) hy)
   ((List.range N).filter fun q=>decide (q≠v))
   (fun x hx=>by
    obtain ⟨h1,h2⟩:=List.mem_filter.mp hx;exact hg x (List.mem_range.mp h1) (of_decide_eq_true h2))
   (List.ne_nil_of_mem (a:=q0) (List.mem_filter.mpr ⟨List.mem_range.mpr hq0,decide_eq_true hq0v⟩))
  obtain ⟨h1,h2⟩:=List.mem_filter.mp hm;exact ⟨m,List.mem_range.mp h1,of_decide_eq_true h2,fun q hq hqv=>hmax q (List.mem_filter.mpr ⟨List.mem_range.mpr hq,decide_eq_true hqv⟩)⟩
 have hex:∃ q,q<N∧q≠v:=by
  obtain ⟨q,hq,hq0⟩:=hfull ⟨1,0,0⟩ (by intro e;have:=congrArg V.x e;simp [V.zero] at this) v;refine ⟨q,hq,?_⟩;rintro rfl;exact hq0 (by simp [dot,sub_x,sub_y,sub_z])
 have hgg:g≠V.zero:=by
  obtain ⟨q,hq,hqv⟩:=hex;rintro rfl;have:=hg q hq hqv;simp [dot,V.zero] at this
 obtain ⟨h,hh⟩:∃ h:V,∀ s t:Int,s≠0→(⟨s*h.x - t*g.x,s*h.y - t*g.y,s*h.z - t*g.z⟩:V)≠V.zero:=by
  by_cases hx:g.y=0∧g.z=0
  ·refine ⟨⟨0,1,0⟩,fun s t hs e=>?_⟩
   have:=congrArg V.y e;simp only [V.zero,hx.1] at this;omega
  ·refine ⟨⟨1,0,0⟩,fun s t hs e=>?_⟩
   have e1:=congrArg V.x e;have e2:=congrArg V.y e;have e3:=congrArg V.z e;simp only [V.zero] at e1 e2 e3;by_cases ht:t=0
   ·subst ht;omega
   ·refine hx ⟨?_,?_⟩
    ·have:t*g.y=0:=ω
     exact (Int.mul_eq_zero.mp this).resolve_left ht
    ·have:t*g.z=0:=ω
     exact (Int.mul_eq_zero.mp this).resolve_left ht
 obtain ⟨a,haN,hav,hall⟩:=step h hex;have hga:=hg a haN hav;obtain ⟨n,hF,-⟩:=face_two (f:=⟨dot g (P a - P v)*h.x - dot h (P a - P v)*g.x,dot g (P a - P v)*h.y - dot h (P a - P v)*g.y,dot g (P a - P v)*h.z - dot h (P a - P v)*g.z⟩) hv haN
  (hh _ _ ω) (by rw [comb_dot,Int.mul_comm];omega) (fun q hq=>by
   rw [comb_dot];by_cases e:q=v
   ·subst e
    have:P q - P q=V.zero:=by apply V.ext' <;> simp only [sub_x,sub_y,sub_z,V.zero] <;> omega
    rw [this];simp [dot,V.zero]
   ·exact hall q hq e) (hne a haN hav) hfull
 exact ⟨n,hF⟩
theorem Top.extr {v:Nat} (hT:Top P N v) (hv:v<N) (hinj:Inj P N) (hfull:fG P N):lp P N v:=by
 obtain ⟨n,hF⟩:=hT.face hv hfull;exact hF.extr hinj hfull (hT.vert (aD.mpr ⟨hv,by simp only [dot,sub_x,sub_y,sub_z];grind⟩))
end Dowel
end

section
namespace Dowel
open V
theorem dot_add3 (M:Int) (g r u:V):dot (⟨M*g.x+r.x,M*g.y+r.y,M*g.z+r.z⟩:V) u=M*dot g u+dot r u:=by simp only [dot];grind
theorem top_of {P:Nat→V} {N:Nat} (hS:Sorted P N) (g:V) (l:List Nat) (hl:∀ q ∈ l,q<N) (hne:l≠[]) :
  ∃ v ∈ l,(∀ q ∈ l,0≤dot g (P q - P v))∧∃ g',∀ q ∈ l,q≠v→0<dot g' (P q - P v):=by
 obtain ⟨v,hv,hmin⟩:=iZ (fun x y=>dot (⟨10000000000000*g.x+100000000,10000000000000*g.y+10000,10000000000000*g.z+1⟩:V) (P x)≤dot ⟨10000000000000*g.x+100000000,10000000000000*g.y+10000,10000000000000*g.z+1⟩ (P y)) (fun x=>x<N)
  (fun x _=>Int.le_refl _) (fun x y _ _ h=>by omega) (fun x y z _ _ _ h1 h2=>Int.le_trans h1 h2) l hl hne
 have hr:∀ q ∈ l,q≠v→dot ⟨100000000,10000,1⟩ (P q - P v)≠0:=fun q hq hqv=>by
  have hqN:=hl q hq;have hvN:=hl v hv
  rcases Nat.lt_or_gt_of_ne hqv with h | h
  ·have:=pR (hS.lt q v h hvN) (hS.near q hqN) (hS.near v hvN)
   simp only [dot,sub_x,sub_y,sub_z] at *;omega
  ·have:=pR (hS.lt v q h hqN) (hS.near v hvN) (hS.near q hqN)
   omega
 have hb:∀ q ∈ l,-10000000000000<dot ⟨100000000,10000,1⟩ (P q - P v)∧dot ⟨100000000,10000,1⟩ (P q - P v)<10000000000000:=fun q hq=>by
  have h1:=hS.near q (hl q hq);have h2:=hS.near v (hl v hv);unfold jc at h1 h2;simp only [dot,sub_x,sub_y,sub_z];omega
 have hG:∀ q ∈ l,0≤10000000000000*dot g (P q - P v)+dot ⟨100000000,10000,1⟩ (P q - P v):=fun q hq=>by
  have:=hmin q hq;have e:=dot_add3 10000000000000 g ⟨100000000,10000,1⟩ (P q - P v);rw [aY] at e;dsimp only at e;omega
 refine ⟨v,hv,fun q hq=>?_,⟨10000000000000*g.x+100000000,10000000000000*g.y+10000,10000000000000*g.z+1⟩,fun q hq hqv=>?_⟩
 ·have:=hG q hq;have:=hb q hq;omega
 ·have e:=dot_add3 10000000000000 g ⟨100000000,10000,1⟩ (P q - P v)
  dsimp only at e;rw [e];have:=hG q hq;have:=hr q hq hqv;have:=hb q hq;omega
theorem Sorted.top {P:Nat→V} {N:Nat} (hS:Sorted P N) (g:V) (hN:0<N):∃ v,v<N∧(∀ q,q<N→0≤dot g (P q - P v))∧Top P N v:=by
 obtain ⟨v,hv,h1,g',h2⟩:=top_of hS g (List.range N) (fun q hq=>List.mem_range.mp hq) (List.ne_nil_of_mem (List.mem_range.mpr hN));exact ⟨v,List.mem_range.mp hv,fun q hq=>h1 q (List.mem_range.mpr hq),g',fun q hq hqv=>h2 q (List.mem_range.mpr hq) hqv⟩
def ln (P:Nat→V) (N:Nat) (Q:Nat→V) (M:Nat):Prop:=∀ p,(∃ i,i<N∧P i=p)↔∃ i,i<M∧Q i=p
theorem ln.symm {P Q:Nat→V} {N M:Nat} (h:ln P N Q M):ln Q M P N:=fun p=>(h p).symm
theorem ln.full4 {P Q:Nat→V} {N M:Nat} (h:ln P N Q M) (hf:dq P N):dq Q M:=by
 obtain ⟨i,j,k,m,hi,hj,hk,hm,hne⟩:=hf;obtain ⟨i',hi',ei⟩:=(h _).mp ⟨i,hi,rfl⟩;obtain ⟨j',hj',ej⟩:=(h _).mp ⟨j,hj,rfl⟩;obtain ⟨k',hk',ek⟩:=(h _).mp ⟨k,hk,rfl⟩;obtain ⟨m',hm',em⟩:=(h _).mp ⟨m,hm,rfl⟩;refine ⟨i',j',k',m',hi',hj',hk',hm',?_⟩;unfold tri at *;rw [ei,ej,ek,em];exact hne
def PlS (S:V→Prop) (m:Pl):Prop:=∃ a b c,S a∧S b∧S c∧cross (b - a) (c - a)≠V.zero∧m.n=aQ (cross (b - a) (c - a))∧m.o=dot m.n a∧∀ q,S q→dot m.n q≤m.o
theorem gh (u v:V):cross v u=-cross u v:=by apply V.ext' <;> simp only [cross,neg_x,neg_y,neg_z] <;> grind
theorem oB (a:V):aQ (-a)=-aQ a:=by
 unfold aQ cx;apply V.ext' <;> simp only [neg_x,neg_y,neg_z,Int.natAbs_neg,Int.neg_tdiv]
theorem lS (a b c:V):cross (b - a) (c - a)=cross (c - b) (a - b):=by apply V.ext' <;> simp only [cross,sub_x,sub_y,sub_z] <;> grind
theorem ns (a b c:V) (h:V) (e:h=cross (b - a) (c - a)∨h=-cross (b - a) (c - a)):dot h b=dot h a∧dot h c=dot h a:=by
 rcases e with rfl | rfl <;> constructor <;> simp only [dot,cross,sub_x,sub_y,sub_z,neg_x,neg_y,neg_z] <;> grind
theorem cross_ne {a b c:V} (h:cross (b - a) (c - a)≠V.zero):a≠b∧a≠c∧b≠c:=by
 refine ⟨?_,?_,?_⟩ <;> rintro rfl <;> apply h <;> apply V.ext' <;> simp only [cross,sub_x,sub_y,sub_z,V.zero] <;> grind
theorem mT {P:Nat→V} {N:Nat} {m:Pl}:m ∈ bD P N↔PlS (fun p=>∃ i,i<N∧P i=p) m:=by
 rw [dt]
 constructor
 ·rintro ⟨i,j,k,h1,h2,h3,h0,hn,ho,hle⟩
  unfold tri at h0 hn
  rcases hn with hn | hn
  ·exact ⟨P i,P j,P k,⟨i,h3,rfl⟩,⟨j,by omega,rfl⟩,⟨k,by omega,rfl⟩,h0,hn,ho,fun q hq=>by obtain ⟨x,hx,rfl⟩:=hq;exact hle x hx⟩
  ·refine ⟨P i,P k,P j,⟨i,h3,rfl⟩,⟨k,by omega,rfl⟩,⟨j,by omega,rfl⟩,?_,?_,ho,fun q hq=>by obtain ⟨x,hx,rfl⟩:=hq;exact hle x hx⟩
   ·rw [gh];exact jG h0
   ·rw [hn,gh (P j - P i),oB]
 ·rintro ⟨a,b,c,⟨x,hx,rfl⟩,⟨y,hy,rfl⟩,⟨z,hz,rfl⟩,h0,hn,ho,hle⟩
  have hall:∀ q,q<N→dot m.n (P q)≤m.o:=fun q hq=>hle _ ⟨q,hq,rfl⟩
  have hd:=fi (cross (P y - P x) (P z - P x));have hgp:=eO h0;have hb:dot m.n (P y)=m.o∧dot m.n (P z)=m.o:=by
   have:=ns (P x) (P y) (P z) _ (.inl rfl);rw [hd,hd,hd] at this;rw [ho,hn];exact ⟨Int.eq_of_mul_eq_mul_left ω this.1,Int.eq_of_mul_eq_mul_left ω this.2⟩
  obtain ⟨d1,d2,d3⟩:=cross_ne h0;have dxy:x≠y:=fun e=>d1 (by rw [e])
  have dxz:x≠z:=fun e=>d2 (by rw [e])
  have dyz:y≠z:=fun e=>d3 (by rw [e])
  have key:∀ i j k,k<j→j<i→i<N→dot m.n (P i)=m.o→(tri P i j k=cross (P y - P x) (P z - P x)∨tri P i j k=-cross (P y - P x) (P z - P x))→∃ i j k,k<j∧j<i∧i<N∧PlOk P N i j k m:=fun i j k h1 h2 h3 h4 h5 =>
   ⟨i,j,k,h1,h2,h3,(by rcases h5 with e | e <;> rw [e];exact h0;exact jG h0),(by
    rcases h5 with e | e <;> rw [e,hn]
    ·exact .inl rfl
    ·rw [oB];right;apply V.ext' <;> simp only [neg_x,neg_y,neg_z] <;> omega),h4.symm,hall⟩
  have nn:∀ a:V,- -a=a:=fun a=>by apply V.ext' <;> simp only [neg_x,neg_y,neg_z] <;> omega
  have p1:=lS (P x) (P y) (P z);have p2:=lS (P y) (P z) (P x);have s1:=gh (P y - P x) (P z - P x);have s2:=gh (P z - P y) (P x - P y);have s3:=gh (P x - P z) (P y - P z)
  rcases Nat.lt_or_gt_of_ne dxy with l1 | l1 <;> rcases Nat.lt_or_gt_of_ne dxz with l2 | l2 <;> rcases Nat.lt_or_gt_of_ne dyz with l3 | l3
  ·exact key z y x l1 l3 hz hb.2 (.inr (by unfold tri;rw [s3,← p2,← p1]))
  ·exact key y z x l2 l3 hy hb.1 (.inl (by unfold tri;exact p1.symm))
  ·omega
  ·exact key y x z l2 l1 hy hb.1 (.inr (by unfold tri;rw [s2,← p1]))
  ·exact key z x y l1 l2 hz hb.2 (.inl (by unfold tri;rw [← p2,← p1]))
  ·omega
  ·exact key x z y l3 l2 hx ho.symm (.inr (by unfold tri;exact s1))
  ·exact key x y z l3 l1 hx ho.symm (.inl rfl)
theorem ln.planes {P Q:Nat→V} {N M:Nat} (h:ln P N Q M) (m:Pl):m ∈ bD P N↔m ∈ bD Q M:=by
 rw [mT,mT];have:(fun p=>∃ i,i<N∧P i=p)=fun p=>∃ i,i<M∧Q i=p:=funext fun p=>propext (h p)
 rw [this]
theorem ib {P:Nat→V} {N:Nat} {l:List Pl} {p:V}:cC P N l p=true↔(∃ m ∈ l,dot m.n p=m.o)∧∀ q,(∃ i,i<N∧P i=q)→q≠p→∃ m ∈ l,dot m.n p=m.o∧dot m.n q≠m.o:=by
 unfold cC;rw [Bool.and_eq_true,decide_eq_true_iff,onR_pos,List.all_eq_true];refine and_congr Iff.rfl ⟨?_,?_⟩
 ·rintro h q ⟨i,hi,rfl⟩ hne
  have:=h i (List.mem_range.mpr hi);rw [Bool.or_eq_true,decide_eq_true_iff,Bool.not_eq_true',iy] at this;exact this.resolve_left hne
 ·intro h i hi
  rw [Bool.or_eq_true,decide_eq_true_iff,Bool.not_eq_true',iy];by_cases e:P i=p
  ·exact .inl e
  ·exact .inr (h _ ⟨i,List.mem_range.mp hi,rfl⟩ e)
theorem ln.extreme {P Q:Nat→V} {N M:Nat} (h:ln P N Q M) (p:V):cC P N (bD P N) p=cC Q M (bD Q M) p:=by
 rw [Bool.eq_iff_iff,ib,ib];simp only [h.planes,h _]
theorem line_plane (P:Nat→V) (N:Nat) (a:Nat) (d:V) (h:∀ q,q<N→cross d (P q - P a)=V.zero) (hd:d≠V.zero):∃ n,n≠V.zero∧∀ q,q<N→dot n (P q - P a)=0:=by
 have hz:∀ e:V,∀ q,q<N→dot (cross d e) (P q - P a)=0:=fun e q hq=>by
  have h0:=h q hq;have e1:dot (cross d e) (P q - P a)=- dot e (cross d (P q - P a)):=by simp only [dot,cross];grind
  rw [e1,h0];simp [dot,V.zero]
 by_cases hx:d.y=0∧d.z=0
 ·refine ⟨cross d ⟨0,1,0⟩,fun e=>hd ?_,hz _⟩
  have:=congrArg V.z e;simp only [cross,V.zero] at this;exact V.ext' (by show d.x=0;omega) hx.1 hx.2
 ·refine ⟨cross d ⟨1,0,0⟩,fun e=>hx ?_,hz _⟩
  have e1:=congrArg V.y e;have e2:=congrArg V.z e;simp only [cross,V.zero] at e1 e2;omega
theorem fG.four {P:Nat→V} {N:Nat} (h:fG P N) (hN:0<N):dq P N:=by
 refine Classical.byContradiction fun hno=>?_
 have hz:∀ i j k,i<N→j<N→k<N→tri P i j k≠V.zero→False:=fun i j k hi hj hk h0=>by
  obtain ⟨q,hq,hq0⟩:=h _ h0 i;exact hno ⟨i,j,k,q,hi,hj,hk,hq,hq0⟩
 by_cases hc:∃ a,a<N∧P a - P 0≠V.zero
 ·obtain ⟨a,ha,hne⟩:=hc
  obtain ⟨n,hn,hall⟩:=line_plane P N 0 (P a - P 0) (fun q hq=>Classical.byContradiction fun h0=>hz 0 a q hN ha hq h0) hne;obtain ⟨q,hq,hq0⟩:=h n hn 0;exact hq0 (hall q hq)
 ·obtain ⟨q,hq,hq0⟩:=h ⟨1,0,0⟩ (by intro e;have:=congrArg V.x e;simp [V.zero] at this) 0
  refine hc ⟨q,hq,fun e=>hq0 ?_⟩;rw [e];simp [dot,V.zero]
structure HullOf (P:Nat→V) (N:Nat) (Q:Nat→V) (M:Nat):Prop where
 sorted:Sorted Q M
 mem:∀ p,(∃ i,i<M∧Q i=p)↔∃ v,v<N∧P v=p∧Top P N v
theorem HullOf.pos {P Q:Nat→V} {N M:Nat} (h:HullOf P N Q M) (hS:Sorted P N) (hN:0<N):0<M:=by
 obtain ⟨v,hv,-,hT⟩:=hS.top V.zero hN;obtain ⟨i,hi,-⟩:=(h.mem _).mpr ⟨v,hv,rfl,hT⟩;omega
theorem HullOf.full {P Q:Nat→V} {N M:Nat} (h:HullOf P N Q M) (hS:Sorted P N) (hN:0<N) (hf:fG P N):fG Q M:=by
 intro n hn b;refine Classical.byContradiction fun hno=>?_
 have hall:∀ q,q<M→dot n (Q q - Q b)=0:=fun q hq=>Classical.byContradiction fun h0=>hno ⟨q,hq,h0⟩
 obtain ⟨v,hv,h1,hT⟩:=hS.top n hN;obtain ⟨u,hu,h2,hT2⟩:=hS.top (-n) hN;obtain ⟨i,hi,e1⟩:=(h.mem _).mpr ⟨v,hv,rfl,hT⟩;obtain ⟨j,hj,e2⟩:=(h.mem _).mpr ⟨u,hu,rfl,hT2⟩;have a1:=hall i hi;have a2:=hall j hj;rw [e1] at a1;rw [e2] at a2;obtain ⟨q,hq,hq0⟩:=hf n hn v;have b1:=h1 q hq;have b2:=h2 q hq;rw [bo] at b2;simp only [aY] at *;omega
theorem HullOf.extr {P Q:Nat→V} {N M:Nat} (h:HullOf P N Q M) (hS:Sorted P N) (hN:0<N) (hf:fG P N) (i:Nat) (hi:i<M):lp Q M i:=by
 have hinj:=h.sorted.inj;obtain ⟨v,hv,hvi,g,hg⟩:=(h.mem _).mp ⟨i,hi,rfl⟩;refine Top.extr ⟨g,fun q hq hqi=>?_⟩ hi hinj (h.full hS hN hf);obtain ⟨u,hu,hui,-⟩:=(h.mem _).mp ⟨q,hq,rfl⟩;rw [← hvi,← hui];refine hg u hu fun e=>hqi (hinj q hq i hi ?_)
 rw [← hvi,← hui,e]
end Dowel
end

section
namespace Dowel
open V
instance (a b : V) : Decidable (Lex a b) := by unfold Lex; infer_instance
theorem lex_tri (a b:V):Lex a b∨a=b∨Lex b a:=by
 by_cases h1:Lex a b
 ·exact .inl h1
 ·by_cases h2:Lex b a
  ·exact .inr (.inr h2)
  ·refine .inr (.inl ?_)
   unfold Lex at h1 h2;exact V.ext' ω ω ω
theorem lex_trans {a b c:V} (h1:Lex a b) (h2:Lex b c):Lex a c:=by unfold Lex at *;omega
def jJ (p:V):List V→List V
 | []=>[p]
 | q :: t=>if Lex q p then q :: jJ p t else if q=p then q :: t else p :: q :: t
theorem iU {p x:V}:∀ {l:List V},x ∈ jJ p l↔x=p∨x ∈ l
 | []=>by simp [jJ]
 | q :: t=>by
  unfold jJ
  split
  ·rw [List.mem_cons,iU,List.mem_cons]
   exact ⟨fun h=>by rcases h with h | h | h;exact .inr (.inl h);exact .inl h;exact .inr (.inr h),fun h=>by rcases h with h | h | h;exact .inr (.inl h);exact .inl h;exact .inr (.inr h)⟩
  ·split
   ·rename_i _ h;subst h;rw [List.mem_cons];exact ⟨.inr,fun h=>h.elim .inl id⟩
   ·rw [List.mem_cons]
theorem lB {p:V}:∀ {l:List V},l.Pairwise Lex→(jJ p l).Pairwise Lex
 | [],_=>List.pairwise_singleton _ _
 | q :: t,h=>by
  obtain ⟨h1,h2⟩:=List.pairwise_cons.mp h;unfold jJ
  split
  ·rename_i hl
   refine List.pairwise_cons.mpr ⟨fun x hx=>?_,lB h2⟩
   rcases iU.mp hx with rfl | hx
   ·exact hl
   ·exact h1 x hx
  ·split
   ·exact h
   ·rename_i hl he
    have hpq:Lex p q:=((lex_tri q p).resolve_left hl).resolve_left he;exact List.pairwise_cons.mpr ⟨fun x hx=>by
     rcases List.mem_cons.mp hx with rfl | hx
     ·exact hpq
     ·exact lex_trans hpq (h1 x hx),h⟩
def dG (Q:Nat→V) (p:V→Bool):Nat→List V
 | 0=>[]
 | i+1=>if p (Q i) then jJ (Q i) (dG Q p i) else dG Q p i
theorem eG {Q:Nat→V} {p:V→Bool} {x:V}:∀ {n},x ∈ dG Q p n↔∃ i,i<n∧Q i=x∧p x=true
 | 0=>by simp [dG]
 | n+1=>by
  unfold dG
  constructor
  ·intro h
   split at h
   ·rename_i hp
    rcases iU.mp h with rfl | h
    ·exact ⟨n,by omega,rfl,hp⟩
    ·obtain ⟨i,hi,h⟩:=eG.mp h;exact ⟨i,by omega,h⟩
   ·obtain ⟨i,hi,h⟩:=eG.mp h;exact ⟨i,by omega,h⟩
  ·rintro ⟨i,hi,rfl,hp⟩
   by_cases e:i=n
   ·subst e;rw [if_pos hp];exact iU.mpr (.inl rfl)
   ·have:Q i ∈ dG Q p n:=eG.mpr ⟨i,by omega,rfl,hp⟩
    split
    ·exact iU.mpr (.inr this)
    ·exact this
theorem fN {Q:Nat→V} {p:V→Bool}:∀ n,(dG Q p n).Pairwise Lex
 | 0=>List.Pairwise.nil
 | n+1=>by
  unfold dG
  split
  ·exact lB (fN n)
  ·exact fN n
theorem lQ {p:V}:∀ {l:List V},(jJ p l).length≤l.length+1
 | []=>by simp [jJ]
 | q :: t=>by
  unfold jJ
  split
  ·have:=lQ (p:=p) (l:=t);simp only [List.length_cons];omega
  ·split <;> simp only [List.length_cons] <;> omega
theorem fO {Q:Nat→V} {p:V→Bool}:∀ n,(dG Q p n).length≤n
 | 0=>Nat.le_refl _
 | n+1=>by
  have:=fO (Q:=Q) (p:=p) n;unfold dG
  split
  ·have:=lQ (p:=Q n) (l:=dG Q p n);omega
  ·omega
def ofL (l:List V) (i:Nat):V:=l.getD i V.zero
theorem pP {l:List V} {x:V}:x ∈ l↔∃ i,i<l.length∧ofL l i=x:=by
 unfold ofL;rw [List.mem_iff_getElem];exact ⟨fun ⟨i,hi,h⟩=>⟨i,hi,by simp [hi,h]⟩,fun ⟨i,hi,h⟩=>⟨i,hi,by simpa [hi] using h⟩⟩
theorem mF {l:List V} (h:l.Pairwise Lex) (hn:∀ x ∈ l,jc x):Sorted (ofL l) l.length where
 lt:=fun p q hpq hq=>by
  have:=List.pairwise_iff_getElem.mp h p q ω hq hpq;unfold ofL
  simpa [hq,show p<l.length by omega] using this
 near:=fun p hp=>hn _ (pP.mpr ⟨p,hp,rfl⟩)
def sortV (Q:Nat→V) (M:Nat):List V:=dG Q (fun _=>true) M
theorem same_sortV (Q:Nat→V) (M:Nat):ln (ofL (sortV Q M)) (sortV Q M).length Q M:=fun p=>by
 rw [← pP];unfold sortV;rw [eG];simp
theorem pC {Q:Nat→V} {M:Nat} (hn:∀ i,i<M→jc (Q i)):Sorted (ofL (sortV Q M)) (sortV Q M).length:=
 mF (fN M) fun x hx=>by obtain ⟨i,hi,rfl,-⟩:=eG.mp hx;exact hn i hi
def cN (Q:Nat→V) (M:Nat):List V:=dG Q (fun p=>cC Q M (bD Q M) p) M
theorem ln.pos {P Q:Nat→V} {N M:Nat} (h:ln P N Q M) (hM:0<M):0<N:=by
 obtain ⟨i,hi,-⟩:=(h _).mpr ⟨0,hM,rfl⟩;omega
theorem hullR_of {P Q:Nat→V} {N M:Nat} (h:ln P N Q M) (hS:Sorted P N) (hf:fG P N):HullOf P N (ofL (cN Q M)) (cN Q M).length where
 sorted:=mF (fN M) fun x hx=>by
  obtain ⟨i,hi,rfl,-⟩:=eG.mp hx;obtain ⟨v,hv,e⟩:=(h _).mpr ⟨i,hi,rfl⟩;exact e ▸ hS.near v hv
 mem:=fun p=>by
  rw [← pP];unfold cN;rw [eG]
  constructor
  ·rintro ⟨i,hi,rfl,he⟩
   obtain ⟨v,hv,e⟩:=(h _).mpr ⟨i,hi,rfl⟩;rw [← h.extreme,← e,kd hS.inj v hv] at he;exact ⟨v,hv,e,he.top⟩
  ·rintro ⟨v,hv,rfl,hT⟩
   obtain ⟨i,hi,e⟩:=(h _).mp ⟨v,hv,rfl⟩;refine ⟨i,hi,e,?_⟩;rw [← h.extreme,kd hS.inj v hv];exact hT.extr hv hS.inj hf
structure HullOk (Q:Nat→V) (M:Nat):Prop where
 sorted:Sorted (ofL (cN Q M)) (cN Q M).length
 full:dq (ofL (cN Q M)) (cN Q M).length
 extr:∀ i,i<(cN Q M).length→lp (ofL (cN Q M)) (cN Q M).length i
theorem hullR_ok {Q:Nat→V} {M:Nat} (hn:∀ i,i<M→jc (Q i)) (hM:0<M) (hf:dq Q M):HullOk Q M:=by
 have hs:=same_sortV Q M;have hS:=pC hn;have hp:=hs.pos hM;have hF:=(hs.symm.full4 hf).full;have hH:=hullR_of hs hS hF;exact ⟨hH.sorted,(hH.full hS hp hF).four (hH.pos hS hp),fun i hi=>hH.extr hS hp hF i hi⟩
end Dowel
end

section
namespace Dowel
open V
theorem me (x:V):∀ (l:List V) (k:Nat),k≤l.length→(∀ i,i<k→Lex (l.getD i V.zero) x)→(k<l.length→¬ Lex (l.getD k V.zero) x)→jJ x l=if k<l.length∧l.getD k V.zero=x then l else l.take k ++ x :: l.drop k
 | [],k,hk,_,_=>by simp at hk;subst hk;simp [jJ]
 | q :: t,0,_,_,h=>by
  have:=h (by simp);simp only [List.getD_cons_zero] at this;unfold jJ;rw [if_neg this];simp only [List.getD_cons_zero,List.take_zero,List.drop_zero,List.nil_append,List.length_cons];by_cases e:q=x
  ·rw [if_pos e,if_pos ⟨by omega,e⟩]
  ·rw [if_neg e,if_neg (fun h=>e h.2)]
 | q :: t,k+1,hk,h1,h2=>by
  have h0:=h1 0 ω;simp only [List.getD_cons_zero] at h0;unfold jJ;rw [if_pos h0,me x t k (by simpa using hk) (fun i hi=>by simpa using h1 (i+1) ω) (fun hl=>by simpa using h2 (by simpa using hl))];simp only [List.getD_cons_succ,List.take_succ_cons,List.drop_succ_cons,List.length_cons,Nat.add_lt_add_iff_right]
  split <;> simp
end Dowel
end

section
namespace Dowel
open V
variable {P : Nat → V} {N : Nat}
structure SideF (P:Nat→V) (N:Nat) (n:V) (b a c:Nat):Prop where
 ha:a ∈ aH P N n b
 hc:c ∈ aH P N n b
 ne:a≠c
 pos:∀ q ∈ aH P N n b,q≠a→q≠c→0<T n (P c - P a) (P q - P a)
theorem Face.vert_all {n:V} {b:Nat} (hE:∀ v,v<N→Top P N v) {a:Nat} (ha:a ∈ aH P N n b):fm P (aH P N n b) a:=(hE a (aD.mp ha).1).vert ha
theorem Face.third {n:V} {b:Nat} (hF:Face P N n b) (a c:Nat):∃ t ∈ aH P N n b,t≠a∧t≠c:=by
 obtain ⟨i,j,k,h1,h2,hi,hj,hk,-⟩:=hF.points;by_cases h:i=a∨i=c
 ·by_cases h':j=a∨j=c
  ·exact ⟨k,hk,by omega,by omega⟩
  ·exact ⟨j,hj,by omega,by omega⟩
 ·exact ⟨i,hi,by omega,by omega⟩
theorem side_iff {n:V} {b:Nat} (hF:Face P N n b) (hinj:Inj P N) (hE:∀ v,v<N→Top P N v) {a c:Nat} (ha:a ∈ aH P N n b):Next P (aH P N n b) n a c↔SideF P N n b a c:=by
 have hf:=hF.flat hinj
 constructor
 ·intro h
  exact ⟨ha,h.1,Ne.symm h.2.1,fun q hq h1 h2=>jF hf (Face.vert_all hE ha) h (Face.vert_all hE hq) h1 h2⟩
 ·intro h
  refine ⟨h.hc,Ne.symm h.ne,fun q hq hqa=>?_⟩;by_cases e:q=c
  ·subst e;exact mK _ _
  ·exact .inl (h.pos q hq hqa e)
def db (r:List Nat):List (Nat × Nat):=(List.range r.length).map fun i=>(r.getD i 0,r.getD ((i+1) % r.length) 0)
theorem oy {n:V} {b:Nat} (hF:Face P N n b) (hinj:Inj P N) (hE:∀ v,v<N→Top P N v) :
  ∃ k a,1≤k∧ring P (aH P N n b) n=(List.range k).map (orb (nx P (aH P N n b) n) a)∧orb (nx P (aH P N n b) n) a k=a∧(∀ i,SideF P N n b (orb (nx P (aH P N n b) n) a i) (orb (nx P (aH P N n b) n) a (i+1))) ∧
   (∀ i j,i<j→j<k→orb (nx P (aH P N n b) n) a i≠orb (nx P (aH P N n b) n) a j)∧∀ v ∈ aH P N n b,∃ i,i<k∧orb (nx P (aH P N n b) n) a i=v:=by
 have hf:=hF.flat hinj;have h2:=hF.two;obtain ⟨q0,hq0,-⟩:=h2 0;have hh:(aH P N n b).headD 0 ∈ aH P N n b:=by
  cases he:aH P N n b with
  | nil=>rw [he] at hq0;exact absurd hq0 (by simp)
  | cons x l=>simp
 have hv:=Face.vert_all hE hh;obtain ⟨k,e,k1,kn,hk,hm⟩:=kQ hf h2 hv;refine ⟨k,(aH P N n b).headD 0,k1,by unfold ring;rw [← e],hk,fun i=>?_,fun i j hij hjk he=>?_,fun v hvm=>?_⟩
 ·exact (side_iff hF hinj hE (dH hf h2 hv i).1).mp (fy hf h2 hv i)
 ·have:=orb_back hf h2 hv i (j - i) (by rw [show i+(j - i)=j by omega];exact he)
  exact hm (j - i) ω ω this.symm
 ·obtain ⟨j,hj,e⟩:=vert_orb hf h2 hv k1 hk hm (Face.vert_all hE hvm)
  exact ⟨j,hj,e⟩
end Dowel
end

section
namespace Dowel
open V
variable {P : Nat → V} {N : Nat}
structure Polys (P:Nat→V) (N:Nat) (fs:List (V × Nat)):Prop where
 ok:∀ f ∈ fs,Face P N f.1 f.2
 all:∀ n b,Face P N n b→∃ f ∈ fs,aH P N f.1 f.2=aH P N n b
 nodup:fs.Pairwise fun f g=>aH P N f.1 f.2≠aH P N g.1 g.2
theorem same_turn {n n':V} {b b':Nat} (hF:Face P N n b) (hF':Face P N n' b') (hfull:fG P N) (he:aH P N n b=aH P N n' b') {a c u:Nat} (ha:a ∈ aH P N n b) (hc:c ∈ aH P N n b) (hu:u ∈ aH P N n b)
  (h:0<T n (P c - P a) (P u - P a)):0<T n' (P c - P a) (P u - P a):=by
 have b1:∀ q,dot n (P q - P a)=dot n (P q - P b):=fun q=>by
  have h2:=(aD.mp ha).2;simp only [aY] at *;omega
 have b2:∀ q,dot n' (P q - P a)=dot n' (P q - P b'):=fun q=>by
  have h2:=(aD.mp (he ▸ ha)).2;simp only [aY] at *;omega
 obtain ⟨q,hq,hq0⟩:=hfull n hF.n0 b;have hq1:dot n' (P q - P b')≠0:=fun h0=>hq0 (aD.mp (he.symm ▸ aD.mpr ⟨hq,h0⟩:q ∈ aH P N n b)).2
 have o1:=hF.out q hq;have o2:=hF'.out q hq;have k1:=fw n (P c - P a) (P u - P a) (P q - P a) (by rw [b1];exact (aD.mp hc).2) (by rw [b1];exact (aD.mp hu).2);have k2:=fw n' (P c - P a) (P u - P a) (P q - P a) (by rw [b2];exact (aD.mp (he ▸ hc)).2) (by rw [b2];exact (aD.mp (he ▸ hu)).2);rw [cK (P q - P a) n,b1] at k1;rw [cK (P q - P a) n',b2] at k2;have m1:=Int.mul_neg_of_neg_of_pos (show dot n (P q - P b)<0 by omega) h;rw [← k1] at m1;have m2:dot (P q - P a) (cross (P c - P a) (P u - P a))<0:=by
  refine Classical.byContradiction fun hc=>?_
  have:=Int.mul_nonneg (Int.le_of_lt (di hF.n0)) (show 0≤dot (P q - P a) (cross (P c - P a) (P u - P a)) by omega);omega
 have m3:=Int.mul_neg_of_pos_of_neg (di hF'.n0) m2;rw [k2] at m3;refine Classical.byContradiction fun hc=>?_
 have:=Int.mul_nonneg_of_nonpos_of_nonpos (show dot n' (P q - P b')≤0 by omega) (show T n' (P c - P a) (P u - P a)≤0 by omega);omega
theorem SideF.same {n n':V} {b b' a c:Nat} (hF:Face P N n b) (hF':Face P N n' b') (hfull:fG P N) (he:aH P N n b=aH P N n' b') (h:SideF P N n b a c):SideF P N n' b' a c:=
 ⟨he ▸ h.ha,he ▸ h.hc,h.ne,fun q hq h1 h2=>same_turn hF hF' hfull he h.ha h.hc (he.symm ▸ hq) (h.pos q (he.symm ▸ hq) h1 h2)⟩
def fan (g:Nat→Nat→Nat→Int) (r:List Nat):Int:=((List.range (r.length - 2)).map fun k=>g (r.getD 0 0) (r.getD (k+1) 0) (r.getD (k+2) 0)).sum
theorem sum_append (l m:List Int):(l ++ m).sum=l.sum+m.sum:=by
 induction l with
 | nil=>simp
 | cons x l ih=>simp only [List.cons_append,List.sum_cons,ih];omega
def fans (P:Nat→V) (N:Nat) (fs:List (V × Nat)) (g:Nat→Nat→Nat→Int):Int:=(fs.map fun f=>fan g (ring P (aH P N f.1 f.2) f.1)).sum
end Dowel
end

section
namespace Dowel
open V
variable {P : Nat → V} {N : Nat}
theorem ir {a:V} (h:a≠V.zero):cx (aQ a)=1:=by
 have hp:=eO h;obtain ⟨h1,h2,h3⟩:=ji a;have e:cx a=cx a*cx (aQ a):=by
  have e1:a.x.natAbs=cx a*(aQ a).x.natAbs:=by
   conv=>lhs;rw [h1]
   rw [Int.natAbs_mul];rfl
  have e2:a.y.natAbs=cx a*(aQ a).y.natAbs:=by
   conv=>lhs;rw [h2]
   rw [Int.natAbs_mul];rfl
  have e3:a.z.natAbs=cx a*(aQ a).z.natAbs:=by
   conv=>lhs;rw [h3]
   rw [Int.natAbs_mul];rfl
  conv=>lhs;unfold cx
  rw [e1,e2,e3,Nat.gcd_mul_left,Nat.gcd_mul_left]
  rfl
 have:cx a*cx (aQ a)=cx a*1:=ω;exact Nat.eq_of_mul_eq_mul_left hp this
theorem fh {a:V} (ha:cx a=1) (x y:Int) (h1:∃ t,y*a.x=x*t) (h2:∃ t,y*a.y=x*t) (h3:∃ t,y*a.z=x*t):x.natAbs ∣ y.natAbs:=by
 have d:∀ c:Int,(∃ t,y*c=x*t)→x.natAbs ∣ y.natAbs*c.natAbs:=fun c ⟨t,ht⟩=>by
  rw [← Int.natAbs_mul,ht,Int.natAbs_mul];exact Nat.dvd_mul_right _ _
 have hg:=Nat.dvd_gcd (Nat.dvd_gcd (d _ h1) (d _ h2)) (d _ h3);rw [Nat.gcd_mul_left,Nat.gcd_mul_left] at hg;unfold cx at ha
 rwa [ha,Nat.mul_one] at hg
theorem prim_unique {a b:V} (ha:cx a=1) (hb:cx b=1) (hxy:a.x*b.y=a.y*b.x) (hxz:a.x*b.z=a.z*b.x) (hyz:a.y*b.z=a.z*b.y) (hd:0<dot a b):a=b:=by
 have c1:∀ x y:Int,x*y=y*x:=Int.mul_comm;have ax:a.x.natAbs=b.x.natAbs:=Nat.dvd_antisymm
  (fh ha a.x b.x ⟨b.x,c1 _ _⟩ ⟨b.y,by rw [c1,← hxy]⟩ ⟨b.z,by rw [c1,← hxz]⟩)
  (fh hb b.x a.x ⟨a.x,c1 _ _⟩ ⟨a.y,by rw [hxy,c1]⟩ ⟨a.z,by rw [hxz,c1]⟩)
 have ay:a.y.natAbs=b.y.natAbs:=Nat.dvd_antisymm
  (fh ha a.y b.y ⟨b.x,by rw [c1,hxy]⟩ ⟨b.y,c1 _ _⟩ ⟨b.z,by rw [c1,← hyz]⟩)
  (fh hb b.y a.y ⟨a.x,by rw [← hxy,c1]⟩ ⟨a.y,c1 _ _⟩ ⟨a.z,by rw [hyz,c1]⟩)
 have az:a.z.natAbs=b.z.natAbs:=Nat.dvd_antisymm
  (fh ha a.z b.z ⟨b.x,by rw [c1,hxz]⟩ ⟨b.y,by rw [c1,hyz]⟩ ⟨b.z,c1 _ _⟩)
  (fh hb b.z a.z ⟨a.x,by rw [← hxz,c1]⟩ ⟨a.y,by rw [← hyz,c1]⟩ ⟨a.z,c1 _ _⟩)
 have sgn:∀ x y:Int,x.natAbs=y.natAbs→x=y∨x=-y:=fun x y h=>Int.natAbs_eq_natAbs_iff.mp h
 have sq:∀ x:Int,0≤x*x:=fun x=>by rcases Int.le_total 0 x with h | h;exact Int.mul_nonneg h h;exact Int.mul_nonneg_of_nonpos_of_nonpos h h
 unfold dot at hd;have two:∀ x y:Int,x*y=(-x)*y→x*y=0:=fun x y h=>by rw [Int.neg_mul] at h;omega
 rcases sgn _ _ ax with ex | ex <;> rcases sgn _ _ ay with ey | ey <;> rcases sgn _ _ az with ez | ez <;> rw [ex,ey] at hxy <;> rw [ex,ez] at hxz <;> rw [ey,ez] at hyz <;> rw [ex,ey,ez] at hd
 ·exact V.ext' ex ey ez
 ·have h1:b.x*b.z=0:=by rw [Int.neg_mul,c1 b.z] at hxz;omega
  have h2:b.y*b.z=0:=by rw [Int.neg_mul,c1 b.z] at hyz;omega
  by_cases hz:b.z=0
  ·exact V.ext' ex ey ω
  ·have:=(Int.mul_eq_zero.mp h1).resolve_right hz
   have:=(Int.mul_eq_zero.mp h2).resolve_right hz;have:=sq b.z;simp only [*,Int.mul_neg] at hd;omega
 ·have h1:b.x*b.y=0:=by rw [Int.neg_mul,c1 b.y] at hxy;omega
  have h2:b.y*b.z=0:=by rw [Int.neg_mul,c1 b.z] at hyz;omega
  by_cases hz:b.y=0
  ·exact V.ext' ex ω ez
  ·have:=(Int.mul_eq_zero.mp h1).resolve_right hz
   have:=(Int.mul_eq_zero.mp h2).resolve_left hz;have:=sq b.y;simp only [*,Int.mul_neg] at hd;omega
 ·have h1:b.x*b.y=0:=by rw [Int.neg_mul,c1 b.y] at hxy;omega
  have h2:b.x*b.z=0:=by rw [Int.neg_mul,c1 b.z] at hxz;omega
  by_cases hz:b.x=0
  ·have:=sq b.y;have:=sq b.z
   simp only [hz,Int.neg_mul] at hd;omega
  ·have h3:=(Int.mul_eq_zero.mp h1).resolve_left hz
   have h4:=(Int.mul_eq_zero.mp h2).resolve_left hz;exact V.ext' ex ω ω
 ·have h1:b.x*b.y=0:=by rw [Int.neg_mul,c1 b.y] at hxy;omega
  have h2:b.x*b.z=0:=by rw [Int.neg_mul,c1 b.z] at hxz;omega
  by_cases hz:b.x=0
  ·exact V.ext' ω ey ez
  ·have:=(Int.mul_eq_zero.mp h1).resolve_left hz
   have:=(Int.mul_eq_zero.mp h2).resolve_left hz;have:=sq b.x;simp only [*,Int.mul_neg] at hd;omega
 ·have h1:b.x*b.y=0:=by rw [Int.neg_mul,c1 b.y] at hxy;omega
  have h2:b.y*b.z=0:=by rw [Int.neg_mul,c1 b.z] at hyz;omega
  by_cases hz:b.y=0
  ·have:=sq b.x;have:=sq b.z
   simp only [hz,Int.neg_mul] at hd;omega
  ·have h3:=(Int.mul_eq_zero.mp h1).resolve_right hz
   have h4:=(Int.mul_eq_zero.mp h2).resolve_left hz;exact V.ext' ω ey ω
 ·have h1:b.x*b.z=0:=by rw [Int.neg_mul,c1 b.z] at hxz;omega
  have h2:b.y*b.z=0:=by rw [Int.neg_mul,c1 b.z] at hyz;omega
  by_cases hz:b.z=0
  ·have:=sq b.x;have:=sq b.y
   simp only [hz,Int.neg_mul] at hd;omega
  ·have h3:=(Int.mul_eq_zero.mp h1).resolve_right hz
   have h4:=(Int.mul_eq_zero.mp h2).resolve_right hz;exact V.ext' ω ω ez
 ·have:=sq b.x;have:=sq b.y;have:=sq b.z
  simp only [Int.neg_mul] at hd;omega
end Dowel
end

section
namespace Dowel
open V
variable {P : Nat → V} {N : Nat}
def kP (P:Nat→V) (f:V × Nat):Pl:=⟨aQ f.1,dot (aQ f.1) (P f.2)⟩
theorem T_primV (n u v:V):T n u v=(cx n:Int)*T (aQ n) u v:=fi n _
theorem j7 {f:V × Nat} (hF:Face P N f.1 f.2) (w:V):dot (kP P f).n w=(kP P f).o↔dot f.1 (w - P f.2)=0:=by
 have hg:=eO hF.n0;unfold kP;dsimp only;rw [aY,fi f.1 w,fi f.1 (P f.2)]
 constructor
 ·intro e;rw [e];omega
 ·intro e;exact Int.eq_of_mul_eq_mul_left (show (cx f.1:Int)≠0 by omega) ω
theorem plOf_mem {f:V × Nat} (hF:Face P N f.1 f.2):kP P f ∈ bD P N:=by
 obtain ⟨i,j,k,h1,h2,h3,h0,hn,hw⟩:=hF.three;have hg:=eO hF.n0;have hd:=fi f.1;have hi:dot (aQ f.1) (P i)=dot (aQ f.1) (P f.2):=by
  have:=hw (P i);have e:P i - P i=V.zero:=by apply V.ext' <;> simp only [sub_x,sub_y,sub_z,V.zero] <;> omega
  rw [e,show dot f.1 V.zero=0 by simp [dot,V.zero],aY,hd,hd] at this;exact Int.eq_of_mul_eq_mul_left (show (cx f.1:Int)≠0 by omega) ω
 refine dt.mpr ⟨i,j,k,h1,h2,h3,h0,?_,hi.symm,fun q hq=>?_⟩
 ·show aQ f.1=_∨aQ f.1=_
  have pn:∀ a:V,aQ (-a)=-aQ a:=fun a=>by
   unfold aQ cx;apply V.ext' <;> simp only [neg_x,neg_y,neg_z,Int.natAbs_neg,Int.neg_tdiv]
  rcases hn with e | e
  ·exact .inl (by rw [e])
  ·exact .inr (by rw [e,pn])
 ·have:=hF.out q hq
  rw [aY,hd,hd] at this;show dot (aQ f.1) _≤dot (aQ f.1) _;exact Int.le_of_mul_le_mul_left (show (cx f.1:Int)*_≤cx f.1*_ by omega) ω
theorem pl_same {m m':Pl} (h:m ∈ bD P N) (h':m' ∈ bD P N) (hfull:fG P N) {a b c:Nat} (h0:cross (P b - P a) (P c - P a)≠V.zero)
  (ma:dot m.n (P a)=m.o) (mb:dot m.n (P b)=m.o) (mc:dot m.n (P c)=m.o) (ma':dot m'.n (P a)=m'.o) (mb':dot m'.n (P b)=m'.o) (mc':dot m'.n (P c)=m'.o):m=m':=by
 obtain ⟨i,j,k,-,-,hi,t0,hn,ho,hle⟩:=dt.mp h;obtain ⟨i',j',k',-,-,hi',t0',hn',ho',hle'⟩:=dt.mp h';have u0:m.n≠V.zero:=by rcases hn with e | e <;> rw [e];exact iS t0;exact jG (iS t0)
 have u0':m'.n≠V.zero:=by rcases hn' with e | e <;> rw [e];exact iS t0';exact jG (iS t0')
 have gneg:∀ a:V,cx (-a)=cx a:=fun a=>by unfold cx;simp only [neg_x,neg_y,neg_z,Int.natAbs_neg]
 have g1:cx m.n=1:=by rcases hn with e | e <;> rw [e];exact ir t0;rw [gneg];exact ir t0
 have g2:cx m'.n=1:=by rcases hn' with e | e <;> rw [e];exact ir t0';rw [gneg];exact ir t0'
 have d1:∀ q,dot m.n (P q)=m.o→dot m.n (P q - P a)=0:=fun q hq=>by rw [aY,hq,ma];omega
 have d2:∀ q,dot m'.n (P q)=m'.o→dot m'.n (P q - P a)=0:=fun q hq=>by rw [aY,hq,ma'];omega
 have k1:=fun i=>fw m.n (P b - P a) (P c - P a) i (d1 b mb) (d1 c mc)
 have k2:=fun i=>fw m'.n (P b - P a) (P c - P a) i (d2 b mb') (d2 c mc')
 obtain ⟨q,hq,hq0⟩:=hfull m.n u0 a;have hqa:dot m.n (P q - P a)<0:=by have:=hle q hq;rw [aY,ma] at *;omega
 generalize hC:cross (P b - P a) (P c - P a)=C at *;have nn1:=di u0;have nn2:=di u0';have t1:T m.n (P b - P a) (P c - P a)≠0:=fun e=>by
  have:∀ i,dot i C=0:=fun i=>by
   have:=k1 i;rw [e,Int.mul_zero] at this;exact (Int.mul_eq_zero.mp this).resolve_left ω
  have:=this C;have:=di h0;omega
 have par:∀ i:V,dot m.n m.n*dot m'.n m'.n*(dot i m.n*T m.n (P b - P a) (P c - P a)*dot m'.n m'.n - dot i m'.n*T m'.n (P b - P a) (P c - P a)*dot m.n m.n)=0:=fun i=>by
  rw [← k1 i,← k2 i];grind
 have par2:∀ i:V,dot i m.n*T m.n (P b - P a) (P c - P a)*dot m'.n m'.n=dot i m'.n*T m'.n (P b - P a) (P c - P a)*dot m.n m.n:=fun i=>by
  have:=(Int.mul_eq_zero.mp (par i)).resolve_left (Int.mul_ne_zero ω ω);omega
 have pq:=par2 (P q - P a);rw [cK (P q - P a),cK (P q - P a)] at pq;have hqa':dot m'.n (P q - P a)≤0:=by have:=hle' q hq;rw [aY,ma'] at *;omega
 generalize hs:T m.n (P b - P a) (P c - P a)*dot m'.n m'.n=s at *;generalize hs':T m'.n (P b - P a) (P c - P a)*dot m.n m.n=s' at *;have par3:∀ i:V,dot i m.n*s=dot i m'.n*s':=fun i=>by rw [← hs,← hs',← Int.mul_assoc,← Int.mul_assoc];exact par2 i
 have s0:s≠0:=by rw [← hs];exact Int.mul_ne_zero t1 ω
 have pq3:dot m.n (P q - P a)*s=dot m'.n (P q - P a)*s':=by
  have:=par3 (P q - P a);rwa [cK (P q - P a),cK (P q - P a)] at this
 have hss:0<s*s':=by
  have e1:dot m.n (P q - P a)*(s*s')=dot m'.n (P q - P a)*(s'*s'):=by rw [← Int.mul_assoc,pq3,Int.mul_assoc]
  have hs'0:s'≠0:=fun e=>by rw [e,Int.mul_zero] at pq3;exact (Int.mul_ne_zero ω s0) pq3
  have sp:0<s'*s':=by
   rcases Int.lt_or_gt_of_ne hs'0 with h | h
   ·exact Int.mul_pos_of_neg_of_neg h h
   ·exact Int.mul_pos h h
  have le:dot m'.n (P q - P a)*(s'*s')≤0:=Int.mul_nonpos_of_nonpos_of_nonneg hqa' (Int.le_of_lt sp);have ne:s*s'≠0:=Int.mul_ne_zero s0 hs'0;rw [← e1] at le;refine Classical.byContradiction fun hc=>?_
  have:=Int.mul_pos_of_neg_of_neg hqa (show s*s'<0 by omega);omega
 have px:=par3 ⟨1,0,0⟩;have py:=par3 ⟨0,1,0⟩;have pz:=par3 ⟨0,0,1⟩;simp only [dot,Int.one_mul,Int.zero_mul,Int.add_zero,Int.zero_add] at px py pz;have hnn:m.n=m'.n:=by
  refine prim_unique g1 g2 ?_ ?_ ?_ ?_
  ·have e:(m.n.x*m'.n.y - m.n.y*m'.n.x)*(s*s')=0:=by
    have:(m.n.x*m'.n.y - m.n.y*m'.n.x)*(s*s')=(m.n.x*s)*(m'.n.y*s') - (m.n.y*s)*(m'.n.x*s'):=by grind
    rw [this,px,py];grind
   have:=(Int.mul_eq_zero.mp e).resolve_right ω;omega
  ·have e:(m.n.x*m'.n.z - m.n.z*m'.n.x)*(s*s')=0:=by
    have:(m.n.x*m'.n.z - m.n.z*m'.n.x)*(s*s')=(m.n.x*s)*(m'.n.z*s') - (m.n.z*s)*(m'.n.x*s'):=by grind
    rw [this,px,pz];grind
   have:=(Int.mul_eq_zero.mp e).resolve_right ω;omega
  ·have e:(m.n.y*m'.n.z - m.n.z*m'.n.y)*(s*s')=0:=by
    have:(m.n.y*m'.n.z - m.n.z*m'.n.y)*(s*s')=(m.n.y*s)*(m'.n.z*s') - (m.n.z*s)*(m'.n.y*s'):=by grind
    rw [this,py,pz];grind
   have:=(Int.mul_eq_zero.mp e).resolve_right ω;omega
  ·have e:dot m.n m'.n*(s*s')=dot m'.n m'.n*(s'*s'):=by
    have h:=par3 m'.n;rw [cK m'.n m.n] at h;rw [← Int.mul_assoc,h,Int.mul_assoc]
   have sp:0<s'*s':=by
    rcases Int.lt_trichotomy s' 0 with h | h | h
    ·exact Int.mul_pos_of_neg_of_neg h h
    ·rw [h,Int.mul_zero] at hss;omega
    ·exact Int.mul_pos h h
   have:=Int.mul_pos nn2 sp;rw [← e] at this;refine Classical.byContradiction fun hc=>?_
   have:=Int.mul_nonpos_of_nonpos_of_nonneg (show dot m.n m'.n≤0 by omega) (Int.le_of_lt hss);omega
 obtain ⟨n,o⟩:=m;obtain ⟨n',o'⟩:=m';dsimp only at hnn ma ma';subst hnn;rw [← ma,← ma']
theorem pI {fs:List (V × Nat)} (hfs:Polys P N fs) (hfull:fG P N):(fs.map (kP P)).Nodup∧∀ m,m ∈ bD P N↔m ∈ fs.map (kP P):=by
 constructor
 ·rw [List.nodup_iff_pairwise_ne,List.pairwise_map]
  refine hfs.nodup.imp_of_mem fun {f g} hf hg hne he=>hne ?_
  unfold aH;refine List.filter_congr fun q hq=>?_
  rw [decide_eq_decide,← j7 (hfs.ok f hf),← j7 (hfs.ok g hg),he]
 ·intro m
  rw [List.mem_map]
  constructor
  ·intro hm
   obtain ⟨n,b,hF,hb,hw⟩:=pK hm;obtain ⟨f,hf,he⟩:=hfs.all n b hF;refine ⟨f,hf,?_⟩;obtain ⟨i,j,k,h1,h2,hi,hj,hk,ht⟩:=hF.points;have g:=fun q (hq:q ∈ aH P N n b)=>(hw (P q)).mpr (aD.mp hq).2
   have g':=fun q (hq:q ∈ aH P N n b)=>(j7 (hfs.ok f hf) (P q)).mpr (aD.mp (he ▸ hq:q ∈ aH P N f.1 f.2)).2
   refine (pl_same hm (plOf_mem (hfs.ok f hf)) hfull (fun e=>ht ?_) (g i hi) (g j hj) (g k hk) (g' i hi) (g' j hj) (g' k hk)).symm;unfold T;rw [e];simp [dot,V.zero]
  ·rintro ⟨f,hf,rfl⟩;exact plOf_mem (hfs.ok f hf)
theorem ju {α:Type} (R:α→α→Prop) (hir:∀ a,¬ R a a) (hasym:∀ a b,R a b→¬ R b a):∀ l m:List α,l.Pairwise R→m.Pairwise R→(∀ x,x ∈ l↔x ∈ m)→l=m
 | [],[],_,_,_=>rfl
 | [],y :: m,_,_,h=>absurd ((h y).mpr (List.mem_cons_self ..)) (by simp)
 | x :: l,[],_,_,h=>absurd ((h x).mp (List.mem_cons_self ..)) (by simp)
 | x :: l,y :: m,hl,hm,h=>by
  obtain ⟨l1,l2⟩:=List.pairwise_cons.mp hl;obtain ⟨m1,m2⟩:=List.pairwise_cons.mp hm;have e:x=y:=by
   rcases List.mem_cons.mp ((h x).mp (List.mem_cons_self ..)) with e | hx
   ·exact e
   ·rcases List.mem_cons.mp ((h y).mpr (List.mem_cons_self ..)) with e | hy
    ·exact e.symm
    ·exact absurd (m1 x hx) (hasym _ _ (l1 y hy))
  subst e;rw [ju R hir hasym l m l2 m2 fun z=>?_]
  constructor
  ·intro hz
   rcases List.mem_cons.mp ((h z).mp (List.mem_cons_of_mem _ hz)) with rfl | h'
   ·exact absurd (l1 _ hz) (hir _)
   ·exact h'
  ·intro hz
   rcases List.mem_cons.mp ((h z).mpr (List.mem_cons_of_mem _ hz)) with rfl | h'
   ·exact absurd (m1 _ hz) (hir _)
   ·exact h'
end Dowel
end

section
namespace Dowel
open V
variable {P : Nat → V} {N : Nat}
def ptsOn (P:Nat→V) (N:Nat) (m:Pl):List Nat:=(List.range N).filter fun q=>decide (dot m.n (P q)=m.o)
def iO (P:Nat→V) (N:Nat) (m:Pl):List Nat:=ring P (ptsOn P N m) m.n
theorem ptsOn_plOf {f:V × Nat} (hF:Face P N f.1 f.2):ptsOn P N (kP P f)=aH P N f.1 f.2:=by
 unfold ptsOn aH;refine List.filter_congr fun q _=>?_
 rw [decide_eq_decide];exact j7 hF (P q)
theorem pick_primV {n:V} (h:n≠V.zero) (a:Nat) (b:Option Nat) (i:Nat):pick P (aQ n) a b i=pick P n a b i:=by
 have hg:=eO h;have key:∀ u v,(T (aQ n) u v<0↔T n u v<0)∧(T (aQ n) u v=0↔T n u v=0):=fun u v=>by
  rw [T_primV n u v];generalize T (aQ n) u v=t;generalize cx n=g at *;have g0:(0:Int)<(g:Int):=ω;refine ⟨⟨fun h=>Int.mul_neg_of_pos_of_neg g0 h,fun h=>?_⟩,⟨fun h=>by rw [h];simp,fun h=>(Int.mul_eq_zero.mp h).resolve_left ω⟩⟩;refine Classical.byContradiction fun hc=>?_
  have:=Int.mul_nonneg (Int.le_of_lt g0) (show 0≤t by omega);omega
 unfold pick;by_cases hi:i=a
 ·rw [if_pos hi,if_pos hi]
 ·rw [if_neg hi,if_neg hi]
  cases b with
  | none=>rfl
  | some b =>
   dsimp only;simp only [(key _ _).1,(key _ _).2]
theorem nx_primV {n:V} (h:n≠V.zero) (on:List Nat):nx P on (aQ n)=nx P on n:=by
 funext a
 unfold nx;have e:pick P (aQ n) a=pick P n a:=by funext b i;exact pick_primV h a b i
 rw [e]
theorem ring_primV {n:V} (h:n≠V.zero) (on:List Nat):ring P on (aQ n)=ring P on n:=by
 unfold ring;rw [nx_primV h]
theorem ringPl_plOf {f:V × Nat} (hF:Face P N f.1 f.2):iO P N (kP P f)=ring P (aH P N f.1 f.2) f.1:=by
 unfold iO;rw [ptsOn_plOf hF];exact ring_primV hF.n0 _
theorem oD {n:V} {b c:Nat} (hF:Face P N n b) (hc:c ∈ aH P N n b):kP P (n,c)=kP P (n,b):=by
 have h:=(j7 (f:=(n,b)) hF (P c)).mpr (aD.mp hc).2;unfold kP at *;dsimp only at *;rw [h]
end Dowel
end

section
namespace Dowel
open V
def tet (i:Nat):V:=⟨if i=3 then 1 else 0,if i=2 then 1 else 0,if i=1 then 1 else 0⟩
theorem mA:bD tet 4=[⟨⟨-1,0,0⟩,0⟩,⟨⟨0,-1,0⟩,0⟩,⟨⟨0,0,-1⟩,0⟩,⟨⟨1,1,1⟩,1⟩]:=by decide +kernel
theorem tet_r0:iO tet 4 ⟨⟨-1,0,0⟩,0⟩=[0,1,2]:=by decide +kernel
theorem tet_r1:iO tet 4 ⟨⟨0,-1,0⟩,0⟩=[0,3,1]:=by decide +kernel
theorem tet_r2:iO tet 4 ⟨⟨0,0,-1⟩,0⟩=[0,2,3]:=by decide +kernel
theorem tet_r3:iO tet 4 ⟨⟨1,1,1⟩,1⟩=[1,3,2]:=by decide +kernel
end Dowel
end

section
namespace Dowel
open V
variable {P : Nat → V} {N : Nat}
theorem T_cycle (n a c z:V):T n (c - a) (z - a)=T n (a - z) (c - z):=by simp only [T,dot,cross,sub_x,sub_y,sub_z];grind
theorem fan_turn {n:V} {b:Nat} (hF:Face P N n b) (hinj:Inj P N) (hE:∀ v,v<N→Top P N v) (k:Nat) (hk:k+2<(ring P (aH P N n b) n).length) :
  (ring P (aH P N n b) n).getD 0 0 ∈ aH P N n b∧(ring P (aH P N n b) n).getD (k+1) 0 ∈ aH P N n b∧(ring P (aH P N n b) n).getD (k+2) 0 ∈ aH P N n b ∧
  0<T n (P ((ring P (aH P N n b) n).getD (k+1) 0) - P ((ring P (aH P N n b) n).getD 0 0)) (P ((ring P (aH P N n b) n).getD (k+2) 0) - P ((ring P (aH P N n b) n).getD 0 0)):=by
 obtain ⟨K,a,h1,hr,hK,hs,hd,hm⟩:=oy hF hinj hE;generalize orb (nx P (aH P N n b) n) a=o at *;rw [hr] at hk ⊢;simp only [List.length_map,List.length_range] at hk;have g:∀ i,i<K→((List.range K).map o).getD i 0=o i:=fun i hi=>by simp [hi]
 rw [g 0 ω,g (k+1) ω,g (k+2) ω];refine ⟨(hs 0).ha,(hs (k+1)).ha,(hs (k+2)).ha,?_⟩;have:=(hs (k+1)).pos (o 0) (hs 0).ha (hd 0 (k+1) ω ω) (hd 0 (k+2) ω hk);rw [T_cycle] at this;exact this
theorem det_face {n:V} {b a c d:Nat} (ha:a ∈ aH P N n b) (hc:c ∈ aH P N n b) (hd:d ∈ aH P N n b) (t:V) :
  dot n n*dot (P a - t) (cross (P c - t) (P d - t))=dot n (P a - t)*T n (P c - P a) (P d - P a):=by
 have e:dot (P a - t) (cross (P c - t) (P d - t))=dot (P a - t) (cross (P c - P a) (P d - P a)):=by simp only [dot,cross,sub_x,sub_y,sub_z];grind
 have h1:=(aD.mp ha).2;have h2:=(aD.mp hc).2;have h3:=(aD.mp hd).2;rw [e,fw n _ _ _ (by simp only [aY] at *;omega) (by simp only [aY] at *;omega),cK (P a - t) n]
def tetD (P:Nat→V) (t:Nat) (a c d:Nat):Int:=dot (P a - P t) (cross (P c - P t) (P d - P t))
theorem tet_sign {n:V} {b a c d t:Nat} (hF:Face P N n b) (ha:a ∈ aH P N n b) (hc:c ∈ aH P N n b) (hd:d ∈ aH P N n b) (ht:t<N) (hT:0<T n (P c - P a) (P d - P a)) :
  0≤tetD P t a c d∧(dot n (P t - P b)≠0→0<tetD P t a c d):=by
 have h:=det_face ha hc hd (P t);have hn:=di hF.n0;have ho:=hF.out t ht;have h1:=(aD.mp ha).2;have e:dot n (P a - P t)=- dot n (P t - P b):=by simp only [aY] at *;omega
 rw [e] at h;change dot n n*tetD P t a c d=_ at h;have key:∀ x:Int,0≤x→0≤x*T n (P c - P a) (P d - P a):=fun x hx=>Int.mul_nonneg hx ω
 constructor
 ·refine Classical.byContradiction fun hc=>?_
  have:=Int.mul_neg_of_pos_of_neg hn (show tetD P t a c d<0 by omega);have:=key (- dot n (P t - P b)) ω;omega
 ·intro hne
  have hp:=Int.mul_pos (show 0 < - dot n (P t - P b) by omega) hT;rw [← h] at hp;exact Int.pos_of_mul_pos_right hp ω
theorem sumF_le (l:List (V × Nat)) (f g:V × Nat→Int) (h:∀ x ∈ l,f x≤g x):(l.map f).sum≤(l.map g).sum:=by
 induction l with
 | nil=>exact Int.le_refl _
 | cons x l ih =>
  have:=ih fun y hy=>h y (List.mem_cons_of_mem _ hy)
  have:=h x (List.mem_cons_self ..);simp only [List.map_cons,List.sum_cons];omega
theorem mC (l:List Nat) (f:Nat→Int) (h:∀ x ∈ l,0≤f x):0≤(l.map f).sum:=by
 induction l with
 | nil=>exact Int.le_refl _
 | cons x l ih =>
  have:=ih fun y hy=>h y (List.mem_cons_of_mem _ hy)
  have:=h x (List.mem_cons_self ..);simp only [List.map_cons,List.sum_cons];omega
theorem sum_pos (l:List Nat) (f:Nat→Int) (h:∀ x ∈ l,0≤f x) (hx:∃ x ∈ l,0<f x):0<(l.map f).sum:=by
 induction l with
 | nil=>obtain ⟨x,hx,-⟩:=hx;cases hx
 | cons y l ih =>
  have h1:=h y (List.mem_cons_self ..);have h2:=mC l f fun z hz=>h z (List.mem_cons_of_mem _ hz)
  obtain ⟨x,hx,hp⟩:=hx;simp only [List.map_cons,List.sum_cons]
  rcases List.mem_cons.mp hx with rfl | hx
  ·omega
  ·have:=ih (fun z hz=>h z (List.mem_cons_of_mem _ hz)) ⟨x,hx,hp⟩
   omega
theorem sumF_pos (l:List (V × Nat)) (f:V × Nat→Int) (h:∀ x ∈ l,0≤f x) (hx:∃ x ∈ l,0<f x):0<(l.map f).sum:=by
 induction l with
 | nil=>obtain ⟨x,hx,-⟩:=hx;cases hx
 | cons y l ih =>
  have h1:=h y (List.mem_cons_self ..);have h2:0≤(l.map f).sum:=by
   have:=sumF_le l (fun _=>0) f fun z hz=>h z (List.mem_cons_of_mem _ hz)
   have e:(l.map fun _:V × Nat=>(0:Int)).sum=0:=by clear this hx h ih;induction l with | nil=>rfl | cons x l ih=>simp only [List.map_cons,List.sum_cons,ih];rfl
   omega
  obtain ⟨x,hx,hp⟩:=hx;simp only [List.map_cons,List.sum_cons]
  rcases List.mem_cons.mp hx with rfl | hx
  ·omega
  ·have:=ih (fun z hz=>h z (List.mem_cons_of_mem _ hz)) ⟨x,hx,hp⟩
   omega
theorem ring_three {n:V} {b:Nat} (hF:Face P N n b) (hinj:Inj P N) (hE:∀ v,v<N→Top P N v):3≤(ring P (aH P N n b) n).length:=by
 obtain ⟨K,a,h1,hr,hK,hs,hd,hm⟩:=oy hF hinj hE;rw [hr,List.length_map,List.length_range];have h2:K≠1:=fun e=>by subst e;exact (hs 0).ne hK.symm
 generalize orb (nx P (aH P N n b) n) a=o at *;refine Classical.byContradiction fun hc=>?_
 have e:K=2:=ω;subst e;obtain ⟨t,ht,t1,t2⟩:=Face.third hF (o 0) (o 1);obtain ⟨i,hi,rfl⟩:=hm t ht
 rcases (show i=0∨i=1 by omega) with rfl | rfl
 ·exact t1 rfl
 ·exact t2 rfl
variable {fs : List (V × Nat)}
theorem fans_pos (hfs:Polys P N fs) (hinj:Inj P N) (hfull:fG P N) (hE:∀ v,v<N→Top P N v) {t:Nat} (ht:t<N):0<fans P N fs (tetD P t):=by
 have hq:∃ q,q<N∧q≠t:=by
  obtain ⟨q,hq,hne⟩:=hfull ⟨1,0,0⟩ (by intro e;have:=congrArg V.x e;simp [V.zero] at this) t;exact ⟨q,hq,fun e=>hne (by rw [e];simp only [aY];omega)⟩
 obtain ⟨q,hq,hqt⟩:=hq;obtain ⟨n,b,hF,-,hne⟩:=((hE q hq).extr hq hinj hfull).2 t ht (Ne.symm hqt);obtain ⟨f,hf,he⟩:=hfs.all n b hF;have hnf:dot f.1 (P t - P f.2)≠0:=fun h0=>hne (aD.mp (he ▸ aD.mpr ⟨ht,h0⟩:t ∈ aH P N n b)).2
 have nn:∀ g ∈ fs,∀ k ∈ List.range ((ring P (aH P N g.1 g.2) g.1).length - 2),0≤tetD P t ((ring P (aH P N g.1 g.2) g.1).getD 0 0) ((ring P (aH P N g.1 g.2) g.1).getD (k+1) 0) ((ring P (aH P N g.1 g.2) g.1).getD (k+2) 0):=fun g hg k hk=>by
  have:=List.mem_range.mp hk;obtain ⟨h1,h2,h3,h4⟩:=fan_turn (hfs.ok g hg) hinj hE k ω;exact (tet_sign (hfs.ok g hg) h1 h2 h3 ht h4).1
 unfold fans;refine sumF_pos _ _ (fun g hg=>mC _ _ (nn g hg)) ⟨f,hf,?_⟩;have h3:=ring_three (hfs.ok f hf) hinj hE;refine sum_pos _ _ (nn f hf) ⟨0,List.mem_range.mpr ω,?_⟩;obtain ⟨h1,h2,h3,h4⟩:=fan_turn (hfs.ok f hf) hinj hE 0 ω;exact (tet_sign (hfs.ok f hf) h1 h2 h3 ht h4).2 hnf
end Dowel
end
