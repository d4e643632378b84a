/- Plain laws on lists of digits with the base 2^32 (no program in sight). Plain laws of the long division. -/
import Derived.Test.YtaibkpbklfodiaaGreatDoorPA
import Derived.WalkKit
set_option linter.all false
set_option maxHeartbeats 100000000
section
namespace Dowel
def B:Nat:=4294967296
theorem ii:0<B:=by unfold B;omega
def val:List Nat→Nat
 | []=>0
 | d :: ds=>d+B*val ds
def Dg (ds:List Nat):Prop:=∀ d ∈ ds,d<B
theorem iH (d:Nat) (ds:List Nat):val (d :: ds)=d+B*val ds:=rfl
theorem dP (a:List Nat) (i:Nat) (h:i<a.length):a.getD i 0=a[i]:=by simp [h]
theorem gL (a:List Nat) (i:Nat) (h:a.length≤i):a.getD i 0=0:=by simp [List.getElem?_eq_none h]
theorem mw (a b:List Nat):val (a ++ b)=val a+B ^ a.length*val b:=by
 induction a with
 | nil=>simp [val]
 | cons d ds ih =>
  simp only [List.cons_append,iH,ih,List.length_cons,Nat.pow_succ];generalize B=b
  grind
theorem val_snoc (a:List Nat) (d:Nat):val (a ++ [d])=val a+B ^ a.length*d:=by
 rw [mw];simp [val]
theorem Dg.nil:Dg []:=fun _ h=>by cases h
theorem Dg.cons {d:Nat} {ds:List Nat} (h:d<B) (hs:Dg ds):Dg (d :: ds):=fun x hx=>by
 rcases List.mem_cons.1 hx with rfl | hx
 ·exact h
 ·exact hs x hx
theorem Dg.head {d:Nat} {ds:List Nat} (h:Dg (d :: ds)):d<B:=h d (by simp)
theorem Dg.tail {d:Nat} {ds:List Nat} (h:Dg (d :: ds)):Dg ds:=fun x hx=>h x (by simp [hx])
theorem Dg.append {a b:List Nat} (ha:Dg a) (hb:Dg b):Dg (a ++ b):=fun x hx=>by
 rcases List.mem_append.1 hx with h | h
 ·exact ha x h
 ·exact hb x h
theorem Dg.take {a:List Nat} (ha:Dg a) (n:Nat):Dg (a.take n):=fun x hx=>ha x (List.mem_of_mem_take hx)
theorem Dg.drop {a:List Nat} (ha:Dg a) (n:Nat):Dg (a.drop n):=fun x hx=>ha x (List.mem_of_mem_drop hx)
theorem Dg.getD {a:List Nat} (ha:Dg a) (i:Nat):a.getD i 0<B:=by
 by_cases h:i<a.length
 ·rw [dP _ _ h];exact ha _ (List.getElem_mem h)
 ·rw [gL _ _ ω];exact ii
theorem Dg.set {a:List Nat} (ha:Dg a) (i d:Nat) (h:d<B):Dg (a.set i d):=fun x hx=>by
 rcases List.mem_or_eq_of_mem_set hx with h' | rfl
 ·exact ha x h'
 ·exact h
theorem Dg.zeros (n:Nat):Dg (List.replicate n 0):=fun x hx=>by
 rw [(List.mem_replicate.1 hx).2];exact ii
theorem ij {ds:List Nat} (h:Dg ds):val ds<B ^ ds.length:=by
 induction ds with
 | nil=>simp [val]
 | cons d ds ih =>
  have h1:=ih h.tail;have h2:=h.head;simp only [iH,List.length_cons,Nat.pow_succ];have h3:B*(val ds+1)≤B*B ^ ds.length:=Nat.mul_le_mul_left _ h1;rw [Nat.mul_comm (B ^ _)];rw [Nat.mul_add] at h3;omega
theorem om (n:Nat):val (List.replicate n 0)=0:=by
 induction n with
 | zero=>rfl
 | succ n ih=>simp [List.replicate_succ,iH,ih]
theorem mB (a:List Nat) (k:Nat) (h:k<a.length):a.take (k+1)=a.take k ++ [a.getD k 0]:=by
 rw [List.take_succ_eq_append_getElem h,dP _ _ h]
theorem bJ (a:List Nat) (k:Nat) (h:k<a.length):val (a.take (k+1))=val (a.take k)+B ^ k*a.getD k 0:=by
 rw [mB a k h,val_snoc,List.length_take,Nat.min_eq_left ω]
theorem aV (a:List Nat) (k:Nat):val (a.take (k+1))=val (a.take k)+B ^ k*a.getD k 0:=by
 by_cases h:k<a.length
 ·exact bJ a k h
 ·rw [gL _ _ ω,List.take_of_length_le ω,List.take_of_length_le ω];simp
def Nz (ds:List Nat):Prop:=ds=[]∨ds.getD (ds.length - 1) 0≠0
theorem nS:∀ l:List Nat,val l=0→∀ i,l.getD i 0=0:=by
 intro l
 induction l with
 | nil=>intro _ i;simp
 | cons x xs ih =>
  intro hv i;rw [iH] at hv;have hB:=ii;have h1:x=0:=ω;have h2:val xs=0:=by
   rcases Nat.eq_zero_or_pos (val xs) with h | h
   ·exact h
   ·have:=Nat.mul_pos hB h;omega
  cases i with
  | zero=>simp [h1]
  | succ i=>simpa using ih h2 i
theorem Nz.zero {l:List Nat} (hn:Nz l) (h:val l=0):l=[]:=by
 rcases hn with hn | hn
 ·exact hn
 ·exact absurd (nS l h _) hn
theorem iT {ds:List Nat} (h:Nz ds) (hne:ds≠[]):B ^ (ds.length - 1)≤val ds:=by
 obtain ⟨n,hn⟩:∃ n,ds.length=n+1:=⟨ds.length - 1,by have:=List.length_pos_iff.2 hne;omega⟩
 rcases h with h | h
 ·exact absurd h hne
 ·have:=bJ ds n ω
  rw [List.take_of_length_le ω] at this;rw [hn] at h ⊢;simp only [Nat.add_sub_cancel] at h ⊢;rw [this];have:B ^ n*1≤B ^ n*ds.getD n 0:=Nat.mul_le_mul_left _ ω;omega
theorem oG {ds:List Nat} (h:Nz ds) {n:Nat} (hv:val ds<B ^ n):ds.length≤n:=by
 by_cases hne:ds=[]
 ·subst hne;simp
 ·have h1:=iT h hne
  have h2:B ^ (ds.length - 1)<B ^ n:=ω;have h3:=(Nat.pow_lt_pow_iff_right (by unfold B;omega:1<B)).1 h2;omega
theorem eh {ds:List Nat} (h:Nz ds) (hne:ds≠[]):0<val ds:=by
 have:=iT h hne;have:=Nat.pow_pos (n:=ds.length - 1) ii;omega
theorem nz_nil_iff {ds:List Nat} (h:Nz ds):ds=[]↔val ds=0:=by
 constructor
 ·rintro rfl;rfl
 ·intro hv
  by_cases hne:ds=[]
  ·exact hne
  ·have:=eh h hne;omega
theorem mt (ds:List Nat) (n:Nat) (h:∀ i,n≤i→i<ds.length→ds.getD i 0=0):val (ds.take n)=val ds:=by
 suffices hk:∀ k,val (ds.take (n+k))=val (ds.take n) by
  by_cases hn:n≤ds.length
  ·have:=hk (ds.length - n)
   rw [show n+(ds.length - n)=ds.length from by omega,List.take_of_length_le ρ] at this;exact this.symm
  ·rw [List.take_of_length_le ω]
 intro k
 induction k with
 | zero=>rfl
 | succ k ih =>
  rw [← Nat.add_assoc,aV,ih];by_cases hl:n+k<ds.length
  ·rw [h _ ω hl];simp
  ·rw [gL _ _ ω];simp
theorem nz_take (ds:List Nat) (n:Nat) (hn:n≤ds.length) (h:n=0∨ds.getD (n - 1) 0≠0):Nz (ds.take n):=by
 rcases h with rfl | h
 ·left;simp
 ·by_cases h0:n=0
  ·subst h0;left;simp
  ·right
   have hlen:(ds.take n).length=n:=by simp;omega
   rw [hlen,dP _ _ (by rw [hlen];omega)];rw [dP _ _ ω] at h
   simpa using h
def eP (a b:Nat):Int:=if a<b then -1 else if b<a then 1 else 0
def dl (a b:Int):Int:=if a<b then -1 else if b<a then 1 else 0
theorem pZ {a b:Nat} (h:a<b):eP a b=-1:=by unfold eP;rw [if_pos h]
theorem cmpN_gt {a b:Nat} (h:b<a):eP a b=1:=by unfold eP;rw [if_neg ω,if_pos h]
theorem cmpN_eq {a b:Nat} (h:a=b):eP a b=0:=by unfold eP;rw [if_neg ω,if_neg ω]
theorem gQ {as bs:List Nat} (ha:Dg as) (hb:Nz bs) (h:as.length<bs.length):val as<val bs:=by
 have h1:=ij ha;have h2:=iT hb (by intro h';rw [h'] at h;simp at h);have h3:B ^ as.length≤B ^ (bs.length - 1):=Nat.pow_le_pow_right ii ω;omega
theorem eC (ds:List Nat) (k:Nat) (hk:k≤ds.length):val ds=val (ds.take k)+B ^ k*val (ds.drop k):=by
 have:=mw (ds.take k) (ds.drop k);rw [List.take_append_drop] at this;rw [this,List.length_take,Nat.min_eq_left hk]
theorem oo {as bs:List Nat} (ha:Dg as) (hl:as.length=bs.length) (i:Nat) (hi:i<as.length)
  (he:∀ j,i<j→j<as.length→as.getD j 0=bs.getD j 0) (h:as.getD i 0<bs.getD i 0):val as<val bs:=by
 rw [eC as (i+1) ω,eC bs (i+1) ω];have hd:as.drop (i+1)=bs.drop (i+1):=by
  apply List.ext_getElem
  ·simp;omega
  ·intro j h1 h2
   simp at h1 h2;have:=he (i+1+j) ω ω;rw [dP _ _ ω,dP _ _ ω] at this
   simpa using this
 rw [hd,bJ as i hi,bJ bs i ω];have h1:=ij (ha.take i);rw [List.length_take,Nat.min_eq_left ω] at h1;have h2:B ^ i*(as.getD i 0+1)≤B ^ i*bs.getD i 0:=Nat.mul_le_mul_left _ h;rw [Nat.mul_add] at h2;omega
theorem eq_of_getD {as bs:List Nat} (hl:as.length=bs.length) (he:∀ j,j<as.length→as.getD j 0=bs.getD j 0):as=bs:=by
 apply List.ext_getElem hl;intro j h1 h2;have:=he j h1
 rwa [dP _ _ h1,dP _ _ h2] at this
def Small (x:Int):Prop:=∃ k,k≤1000000∧x.natAbs<B ^ k
theorem Small.len {x:Int} (h:Small x) {ds:List Nat} (hn:Nz ds) (hv:val ds=x.natAbs):ds.length≤1000000:=by
 obtain ⟨k,hk,hx⟩:=h;have:=oG hn (n:=k) ω;omega
theorem dX (l:List Nat) (i d:Nat) (h:i<l.length):(l.set i d).getD i 0=d:=by simp [h]
theorem take_set_ge (l:List Nat) (i k d:Nat) (h:k≤i):(l.set i d).take k=l.take k:=by
 rw [List.take_set,List.set_eq_of_length_le (by simp;omega)]
theorem bZ (l:List Nat) (k d:Nat) (h:k<l.length):val ((l.set k d).take (k+1))=val (l.take k)+B ^ k*d:=by
 rw [bJ _ _ (by simpa using h),take_set_ge _ _ _ _ ρ,dX _ _ _ h]
theorem ja (o x y c k s:Nat) (p:Nat) (h:o+p*c=x+y) (hs:s=c+k):o+p*(s % B)+p*B*(s / B)=x+(y+p*k):=by
 have h1:p*s=p*(B*(s / B)+s % B):=by rw [Nat.div_add_mod]
 rw [Nat.mul_add,← Nat.mul_assoc] at h1;have h2:p*s=p*c+p*k:=by rw [hs,Nat.mul_add]
 omega
theorem o7 (l:List Nat) (j d:Nat) (h:j<l.length):val (l.set j d)+B ^ j*l.getD j 0=val l+B ^ j*d:=by
 rw [eC (l.set j d) (j+1) (by simp;omega),eC l (j+1) ω,bZ l j d h,bJ l j h];have:(l.set j d).drop (j+1)=l.drop (j+1):=by rw [List.drop_set_of_lt ω]
 rw [this];omega
theorem bY (l:List Nat) (i j d:Nat) (h:i≠j):(l.set i d).getD j 0=l.getD j 0:=by
 simp [h]
theorem mul_step (v' v o p c x y s t:Nat) (u:Nat) (h:v'+p*c=u+x*t) (hs:s=c+(x*y+o)) (hv:v+p*o=v'+p*(s % B)):v+p*B*(s / B)=u+(x*t+x*(p*y)):=by
 have h1:p*s=p*(B*(s / B)+s % B):=by rw [Nat.div_add_mod]
 have h2:p*s=p*c+(p*(x*y)+p*o):=by rw [hs,Nat.mul_add,Nat.mul_add]
 rw [Nat.mul_add,← Nat.mul_assoc] at h1;have h3:x*(p*y)=p*(x*y):=by rw [Nat.mul_left_comm]
 omega
theorem mu (l:List Nat) (k:Nat) (h:k<l.length):val (l.drop k)=l.getD k 0+B*val (l.drop (k+1)):=by
 rw [List.drop_eq_getElem_cons h,iH,dP _ _ h]
theorem drop_set_ge (l:List Nat) (i k d:Nat) (h:i<k):(l.set i d).drop k=l.drop k:=by rw [List.drop_set_of_lt h]
theorem o8 (l:List Nat) (i d:Nat) (h:i<l.length):val ((l.set i d).drop i)=d+B*val (l.drop (i+1)):=by
 rw [mu _ _ (by simpa using h),dX _ _ _ h,drop_set_ge _ _ _ _ ω]
theorem short_step (X Y D r x:Nat) (h:X=D*Y+r):x+B*X=D*((r*B+x) / D+B*Y)+(r*B+x) % D:=by
 have h1:=Nat.div_add_mod (r*B+x) D;rw [h,Nat.mul_add,Nat.mul_add];have h2:B*(D*Y)=D*(B*Y):=Nat.mul_left_comm _ _ _;have h3:B*r=r*B:=Nat.mul_comm _ _;omega
theorem short_lt {r D x:Nat} (h:r<D) (hx:x<B):(r*B+x) / D<B:=by
 rw [Nat.div_lt_iff_lt_mul ω];have:(r+1)*B≤D*B:=Nat.mul_le_mul_right _ h;rw [Nat.add_mul] at this;rw [Nat.mul_comm B D];omega
theorem nU {s:Nat} (h:s≤32):2 ^ s ∣ B:=⟨2 ^ (32 - s),by rw [← Nat.pow_add,show s+(32 - s)=32 from by omega];rfl⟩
theorem shl_mod {x s:Nat} (h:s≤32):(x*2 ^ s % B) % 2 ^ s=0:=by
 rw [Nat.mod_mod_of_dvd _ (nU h),Nat.mul_mod_left]
theorem shl_div_lt {x s:Nat} (hx:x<B):x*2 ^ s / B<2 ^ s:=by
 rw [Nat.div_lt_iff_lt_mul ii,Nat.mul_comm];exact Nat.mul_lt_mul_of_pos_left hx (Nat.two_pow_pos s)
theorem or_lt_B {a b:Nat} (ha:a<B) (hb:b<B):a ||| b<B:=Nat.or_lt_two_pow (n:=32) ha hb
theorem sub_step (o x y br p d e f br':Nat) (h:o+y=x+p*br) (hs:d+f+br=e+B*br'):(o+p*d)+(y+p*f)=(x+p*e)+p*B*br':=by
 have h1:p*(d+f+br)=p*(e+B*br'):=by rw [hs]
 rw [Nat.mul_add,Nat.mul_add,Nat.mul_add,← Nat.mul_assoc] at h1;omega
theorem sub_end {o x y p br:Nat} (h:o+y=x+p*br) (ho:o<p) (hxy:y≤x):o=x - y:=by
 have:br=0:=by
  rcases Nat.eq_zero_or_pos br with h' | h'
  ·exact h'
  ·have:p*1≤p*br:=Nat.mul_le_mul_left _ h'
   omega
 subst this;omega
end Dowel
end

section
namespace Dowel
def win (ds:List Nat) (o k:Nat):List Nat:=(ds.drop o).take k
theorem getD_drop (ds:List Nat) (o k:Nat):(ds.drop o).getD k 0=ds.getD (o+k) 0:=by simp
theorem jW (ds:List Nat) (o:Nat):val (win ds o 0)=0:=by simp [win,val]
theorem dV (ds:List Nat) (o k:Nat):val (win ds o (k+1))=val (win ds o k)+B ^ k*ds.getD (o+k) 0:=by
 unfold win;rw [aV,getD_drop]
theorem win_congr (ds es:List Nat) (o k:Nat) (h:∀ j,j<k→ds.getD (o+j) 0=es.getD (o+j) 0):val (win ds o k)=val (win es o k):=by
 induction k with
 | zero=>rw [jW,jW]
 | succ k ih=>rw [dV,dV,ih (fun j hj=>h j ω),h k ω]
theorem lw (ds:List Nat) (o k j d:Nat) (h:o+k≤j):val (win (ds.set j d) o k)=val (win ds o k):=
 win_congr _ _ _ _ fun i hi=>bY _ _ _ _ ω
theorem l6 (ds:List Nat) (o k d:Nat) (h:o+k<ds.length):val (win (ds.set (o+k) d) o (k+1))=val (win ds o k)+B ^ k*d:=by
 rw [dV,lw _ _ _ _ _ ρ,dX _ _ _ h]
theorem win_lt {ds:List Nat} (h:Dg ds) (o k:Nat):val (win ds o k)<B ^ k:=by
 have h1:=ij ((h.drop o).take k);have h2:((ds.drop o).take k).length≤k:=List.length_take_le _ _;have h3:B ^ ((ds.drop o).take k).length≤B ^ k:=Nat.pow_le_pow_right ii h2;unfold win;omega
theorem q_init {U V P hi u2 v1 v2 Ul Vl:Nat} (hU:U=(hi*B+u2)*P+Ul) (hul:Ul<P) (hu2:u2<B) (hV:V=(v1*B+v2)*P+Vl) (hv1:0<v1):U / V≤hi / v1:=by
 rw [Nat.le_div_iff_mul_le hv1];have h1:U / V*V≤U:=Nat.div_mul_le_self _ _;generalize U / V=Q at *;have hB:=ii;generalize B=b at *;have hP:0<P:=ω;have h2:Q*v1*(b*P)≤Q*V:=by
  rw [hV,Nat.mul_add,Nat.add_mul,Nat.mul_add];have e1:Q*v1*(b*P)=Q*(v1*b*P):=by grind
  omega
 have h3:U<(hi+1)*(b*P):=by
  have e1:(hi+1)*(b*P)=hi*b*P+b*P:=by rw [Nat.add_mul,Nat.one_mul,Nat.mul_assoc]
  have e2:(u2+1)*P≤b*P:=Nat.mul_le_mul_right _ hu2;rw [Nat.add_mul] at hU e2;omega
 have h4:Q*v1*(b*P)<(hi+1)*(b*P):=ω;have:=Nat.lt_of_mul_lt_mul_right h4;omega
theorem q_less {U V P hi u2 v1 v2 Ul Vl q r:Nat} (hU:U=(hi*B+u2)*P+Ul) (hul:Ul<P) (hV:V=(v1*B+v2)*P+Vl) (hV0:0<V)
  (hq:q*v1+r=hi) (ht:r*B+u2<q*v2):U / V<q:=by
 rw [Nat.div_lt_iff_lt_mul hV0];generalize B=b at *;have h1:q*V=q*v1*b*P+q*v2*P+q*Vl:=by rw [hV];grind
 have h2:U=q*v1*b*P+(r*b+u2)*P+Ul:=by rw [hU,← hq];grind
 have h3:(r*b+u2+1)*P≤q*v2*P:=Nat.mul_le_mul_right _ ht;rw [Nat.add_mul (r*b+u2)] at h3;omega
theorem q_most {U V P hi u2 v1 v2 Ul Vl q r:Nat} (hU:U=(hi*B+u2)*P+Ul) (hV:V=(v1*B+v2)*P+Vl) (hvl:Vl<P) (hv1:0<v1) (hV0:0<V)
  (hq:q*v1+r=hi) (hqB:q<B) (ht:q*v2≤r*B+u2):q≤U / V+1:=by
 have h0:q - 1≤U / V:=by
  rw [Nat.le_div_iff_mul_le hV0];by_cases hz:q=0
  ·subst hz;simp
  generalize B=b at *;have h1:q*V=q*v1*b*P+q*v2*P+q*Vl:=by rw [hV];grind
  have h2:U=q*v1*b*P+(r*b+u2)*P+Ul:=by rw [hU,← hq];grind
  have h3:q*v2*P≤(r*b+u2)*P:=Nat.mul_le_mul_right _ ht;have h4:q*Vl≤b*P:=Nat.mul_le_mul ω ω;have h5:b*P≤V:=by
   have e1:(v1*b+v2)*P=v1*(b*P)+v2*P:=by grind
   have:1*(b*P)≤v1*(b*P):=Nat.mul_le_mul_right _ hv1;rw [hV,e1];omega
  rw [Nat.sub_mul,Nat.one_mul];omega
 omega
theorem ms_step {n' qv old p c b q d u low b' c' new:Nat} (h:n'+qv=old+p*(c+b)) (hc:c+q*d=B*c'+low) (ht:new+low+b=u+B*b') :
  (n'+p*new)+(qv+p*(q*d))=(old+p*u)+p*B*(c'+b'):=by
 have h1:p*(c+q*d)=p*(B*c'+low):=by rw [hc]
 have h2:p*(new+low+b)=p*(u+B*b'):=by rw [ht]
 rw [Nat.mul_add,Nat.mul_add] at h1;rw [Nat.mul_add,Nat.mul_add,Nat.mul_add] at h2;rw [Nat.mul_add] at h;rw [Nat.mul_add (p*B),Nat.mul_assoc,Nat.mul_assoc];omega
theorem win_top (ds:List Nat) (o n:Nat) (hn:2≤n) :
  val (win ds o (n+1))=((ds.getD (o+n) 0*B+ds.getD (o+(n - 1)) 0)*B+ds.getD (o+(n - 2)) 0)*B ^ (n - 2)+val (win ds o (n - 2)):=by
 obtain ⟨k,rfl⟩:∃ k,n=k+2:=⟨n - 2,by omega⟩;rw [dV,dV,dV];simp only [Nat.add_sub_cancel,show k+2 - 1=k+1 from rfl];rw [Nat.pow_succ,Nat.pow_succ];generalize B=b
 grind
theorem val_top (vs:List Nat) (n:Nat) (hn:2≤n) (hl:vs.length=n) :
  val vs=(vs.getD (n - 1) 0*B+vs.getD (n - 2) 0)*B ^ (n - 2)+val (vs.take (n - 2)):=by
 obtain ⟨k,rfl⟩:∃ k,n=k+2:=⟨n - 2,by omega⟩;have h:=aV vs (k+1);rw [List.take_of_length_le ω,aV] at h;simp only [Nat.add_sub_cancel,show k+2 - 1=k+1 from rfl];rw [h,Nat.pow_succ];generalize B=b
 grind
structure Guess (U V hi y1 y2 x2:Nat):Prop where
 start:U / V≤hi / y1
 step:∀ q r,q*y1+r=hi→U / V≤q→(B≤q∨r*B+x2<q*y2)→0<q∧U / V≤q - 1∧(q - 1)*y1+(r+y1)=hi
 stop:∀ q r,q*y1+r=hi→(B≤r∨(q<B∧q*y2≤r*B+x2))→q<B∧q≤U / V+1
theorem guess_of {ds vs:List Nat} {o n x0 x1 x2 y1 y2 hi:Nat} (hd:Dg ds) (hv:Dg vs) (hn:2≤n) (hl:vs.length=n) (e0:ds.getD (o+n) 0=x0) (e1:ds.getD (o+(n - 1)) 0=x1) (e2:ds.getD (o+(n - 2)) 0=x2)
  (f1:vs.getD (n - 1) 0=y1) (f2:vs.getD (n - 2) 0=y2) (hh:x0*B+x1=hi) (hy:0<y1) (hUV:val (win ds o (n+1))<val vs*B) :
  Guess (val (win ds o (n+1))) (val vs) hi y1 y2 x2:=by
 have hU:=win_top ds o n hn;have hV:=val_top vs n hn hl;rw [e0,e1,e2,hh] at hU;rw [f1,f2] at hV;have hul:val (win ds o (n - 2))<B ^ (n - 2):=win_lt hd o (n - 2);have hvl:val (vs.take (n - 2))<B ^ (n - 2):=by
  have:=ij (hv.take (n - 2))
  rwa [List.length_take,Nat.min_eq_left ω] at this
 have bx1:x1<B:=e1 ▸ hd.getD _;have bx2:x2<B:=e2 ▸ hd.getD _;have by2:y2<B:=f2 ▸ hv.getD _;generalize val (win ds o (n+1))=U at *;generalize val vs=V at *;generalize B ^ (n - 2)=P at *;generalize val (win ds o (n - 2))=Ul at *;generalize val (vs.take (n - 2))=Vl at *;have hV0:0<V:=by
  rcases Nat.eq_zero_or_pos V with h | h
  ·rw [h] at hUV;omega
  ·exact h
 have hx0:x0≤y1:=by
  have hB:=ii;generalize B=b at *;have h1:x0*(b*b*P)≤U:=by
   have:(hi*b+x2)*P=x0*(b*b*P)+(x1*b+x2)*P:=by rw [← hh];grind
   omega
  have h2:V*b<(y1+1)*(b*b*P):=by
   have h3:V<(y1*b+y2+1)*P:=by rw [Nat.add_mul (y1*b+y2)];omega
   have h4:(y1*b+y2+1)*P≤(y1*b+b)*P:=Nat.mul_le_mul_right _ ω;have h5:V*b<(y1*b+b)*P*b:=Nat.mul_lt_mul_of_pos_right ω hB;have h6:(y1*b+b)*P*b=(y1+1)*(b*b*P):=by grind
   omega
  have h3:x0*(b*b*P)<(y1+1)*(b*b*P):=ω;have:=Nat.lt_of_mul_lt_mul_right h3;omega
 refine ⟨q_init hU hul bx2 hV hy,fun q r h1 h2 h3=>?_,fun q r h1 h2=>?_⟩
 ·have h4:U / V<q:=by
   rcases h3 with h3 | h3
   ·have:U / V<B:=by rw [Nat.div_lt_iff_lt_mul hV0,Nat.mul_comm];exact hUV
    omega
   ·exact q_less hU hul hV hV0 h1 h3
  generalize U / V=Q at *;refine ⟨by omega,by omega,?_⟩;obtain ⟨p,rfl⟩:∃ p,q=p+1:=⟨q - 1,by omega⟩;rw [Nat.add_sub_cancel];rw [Nat.add_mul,Nat.one_mul] at h1;omega
 ·have hqB:q<B:=by
   rcases h2 with h2 | ⟨h2,_⟩
   ·have h3:q*y1<B*y1:=by
     have h4:x0*B≤y1*B:=Nat.mul_le_mul_right _ hx0;rw [Nat.mul_comm B y1];omega
    exact Nat.lt_of_mul_lt_mul_right h3
   ·exact h2
  refine ⟨hqB,q_most hU hV hvl hy hV0 h1 hqB ?_⟩
  rcases h2 with h2 | ⟨_,h2⟩
  ·have h3:q*y2≤B*B:=Nat.mul_le_mul ω ω
   have h4:B*B≤r*B:=Nat.mul_le_mul_right _ h2;omega
  ·exact h2
def MsI (ds vs:List Nat) (o q k c b:Nat) (ds':List Nat):Prop:=
 Dg ds'∧val (win ds' o k)+q*val (vs.take k)=val (win ds o k)+B ^ k*(c+b)∧∀ j,(j<o∨o+k≤j)→ds'.getD j 0=ds.getD j 0
theorem MsI.start {ds vs:List Nat} (h:Dg ds) (o q:Nat):MsI ds vs o q 0 0 0 ds:=⟨h,by simp [jW,val],fun _ _=>rfl⟩
theorem MsI.step {ds vs ds':List Nat} {o q k c b:Nat} (h:MsI ds vs o q k c b ds') (hl:o+k<ds'.length) (hk:k<vs.length) {u d low c' new b':Nat} (hu:ds.getD (o+k) 0=u) (hd:vs.getD k 0=d)
  (hc:c+q*d=B*c'+low) (ht:new+low+b=u+B*b') (hn:new<B):MsI ds vs o q (k+1) c' b' (ds'.set (o+k) new):=by
 obtain ⟨h1,h2,h3⟩:=h;refine ⟨h1.set _ _ hn,?_,fun j hj=>?_⟩
 ·rw [l6 _ _ _ _ hl,bJ vs k hk,dV ds,hu,hd,Nat.mul_add q,Nat.mul_left_comm,Nat.pow_succ]
  exact ms_step h2 hc ht
 ·rw [bY _ _ _ _ ω];exact h3 j ω
theorem ms_end {ds vs ds':List Nat} {o q n c b x0 U V:Nat} (h:MsI ds vs o q n c b ds') (hl:o+n<ds'.length) (hv:vs.length=n) (hx:ds.getD (o+n) 0=x0) (hU:val (win ds o (n+1))=U) (hV:val vs=V)
  (hV0:0<V) (hq:U / V≤q) (ht:c+b≤x0):q=U / V∧val (win (ds'.set (o+n) (x0 - b - c)) o (n+1))=U % V:=by
 obtain ⟨h1,h2,h3⟩:=h;rw [List.take_of_length_le ω,hV] at h2;rw [dV,hx] at hU;rw [l6 _ _ _ _ hl];generalize val (win ds' o n)=W at *;generalize val (win ds o n)=W0 at *;generalize B ^ n=P at *;have e1:P*x0=P*(c+b)+P*(x0 - b - c):=by rw [← Nat.mul_add];congr 1;omega
 have e2:U=q*V+(W+P*(x0 - b - c)):=ω;have hq2:q=U / V:=by
  refine Nat.le_antisymm ?_ hq;rw [Nat.le_div_iff_mul_le hV0];omega
 refine ⟨hq2,?_⟩;have e3:=Nat.div_add_mod U V;rw [← hq2,Nat.mul_comm] at e3;omega
def AbI (ds2 vs:List Nat) (o k c:Nat) (es:List Nat):Prop:=
 Dg es∧val (win es o k)+B ^ k*c=val (win ds2 o k)+val (vs.take k)∧∀ j,(j<o∨o+k≤j)→es.getD j 0=ds2.getD j 0
theorem AbI.start {ds2 vs:List Nat} (h:Dg ds2) (o:Nat):AbI ds2 vs o 0 0 ds2:=⟨h,by simp [jW,val],fun _ _=>rfl⟩
theorem AbI.step {ds2 vs es:List Nat} {o k c:Nat} (h:AbI ds2 vs o k c es) (hl:o+k<es.length) (hk:k<vs.length) {u d s:Nat} (hu:ds2.getD (o+k) 0=u) (hd:vs.getD k 0=d) (hs:s=c+(u+d)) :
  AbI ds2 vs o (k+1) (s / B) (es.set (o+k) (s % B)):=by
 obtain ⟨h1,h2,h3⟩:=h;refine ⟨h1.set _ _ (Nat.mod_lt _ ii),?_,fun j hj=>?_⟩
 ·rw [l6 _ _ _ _ hl,bJ vs k hk,dV ds2,hu,hd,Nat.pow_succ]
  have:=ja _ _ _ _ (u+d) s _ h2 hs;rw [Nat.mul_add] at this;omega
 ·rw [bY _ _ _ _ ω];exact h3 j ω
theorem ab_end {ds vs ds' es:List Nat} {o q n c b c3 x0 U V:Nat} (h:MsI ds vs o q n c b ds') (hv:vs.length=n) (hvd:Dg vs) (hx:ds.getD (o+n) 0=x0) (hU:val (win ds o (n+1))=U) (hV:val vs=V)
  (hV0:0<V) (hq:q≤U / V+1) (ht:x0<c+b) (hcB:c+b≤B) (h4:AbI (ds'.set (o+n) (x0+B - b - c)) vs o n c3 es) (hle:o+n<es.length) :
  0<q∧q - 1=U / V∧val (win (es.set (o+n) ((x0+B - b - c+c3) % B)) o (n+1))=U % V:=by
 obtain ⟨h1,h2,h3⟩:=h;obtain ⟨k1,k2,k3⟩:=h4;have hVP:V<B ^ n:=by rw [← hV,← hv];exact ij hvd
 have hWE:=win_lt k1 o n;have hW:=win_lt h1 o n;rw [lw _ _ _ _ _ ρ,List.take_of_length_le ω,hV] at k2;rw [List.take_of_length_le ω,hV] at h2;rw [dV,hx] at hU;rw [l6 _ _ _ _ hle];generalize val (win ds' o n)=W at *;generalize val (win ds o n)=W0 at *;generalize val (win es o n)=WE at *;generalize B ^ n=P at *;obtain ⟨d2,hd2⟩:∃ d2,x0+B - b - c=d2:=⟨_,rfl⟩;rw [hd2];have e1:P*(c+b)+P*d2=P*x0+P*B:=by rw [← Nat.mul_add,← Nat.mul_add];congr 1;omega
 have e2:P*x0+P≤P*(c+b):=by have h5:=Nat.mul_le_mul_left P ht;rwa [Nat.mul_succ] at h5
 have hlt:U<q*V:=ω;have hq3:U / V<q:=by rw [Nat.div_lt_iff_lt_mul hV0];exact hlt
 have e3:=Nat.div_add_mod U V;have hR:=Nat.mod_lt U hV0;obtain ⟨Q,hQ⟩:∃ Q,U / V=Q:=⟨_,rfl⟩;rw [hQ] at e3 hq hq3 ⊢;obtain rfl:q=Q+1:=ω;rw [Nat.add_mul,Nat.one_mul,Nat.mul_comm Q V] at h2;generalize U % V=R at *;have e4:P*(d2+c3)+WE=P*B+R:=by rw [Nat.mul_add];omega
 have e5:d2+c3=B:=by
  have h5:(P*(d2+c3)+WE) / P=(P*B+R) / P:=by rw [e4]
  rwa [Nat.mul_add_div ω,Nat.mul_add_div ω,Nat.div_eq_of_lt hWE,Nat.div_eq_of_lt ω,Nat.add_zero,Nat.add_zero] at h5
 refine ⟨by omega,by omega,?_⟩;rw [e5] at e4 ⊢;rw [Nat.mod_self];omega
theorem ik (us:List Nat) (i k:Nat):val (us.drop i)=val (win us i k)+B ^ k*val (us.drop (i+k)):=by
 unfold win;by_cases h:k≤(us.drop i).length
 ·rw [eC (us.drop i) k h,List.drop_drop]
 ·rw [List.take_of_length_le ω]
  have h2:us.drop (i+k)=[]:=by
   apply List.drop_eq_nil_of_le;rw [List.length_drop] at h;omega
  rw [h2];simp [val]
theorem drop_congr {us ws:List Nat} {i:Nat} (hl:us.length=ws.length) (h:∀ j,i≤j→us.getD j 0=ws.getD j 0):us.drop i=ws.drop i:=by
 apply List.ext_getElem
 ·simp [hl]
 ·intro j h1 h2
  simp at h1 h2;have:=h (i+j) ω;rw [dP _ _ ω,dP _ _ ω] at this
  simpa using this
theorem take_congr {us ws:List Nat} {i:Nat} (hl:us.length=ws.length) (h:∀ j,j<i→us.getD j 0=ws.getD j 0):us.take i=ws.take i:=by
 apply List.ext_getElem
 ·simp [hl]
 ·intro j h1 h2
  simp at h1 h2;have:=h j ω;rw [dP _ _ ω,dP _ _ ω] at this
  simpa using this
def DivI (u0 V k:Nat) (us qs:List Nat):Prop:=Dg us∧Dg qs∧u0=V*val qs+val us∧val (us.drop k)<V∧∀ j,j<k→qs.getD j 0=0
theorem DivI.window {u0 V i n:Nat} {us qs:List Nat} (h:DivI u0 V (i+1) us qs) (hV:V<B ^ n) (hl:i<us.length) :
  val (us.drop (i+n+1))=0∧val (us.drop i)=val (win us i (n+1))∧val (win us i (n+1))<V*B:=by
 obtain ⟨h1,h2,h3,h4,h5⟩:=h;have e1:=ik us (i+1) n;rw [show i+1+n=i+n+1 from by omega] at e1;have z:val (us.drop (i+n+1))=0:=by
  rcases Nat.eq_zero_or_pos (val (us.drop (i+n+1))) with h | h
  ·exact h
  ·have:B ^ n*1≤B ^ n*val (us.drop (i+n+1)):=Nat.mul_le_mul_left _ h
   omega
 have e2:=ik us i (n+1);rw [← Nat.add_assoc,z,Nat.mul_zero,Nat.add_zero] at e2;refine ⟨z,e2,?_⟩;rw [← e2,mu us i hl];have h6:=h1.getD i;have h7:B*(val (us.drop (i+1))+1)≤B*V:=Nat.mul_le_mul_left _ h4;rw [Nat.mul_add,Nat.mul_comm B V] at h7;omega
theorem DivI.step {u0 V i n:Nat} {us qs us':List Nat} (h:DivI u0 V (i+1) us qs) (hV0:0<V) (hV:V<B ^ n) (hl:i<us.length) (hq:i<qs.length) (hl':us'.length=us.length) (hd:Dg us')
  (hw:val (win us' i (n+1))=val (win us i (n+1)) % V) (hs:∀ j,(j<i∨i+n<j)→us'.getD j 0=us.getD j 0):DivI u0 V i us' (qs.set i (val (win us i (n+1)) / V)):=by
 obtain ⟨z,e2,hlt⟩:=h.window hV hl;obtain ⟨h1,h2,h3,h4,h5⟩:=h;have e3:=ik us' i (n+1);have hz:us'.drop (i+(n+1))=us.drop (i+(n+1)):=drop_congr hl' (fun j hj=>hs j ω);rw [hz,← Nat.add_assoc,z,Nat.mul_zero,Nat.add_zero,hw] at e3;have hR:=Nat.mod_lt (val (win us i (n+1))) hV0;refine ⟨hd,h2.set _ _ ?_,?_,by rw [e3];exact hR,fun j hj=>?_⟩
 ·rw [Nat.div_lt_iff_lt_mul hV0,Nat.mul_comm];exact hlt
 ·have e4:=eC us i ω
  have e5:=eC us' i ω;have ht:us'.take i=us.take i:=take_congr hl' (fun j hj=>hs j ω);rw [ht,e3] at e5;rw [e2] at e4;have e6:=o7 qs i (val (win us i (n+1)) / V) hq;rw [h5 i ω,Nat.mul_zero,Nat.add_zero] at e6;rw [e6,e5,h3,e4,Nat.mul_add];have e7:=Nat.div_add_mod (val (win us i (n+1))) V;have e8:B ^ i*val (win us i (n+1))=B ^ i*(V*(val (win us i (n+1)) / V)+val (win us i (n+1)) % V):=by rw [e7]
  rw [Nat.mul_add,Nat.mul_left_comm] at e8;omega
 ·rw [bY _ _ _ _ ω];exact h5 j ω
end Dowel
end
