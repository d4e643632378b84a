/- Lemmas. -/
import Derived.Test.YtodehkjinmgflaaGreatDoorEA
import Derived.WalkKit
set_option linter.all false
set_option maxHeartbeats 0
set_option maxRecDepth 99999
namespace Go.Proofs.Υ
open Go Go.RowKit
def B:Nat:=4294967296
theorem jx:0<B:=by unfold B;omega
def val:List Nat->Nat
 | []=>0
 | d::ds=>d+B*val ds
def Dg(ds:List Nat):Prop:=∀d∈ds,d<B
theorem j3(d:Nat)(e:List Nat):val (d::e)=d+B*val e:=rfl
theorem eH(a:List Nat)(i:Nat)(h:i<a.length):a.getD i 0=a[i]:=by simp[h]
theorem iO(a:List Nat)(i:Nat)(h:a.length<=i):a.getD i 0=0:=by simp[List.getElem?_eq_none h]
theorem pK(a b:List Nat):val (a++b)=val a+B ^ a.length*val b:=by
 induction a with
 | nil=>simp[val]
 | cons d ds ih =>
  simp only[List.cons_append,j3,ih,List.length_cons,Nat.pow_succ];generalize B=b
  grind
theorem val_snoc(a:List Nat)(d:Nat):val (a++[d])=val a+B ^ a.length*d:=by
 rw[pK];simp[val]
theorem Dg.nil:Dg []:=fun _ h=>by cases h
theorem Dg.cons{d:Nat}{j:List Nat}(h:d<B)(u:Dg j):Dg (d::j):=fun x e=>by
 rcases List.mem_cons.1 e with rfl|e
 ·exact h
 ·exact u x e
theorem Dg.head{d:Nat}{e:List Nat}(h:Dg (d::e)):d<B:=h d (by simp)
theorem Dg.tail{d:Nat}{e:List Nat}(h:Dg (d::e)):Dg e:=fun x j=>h x (by simp[j])
theorem Dg.append{a b:List Nat}(ha:Dg a)(hb:Dg b):Dg (a++b):=fun x e=>by
 rcases List.mem_append.1 e with h|h
 ·exact ha x h
 ·exact hb x h
theorem Dg.take{a:List Nat}(ha:Dg a)(n:Nat):Dg (a.take n):=fun x e=>ha x (List.mem_of_mem_take e)
theorem Dg.drop{a:List Nat}(ha:Dg a)(n:Nat):Dg (a.drop n):=fun x e=>ha x (List.mem_of_mem_drop e)
theorem Dg.getD{a:List Nat}(ha:Dg a)(i:Nat):a.getD i 0<B:=by
 by_cases h:i<a.length
 ·rw[eH _ _ h];exact ha _ (List.getElem_mem h)
 ·rw[iO _ _ I];exact jx
theorem Dg.set{a:List Nat}(ha:Dg a)(i d:Nat)(h:d<B):Dg (a.set i d):=fun x j=>by
 rcases List.mem_or_eq_of_mem_set j with e|rfl
 ·exact ha x e
 ·exact h
theorem Dg.zeros(n:Nat):Dg (List.replicate n 0):=fun x e=>by
 rw[(List.mem_replicate.1 e).2];exact jx
theorem jy{e:List Nat}(h:Dg e):val e<B ^ e.length:=by
 induction e with
 | nil=>simp[val]
 | cons d e ih =>
  have j:=ih h.tail;have A:=h.head;simp only[j3,List.length_cons,Nat.pow_succ];have u:B*(val e+1)<=B*B ^ e.length:=Nat.mul_le_mul_left _ j;rw[Nat.mul_comm (B ^ _)];rw[Nat.mul_add]at u;omega
theorem su(n:Nat):val (List.replicate n 0)=0:=by
 induction n with
 | zero=>rfl
 | succ n ih=>simp[List.replicate_succ,j3,ih]
theorem pR(a:List Nat)(k:Nat)(h:k<a.length):a.take (k+1)=a.take k++[a.getD k 0]:=by
 rw[List.take_succ_eq_append_getElem h,eH _ _ h]
theorem bP(a:List Nat)(k:Nat)(h:k<a.length):val (a.take (k+1))=val (a.take k)+B ^ k*a.getD k 0:=by
 rw[pR a k h,val_snoc,List.length_take,Nat.min_eq_left I]
theorem bo(a:List Nat)(k:Nat):val (a.take (k+1))=val (a.take k)+B ^ k*a.getD k 0:=by
 by_cases h:k<a.length
 ·exact bP a k h
 ·rw[iO _ _ I,List.take_of_length_le I,List.take_of_length_le I];simp
def Nz(ds:List Nat):Prop:=ds=[]\/ds.getD (ds.length-1) 0≠0
theorem rJ:∀l:List Nat,val l=0->∀i,l.getD i 0=0:=by
 intro l
 induction l with
 | nil=>intro _ i;simp
 | cons x xs ih =>
  intro A i;rw[j3]at A;have u:=jx;have e:x=0:=I;have j:val xs=0:=by
   rcases Nat.eq_zero_or_pos (val xs)with h|h
   ·exact h
   ·have:=Nat.mul_pos u h;omega
  cases i with
  | zero=>simp[e]
  | succ i=>simpa using ih j i
theorem Nz.zero{l:List Nat}(e:Nz l)(h:val l=0):l=[]:=by
 rcases e with e|e
 ·exact e
 ·exact absurd (rJ l h _) e
theorem km{e:List Nat}(h:Nz e)(j:e≠[]):B ^ (e.length-1)<=val e:=by
 obtain⟨n,u⟩:∃n,e.length=n+1:=⟨e.length-1,by have:=List.length_pos_iff.2 j;omega⟩
 rcases h with h|h
 ·exact absurd h j
 ·have:=bP e n I
  rw[List.take_of_length_le I]at this;rw[u]at h⊢;simp only[Nat.add_sub_cancel]at h⊢;rw[this];have:B ^ n*1<=B ^ n*e.getD n 0:=Nat.mul_le_mul_left _ I;omega
theorem sR{e:List Nat}(h:Nz e){n:Nat}(E:val e<B ^ n):e.length<=n:=by
 by_cases j:e=[]
 ·subst j;simp
 ·have A:=km h j
  have u:B ^ (e.length-1)<B ^ n:=I;have C:=(Nat.pow_lt_pow_iff_right (by unfold B;omega:1<B)).1 u;omega
theorem eX{e:List Nat}(h:Nz e)(j:e≠[]):0<val e:=by
 have:=km h j;have:=Nat.pow_pos (n:=e.length-1) jx;omega
theorem nz_nil_iff{j:List Nat}(h:Nz j):j=[]↔val j=0:=by
 constructor
 ·rintro rfl;rfl
 ·intro u
  by_cases e:j=[]
  ·exact e
  ·have:=eX h e;omega
theorem pI(e:List Nat)(n:Nat)(h:∀i,n<=i->i<e.length->e.getD i 0=0):val (e.take n)=val e:=by
 suffices hk:∀k,val (e.take (n+k))=val (e.take n) by
  by_cases u:n<=e.length
  ·have:=hk (e.length-n)
   rw[show n+(e.length-n)=e.length from by omega,List.take_of_length_le ρ]at this;exact this.symm
  ·rw[List.take_of_length_le I]
 intro k
 induction k with
 | zero=>rfl
 | succ k ih =>
  rw[<-Nat.add_assoc,bo,ih];by_cases j:n+k<e.length
  ·rw[h _ I j];simp
  ·rw[iO _ _ I];simp
theorem nz_take(j:List Nat)(n:Nat)(u:n<=j.length)(h:n=0\/j.getD (n-1) 0≠0):Nz (j.take n):=by
 rcases h with rfl|h
 ·left;simp
 ·by_cases h0:n=0
  ·subst h0;left;simp
  ·right
   have e:(j.take n).length=n:=by simp;omega
   rw[e,eH _ _ (by rw[e];omega)];rw[eH _ _ I]at h
   simpa using h
def fE(a b:Nat):Int:=if a<b then -1 else if b<a then 1 else 0
def dj(a b:Int):Int:=if a<b then -1 else if b<a then 1 else 0
theorem um{a b:Nat}(h:a<b):fE a b=-1:=by unfold fE;rw[if_pos h]
theorem cmpN_gt{a b:Nat}(h:b<a):fE a b=1:=by unfold fE;rw[if_neg I,if_pos h]
theorem cmpN_eq{a b:Nat}(h:a=b):fE a b=0:=by unfold fE;rw[if_neg I,if_neg I]
theorem iR{e j:List Nat}(ha:Dg e)(hb:Nz j)(h:e.length<j.length):val e<val j:=by
 have A:=jy ha;have C:=km hb (by intro u;rw[u]at h;simp at h);have E:B ^ e.length<=B ^ (j.length-1):=Nat.pow_le_pow_right jx I;omega
theorem fd(e:List Nat)(k:Nat)(j:k<=e.length):val e=val (e.take k)+B ^ k*val (e.drop k):=by
 have:=pK (e.take k) (e.drop k);rw[List.take_append_drop]at this;rw[this,List.length_take,Nat.min_eq_left j]
theorem sA{e u:List Nat}(ha:Dg e)(G:e.length=u.length)(i:Nat)(hi:i<e.length)(F:∀j,i<j->j<e.length->e.getD j 0=u.getD j 0)(h:e.getD i 0<u.getD i 0):val e<val u:=by
 rw[fd e (i+1) I,fd u (i+1) I];have E:e.drop (i+1)=u.drop (i+1):=by
  apply List.ext_getElem
  ·simp;omega
  ·intro j A C
   simp at A C;have:=F (i+1+j) I I;rw[eH _ _ I,eH _ _ I]at this
   simpa using this
 rw[E,bP e i hi,bP u i I];have A:=jy (ha.take i);rw[List.length_take,Nat.min_eq_left I]at A;have C:B ^ i*(e.getD i 0+1)<=B ^ i*u.getD i 0:=Nat.mul_le_mul_left _ h;rw[Nat.mul_add]at C;omega
theorem eq_of_getD{e u:List Nat}(F:e.length=u.length)(E:∀j,j<e.length->e.getD j 0=u.getD j 0):e=u:=by
 apply List.ext_getElem F;intro j A C;have:=E j A
 rwa [eH _ _ A,eH _ _ C]at this
def Small(x:Int):Prop:=∃k,k<=1000000/\x.natAbs<B ^ k
theorem Small.len{x:Int}(h:Small x){e:List Nat}(j:Nz e)(A:val e=x.natAbs):e.length<=1000000:=by
 obtain⟨k,u,C⟩:=h;have:=sR j (n:=k) I;omega
theorem eR(l:List Nat)(i d:Nat)(h:i<l.length):(l.set i d).getD i 0=d:=by simp[h]
theorem take_set_ge(l:List Nat)(i k d:Nat)(h:k<=i):(l.set i d).take k=l.take k:=by
 rw[List.take_set,List.set_eq_of_length_le (by simp;omega)]
theorem cj(l:List Nat)(k d:Nat)(h:k<l.length):val ((l.set k d).take (k+1))=val (l.take k)+B ^ k*d:=by
 rw[bP _ _ (by simpa using h),take_set_ge _ _ _ _ ρ,eR _ _ _ h]
theorem kK(o x y c k s:Nat)(p:Nat)(h:o+p*c=x+y)(j:s=c+k):o+p*(s % B)+p*B*(s / B)=x+(y+p*k):=by
 have e:p*s=p*(B*(s / B)+s % B):=by rw[Nat.div_add_mod]
 rw[Nat.mul_add,<-Nat.mul_assoc]at e;have u:p*s=p*c+p*k:=by rw[j,Nat.mul_add]
 omega
theorem tE(l:List Nat)(j d:Nat)(h:j<l.length):val (l.set j d)+B ^ j*l.getD j 0=val l+B ^ j*d:=by
 rw[fd (l.set j d) (j+1) (by simp;omega),fd l (j+1) I,cj l j d h,bP l j h];have:(l.set j d).drop (j+1)=l.drop (j+1):=by rw[List.drop_set_of_lt I]
 rw[this];omega
theorem cf(l:List Nat)(i j d:Nat)(h:i≠j):(l.set i d).getD j 0=l.getD j 0:=by
 simp[h]
theorem mul_step(e v o p c x y s t:Nat)(u:Nat)(h:e+p*c=u+x*t)(A:s=c+(x*y+o))(F:v+p*o=e+p*(s % B)):v+p*B*(s / B)=u+(x*t+x*(p*y)):=by
 have j:p*s=p*(B*(s / B)+s % B):=by rw[Nat.div_add_mod]
 have C:p*s=p*c+(p*(x*y)+p*o):=by rw[A,Nat.mul_add,Nat.mul_add]
 rw[Nat.mul_add,<-Nat.mul_assoc]at j;have E:x*(p*y)=p*(x*y):=by rw[Nat.mul_left_comm]
 omega
theorem pJ(l:List Nat)(k:Nat)(h:k<l.length):val (l.drop k)=l.getD k 0+B*val (l.drop (k+1)):=by
 rw[List.drop_eq_getElem_cons h,j3,eH _ _ h]
theorem drop_set_ge(l:List Nat)(i k d:Nat)(h:i<k):(l.set i d).drop k=l.drop k:=by rw[List.drop_set_of_lt h]
theorem tF(l:List Nat)(i d:Nat)(h:i<l.length):val ((l.set i d).drop i)=d+B*val (l.drop (i+1)):=by
 rw[pJ _ _ (by simpa using h),eR _ _ _ h,drop_set_ge _ _ _ _ I]
theorem short_step(X Y D r x:Nat)(h:X=D*Y+r):x+B*X=D*((r*B+x) / D+B*Y)+(r*B+x) % D:=by
 have e:=Nat.div_add_mod (r*B+x) D;rw[h,Nat.mul_add,Nat.mul_add];have j:B*(D*Y)=D*(B*Y):=Nat.mul_left_comm _ _ _;have u:B*r=r*B:=Nat.mul_comm _ _;omega
theorem short_lt{r D x:Nat}(h:r<D)(e:x<B):(r*B+x) / D<B:=by
 rw[Nat.div_lt_iff_lt_mul I];have:(r+1)*B<=D*B:=Nat.mul_le_mul_right _ h;rw[Nat.add_mul]at this;rw[Nat.mul_comm B D];omega
theorem rK{s:Nat}(h:s<=32):2 ^ s∣B:=⟨2 ^ (32-s),by rw[<-Nat.pow_add,show s+(32-s)=32 from by omega];rfl⟩
theorem shl_mod{x s:Nat}(h:s<=32):(x*2 ^ s % B) % 2 ^ s=0:=by
 rw[Nat.mod_mod_of_dvd _ (rK h),Nat.mul_mod_left]
theorem shl_div_lt{x s:Nat}(e:x<B):x*2 ^ s / B<2 ^ s:=by
 rw[Nat.div_lt_iff_lt_mul jx,Nat.mul_comm];exact Nat.mul_lt_mul_of_pos_left e (Nat.two_pow_pos s)
theorem or_lt_B{a b:Nat}(ha:a<B)(hb:b<B):a ||| b<B:=Nat.or_lt_two_pow (n:=32) ha hb
theorem sub_step(o x y u p d e f j:Nat)(h:o+y=x+p*u)(C:d+f+u=e+B*j):(o+p*d)+(y+p*f)=(x+p*e)+p*B*j:=by
 have A:p*(d+f+u)=p*(e+B*j):=by rw[C]
 rw[Nat.mul_add,Nat.mul_add,Nat.mul_add,<-Nat.mul_assoc]at A;omega
theorem sub_end{o x y p e:Nat}(h:o+y=x+p*e)(A:o<p)(u:y<=x):o=x-y:=by
 have:e=0:=by
  rcases Nat.eq_zero_or_pos e with j|j
  ·exact j
  ·have:p*1<=p*e:=Nat.mul_le_mul_left _ j
   omega
 subst this;omega
def win(ds:List Nat)(o k:Nat):List Nat:=(ds.drop o).take k
theorem getD_drop(e:List Nat)(o k:Nat):(e.drop o).getD k 0=e.getD (o+k) 0:=by simp
theorem mi(e:List Nat)(o:Nat):val (win e o 0)=0:=by simp[win,val]
theorem eP(e:List Nat)(o k:Nat):val (win e o (k+1))=val (win e o k)+B ^ k*e.getD (o+k) 0:=by
 unfold win;rw[bo,getD_drop]
theorem win_congr(e es:List Nat)(o k:Nat)(h:∀j,j<k->e.getD (o+j) 0=es.getD (o+j) 0):val (win e o k)=val (win es o k):=by
 induction k with
 | zero=>rw[mi,mi]
 | succ k ih=>rw[eP,eP,ih (fun j u=>h j I),h k I]
theorem oe(e:List Nat)(o k j d:Nat)(h:o+k<=j):val (win (e.set j d) o k)=val (win e o k):=
 win_congr _ _ _ _ fun i hi=>cf _ _ _ _ I
theorem o4(e:List Nat)(o k d:Nat)(h:o+k<e.length):val (win (e.set (o+k) d) o (k+1))=val (win e o k)+B ^ k*d:=by
 rw[eP,oe _ _ _ _ _ ρ,eR _ _ _ h]
theorem win_lt{e:List Nat}(h:Dg e)(o k:Nat):val (win e o k)<B ^ k:=by
 have u:=jy ((h.drop o).take k);have j:((e.drop o).take k).length<=k:=List.length_take_le _ _;have A:B ^ ((e.drop o).take k).length<=B ^ k:=Nat.pow_le_pow_right jx j;unfold win;omega
theorem q_init{U V P hi u2 e R A C:Nat}(H:U=(hi*B+u2)*P+A)(L:A<P)(j:u2<B)(J:V=(e*B+R)*P+C)(u:0<e):U / V<=hi / e:=by
 rw[Nat.le_div_iff_mul_le u];have W:U / V*V<=U:=Nat.div_mul_le_self _ _;generalize U / V=Q at *;have hB:=jx;generalize B=b at *;have hP:0<P:=I;have X:Q*e*(b*P)<=Q*V:=by
  rw[J,Nat.mul_add,Nat.add_mul,Nat.mul_add];have E:Q*e*(b*P)=Q*(e*b*P):=by grind
  omega
 have Y:U<(hi+1)*(b*P):=by
  have E:(hi+1)*(b*P)=hi*b*P+b*P:=by rw[Nat.add_mul,Nat.one_mul,Nat.mul_assoc]
  have F:(u2+1)*P<=b*P:=Nat.mul_le_mul_right _ j;rw[Nat.add_mul]at H F;omega
 have G:Q*e*(b*P)<(hi+1)*(b*P):=I;have:=Nat.lt_of_mul_lt_mul_right G;omega
theorem q_less{U V P hi u2 e j u C q r:Nat}(F:U=(hi*B+u2)*P+u)(L:u<P)(G:V=(e*B+j)*P+C)(A:0<V)(H:q*e+r=hi)(J:r*B+u2<q*j):U / V<q:=by
 rw[Nat.div_lt_iff_lt_mul A];generalize B=b at *;have Q:q*V=q*e*b*P+q*j*P+q*C:=by rw[G];grind
 have R:U=q*e*b*P+(r*b+u2)*P+u:=by rw[F,<-H];grind
 have E:(r*b+u2+1)*P<=q*j*P:=Nat.mul_le_mul_right _ J;rw[Nat.add_mul (r*b+u2)]at E;omega
theorem q_most{U V P hi u2 e j E u q r:Nat}(H:U=(hi*B+u2)*P+E)(F:V=(e*B+j)*P+u)(R:u<P)(C:0<e)(A:0<V)(J:q*e+r=hi)(L:q<B)(Q:q*j<=r*B+u2):q<=U / V+1:=by
 have h0:q-1<=U / V:=by
  rw[Nat.le_div_iff_mul_le A];by_cases W:q=0
  ·subst W;simp
  generalize B=b at *;have X:q*V=q*e*b*P+q*j*P+q*u:=by rw[F];grind
  have Y:U=q*e*b*P+(r*b+u2)*P+E:=by rw[H,<-J];grind
  have h3:q*j*P<=(r*b+u2)*P:=Nat.mul_le_mul_right _ Q;have h4:q*u<=b*P:=Nat.mul_le_mul I I;have h5:b*P<=V:=by
   have G:(e*b+j)*P=e*(b*P)+j*P:=by grind
   have:1*(b*P)<=e*(b*P):=Nat.mul_le_mul_right _ C;rw[F,G];omega
  rw[Nat.sub_mul,Nat.one_mul];omega
 omega
theorem ms_step{A C old p c b q d u low e j new:Nat}(h:A+C=old+p*(c+b))(hc:c+q*d=B*j+low)(G:new+low+b=u+B*e):
 (A+p*new)+(C+p*(q*d))=(old+p*u)+p*B*(j+e):=by
 have E:p*(c+q*d)=p*(B*j+low):=by rw[hc]
 have F:p*(new+low+b)=p*(u+B*e):=by rw[G]
 rw[Nat.mul_add,Nat.mul_add]at E;rw[Nat.mul_add,Nat.mul_add,Nat.mul_add]at F;rw[Nat.mul_add]at h;rw[Nat.mul_add (p*B),Nat.mul_assoc,Nat.mul_assoc];omega
theorem win_top(e:List Nat)(o n:Nat)(j:2<=n):
 val (win e o (n+1))=((e.getD (o+n) 0*B+e.getD (o+(n-1)) 0)*B+e.getD (o+(n-2)) 0)*B ^ (n-2)+val (win e o (n-2)):=by
 obtain⟨k,rfl⟩:∃k,n=k+2:=⟨n-2,by omega⟩;rw[eP,eP,eP];simp only[Nat.add_sub_cancel,show k+2-1=k+1 from rfl];rw[Nat.pow_succ,Nat.pow_succ];generalize B=b
 grind
theorem val_top(vs:List Nat)(n:Nat)(j:2<=n)(e:vs.length=n):
 val vs=(vs.getD (n-1) 0*B+vs.getD (n-2) 0)*B ^ (n-2)+val (vs.take (n-2)):=by
 obtain⟨k,rfl⟩:∃k,n=k+2:=⟨n-2,by omega⟩;have h:=bo vs (k+1);rw[List.take_of_length_le I,bo]at h;simp only[Nat.add_sub_cancel,show k+2-1=k+1 from rfl];rw[h,Nat.pow_succ];generalize B=b
 grind
structure Guess (U V hi y1 y2 x2:Nat):Prop where
 start:U / V<=hi / y1
 step:∀ q r,q*y1+r=hi→U / V<=q→(B<=q\/r*B+x2<q*y2)→0<q/\U / V<=q - 1/\(q - 1)*y1+(r+y1)=hi
 stop:∀ q r,q*y1+r=hi→(B<=r\/(q<B/\q*y2<=r*B+x2))→q<B/\q<=U / V+1
theorem guess_of{u vs:List Nat}{o n E Y R e F hi:Nat}(hd:Dg u)(hv:Dg vs)(hn:2<=n)(hl:vs.length=n)(e0:u.getD (o+n) 0=E)(e1:u.getD (o+(n-1)) 0=Y)(e2:u.getD (o+(n-2)) 0=R)(f1:vs.getD (n-1) 0=e)(f2:vs.getD (n-2) 0=F)(hh:E*B+Y=hi)(hy:0<e)(H:val (win u o (n+1))<val vs*B):
 Guess (val (win u o (n+1))) (val vs) hi e F R:=by
 have W:=win_top u o n hn;have X:=val_top vs n hn hl;rw[e0,e1,e2,hh]at W;rw[f1,f2]at X;have L:val (win u o (n-2))<B ^ (n-2):=win_lt hd o (n-2);have ab:val (vs.take (n-2))<B ^ (n-2):=by
  have:=jy (hv.take (n-2))
  rwa [List.length_take,Nat.min_eq_left I]at this
 have ad:Y<B:=e1▸hd.getD _;have aa:R<B:=e2▸hd.getD _;have af:F<B:=f2▸hv.getD _;generalize val (win u o (n+1))=U at *;generalize val vs=V at *;generalize B ^ (n-2)=P at *;generalize val (win u o (n-2))=Ul at *;generalize val (vs.take (n-2))=Vl at *;have C:0<V:=by
  rcases Nat.eq_zero_or_pos V with h|h
  ·rw[h]at H;omega
  ·exact h
 have ac:E<=e:=by
  have hB:=jx;generalize B=b at *;have G:E*(b*b*P)<=U:=by
   have:(hi*b+R)*P=E*(b*b*P)+(Y*b+R)*P:=by rw[<-hh];grind
   omega
  have j:V*b<(e+1)*(b*b*P):=by
   have A:V<(e*b+F+1)*P:=by rw[Nat.add_mul (e*b+F)];omega
   have h4:(e*b+F+1)*P<=(e*b+b)*P:=Nat.mul_le_mul_right _ I;have h5:V*b<(e*b+b)*P*b:=Nat.mul_lt_mul_of_pos_right I hB;have h6:(e*b+b)*P*b=(e+1)*(b*b*P):=by grind
   omega
  have A:E*(b*b*P)<(e+1)*(b*b*P):=I;have:=Nat.lt_of_mul_lt_mul_right A;omega
 refine⟨q_init W L aa X hy,fun q r G j A=>?_,fun q r G j=>?_⟩
 ·have h4:U / V<q:=by
   rcases A with A|A
   ·have:U / V<B:=by rw[Nat.div_lt_iff_lt_mul C,Nat.mul_comm];exact H
    omega
   ·exact q_less W L X C G A
  generalize U / V=Q at *;refine⟨by omega,by omega,?_⟩;obtain⟨p,rfl⟩:∃p,q=p+1:=⟨q-1,by omega⟩;rw[Nat.add_sub_cancel];rw[Nat.add_mul,Nat.one_mul]at G;omega
 ·have J:q<B:=by
   rcases j with j|⟨j,_⟩
   ·have A:q*e<B*e:=by
     have h4:E*B<=e*B:=Nat.mul_le_mul_right _ ac;rw[Nat.mul_comm B e];omega
    exact Nat.lt_of_mul_lt_mul_right A
   ·exact j
  refine⟨J,q_most W X ab hy C G J ?_⟩
  rcases j with j|⟨_,j⟩
  ·have A:q*F<=B*B:=Nat.mul_le_mul I I
   have h4:B*B<=r*B:=Nat.mul_le_mul_right _ j;omega
  ·exact j
def MsI(ds vs:List Nat)(o q k c b:Nat)(ds':List Nat):Prop:=
 Dg ds'/\val (win ds' o k)+q*val (vs.take k)=val (win ds o k)+B ^ k*(c+b)/\∀j,(j<o\/o+k<=j)->ds'.getD j 0=ds.getD j 0
theorem MsI.start{e vs:List Nat}(h:Dg e)(o q:Nat):MsI e vs o q 0 0 0 e:=⟨h,by simp[mi,val],fun _ _=>rfl⟩
theorem MsI.step{A vs e:List Nat}{o q k c b:Nat}(h:MsI A vs o q k c b e)(Q:o+k<e.length)(L:k<vs.length){u d low E new C:Nat}(W:A.getD (o+k) 0=u)(J:vs.getD k 0=d)(hc:c+q*d=B*E+low)(U:new+low+b=u+B*C)(R:new<B):MsI A vs o q (k+1) E C (e.set (o+k) new):=by
 obtain⟨F,G,H⟩:=h;refine⟨F.set _ _ R,?_,fun j X=>?_⟩
 ·rw[o4 _ _ _ _ Q,bP vs k L,eP A,W,J,Nat.mul_add q,Nat.mul_left_comm,Nat.pow_succ]
  exact ms_step G hc U
 ·rw[cf _ _ _ _ I];exact H j I
theorem ms_end{A vs e:List Nat}{o q n c b j U V:Nat}(h:MsI A vs o q n c b e)(J:o+n<e.length)(hv:vs.length=n)(Q:A.getD (o+n) 0=j)(G:val (win A o (n+1))=U)(H:val vs=V)(C:0<V)(L:U / V<=q)(ht:c+b<=j):q=U / V/\val (win (e.set (o+n) (j-b-c)) o (n+1))=U % V:=by
 obtain⟨h1,F,h3⟩:=h;rw[List.take_of_length_le I,H]at F;rw[eP,Q]at G;rw[o4 _ _ _ _ J];generalize val (win e o n)=W at *;generalize val (win A o n)=R at *;generalize B ^ n=P at *;have X:P*j=P*(c+b)+P*(j-b-c):=by rw[<-Nat.mul_add];congr 1;omega
 have Y:U=q*V+(W+P*(j-b-c)):=I;have u:q=U / V:=by
  refine Nat.le_antisymm ?_ L;rw[Nat.le_div_iff_mul_le C];omega
 refine⟨u,?_⟩;have E:=Nat.div_add_mod U V;rw[<-u,Nat.mul_comm]at E;omega
def AbI(ds2 vs:List Nat)(o k c:Nat)(es:List Nat):Prop:=
 Dg es/\val (win es o k)+B ^ k*c=val (win ds2 o k)+val (vs.take k)/\∀j,(j<o\/o+k<=j)->es.getD j 0=ds2.getD j 0
theorem AbI.start{e vs:List Nat}(h:Dg e)(o:Nat):AbI e vs o 0 0 e:=⟨h,by simp[mi,val],fun _ _=>rfl⟩
theorem AbI.step{e vs es:List Nat}{o k c:Nat}(h:AbI e vs o k c es)(H:o+k<es.length)(G:k<vs.length){u d s:Nat}(L:e.getD (o+k) 0=u)(F:vs.getD k 0=d)(J:s=c+(u+d)):
 AbI e vs o (k+1) (s / B) (es.set (o+k) (s % B)):=by
 obtain⟨A,C,E⟩:=h;refine⟨A.set _ _ (Nat.mod_lt _ jx),?_,fun j Q=>?_⟩
 ·rw[o4 _ _ _ _ H,bP vs k G,eP e,L,F,Nat.pow_succ]
  have:=kK _ _ _ _ (u+d) s _ C J;rw[Nat.mul_add]at this;omega
 ·rw[cf _ _ _ _ I];exact E j I
theorem ab_end{A vs e es:List Nat}{o q n c b c3 j U V:Nat}(h:MsI A vs o q n c b e)(hv:vs.length=n)(X:Dg vs)(hx:A.getD (o+n) 0=j)(hU:val (win A o (n+1))=U)(E:val vs=V)(u:0<V)(hq:q<=U / V+1)(ht:j<c+b)(ab:c+b<=B)(h4:AbI (e.set (o+n) (j+B-b-c)) vs o n c3 es)(H:o+n<es.length):
 0<q/\q-1=U / V/\val (win (es.set (o+n) ((j+B-b-c+c3) % B)) o (n+1))=U % V:=by
 obtain⟨h1,h2,h3⟩:=h;obtain⟨k1,k2,k3⟩:=h4;have aa:V<B ^ n:=by rw[<-E,<-hv];exact jy X
 have F:=win_lt k1 o n;have hW:=win_lt h1 o n;rw[oe _ _ _ _ _ ρ,List.take_of_length_le I,E]at k2;rw[List.take_of_length_le I,E]at h2;rw[eP,hx]at hU;rw[o4 _ _ _ _ H];generalize val (win e o n)=W at *;generalize val (win A o n)=W0 at *;generalize val (win es o n)=Y at *;generalize B ^ n=P at *;obtain⟨d2,G⟩:=χ (j+B-b-c);rw[G];have e1:P*(c+b)+P*d2=P*j+P*B:=by rw[<-Nat.mul_add,<-Nat.mul_add];congr 1;omega
 have e2:P*j+P<=P*(c+b):=by have C:=Nat.mul_le_mul_left P ht;rwa [Nat.mul_succ]at C
 have J:U<q*V:=I;have L:U / V<q:=by rw[Nat.div_lt_iff_lt_mul u];exact J
 have e3:=Nat.div_add_mod U V;have hR:=Nat.mod_lt U u;obtain⟨Q,hQ⟩:=χ (U / V);rw[hQ]at e3 hq L⊢;obtain rfl:q=Q+1:=I;rw[Nat.add_mul,Nat.one_mul,Nat.mul_comm Q V]at h2;generalize U % V=R at *;have e4:P*(d2+c3)+Y=P*B+R:=by rw[Nat.mul_add];omega
 have e5:d2+c3=B:=by
  have C:(P*(d2+c3)+Y) / P=(P*B+R) / P:=by rw[e4]
  rwa [Nat.mul_add_div I,Nat.mul_add_div I,Nat.div_eq_of_lt F,Nat.div_eq_of_lt I,Nat.add_zero,Nat.add_zero]at C
 refine⟨by omega,by omega,?_⟩;rw[e5]at e4⊢;rw[Nat.mod_self];omega
theorem jz(us:List Nat)(i k:Nat):val (us.drop i)=val (win us i k)+B ^ k*val (us.drop (i+k)):=by
 unfold win;by_cases h:k<=(us.drop i).length
 ·rw[fd (us.drop i) k h,List.drop_drop]
 ·rw[List.take_of_length_le I]
  have e:us.drop (i+k)=[]:=by
   apply List.drop_eq_nil_of_le;rw[List.length_drop]at h;omega
  rw[e];simp[val]
theorem drop_congr{us e:List Nat}{i:Nat}(C:us.length=e.length)(h:∀j,i<=j->us.getD j 0=e.getD j 0):us.drop i=e.drop i:=by
 apply List.ext_getElem
 ·simp[C]
 ·intro j u A
  simp at u A;have:=h (i+j) I;rw[eH _ _ I,eH _ _ I]at this
  simpa using this
theorem take_congr{us e:List Nat}{i:Nat}(C:us.length=e.length)(h:∀j,j<i->us.getD j 0=e.getD j 0):us.take i=e.take i:=by
 apply List.ext_getElem
 ·simp[C]
 ·intro j u A
  simp at u A;have:=h j I;rw[eH _ _ I,eH _ _ I]at this
  simpa using this
def DivI(u0 V k:Nat)(us qs:List Nat):Prop:=Dg us/\Dg qs/\u0=V*val qs+val us/\val (us.drop k)<V/\∀j,j<k->qs.getD j 0=0
theorem DivI.window{u0 V i n:Nat}{us qs:List Nat}(h:DivI u0 V (i+1) us qs)(L:V<B ^ n)(E:i<us.length):
 val (us.drop (i+n+1))=0/\val (us.drop i)=val (win us i (n+1))/\val (win us i (n+1))<V*B:=by
 obtain⟨u,F,G,A,H⟩:=h;have j:=jz us (i+1) n;rw[show i+1+n=i+n+1 from by omega]at j;have z:val (us.drop (i+n+1))=0:=by
  rcases Nat.eq_zero_or_pos (val (us.drop (i+n+1)))with h|h
  ·exact h
  ·have:B ^ n*1<=B ^ n*val (us.drop (i+n+1)):=Nat.mul_le_mul_left _ h
   omega
 have e:=jz us i (n+1);rw[<-Nat.add_assoc,z,Nat.mul_zero,Nat.add_zero]at e;refine⟨z,e,?_⟩;rw[<-e,pJ us i E];have J:=u.getD i;have C:B*(val (us.drop (i+1))+1)<=B*V:=Nat.mul_le_mul_left _ A;rw[Nat.mul_add,Nat.mul_comm B V]at C;omega
theorem DivI.step{u0 V i n:Nat}{us qs e:List Nat}(h:DivI u0 V (i+1) us qs)(u:0<V)(hV:V<B ^ n)(hl:i<us.length)(hq:i<qs.length)(A:e.length=us.length)(hd:Dg e)(hw:val (win e i (n+1))=val (win us i (n+1)) % V)(Q:∀j,(j<i\/i+n<j)->e.getD j 0=us.getD j 0):DivI u0 V i e (qs.set i (val (win us i (n+1)) / V)):=by
 obtain⟨z,R,E⟩:=h.window hV hl;obtain⟨h1,X,Y,h4,J⟩:=h;have C:=jz e i (n+1);have hz:e.drop (i+(n+1))=us.drop (i+(n+1)):=drop_congr A (fun j L=>Q j I);rw[hz,<-Nat.add_assoc,z,Nat.mul_zero,Nat.add_zero,hw]at C;have hR:=Nat.mod_lt (val (win us i (n+1))) u;refine⟨hd,X.set _ _ ?_,?_,by rw[C];exact hR,fun j L=>?_⟩
 ·rw[Nat.div_lt_iff_lt_mul u,Nat.mul_comm];exact E
 ·have F:=fd us i I
  have G:=fd e i I;have ht:e.take i=us.take i:=take_congr A (fun j L=>Q j I);rw[ht,C]at G;rw[R]at F;have H:=tE qs i (val (win us i (n+1)) / V) hq;rw[J i I,Nat.mul_zero,Nat.add_zero]at H;rw[H,G,Y,F,Nat.mul_add];have U:=Nat.div_add_mod (val (win us i (n+1))) V;have W:B ^ i*val (win us i (n+1))=B ^ i*(V*(val (win us i (n+1)) / V)+val (win us i (n+1)) % V):=by rw[U]
  rw[Nat.mul_add,Nat.mul_left_comm]at W;omega
 ·rw[cf _ _ _ _ I];exact J j I
end Go.Proofs.Υ
