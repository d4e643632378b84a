/- Lemmas. -/
import Derived.Test.YtodehkjinmgflaaGreatDoorVA
import Derived.WalkKit
set_option linter.all false
set_option maxHeartbeats 0
set_option maxRecDepth 99999
namespace Go.Proofs.Υ
open Go Go.RowKit
def B:Nat:=4294967296
theorem jo:0<B:=by unfold B;omega
def val:List Nat->Nat
 | []=>0
 | d::ds=>d+B*val ds
def Dg(ds:List Nat):Prop:=∀d∈ds,d<B
theorem jS(d:Nat)(e:List Nat):val (d::e)=d+B*val e:=rfl
theorem eF(a:List Nat)(i:Nat)(h:i<a.length):a.getD i 0=a[i]:=by simp[h]
theorem iH(a:List Nat)(i:Nat)(h:a.length<=i):a.getD i 0=0:=by simp[List.getElem?_eq_none h]
theorem pg(a b:List Nat):val (a++b)=val a+B ^ a.length*val b:=by
 induction a with
 | nil=>simp[val]
 | cons d ds ih =>
  simp only[List.cons_append,jS,ih,List.length_cons,Nat.pow_succ];generalize B=b
  grind
theorem val_snoc(a:List Nat)(d:Nat):val (a++[d])=val a+B ^ a.length*d:=by
 rw[pg];simp[val]
theorem Dg.nil:Dg []:=fun _ h=>by cases h
theorem Dg.cons{d:Nat}{i:List Nat}(h:d<B)(j:Dg i):Dg (d::i):=fun x e=>by
 rcases List.mem_cons.1 e with rfl|e
 ·exact h
 ·exact j x e
theorem Dg.head{d:Nat}{e:List Nat}(h:Dg (d::e)):d<B:=h d (by simp)
theorem Dg.tail{d:Nat}{e:List Nat}(h:Dg (d::e)):Dg e:=fun x i=>h x (by simp[i])
theorem Dg.append{a b:List Nat}(ha:Dg a)(hb:Dg b):Dg (a++b):=fun x e=>by
 rcases List.mem_append.1 e with h|h
 ·exact ha x h
 ·exact hb x h
theorem Dg.take{a:List Nat}(ha:Dg a)(n:Nat):Dg (a.take n):=fun x e=>ha x (List.mem_of_mem_take e)
theorem Dg.drop{a:List Nat}(ha:Dg a)(n:Nat):Dg (a.drop n):=fun x e=>ha x (List.mem_of_mem_drop e)
theorem Dg.getD{a:List Nat}(ha:Dg a)(i:Nat):a.getD i 0<B:=by
 by_cases h:i<a.length
 ·rw[eF _ _ h];exact ha _ (List.getElem_mem h)
 ·rw[iH _ _ I];exact jo
theorem Dg.set{a:List Nat}(ha:Dg a)(i d:Nat)(h:d<B):Dg (a.set i d):=fun x j=>by
 rcases List.mem_or_eq_of_mem_set j with e|rfl
 ·exact ha x e
 ·exact h
theorem Dg.zeros(n:Nat):Dg (List.replicate n 0):=fun x e=>by
 rw[(List.mem_replicate.1 e).2];exact jo
theorem jp{e:List Nat}(h:Dg e):val e<B ^ e.length:=by
 induction e with
 | nil=>simp[val]
 | cons d e ih =>
  have i:=ih h.tail;have u:=h.head;simp only[jS,List.length_cons,Nat.pow_succ];have j:B*(val e+1)<=B*B ^ e.length:=Nat.mul_le_mul_left _ i;rw[Nat.mul_comm (B ^ _)];rw[Nat.mul_add]at j;omega
theorem rK(n:Nat):val (List.replicate n 0)=0:=by
 induction n with
 | zero=>rfl
 | succ n ih=>simp[List.replicate_succ,jS,ih]
theorem pE(a:List Nat)(k:Nat)(h:k<a.length):a.take (k+1)=a.take k++[a.getD k 0]:=by
 rw[List.take_succ_eq_append_getElem h,eF _ _ h]
theorem bO(a:List Nat)(k:Nat)(h:k<a.length):val (a.take (k+1))=val (a.take k)+B ^ k*a.getD k 0:=by
 rw[pE a k h,val_snoc,List.length_take,Nat.min_eq_left I]
theorem bh(a:List Nat)(k:Nat):val (a.take (k+1))=val (a.take k)+B ^ k*a.getD k 0:=by
 by_cases h:k<a.length
 ·exact bO a k h
 ·rw[iH _ _ I,List.take_of_length_le I,List.take_of_length_le I];simp
def Nz(ds:List Nat):Prop:=ds=[]\/ds.getD (ds.length-1) 0≠0
theorem ri:∀l:List Nat,val l=0->∀i,l.getD i 0=0:=by
 intro l
 induction l with
 | nil=>intro _ i;simp
 | cons x xs ih =>
  intro A i;rw[jS]at A;have u:=jo;have e:x=0:=I;have j:val xs=0:=by
   rcases Nat.eq_zero_or_pos (val xs)with h|h
   ·exact h
   ·have:=Nat.mul_pos u h;omega
  cases i with
  | zero=>simp[e]
  | succ i=>simpa using ih j i
theorem Nz.zero{l:List Nat}(e:Nz l)(h:val l=0):l=[]:=by
 rcases e with e|e
 ·exact e
 ·exact absurd (ri l h _) e
theorem j3{e:List Nat}(h:Nz e)(i:e≠[]):B ^ (e.length-1)<=val e:=by
 obtain⟨n,j⟩:∃n,e.length=n+1:=⟨e.length-1,by have:=List.length_pos_iff.2 i;omega⟩
 rcases h with h|h
 ·exact absurd h i
 ·have:=bO e n I
  rw[List.take_of_length_le I]at this;rw[j]at h⊢;simp only[Nat.add_sub_cancel]at h⊢;rw[this];have:B ^ n*1<=B ^ n*e.getD n 0:=Nat.mul_le_mul_left _ I;omega
theorem su{e:List Nat}(h:Nz e){n:Nat}(C:val e<B ^ n):e.length<=n:=by
 by_cases i:e=[]
 ·subst i;simp
 ·have u:=j3 h i
  have j:B ^ (e.length-1)<B ^ n:=I;have A:=(Nat.pow_lt_pow_iff_right (by unfold B;omega:1<B)).1 j;omega
theorem eW{e:List Nat}(h:Nz e)(i:e≠[]):0<val e:=by
 have:=j3 h i;have:=Nat.pow_pos (n:=e.length-1) jo;omega
theorem nz_nil_iff{i:List Nat}(h:Nz i):i=[]↔val i=0:=by
 constructor
 ·rintro rfl;rfl
 ·intro j
  by_cases e:i=[]
  ·exact e
  ·have:=eW h e;omega
theorem o9(e:List Nat)(n:Nat)(h:∀i,n<=i->i<e.length->e.getD i 0=0):val (e.take n)=val e:=by
 suffices hk:∀k,val (e.take (n+k))=val (e.take n) by
  by_cases u:n<=e.length
  ·have:=hk (e.length-n)
   rw[show n+(e.length-n)=e.length from by omega,List.take_of_length_le ρ]at this;exact this.symm
  ·rw[List.take_of_length_le I]
 intro k
 induction k with
 | zero=>rfl
 | succ k ih =>
  rw[<-Nat.add_assoc,bh,ih];by_cases j:n+k<e.length
  ·rw[h _ I j];simp
  ·rw[iH _ _ I];simp
theorem nz_take(i:List Nat)(n:Nat)(j:n<=i.length)(h:n=0\/i.getD (n-1) 0≠0):Nz (i.take n):=by
 rcases h with rfl|h
 ·left;simp
 ·by_cases h0:n=0
  ·subst h0;left;simp
  ·right
   have e:(i.take n).length=n:=by simp;omega
   rw[e,eF _ _ (by rw[e];omega)];rw[eF _ _ I]at h
   simpa using h
def fC(a b:Nat):Int:=if a<b then -1 else if b<a then 1 else 0
def dp(a b:Int):Int:=if a<b then -1 else if b<a then 1 else 0
theorem tP{a b:Nat}(h:a<b):fC a b=-1:=by unfold fC;rw[if_pos h]
theorem cmpN_gt{a b:Nat}(h:b<a):fC a b=1:=by unfold fC;rw[if_neg I,if_pos h]
theorem cmpN_eq{a b:Nat}(h:a=b):fC a b=0:=by unfold fC;rw[if_neg I,if_neg I]
theorem iK{e i:List Nat}(ha:Dg e)(hb:Nz i)(h:e.length<i.length):val e<val i:=by
 have u:=jp ha;have A:=j3 hb (by intro j;rw[j]at h;simp at h);have C:B ^ e.length<=B ^ (i.length-1):=Nat.pow_le_pow_right jo I;omega
theorem fd(e:List Nat)(k:Nat)(i:k<=e.length):val e=val (e.take k)+B ^ k*val (e.drop k):=by
 have:=pg (e.take k) (e.drop k);rw[List.take_append_drop]at this;rw[this,List.length_take,Nat.min_eq_left i]
theorem rL{e u:List Nat}(ha:Dg e)(G:e.length=u.length)(i:Nat)(hi:i<e.length)(F:∀j,i<j->j<e.length->e.getD j 0=u.getD j 0)(h:e.getD i 0<u.getD i 0):val e<val u:=by
 rw[fd e (i+1) I,fd u (i+1) I];have E:e.drop (i+1)=u.drop (i+1):=by
  apply List.ext_getElem
  ·simp;omega
  ·intro j A C
   simp at A C;have:=F (i+1+j) I I;rw[eF _ _ I,eF _ _ I]at this
   simpa using this
 rw[E,bO e i hi,bO u i I];have A:=jp (ha.take i);rw[List.length_take,Nat.min_eq_left I]at A;have C:B ^ i*(e.getD i 0+1)<=B ^ i*u.getD i 0:=Nat.mul_le_mul_left _ h;rw[Nat.mul_add]at C;omega
theorem eq_of_getD{e i:List Nat}(E:e.length=i.length)(C:∀j,j<e.length->e.getD j 0=i.getD j 0):e=i:=by
 apply List.ext_getElem E;intro j u A;have:=C j u
 rwa [eF _ _ u,eF _ _ A]at this
def Small(x:Int):Prop:=∃k,k<=1000000/\x.natAbs<B ^ k
theorem Small.len{x:Int}(h:Small x){e:List Nat}(i:Nz e)(u:val e=x.natAbs):e.length<=1000000:=by
 obtain⟨k,j,A⟩:=h;have:=su i (n:=k) I;omega
theorem eP(l:List Nat)(i d:Nat)(h:i<l.length):(l.set i d).getD i 0=d:=by simp[h]
theorem take_set_ge(l:List Nat)(i k d:Nat)(h:k<=i):(l.set i d).take k=l.take k:=by
 rw[List.take_set,List.set_eq_of_length_le (by simp;omega)]
theorem bZ(l:List Nat)(k d:Nat)(h:k<l.length):val ((l.set k d).take (k+1))=val (l.take k)+B ^ k*d:=by
 rw[bO _ _ (by simpa using h),take_set_ge _ _ _ _ ρ,eP _ _ _ h]
theorem km(o x y c k s:Nat)(p:Nat)(h:o+p*c=x+y)(i:s=c+k):o+p*(s % B)+p*B*(s / B)=x+(y+p*k):=by
 have e:p*s=p*(B*(s / B)+s % B):=by rw[Nat.div_add_mod]
 rw[Nat.mul_add,<-Nat.mul_assoc]at e;have j:p*s=p*c+p*k:=by rw[i,Nat.mul_add]
 omega
theorem ta(l:List Nat)(j d:Nat)(h:j<l.length):val (l.set j d)+B ^ j*l.getD j 0=val l+B ^ j*d:=by
 rw[fd (l.set j d) (j+1) (by simp;omega),fd l (j+1) I,bZ l j d h,bO l j h];have:(l.set j d).drop (j+1)=l.drop (j+1):=by rw[List.drop_set_of_lt I]
 rw[this];omega
theorem bY(l:List Nat)(i j d:Nat)(h:i≠j):(l.set i d).getD j 0=l.getD j 0:=by
 simp[h]
theorem mul_step(e v o p c x y s t:Nat)(u:Nat)(h:e+p*c=u+x*t)(j:s=c+(x*y+o))(E:v+p*o=e+p*(s % B)):v+p*B*(s / B)=u+(x*t+x*(p*y)):=by
 have i:p*s=p*(B*(s / B)+s % B):=by rw[Nat.div_add_mod]
 have A:p*s=p*c+(p*(x*y)+p*o):=by rw[j,Nat.mul_add,Nat.mul_add]
 rw[Nat.mul_add,<-Nat.mul_assoc]at i;have C:x*(p*y)=p*(x*y):=by rw[Nat.mul_left_comm]
 omega
theorem pd(l:List Nat)(k:Nat)(h:k<l.length):val (l.drop k)=l.getD k 0+B*val (l.drop (k+1)):=by
 rw[List.drop_eq_getElem_cons h,jS,eF _ _ h]
theorem drop_set_ge(l:List Nat)(i k d:Nat)(h:i<k):(l.set i d).drop k=l.drop k:=by rw[List.drop_set_of_lt h]
theorem tb(l:List Nat)(i d:Nat)(h:i<l.length):val ((l.set i d).drop i)=d+B*val (l.drop (i+1)):=by
 rw[pd _ _ (by simpa using h),eP _ _ _ h,drop_set_ge _ _ _ _ I]
theorem short_step(X Y D r x:Nat)(h:X=D*Y+r):x+B*X=D*((r*B+x) / D+B*Y)+(r*B+x) % D:=by
 have e:=Nat.div_add_mod (r*B+x) D;rw[h,Nat.mul_add,Nat.mul_add];have i:B*(D*Y)=D*(B*Y):=Nat.mul_left_comm _ _ _;have j:B*r=r*B:=Nat.mul_comm _ _;omega
theorem short_lt{r D x:Nat}(h:r<D)(e:x<B):(r*B+x) / D<B:=by
 rw[Nat.div_lt_iff_lt_mul I];have:(r+1)*B<=D*B:=Nat.mul_le_mul_right _ h;rw[Nat.add_mul]at this;rw[Nat.mul_comm B D];omega
theorem rj{s:Nat}(h:s<=32):2 ^ s∣B:=⟨2 ^ (32-s),by rw[<-Nat.pow_add,show s+(32-s)=32 from by omega];rfl⟩
theorem shl_mod{x s:Nat}(h:s<=32):(x*2 ^ s % B) % 2 ^ s=0:=by
 rw[Nat.mod_mod_of_dvd _ (rj h),Nat.mul_mod_left]
theorem shl_div_lt{x s:Nat}(e:x<B):x*2 ^ s / B<2 ^ s:=by
 rw[Nat.div_lt_iff_lt_mul jo,Nat.mul_comm];exact Nat.mul_lt_mul_of_pos_left e (Nat.two_pow_pos s)
theorem or_lt_B{a b:Nat}(ha:a<B)(hb:b<B):a ||| b<B:=Nat.or_lt_two_pow (n:=32) ha hb
theorem sub_step(o x y j p d e f i:Nat)(h:o+y=x+p*j)(A:d+f+j=e+B*i):(o+p*d)+(y+p*f)=(x+p*e)+p*B*i:=by
 have u:p*(d+f+j)=p*(e+B*i):=by rw[A]
 rw[Nat.mul_add,Nat.mul_add,Nat.mul_add,<-Nat.mul_assoc]at u;omega
theorem sub_end{o x y p e:Nat}(h:o+y=x+p*e)(u:o<p)(j:y<=x):o=x-y:=by
 have:e=0:=by
  rcases Nat.eq_zero_or_pos e with i|i
  ·exact i
  ·have:p*1<=p*e:=Nat.mul_le_mul_left _ i
   omega
 subst this;omega
def win(ds:List Nat)(o k:Nat):List Nat:=(ds.drop o).take k
theorem getD_drop(e:List Nat)(o k:Nat):(e.drop o).getD k 0=e.getD (o+k) 0:=by simp
theorem lW(e:List Nat)(o:Nat):val (win e o 0)=0:=by simp[win,val]
theorem eO(e:List Nat)(o k:Nat):val (win e o (k+1))=val (win e o k)+B ^ k*e.getD (o+k) 0:=by
 unfold win;rw[bh,getD_drop]
theorem win_congr(e es:List Nat)(o k:Nat)(h:∀j,j<k->e.getD (o+j) 0=es.getD (o+j) 0):val (win e o k)=val (win es o k):=by
 induction k with
 | zero=>rw[lW,lW]
 | succ k ih=>rw[eO,eO,ih (fun j i=>h j I),h k I]
theorem nN(e:List Nat)(o k j d:Nat)(h:o+k<=j):val (win (e.set j d) o k)=val (win e o k):=
 win_congr _ _ _ _ fun i hi=>bY _ _ _ _ I
theorem oL(e:List Nat)(o k d:Nat)(h:o+k<e.length):val (win (e.set (o+k) d) o (k+1))=val (win e o k)+B ^ k*d:=by
 rw[eO,nN _ _ _ _ _ ρ,eP _ _ _ h]
theorem win_lt{e:List Nat}(h:Dg e)(o k:Nat):val (win e o k)<B ^ k:=by
 have j:=jp ((h.drop o).take k);have i:((e.drop o).take k).length<=k:=List.length_take_le _ _;have u:B ^ ((e.drop o).take k).length<=B ^ k:=Nat.pow_le_pow_right jo i;unfold win;omega
theorem q_init{U V P hi u2 e L u A:Nat}(G:U=(hi*B+u2)*P+u)(J:u<P)(i:u2<B)(H:V=(e*B+L)*P+A)(j:0<e):U / V<=hi / e:=by
 rw[Nat.le_div_iff_mul_le j];have R:U / V*V<=U:=Nat.div_mul_le_self _ _;generalize U / V=Q at *;have Y:=jo;generalize B=b at *;have hP:0<P:=I;have W:Q*e*(b*P)<=Q*V:=by
  rw[H,Nat.mul_add,Nat.add_mul,Nat.mul_add];have C:Q*e*(b*P)=Q*(e*b*P):=by grind
  omega
 have X:U<(hi+1)*(b*P):=by
  have C:(hi+1)*(b*P)=hi*b*P+b*P:=by rw[Nat.add_mul,Nat.one_mul,Nat.mul_assoc]
  have E:(u2+1)*P<=b*P:=Nat.mul_le_mul_right _ i;rw[Nat.add_mul]at G E;omega
 have F:Q*e*(b*P)<(hi+1)*(b*P):=I;have:=Nat.lt_of_mul_lt_mul_right F;omega
theorem q_less{U V P hi u2 e i j A q r:Nat}(E:U=(hi*B+u2)*P+j)(J:j<P)(F:V=(e*B+i)*P+A)(u:0<V)(G:q*e+r=hi)(H:r*B+u2<q*i):U / V<q:=by
 rw[Nat.div_lt_iff_lt_mul u];generalize B=b at *;have L:q*V=q*e*b*P+q*i*P+q*A:=by rw[F];grind
 have Q:U=q*e*b*P+(r*b+u2)*P+j:=by rw[E,<-G];grind
 have C:(r*b+u2+1)*P<=q*i*P:=Nat.mul_le_mul_right _ H;rw[Nat.add_mul (r*b+u2)]at C;omega
theorem q_most{U V P hi u2 e i C j q r:Nat}(G:U=(hi*B+u2)*P+C)(E:V=(e*B+i)*P+j)(Q:j<P)(A:0<e)(u:0<V)(H:q*e+r=hi)(J:q<B)(L:q*i<=r*B+u2):q<=U / V+1:=by
 have h0:q-1<=U / V:=by
  rw[Nat.le_div_iff_mul_le u];by_cases R:q=0
  ·subst R;simp
  generalize B=b at *;have W:q*V=q*e*b*P+q*i*P+q*j:=by rw[E];grind
  have X:U=q*e*b*P+(r*b+u2)*P+C:=by rw[G,<-H];grind
  have Y:q*i*P<=(r*b+u2)*P:=Nat.mul_le_mul_right _ L;have h4:q*j<=b*P:=Nat.mul_le_mul I I;have h5:b*P<=V:=by
   have F:(e*b+i)*P=e*(b*P)+i*P:=by grind
   have:1*(b*P)<=e*(b*P):=Nat.mul_le_mul_right _ A;rw[E,F];omega
  rw[Nat.sub_mul,Nat.one_mul];omega
 omega
theorem ms_step{j A old p c b q d u low e i new:Nat}(h:j+A=old+p*(c+b))(hc:c+q*d=B*i+low)(F:new+low+b=u+B*e):
 (j+p*new)+(A+p*(q*d))=(old+p*u)+p*B*(i+e):=by
 have C:p*(c+q*d)=p*(B*i+low):=by rw[hc]
 have E:p*(new+low+b)=p*(u+B*e):=by rw[F]
 rw[Nat.mul_add,Nat.mul_add]at C;rw[Nat.mul_add,Nat.mul_add,Nat.mul_add]at E;rw[Nat.mul_add]at h;rw[Nat.mul_add (p*B),Nat.mul_assoc,Nat.mul_assoc];omega
theorem win_top(e:List Nat)(o n:Nat)(i:2<=n):
 val (win e o (n+1))=((e.getD (o+n) 0*B+e.getD (o+(n-1)) 0)*B+e.getD (o+(n-2)) 0)*B ^ (n-2)+val (win e o (n-2)):=by
 obtain⟨k,rfl⟩:∃k,n=k+2:=⟨n-2,by omega⟩;rw[eO,eO,eO];simp only[Nat.add_sub_cancel,show k+2-1=k+1 from rfl];rw[Nat.pow_succ,Nat.pow_succ];generalize B=b
 grind
theorem val_top(vs:List Nat)(n:Nat)(i:2<=n)(e:vs.length=n):
 val vs=(vs.getD (n-1) 0*B+vs.getD (n-2) 0)*B ^ (n-2)+val (vs.take (n-2)):=by
 obtain⟨k,rfl⟩:∃k,n=k+2:=⟨n-2,by omega⟩;have h:=bh vs (k+1);rw[List.take_of_length_le I,bh]at h;simp only[Nat.add_sub_cancel,show k+2-1=k+1 from rfl];rw[h,Nat.pow_succ];generalize B=b
 grind
structure Guess (U V hi y1 y2 x2:Nat):Prop where
 start:U / V<=hi / y1
 step:∀ q r,q*y1+r=hi→U / V<=q→(B<=q\/r*B+x2<q*y2)→0<q/\U / V<=q - 1/\(q - 1)*y1+(r+y1)=hi
 stop:∀ q r,q*y1+r=hi→(B<=r\/(q<B/\q*y2<=r*B+x2))→q<B/\q<=U / V+1
theorem guess_of{j vs:List Nat}{o n C X L e E hi:Nat}(hd:Dg j)(hv:Dg vs)(hn:2<=n)(hl:vs.length=n)(e0:j.getD (o+n) 0=C)(e1:j.getD (o+(n-1)) 0=X)(e2:j.getD (o+(n-2)) 0=L)(f1:vs.getD (n-1) 0=e)(f2:vs.getD (n-2) 0=E)(hh:C*B+X=hi)(hy:0<e)(G:val (win j o (n+1))<val vs*B):
 Guess (val (win j o (n+1))) (val vs) hi e E L:=by
 have R:=win_top j o n hn;have W:=val_top vs n hn hl;rw[e0,e1,e2,hh]at R;rw[f1,f2]at W;have J:val (win j o (n-2))<B ^ (n-2):=win_lt hd o (n-2);have aa:val (vs.take (n-2))<B ^ (n-2):=by
  have:=jp (hv.take (n-2))
  rwa [List.length_take,Nat.min_eq_left I]at this
 have ac:X<B:=e1▸hd.getD _;have Y:L<B:=e2▸hd.getD _;have ad:E<B:=f2▸hv.getD _;generalize val (win j o (n+1))=U at *;generalize val vs=V at *;generalize B ^ (n-2)=P at *;generalize val (win j o (n-2))=Ul at *;generalize val (vs.take (n-2))=Vl at *;have A:0<V:=by
  rcases Nat.eq_zero_or_pos V with h|h
  ·rw[h]at G;omega
  ·exact h
 have ab:C<=e:=by
  have hB:=jo;generalize B=b at *;have F:C*(b*b*P)<=U:=by
   have:(hi*b+L)*P=C*(b*b*P)+(X*b+L)*P:=by rw[<-hh];grind
   omega
  have i:V*b<(e+1)*(b*b*P):=by
   have u:V<(e*b+E+1)*P:=by rw[Nat.add_mul (e*b+E)];omega
   have h4:(e*b+E+1)*P<=(e*b+b)*P:=Nat.mul_le_mul_right _ I;have h5:V*b<(e*b+b)*P*b:=Nat.mul_lt_mul_of_pos_right I hB;have h6:(e*b+b)*P*b=(e+1)*(b*b*P):=by grind
   omega
  have u:C*(b*b*P)<(e+1)*(b*b*P):=I;have:=Nat.lt_of_mul_lt_mul_right u;omega
 refine⟨q_init R J Y W hy,fun q r F i u=>?_,fun q r F i=>?_⟩
 ·have h4:U / V<q:=by
   rcases u with u|u
   ·have:U / V<B:=by rw[Nat.div_lt_iff_lt_mul A,Nat.mul_comm];exact G
    omega
   ·exact q_less R J W A F u
  generalize U / V=Q at *;refine⟨by omega,by omega,?_⟩;obtain⟨p,rfl⟩:∃p,q=p+1:=⟨q-1,by omega⟩;rw[Nat.add_sub_cancel];rw[Nat.add_mul,Nat.one_mul]at F;omega
 ·have H:q<B:=by
   rcases i with i|⟨i,_⟩
   ·have u:q*e<B*e:=by
     have h4:C*B<=e*B:=Nat.mul_le_mul_right _ ab;rw[Nat.mul_comm B e];omega
    exact Nat.lt_of_mul_lt_mul_right u
   ·exact i
  refine⟨H,q_most R W aa hy A F H ?_⟩
  rcases i with i|⟨_,i⟩
  ·have u:q*E<=B*B:=Nat.mul_le_mul I I
   have h4:B*B<=r*B:=Nat.mul_le_mul_right _ i;omega
  ·exact i
def MsI(ds vs:List Nat)(o q k c b:Nat)(ds':List Nat):Prop:=
 Dg ds'/\val (win ds' o k)+q*val (vs.take k)=val (win ds o k)+B ^ k*(c+b)/\∀j,(j<o\/o+k<=j)->ds'.getD j 0=ds.getD j 0
theorem MsI.start{e vs:List Nat}(h:Dg e)(o q:Nat):MsI e vs o q 0 0 0 e:=⟨h,by simp[lW,val],fun _ _=>rfl⟩
theorem MsI.step{i vs e:List Nat}{o q k c b:Nat}(h:MsI i vs o q k c b e)(L:o+k<e.length)(J:k<vs.length){u d low C new A:Nat}(U:i.getD (o+k) 0=u)(H:vs.getD k 0=d)(hc:c+q*d=B*C+low)(R:new+low+b=u+B*A)(Q:new<B):MsI i vs o q (k+1) C A (e.set (o+k) new):=by
 obtain⟨E,F,G⟩:=h;refine⟨E.set _ _ Q,?_,fun j W=>?_⟩
 ·rw[oL _ _ _ _ L,bO vs k J,eO i,U,H,Nat.mul_add q,Nat.mul_left_comm,Nat.pow_succ]
  exact ms_step F hc R
 ·rw[bY _ _ _ _ I];exact G j I
theorem ms_end{u vs e:List Nat}{o q n c b i U V:Nat}(h:MsI u vs o q n c b e)(H:o+n<e.length)(hv:vs.length=n)(L:u.getD (o+n) 0=i)(F:val (win u o (n+1))=U)(G:val vs=V)(A:0<V)(J:U / V<=q)(ht:c+b<=i):q=U / V/\val (win (e.set (o+n) (i-b-c)) o (n+1))=U % V:=by
 obtain⟨Y,E,h3⟩:=h;rw[List.take_of_length_le I,G]at E;rw[eO,L]at F;rw[oL _ _ _ _ H];generalize val (win e o n)=W at *;generalize val (win u o n)=Q at *;generalize B ^ n=P at *;have R:P*i=P*(c+b)+P*(i-b-c):=by rw[<-Nat.mul_add];congr 1;omega
 have X:U=q*V+(W+P*(i-b-c)):=I;have j:q=U / V:=by
  refine Nat.le_antisymm ?_ J;rw[Nat.le_div_iff_mul_le A];omega
 refine⟨j,?_⟩;have C:=Nat.div_add_mod U V;rw[<-j,Nat.mul_comm]at C;omega
def AbI(ds2 vs:List Nat)(o k c:Nat)(es:List Nat):Prop:=
 Dg es/\val (win es o k)+B ^ k*c=val (win ds2 o k)+val (vs.take k)/\∀j,(j<o\/o+k<=j)->es.getD j 0=ds2.getD j 0
theorem AbI.start{e vs:List Nat}(h:Dg e)(o:Nat):AbI e vs o 0 0 e:=⟨h,by simp[lW,val],fun _ _=>rfl⟩
theorem AbI.step{e vs es:List Nat}{o k c:Nat}(h:AbI e vs o k c es)(G:o+k<es.length)(F:k<vs.length){u d s:Nat}(J:e.getD (o+k) 0=u)(E:vs.getD k 0=d)(H:s=c+(u+d)):
 AbI e vs o (k+1) (s / B) (es.set (o+k) (s % B)):=by
 obtain⟨i,A,C⟩:=h;refine⟨i.set _ _ (Nat.mod_lt _ jo),?_,fun j L=>?_⟩
 ·rw[oL _ _ _ _ G,bO vs k F,eO e,J,E,Nat.pow_succ]
  have:=km _ _ _ _ (u+d) s _ A H;rw[Nat.mul_add]at this;omega
 ·rw[bY _ _ _ _ I];exact C j I
theorem ab_end{u vs e es:List Nat}{o q n c b c3 i U V:Nat}(h:MsI u vs o q n c b e)(hv:vs.length=n)(L:Dg vs)(hx:u.getD (o+n) 0=i)(hU:val (win u o (n+1))=U)(C:val vs=V)(j:0<V)(hq:q<=U / V+1)(ht:i<c+b)(ab:c+b<=B)(h4:AbI (e.set (o+n) (i+B-b-c)) vs o n c3 es)(G:o+n<es.length):
 0<q/\q-1=U / V/\val (win (es.set (o+n) ((i+B-b-c+c3) % B)) o (n+1))=U % V:=by
 obtain⟨h1,h2,h3⟩:=h;obtain⟨k1,k2,k3⟩:=h4;have aa:V<B ^ n:=by rw[<-C,<-hv];exact jp L
 have E:=win_lt k1 o n;have hW:=win_lt h1 o n;rw[nN _ _ _ _ _ ρ,List.take_of_length_le I,C]at k2;rw[List.take_of_length_le I,C]at h2;rw[eO,hx]at hU;rw[oL _ _ _ _ G];generalize val (win e o n)=W at *;generalize val (win u o n)=W0 at *;generalize val (win es o n)=X at *;generalize B ^ n=P at *;obtain⟨d2,F⟩:=χ (i+B-b-c);rw[F];have e1:P*(c+b)+P*d2=P*i+P*B:=by rw[<-Nat.mul_add,<-Nat.mul_add];congr 1;omega
 have e2:P*i+P<=P*(c+b):=by have A:=Nat.mul_le_mul_left P ht;rwa [Nat.mul_succ]at A
 have H:U<q*V:=I;have J:U / V<q:=by rw[Nat.div_lt_iff_lt_mul j];exact H
 have e3:=Nat.div_add_mod U V;have hR:=Nat.mod_lt U j;obtain⟨Q,hQ⟩:=χ (U / V);rw[hQ]at e3 hq J⊢;obtain rfl:q=Q+1:=I;rw[Nat.add_mul,Nat.one_mul,Nat.mul_comm Q V]at h2;generalize U % V=R at *;have Y:P*(d2+c3)+X=P*B+R:=by rw[Nat.mul_add];omega
 have e5:d2+c3=B:=by
  have A:(P*(d2+c3)+X) / P=(P*B+R) / P:=by rw[Y]
  rwa [Nat.mul_add_div I,Nat.mul_add_div I,Nat.div_eq_of_lt E,Nat.div_eq_of_lt I,Nat.add_zero,Nat.add_zero]at A
 refine⟨by omega,by omega,?_⟩;rw[e5]at Y⊢;rw[Nat.mod_self];omega
theorem jq(us:List Nat)(i k:Nat):val (us.drop i)=val (win us i k)+B ^ k*val (us.drop (i+k)):=by
 unfold win;by_cases h:k<=(us.drop i).length
 ·rw[fd (us.drop i) k h,List.drop_drop]
 ·rw[List.take_of_length_le I]
  have e:us.drop (i+k)=[]:=by
   apply List.drop_eq_nil_of_le;rw[List.length_drop]at h;omega
  rw[e];simp[val]
theorem drop_congr{us e:List Nat}{i:Nat}(C:us.length=e.length)(h:∀j,i<=j->us.getD j 0=e.getD j 0):us.drop i=e.drop i:=by
 apply List.ext_getElem
 ·simp[C]
 ·intro j u A
  simp at u A;have:=h (i+j) I;rw[eF _ _ I,eF _ _ I]at this
  simpa using this
theorem take_congr{us e:List Nat}{i:Nat}(C:us.length=e.length)(h:∀j,j<i->us.getD j 0=e.getD j 0):us.take i=e.take i:=by
 apply List.ext_getElem
 ·simp[C]
 ·intro j u A
  simp at u A;have:=h j I;rw[eF _ _ I,eF _ _ I]at this
  simpa using this
def DivI(u0 V k:Nat)(us qs:List Nat):Prop:=Dg us/\Dg qs/\u0=V*val qs+val us/\val (us.drop k)<V/\∀j,j<k->qs.getD j 0=0
theorem DivI.window{u0 V i n:Nat}{us qs:List Nat}(h:DivI u0 V (i+1) us qs)(L:V<B ^ n)(E:i<us.length):
 val (us.drop (i+n+1))=0/\val (us.drop i)=val (win us i (n+1))/\val (win us i (n+1))<V*B:=by
 obtain⟨u,F,G,A,H⟩:=h;have j:=jq us (i+1) n;rw[show i+1+n=i+n+1 from by omega]at j;have z:val (us.drop (i+n+1))=0:=by
  rcases Nat.eq_zero_or_pos (val (us.drop (i+n+1)))with h|h
  ·exact h
  ·have:B ^ n*1<=B ^ n*val (us.drop (i+n+1)):=Nat.mul_le_mul_left _ h
   omega
 have e:=jq us i (n+1);rw[<-Nat.add_assoc,z,Nat.mul_zero,Nat.add_zero]at e;refine⟨z,e,?_⟩;rw[<-e,pd us i E];have J:=u.getD i;have C:B*(val (us.drop (i+1))+1)<=B*V:=Nat.mul_le_mul_left _ A;rw[Nat.mul_add,Nat.mul_comm B V]at C;omega
theorem DivI.step{u0 V i n:Nat}{us qs e:List Nat}(h:DivI u0 V (i+1) us qs)(u:0<V)(hV:V<B ^ n)(hl:i<us.length)(hq:i<qs.length)(A:e.length=us.length)(hd:Dg e)(hw:val (win e i (n+1))=val (win us i (n+1)) % V)(Q:∀j,(j<i\/i+n<j)->e.getD j 0=us.getD j 0):DivI u0 V i e (qs.set i (val (win us i (n+1)) / V)):=by
 obtain⟨z,R,E⟩:=h.window hV hl;obtain⟨h1,X,Y,h4,J⟩:=h;have C:=jq e i (n+1);have hz:e.drop (i+(n+1))=us.drop (i+(n+1)):=drop_congr A (fun j L=>Q j I);rw[hz,<-Nat.add_assoc,z,Nat.mul_zero,Nat.add_zero,hw]at C;have hR:=Nat.mod_lt (val (win us i (n+1))) u;refine⟨hd,X.set _ _ ?_,?_,by rw[C];exact hR,fun j L=>?_⟩
 ·rw[Nat.div_lt_iff_lt_mul u,Nat.mul_comm];exact E
 ·have F:=fd us i I
  have G:=fd e i I;have ht:e.take i=us.take i:=take_congr A (fun j L=>Q j I);rw[ht,C]at G;rw[R]at F;have H:=ta qs i (val (win us i (n+1)) / V) hq;rw[J i I,Nat.mul_zero,Nat.add_zero]at H;rw[H,G,Y,F,Nat.mul_add];have U:=Nat.div_add_mod (val (win us i (n+1))) V;have W:B ^ i*val (win us i (n+1))=B ^ i*(V*(val (win us i (n+1)) / V)+val (win us i (n+1)) % V):=by rw[U]
  rw[Nat.mul_add,Nat.mul_left_comm]at W;omega
 ·rw[bY _ _ _ _ I];exact J j I
end Go.Proofs.Υ
