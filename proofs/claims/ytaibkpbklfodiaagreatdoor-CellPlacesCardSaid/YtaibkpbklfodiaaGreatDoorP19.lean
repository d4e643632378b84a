/- Rows of one's own whose elements are records, generally; points; parts of such rows to be appended. Rows of vectors and of faces in a world. slices.SortFunc of edges. Printed by gen/edge1.py. The reference: Hull. Points sorted. -/
import Derived.Test.YtaibkpbklfodiaaGreatDoorP16
import Derived.Test.YtaibkpbklfodiaaGreatDoorP18
import Derived.Test.YtaibkpbklfodiaaGreatDoorP2
import Derived.Test.YtaibkpbklfodiaaGreatDoorP11
import Derived.Test.YtaibkpbklfodiaaGreatDoorP1
import Derived.Test.YtaibkpbklfodiaaGreatDoorP14
set_option linter.all false
set_option maxHeartbeats 100000000
section
namespace Dowel
open Go Go.RowKit
theorem ia {α:Type} (f:α→List Value) (k:Nat) (hf:∀ x,(f x).length=k) (l:List α) (i j:Nat) (x:α) (hx:l[i]?=some x) (hj:j<k):(l.flatMap f)[i*k+j]?=(f x)[j]? := by
 induction l generalizing i with
 | nil=>simp at hx
 | cons y l ih =>
  rw [List.flatMap_cons]
  cases i with
  | zero =>
   simp at hx;subst hx;rw [List.getElem?_append_left (by rw [hf];omega)];simp
  | succ i =>
   rw [List.getElem?_append_right (by rw [hf,Nat.succ_mul];omega),hf,show (i+1)*k+j - k=i*k+j by rw [Nat.succ_mul];omega];exact ih i (by simpa using hx)
section
variable {α : Type} {enc : α → List Value} {k : Nat} {t : TypeId} {w w' : World} {base : Nat} {v : Value} {l : List α}
def dE (w:World) (base:Nat) (t:TypeId) (k:Nat) (enc:α→List Value) (v:Value) (l:List α):Prop:=w.ownsRow base t k v l.length (l.flatMap enc)
theorem dE.nil (w:World) (base:Nat) (t:TypeId) (k:Nat) (enc:α→List Value):dE w base t k enc (.slice none 0 0) []:=World.ownsRow_nil _ _ _ _
theorem dE.below (h:dE w base t k enc v l) (hb:Below w.heap.size w w'):dE w' base t k enc v l:=aF h hb
theorem dE.down (h:dE w base t k enc v l) {base':Nat} (hb:base'≤base):dE w base' t k enc v l:=cj h hb
theorem dE.kept (h:dE w base t k enc v l) {row:Option Nat} (hg:w.grownBy w' row) (hne:v.ownBlock=none∨v.ownBlock≠row):dE w' base t k enc v l:=World.ownsRow.kept h hg hne
theorem dE.app {x:List α} {v':Value} {n:Nat} (hn:n=l.length+x.length) (h:w.ownsRow base t k v' n (l.flatMap enc ++ x.flatMap enc)):dE w base t k enc v' (l ++ x):=by
 unfold dE;rw [List.length_append,List.flatMap_append,← hn];exact h
theorem dE.form (h:dE w base t k enc v l):∃ a cap,v=.slice a l.length cap∧l.length≤cap∧cap≤maxLen∧((a=none∧l=[]∧cap=0)∨∃ g,a=some ⟨g,0,none⟩∧g<w.heap.size∧base≤g∧v.ownBlock=some g):=by
 obtain ⟨hl,⟨rfl,h0⟩ | ⟨g,cap,cur,rfl,hg,hh,hn,hm,hs,ht⟩⟩:=h
 ·exact ⟨none,0,by rw [h0],by omega,Nat.zero_le _,.inl ⟨rfl,List.length_eq_zero_iff.1 h0,rfl⟩⟩
 ·exact ⟨_,cap,rfl,hn,hm,.inr ⟨g,rfl,(Array.getElem?_eq_some_iff.1 hh).1,hg,rfl⟩⟩
theorem dE.at_ (hk:∀ x,(enc x).length=k) (h:dE w base t k enc v l) (i:Nat) (x:α) (hx:l[i]?=some x) :
  ∃ b cap,v=.slice (some ⟨b,0,none⟩) l.length cap∧b<w.heap.size∧l.length≤cap∧v.ownBlock=some b∧∀ j,j<k→w.cell? ⟨b,i*k+j,none⟩=(enc x)[j]? := by
 have hi:i<l.length:=(List.getElem?_eq_some_iff.1 hx).1;have hh:=h;obtain ⟨hl,⟨_,h0⟩ | ⟨g,cap,cur,rfl,hg,hhp,hn,hm,hs,ht⟩⟩:=h
 ·omega
 ·refine ⟨g,cap,rfl,(Array.getElem?_eq_some_iff.1 hhp).1,hn,rfl,fun j hj=>?_⟩
  have hlt:i*k+j<l.length*k:=Nat.lt_of_lt_of_le (Nat.add_lt_add_left hj _) (by rw [← Nat.succ_mul];exact Nat.mul_le_mul_right _ hi);have e:=World.ownsRow.cellAt hh (i*k+j) hlt;rw [e];exact ia enc k hk l i j x hx hj
theorem i6 (hk:∀ x,(enc x).length=k):∀ l:List α,(l.flatMap enc).length=l.length*k
 | []=>by simp
 | x :: l=>by rw [List.flatMap_cons,List.length_append,hk,i6 hk l,List.length_cons,Nat.succ_mul];omega
theorem oP (hk:∀ x,(enc x).length=k):∀ (l:List α) (n:Nat),(l.take n).flatMap enc=(l.flatMap enc).take (n*k)
 | [],n=>by simp
 | x :: l,0=>by simp
 | x :: l,n+1=>by
  rw [List.take_succ_cons,List.flatMap_cons,List.flatMap_cons,oP hk l n,List.take_append,hk,show (enc x).take ((n+1)*k)=enc x from List.take_of_length_le (by rw [hk,Nat.succ_mul];omega),show (n+1)*k - k=n*k by rw [Nat.succ_mul];omega]
theorem oQ (hk:∀ x,(enc x).length=k):∀ (l:List α) (n:Nat),(l.drop n).flatMap enc=(l.flatMap enc).drop (n*k)
 | [],n=>by simp
 | x :: l,0=>by simp
 | x :: l,n+1=>by
  rw [List.drop_succ_cons,List.flatMap_cons,oQ hk l n,List.drop_append,hk,show (enc x).drop ((n+1)*k)=[] from List.drop_of_length_le (by rw [hk,Nat.succ_mul];omega),show (n+1)*k - k=n*k by rw [Nat.succ_mul];omega,List.nil_append]
theorem dE.cuts (hk:∀ x,(enc x).length=k) (h:dE w base t k enc v l) (n:Nat) (hn:n≤l.length) :
  ∃ a cap,v=.slice a l.length cap∧l.length≤cap∧iA w k a n ((l.take n).flatMap enc) ∧
   ((cap=n∧iA w k a (l.length - n) ((l.drop n).flatMap enc))∨(cap≠n∧∃ g,a=some ⟨g,0,none⟩∧iA w k (some ⟨g,n*k,none⟩) (l.length - n) ((l.drop n).flatMap enc))):=by
 have hh:=h;obtain ⟨hl,⟨rfl,h0⟩ | ⟨g,cap,cur,rfl,hg,hhp,hcn,hm,hs,ht⟩⟩:=h
 ·have e:l=[]:=List.length_eq_zero_iff.1 h0
  subst e;have e:n=0:=by simpa using hn
  subst e;exact ⟨none,0,rfl,by simp,⟨by simp,.inl ⟨rfl,rfl⟩⟩,.inl ⟨rfl,⟨by simp,.inl ⟨rfl,rfl⟩⟩⟩⟩
 ·have hc:∀ j,j<l.length*k→w.cell? ⟨g,j,none⟩=(l.flatMap enc)[j]? := fun j hj=>World.ownsRow.cellAt hh j hj
  have hnk:n*k≤l.length*k:=Nat.mul_le_mul_right _ hn;refine ⟨_,cap,rfl,hcn,?_,?_⟩
  ·refine iA.some (by rw [i6 hk,List.length_take,Nat.min_eq_left hn]) fun j hj=>?_
   rw [i6 hk,List.length_take,Nat.min_eq_left hn] at hj;rw [oP hk,List.getElem?_take_of_lt hj,Nat.zero_add];exact hc j ω
  ·by_cases e:cap=n
   ·refine .inl ⟨e,?_⟩
    have e1:l.length=n:=ω;rw [e1,Nat.sub_self,← e1,List.drop_length];exact iA.some (by simp) fun j hj=>by simp at hj
   ·refine .inr ⟨e,g,rfl,iA.some (by rw [i6 hk,List.length_drop]) fun j hj=>?_⟩
    rw [i6 hk,List.length_drop,Nat.sub_mul] at hj;rw [oQ hk,List.getElem?_drop];exact hc _ ω
theorem dE.ins {n j:Nat} {x:α} {X:List Value} (hj:j≤l.length) (hn:n=l.length+1) (h:w.ownsRow base t k v n X) (hX:X=(l.take j).flatMap enc ++ (enc x ++ (l.drop j).flatMap enc)):dE w base t k enc v (l.take j ++ x :: l.drop j):=by
 unfold dE;rw [show (l.take j ++ x :: l.drop j).length=n by rw [List.length_append,List.length_cons,List.length_take,List.length_drop];omega,show (l.take j ++ x :: l.drop j).flatMap enc=X by rw [hX,List.flatMap_append,List.flatMap_cons]];exact h
theorem iA.below {size m:Nat} {a:Option Addr} {news:List Value} (h:iA w size a m news) (hb:Below w.heap.size w w'):iA w' size a m news:=
 ⟨h.1,h.2.imp id fun ⟨ad,e,hc⟩=>⟨ad,e,fun j u hu=>(hb.cell (World.block_lt_of_cell? w _ (hc j u hu))).trans (hc j u hu)⟩⟩
end
def v3 (p:V):List Value:=[.int .i64 p.x,.int .i64 p.y,.int .i64 p.z]
theorem o9 (p:V):(v3 p).length=3:=rfl
abbrev jU (w:World) (base:Nat) (v:Value) (l:List V):Prop:=dE w base 46 3 v3 v l
theorem getD_some {α:Type} {l:List α} {i:Nat} (d:α) (h:i<l.length):l[i]?=some (l.getD i d):=by simp [h]
theorem jU.pts {w:World} {base:Nat} {v:Value} {l:List V} (h:jU w base v l):∃ a cap,v=.slice a l.length cap∧Pts w a l.length cap (ofL l):=by
 obtain ⟨a,cap,hv,hc,-,hf⟩:=h.form;refine ⟨a,cap,hv,hc,fun e=>?_,fun x hx=>?_⟩
 ·rcases hf with ⟨_,_,h⟩ | ⟨g,e',_⟩
  ·exact h
  ·rw [e] at e';cases e'
 ·rcases hf with ⟨e,_⟩ | ⟨g,e,hg,_,hb⟩
  ·rw [e] at hx;cases hx
  ·rw [e] at hx;cases hx
   refine ⟨rfl,hg,fun i hi=>?_⟩;obtain ⟨b,cap',h1,_,_,hb2,hcell⟩:=h.at_ o9 i _ (getD_some V.zero hi);rw [hb] at hb2;cases hb2;refine ⟨?_,?_,?_⟩
   ·have:=hcell 0 ω;rw [Nat.zero_add];exact this
   ·have:=hcell 1 ω;rw [Nat.zero_add];exact this
   ·have:=hcell 2 ω;rw [Nat.zero_add];exact this
end Dowel
end

section
namespace Dowel
open Go Go.RowKit
theorem gY {w:World} {base e k:Nat} {v:Value} {n:Nat} {xs:List Value} (h:w.ownsRow base e k v n xs) (g:Nat) (hg:v.ownBlock=some g):∃ cs,w.heap[g]?=some (.cells cs e (0,0)):=by
 obtain ⟨_,⟨rfl,_⟩ | ⟨g',cap,cur,rfl,_,hh,_⟩⟩:=h
 ·cases hg
 ·cases hg;exact ⟨cur,hh⟩
def nP (w:World) (row:Option Nat):Prop:=∀ g,row=some g→∃ cs t,w.heap[g]?=some (.cells cs t (0,0))∧t≠191
theorem kR {w:World} {base e k:Nat} {v:Value} {n:Nat} {xs:List Value} (h:w.ownsRow base e k v n xs) (he:e≠191):nP w v.ownBlock:=fun g hg=>by
 obtain ⟨cs,hc⟩:=gY h g hg;exact ⟨cs,e,hc,he⟩
theorem am.grown {w w':World} {v:Value} {q:Rat} (h:am w v q) {row:Option Nat} (hg:w.grownBy w' row) (hr:nP w row):am w' v q:=by
 obtain ⟨s1,a1,n1,c1,s2,a2,n2,c2,d,h1,h2,h3,h4⟩:=h;exact ⟨s1,a1,n1,c1,s2,a2,n2,c2,d,h1,h2.grown hg hr,h3.grown hg hr,h4⟩
theorem aA.grown {w w':World} {v:Value} {q:Q3} (h:aA w v q) {row:Option Nat} (hg:w.grownBy w' row) (hr:nP w row):aA w' v q:=by
 obtain ⟨r0,r1,r2,h1,h2,h3,h4⟩:=h;exact ⟨r0,r1,r2,h1,h2.grown hg hr,h3.grown hg hr,h4.grown hg hr⟩
theorem bS (w:World) (g i:Nat) (v:Value):w.grownBy (w.setCell ⟨g,i,none⟩ v) (some g):=
 ⟨rfl,rfl,rfl,by simp,fun k _ hk=>heap_setCell_other _ _ _ _ (fun e=>hk (by rw [e]))⟩
theorem dR {w:World} {g:Nat} {cs:Array Value} {t:TypeId} (h:Box w g cs t) (ht:t≠191):nP w (some g):=fun g' hg=>by cases hg;exact ⟨cs,t,h,ht⟩
def bO (r:RC × RC × RC):List Value:=(ah r.1 r.2.1 r.2.2).toList
theorem vec12_len (r:RC × RC × RC):(bO r).length=12:=rfl
structure VRow (w:World) (base:Nat) (v:Value) (qs:List Q3) (rs:List (RC × RC × RC)):Prop where
 own:w.ownsRow base 58 12 v rs.length (rs.flatMap bO)
 len:rs.length=qs.length
 vec:∀ (i:Nat) (r:RC × RC × RC) (q:Q3),rs[i]?=some r→qs[i]?=some q→aA w (.agg (ah r.1 r.2.1 r.2.2)) q
theorem VRow.below {w w':World} {base:Nat} {v:Value} {qs:List Q3} {rs:List (RC × RC × RC)} (h:VRow w base v qs rs) (hb:Below w.heap.size w w'):VRow w' base v qs rs:=
 ⟨aF h.own hb,h.len,fun i r q h1 h2=>(h.vec i r q h1 h2).below hb⟩
theorem VRow.nil (w:World) (base:Nat):VRow w base (.slice none 0 0) [] []:=⟨World.ownsRow_nil _ _ _ _,rfl,fun i r q h=>by simp at h⟩
theorem VRow.other {w w':World} {base:Nat} {v:Value} {qs:List Q3} {rs:List (RC × RC × RC)} (h:VRow w base v qs rs) {row:Option Nat} (hg:w.grownBy w' row) (hr:nP w row) (hne:v.ownBlock=none∨v.ownBlock≠row):VRow w' base v qs rs:=
 ⟨World.ownsRow.kept h.own hg hne,h.len,fun i r q h1 h2=>(h.vec i r q h1 h2).grown hg hr⟩
theorem VRow.set {w:World} {base:Nat} {v:Value} {qs:List Q3} {rs:List (RC × RC × RC)} (h:VRow w base v qs rs) {g:Nat} {cs:Array Value} {t:TypeId} (hb:Box w g cs t) (ht:t≠191) (ht2:58≠t) (i:Nat) (u:Value):VRow (w.setCell ⟨g,i,none⟩ u) base v qs rs:=
 h.other (bS w g i u) (dR hb ht) (.inr (fun e=>aW h.own hb ht2 e.symm))
theorem VRow.app {w w':World} {base:Nat} {v v':Value} {qs:List Q3} {rs:List (RC × RC × RC)} (h:VRow w base v qs rs) {r:RC × RC × RC} {q:Q3} (hq:aA w (.agg (ah r.1 r.2.1 r.2.2)) q)
  (hown:w'.ownsRow base 58 12 v' (rs.length+1) (rs.flatMap bO ++ bO r)) (hg:w.grownBy w' v.ownBlock):VRow w' base v' (qs ++ [q]) (rs ++ [r]):=by
 have hr:=kR h.own ν;refine ⟨by rw [List.length_append,List.flatMap_append];simpa using hown,by simp [h.len],fun i r' q' h1 h2=>?_⟩;by_cases hi:i<rs.length
 ·rw [List.getElem?_append_left hi] at h1
  rw [List.getElem?_append_left (by rw [← h.len];exact hi)] at h2;exact (h.vec i r' q' h1 h2).grown hg hr
 ·by_cases e:i=rs.length
  ·subst e
   rw [List.getElem?_append_right ρ,Nat.sub_self] at h1;rw [List.getElem?_append_right (by rw [h.len];exact Nat.le_refl _),h.len,Nat.sub_self] at h2;simp at h1 h2;subst h1;subst h2;exact hq.grown hg hr
  ·rw [List.getElem?_eq_none (by simp;omega)] at h1;cases h1
theorem VRow.at_ {w:World} {base:Nat} {v:Value} {qs:List Q3} {rs:List (RC × RC × RC)} (h:VRow w base v qs rs) (i:Nat) (q:Q3) (hq:qs[i]?=some q) :
  ∃ b cap r,v=.slice (some ⟨b,0,none⟩) qs.length cap∧b<w.heap.size∧qs.length≤cap∧v.ownBlock=some b∧rs[i]?=some r∧aA w (.agg (ah r.1 r.2.1 r.2.2)) q∧∀ j,j<12→w.cell? ⟨b,i*12+j,none⟩=(bO r)[j]? := by
 have hi:i<rs.length:=by rw [h.len];exact (List.getElem?_eq_some_iff.1 hq).1
 obtain ⟨hl,⟨_,h0⟩ | ⟨g,cap,cur,rfl,hg,hh,hn,hm,hs,ht⟩⟩:=h.own
 ·omega
 ·obtain ⟨r,hr⟩:∃ r,rs[i]?=some r:=⟨_,List.getElem?_eq_getElem hi⟩
  refine ⟨g,cap,r,by rw [h.len],(Array.getElem?_eq_some_iff.1 hh).1,by rw [← h.len];exact hn,rfl,hr,h.vec i r q hr hq,fun j hj=>?_⟩;have hlt:i*12+j<rs.length*12:=ω;have e:=World.ownsRow.cellAt h.own (i*12+j) hlt;rw [e];exact ia bO 12 vec12_len rs i j r hr hj
theorem fT {a b c:World} {row row':Option Nat} (h:a.grownBy b row) (k:b.grownBy c row') (hr:∀ g,row'=some g→a.heap.size≤g∨row=some g):a.grownBy c row:=
 ⟨k.os.trans h.os,k.tape.trans h.tape,k.output.trans h.output,Nat.le_trans h.size k.size,fun i hi hn=>by
  rw [k.block i (Nat.lt_of_lt_of_le hi h.size) (fun e=>by
   rcases hr i e.symm with h1 | h1
   ·omega
   ·exact hn h1.symm)]
  exact h.block i hi hn⟩
structure FR where
 n:RC × RC × RC
 o:RC
 v:Value
def rc4 (r:RC):List Value:=[.bool r.s,.slice r.a r.n r.c,.bool r.t,.slice r.b r.m r.d]
def dj (f:FR):List Value:=bO f.n ++ rc4 f.o ++ [f.v]
theorem nh (f:FR):(dj f).length=17:=rfl
structure FRow (w:World) (base:Nat) (v:Value) (fs:List (Q3 × Rat)) (rs:List FR):Prop where
 own:w.ownsRow base 98 17 v rs.length (rs.flatMap dj)
 len:rs.length=fs.length
 vec:∀ (i:Nat) (r:FR) (q:Q3 × Rat),rs[i]?=some r→fs[i]?=some q→aA w (.agg (ah r.n.1 r.n.2.1 r.n.2.2)) q.1∧am w r.o.agg q.2
theorem FRow.below {w w':World} {base:Nat} {v:Value} {fs:List (Q3 × Rat)} {rs:List FR} (h:FRow w base v fs rs) (hb:Below w.heap.size w w'):FRow w' base v fs rs:=
 ⟨aF h.own hb,h.len,fun i r q h1 h2=>⟨(h.vec i r q h1 h2).1.below hb,(h.vec i r q h1 h2).2.below hb⟩⟩
theorem FRow.nil (w:World) (base:Nat):FRow w base (.slice none 0 0) [] []:=⟨World.ownsRow_nil _ _ _ _,rfl,fun i r q h=>by simp at h⟩
theorem FRow.other {w w':World} {base:Nat} {v:Value} {fs:List (Q3 × Rat)} {rs:List FR} (h:FRow w base v fs rs) {row:Option Nat} (hg:w.grownBy w' row) (hr:nP w row) (hne:v.ownBlock=none∨v.ownBlock≠row):FRow w' base v fs rs:=
 ⟨World.ownsRow.kept h.own hg hne,h.len,fun i r q h1 h2=>⟨(h.vec i r q h1 h2).1.grown hg hr,(h.vec i r q h1 h2).2.grown hg hr⟩⟩
theorem FRow.set {w:World} {base:Nat} {v:Value} {fs:List (Q3 × Rat)} {rs:List FR} (h:FRow w base v fs rs) {g:Nat} {cs:Array Value} {t:TypeId} (hb:Box w g cs t) (ht:t≠191) (ht2:98≠t) (i:Nat) (u:Value):FRow (w.setCell ⟨g,i,none⟩ u) base v fs rs:=
 h.other (bS w g i u) (dR hb ht) (.inr (fun e=>aW h.own hb ht2 e.symm))
theorem FRow.app {w w':World} {base:Nat} {v v':Value} {fs:List (Q3 × Rat)} {rs:List FR} (h:FRow w base v fs rs) {r:FR} {q:Q3 × Rat} (hq:aA w (.agg (ah r.n.1 r.n.2.1 r.n.2.2)) q.1) (ho:am w r.o.agg q.2)
  (hown:w'.ownsRow base 98 17 v' (rs.length+1) (rs.flatMap dj ++ dj r)) (hg:w.grownBy w' v.ownBlock):FRow w' base v' (fs ++ [q]) (rs ++ [r]):=by
 have hr:=kR h.own ν;refine ⟨by rw [List.length_append,List.flatMap_append];simpa using hown,by simp [h.len],fun i r' q' h1 h2=>?_⟩;by_cases hi:i<rs.length
 ·rw [List.getElem?_append_left hi] at h1
  rw [List.getElem?_append_left (by rw [← h.len];exact hi)] at h2;exact ⟨(h.vec i r' q' h1 h2).1.grown hg hr,(h.vec i r' q' h1 h2).2.grown hg hr⟩
 ·by_cases e:i=rs.length
  ·subst e
   rw [List.getElem?_append_right ρ,Nat.sub_self] at h1;rw [List.getElem?_append_right (by rw [h.len];exact Nat.le_refl _),h.len,Nat.sub_self] at h2;simp at h1 h2;subst h1;subst h2;exact ⟨hq.grown hg hr,ho.grown hg hr⟩
  ·rw [List.getElem?_eq_none (by simp;omega)] at h1;cases h1
end Dowel
end

section
namespace Go.Proofs.Υ
open Go.RowKit Dowel Go.Sort
theorem or2_any (b:Nat) (x y:Int) (w:World) (h0:w.cell? ⟨b,0,none⟩=some (.int .i64 x)) (h1:w.cell? ⟨b,1,none⟩=some (.int .i64 y)) :
  Calls Tryz.prog 108 #[.slice (some ⟨b,0,none⟩) 2 2] w fun e w'=>e=.returned (.int .i64 (if x=0 then y else x))∧w'=w:=by
 go_enter Tryz.func108,Tryz.ntmps108
 go_wp2_with fail
 go_loopw [8] (fun iv wr=>wr=w∧(iv=.int .i64 0∨(iv=.int .i64 1∧x=0)∨(iv=.int .i64 2∧x=0∧y=0))) (fun iv _=>2 - (intOf iv).toNat)
 case atStart=>exact ⟨rfl,.inl rfl⟩
 case round =>
  obtain ⟨rfl,rfl | ⟨rfl,hx⟩ | ⟨rfl,hx,hy⟩⟩:=hrel
  ·by_cases hx:x=0
   ·have hd:decide (x=0)=true:=by simp [hx]
    go_wp2_with fail
    go_roundw
    case rel=>exact ⟨by first | trivial | rfl,.inr (.inl ⟨by first | trivial | rfl,hx⟩)⟩
    case measure=>decide
   ·have hd:decide (x=0)=false:=by simp [hx]
    go_wp2_with fail
    go_ret
    first | exact ⟨rfl,rfl⟩ | exact rfl
  ·by_cases hy:y=0
   ·have hd:decide (y=0)=true:=by simp [hy]
    go_wp2_with fail
    go_roundw
    case rel=>exact ⟨by first | trivial | rfl,.inr (.inr ⟨by first | trivial | rfl,hx,hy⟩)⟩
    case measure=>decide
   ·have hd:decide (y=0)=false:=by simp [hy]
    go_wp2_with fail
    go_ret
    first | exact ⟨rfl,rfl⟩ | exact rfl
  ·go_wp2_with fail
   go_ret
   first | exact ⟨rfl,rfl⟩ | exact rfl
def cmpE (a b a' b':Int):Int:=if Lib.compareInt a a'=0 then Lib.compareInt b b' else Lib.compareInt a a'
set_option maxRecDepth 20000 in
theorem edges1_any (a b c d a' b' c' d':Int) (w:World) :
  Calls Tryz.prog 107 #[.agg #[.int .i64 a,.int .i64 b,.int .i64 c,.int .i64 d],.agg #[.int .i64 a',.int .i64 b',.int .i64 c',.int .i64 d']] w fun e w'=>e=.returned (.int .i64 (cmpE a b a' b'))∧∃ q os',w'=Go.Sort.grow (w.drewN q) os':=by
 obtain ⟨ca,hca⟩:∃ c,Lib.compareInt a a'=c:=⟨_,rfl⟩;obtain ⟨cb,hcb⟩:∃ c,Lib.compareInt b b'=c:=⟨_,rfl⟩;have HC1:=η (fun w=>hca ▸ Tryz.cmp_Compare_int a a' w);have HC2:=η (fun w=>hcb ▸ Tryz.cmp_Compare_int b b' w);have HE:=η (show cmpE a b a' b'=if ca=0 then cb else ca by unfold cmpE;rw [hca,hcb]);clear hca hcb;obtain ⟨W,hW,b1,b2,hB,hS⟩:=da w #[.int .i64 a,.int .i64 b,.int .i64 c,.int .i64 d] #[.int .i64 a',.int .i64 b',.int .i64 c',.int .i64 d'] 96 96;have hg:∃ q os,W.drew=Go.Sort.grow (w.drewN q) os:=by
  refine ⟨1,#[.cells #[.int .i64 a,.int .i64 b,.int .i64 c,.int .i64 d] 96] ++ #[.cells #[.int .i64 a',.int .i64 b',.int .i64 c',.int .i64 d'] 96],?_⟩;rw [← hW,alloc_eq_grow,alloc_eq_grow,Go.Sort.grow_grow];rfl
 have HG:=η hg;have hcs:W.drew.cell? ⟨w.heap.size,0,none⟩=some (.int .i64 a)∧W.drew.cell? ⟨w.heap.size,1,none⟩=some (.int .i64 b)∧W.drew.cell? ⟨w.heap.size+1,0,none⟩=some (.int .i64 a')∧W.drew.cell? ⟨w.heap.size+1,1,none⟩=some (.int .i64 b')∧∃ q os,W.drew=Go.Sort.grow (w.drewN q) os:=
  ⟨b1.cell 0,b1.cell 1,b2.cell 0,b2.cell 1,hg⟩
 have hg2:∃ q os,(W.alloc (.cells #[.int .i64 ca,.int .i64 cb] 3)).drew=Go.Sort.grow (w.drewN q) os:=by
  refine ⟨1,(#[.cells #[.int .i64 a,.int .i64 b,.int .i64 c,.int .i64 d] 96] ++ #[.cells #[.int .i64 a',.int .i64 b',.int .i64 c',.int .i64 d'] 96]) ++ #[.cells #[.int .i64 ca,.int .i64 cb] 3],?_⟩;rw [← hW,alloc_eq_grow,alloc_eq_grow,alloc_eq_grow,Go.Sort.grow_grow,Go.Sort.grow_grow];rfl
 have hcs2:=(⟨(b1.old (.cells #[.int .i64 ca,.int .i64 cb] 3)).cell 0,(b1.old (.cells #[.int .i64 ca,.int .i64 cb] 3)).cell 1,(b2.old (.cells #[.int .i64 ca,.int .i64 cb] 3)).cell 0,(b2.old (.cells #[.int .i64 ca,.int .i64 cb] 3)).cell 1,hg2⟩:(fun w'=>w'.cell? ⟨w.heap.size,0,none⟩=some (.int .i64 a)∧w'.cell? ⟨w.heap.size,1,none⟩=some (.int .i64 b)∧w'.cell? ⟨w.heap.size+1,0,none⟩=some (.int .i64 a')∧w'.cell? ⟨w.heap.size+1,1,none⟩=some (.int .i64 b')∧∃ q os,w'=Go.Sort.grow (w.drewN q) os) (W.alloc (.cells #[.int .i64 ca,.int .i64 cb] 3)).drew);clear b1 b2 hB hS hg
 go_enter Tryz.func107,Tryz.ntmps107
 go_wp2_with fail
 try rw [hW]
 clear hW;refine fH (S:=fun w'=>w'.cell? ⟨w.heap.size,0,none⟩=some (.int .i64 a)∧w'.cell? ⟨w.heap.size,1,none⟩=some (.int .i64 b)∧w'.cell? ⟨w.heap.size+1,0,none⟩=some (.int .i64 a')∧w'.cell? ⟨w.heap.size+1,1,none⟩=some (.int .i64 b')∧∃ q os,w'=Go.Sort.grow (w.drewN q) os) (by simp) κ κ ?_;dsimp only [List.dropLast,List.getLast];refine wpAnyH_take (i:=0) (v:=?_) rfl κ κ κ (fun _ _ _ h=>h) (Or.inl ⟨by rfl,?hy⟩) (by assumption) ?rest
 case hy=>intro w' hSw;(try dsimp only at hSw);go_simp;try with_reducible rfl
 case rest =>
 try simp only [Act.put,List.setIfInBounds_toArray,List.set_cons_zero,List.set_cons_succ]
 refine wpAnyH_take (i:=2) (v:=?_) rfl κ κ κ (fun _ _ _ h=>h) (Or.inl ⟨by rfl,?hy⟩) (by assumption) ?rest
 case hy=>intro w' hSw;(try dsimp only at hSw);go_simp;try with_reducible rfl
 case rest =>
 try simp only [Act.put,List.setIfInBounds_toArray,List.set_cons_zero,List.set_cons_succ]
 refine wpAnyH_take (i:=5) (v:=?_) rfl κ κ κ (fun _ _ _ h=>h) (Or.inl ⟨by rfl,?hy⟩) (by assumption) ?rest
 case hy=>intro w' hSw;(try dsimp only at hSw);go_simp;try with_reducible rfl
 case rest =>
 try simp only [Act.put,List.setIfInBounds_toArray,List.set_cons_zero,List.set_cons_succ]
 refine wpAnyH_take (i:=7) (v:=?_) rfl κ κ κ (fun _ _ _ h=>h) (Or.inl ⟨by rfl,?hy⟩) (by assumption) ?rest
 case hy=>intro w' hSw;(try dsimp only at hSw);go_simp;try with_reducible rfl
 case rest =>
 try simp only [Act.put,List.setIfInBounds_toArray,List.set_cons_zero,List.set_cons_succ]
 refine wpAnyH_take (i:=1) (v:=?_) rfl κ κ κ (fun _ _ _ h=>h) (Or.inl ⟨by rfl,?hy⟩) (by assumption) ?rest
 case hy=>intro w' hSw;(try dsimp only at hSw);go_simp;try with_reducible rfl
 case rest =>
 try simp only [Act.put,List.setIfInBounds_toArray,List.set_cons_zero,List.set_cons_succ]
 refine wpAnyH_take (i:=3) (v:=?_) rfl κ κ κ (fun _ _ _ h=>h) (Or.inl ⟨by rfl,?hy⟩) (by assumption) ?rest
 case hy=>intro w' hSw;(try dsimp only at hSw);go_simp;try with_reducible rfl
 case rest =>
 try simp only [Act.put,List.setIfInBounds_toArray,List.set_cons_zero,List.set_cons_succ]
 refine wpAnyH_take (i:=6) (v:=?_) rfl κ κ κ (fun _ _ _ h=>h) (Or.inl ⟨by rfl,?hy⟩) (by assumption) ?rest
 case hy=>intro w' hSw;(try dsimp only at hSw);go_simp;try with_reducible rfl
 case rest =>
 try simp only [Act.put,List.setIfInBounds_toArray,List.set_cons_zero,List.set_cons_succ]
 refine wpAnyH_take (i:=8) (v:=?_) rfl κ κ κ (fun _ _ _ h=>h) (Or.inl ⟨by rfl,?hy⟩) (by assumption) ?rest
 case hy=>intro w' hSw;(try dsimp only at hSw);go_simp;try with_reducible rfl
 case rest =>
 try simp only [Act.put,List.setIfInBounds_toArray,List.set_cons_zero,List.set_cons_succ]
 refine wpAnyH_ready (rs:=[4]) κ (by simp) ?_;refine AllReadyH.cons rfl (fun K hK=>?_) AllReadyH.nil;go_simp;refine (HC1.out _).mono ?_;rintro e y1 ⟨rfl,rfl⟩;refine hK.out _ _ ?hS (fun hHeld=>?rest)
 case hS=>(try dsimp only);assumption
 case rest =>
 clear hK K
 try simp only [Act.put,List.setIfInBounds_toArray,List.set_cons_zero,List.set_cons_succ]
 refine wpAnyH_ready (rs:=[9]) κ (by simp) ?_;refine AllReadyH.cons rfl (fun K hK=>?_) AllReadyH.nil;go_simp;refine (HC2.out _).mono ?_;rintro e y2 ⟨rfl,rfl⟩;refine hK.out _ _ ?hS (fun hHeld=>?rest)
 case hS=>(try dsimp only);assumption
 case rest =>
 clear hK K
 try simp only [Act.put,List.setIfInBounds_toArray,List.set_cons_zero,List.set_cons_succ]
 refine wpAnyH_ready (rs:=[10]) κ (by simp) ?_;refine AllReadyH.cons rfl (fun K hK=>?_) AllReadyH.nil;go_simp;refine hK.out _ _ ?hS (fun hHeld=>?rest)
 case hS=>(try dsimp only);exact hcs2
 case rest =>
 clear hK K
 try simp only [Act.put,List.setIfInBounds_toArray,List.set_cons_zero,List.set_cons_succ]
 refine wpAnyH_ready (rs:=[11]) κ (by simp) ?_;refine AllReadyH.cons rfl (fun K hK=>?_) AllReadyH.nil;go_simp;refine (or2_any _ _ _ _ (Box.cell (Box.new1 _ _ _) 0) (Box.cell (Box.new1 _ _ _) 1)).mono ?_;rintro e y1 ⟨rfl,rfl⟩;refine hK.out _ _ ?hS (fun hHeld=>?rest)
 case hS=>(try dsimp only);assumption
 case rest =>
 clear hK K
 try simp only [Act.put,List.setIfInBounds_toArray,List.set_cons_zero,List.set_cons_succ]
 refine wpAnyH_done κ ?_ _;show Oper.wp _ _ _ _ _ _;go_simp;go_wp2
 all_goals exact bodyPost_ret (results_tmp Tryz.results107 _ _ _) rfl ⟨by first | (rw [HE.out,if_pos (by assumption)];rfl) | (rw [HE.out,if_neg (by assumption)];rfl),by first | exact hg2 | exact (show ca=0 from by assumption) ▸ hg2⟩
end Go.Proofs.Υ
namespace Dowel
open Go Go.RowKit
structure ED where
 a:Nat
 b:Nat
 f:Int
 g:Int
def cL (e:ED):List Value:=[.int .i64 (e.a:Int),.int .i64 (e.b:Int),.int .i64 e.f,.int .i64 e.g]
def eV (w:World) (base:Nat) (v:Value) (l:List ED):Prop:=w.ownsRow base 96 4 v l.length (l.flatMap cL)
theorem cmpI_lt {a b:Int}:Lib.compareInt a b<0↔a<b:=by rw [gT];split <;> (try split) <;> omega
theorem cmpI_0 {a b:Int}:Lib.compareInt a b=0↔a=b:=by rw [gT];split <;> (try split) <;> omega
end Dowel
namespace Go.Proofs.Υ
open Go.RowKit Dowel Go.Sort
theorem qg (a b a' b':Int):cmpE a b a' b'<0↔(a<a'∨(a=a'∧b<b')):=by
 unfold cmpE
 split
 ·rename_i h;rw [cmpI_0] at h;rw [cmpI_lt];omega
 ·rename_i h;rw [cmpI_0] at h;rw [cmpI_lt];omega
theorem nW (v:Value) (fs:List ED) (base:Nat) (w:World) (hO:eV w base v fs) (hl:fs.length≤262144) :
  Calls Tryz.prog 106 #[v,.func (.func 107) #[] #[]] w fun e w'=>e=.returned (.tuple #[]) ∧
   (∃ fs',fs'.Perm fs∧eV w' base v fs')∧w.grownBy w' v.ownBlock:=by
 by_cases h0:fs.length=0
 ·have:fs=[]:=List.length_eq_zero_iff.1 h0
  subst this;obtain ⟨p,cap,rfl⟩:∃ p cap,v=.slice p 0 cap:=by
   obtain ⟨_,⟨rfl,_⟩ | ⟨g,c,_,rfl,_⟩⟩:=hO
   ·exact ⟨_,_,rfl⟩
   ·exact ⟨_,_,rfl⟩
  have hc:=AnyF.slices_SortFunc_none Tryz.sortEdge p cap (.func (.func 107) #[] #[]) w;change Calls Tryz.prog 106 _ _ _ at hc;exact hc.mono fun e w' ⟨he,hw⟩=>⟨he,⟨[],List.Perm.refl _,by rw [hw];exact hO⟩,by rw [hw];exact World.grownBy.refl _ _⟩
 ·have hpos:0<fs.length:=ω
  haveI:Inhabited (Fin fs.length):=⟨⟨0,hpos⟩⟩
  have hO':=hO;obtain ⟨hlen,⟨rfl,h1⟩ | ⟨g,cap,cur,rfl,hg,hh,hn,hm,hs,ht⟩⟩:=hO
  ·exact absurd h1 h0
  have hgl:g<w.heap.size:=(Array.getElem?_eq_some_iff.1 hh).1;have eg:∀ args w,(callFunc 107 args).run Tryz.prog w=.ok (.enter 107 args) w:=enters_of Tryz.func107 κ rfl;obtain ⟨d,hd⟩:∃ d:Array (Fin fs.length),d=Array.ofFn id:=⟨_,rfl⟩;have hds:fs.length=d.size:=by rw [hd];simp
  have hdl:d.toList.map (fun i=>fs.get i)=fs:=by
   rw [hd,Array.toList_ofFn];refine List.ext_getElem (by simp) fun i h1 h2=>by simp
  have hflat:∀ l:List (Fin fs.length),l.flatMap (fun i=>cL (fs.get i))=(l.map fun i=>fs.get i).flatMap cL:=fun l=>by rw [List.flatMap_map]
  have hk:∀ x:Fin fs.length,(cL (fs.get x)).length=4:=fun _=>rfl
  have hone:∀ x:Fin fs.length,∀ u ∈ cL (fs.get x),u.oneCell'=true:=by
   intro x u hu;simp only [cL,List.mem_cons,List.not_mem_nil,or_false] at hu
   rcases hu with rfl | rfl | rfl | rfl <;> rfl
  have hH:HoldsK (fun i:Fin fs.length=>cL (fs.get i)) 4 w g 0 d:=
   m7 _ 4 hk ω d hds (by rw [hflat,hdl]) hO'
  have hcmp:CmpLays Tryz.prog 107 #[] (fun i:Fin fs.length=>cL (fs.get i)) 4 (fun i j=>cmpE ((fs.get i).a:Int) ((fs.get i).b:Int) ((fs.get j).a:Int) ((fs.get j).b:Int)) g 0 d.size w:=by
   intro m os dk _ x y;exact edges1_any _ _ _ _ _ _ _ _ _
  have hswo:SWO (ltOf fun i j:Fin fs.length=>cmpE ((fs.get i).a:Int) ((fs.get i).b:Int) ((fs.get j).a:Int) ((fs.get j).b:Int)):=by
   refine ⟨fun x=>?_,fun x y z h1 h2=>?_,fun x y z h1 h2=>?_⟩
   ·simp only [ltOf,decide_eq_false_iff_not,qg];omega
   ·simp only [ltOf,decide_eq_true_eq,qg] at *;omega
   ·simp only [ltOf,decide_eq_false_iff_not,qg] at *;omega
  have hc:=AnyQ.slices_SortFunc Tryz.sortEdge 4 Tryz.isAgg96 Tryz.sizeOf96 (fun i:Fin fs.length=>cL (fs.get i)) hk hone _ hswo 107 #[] g 0 cap d w eg hcmp hH hgl ω;change Calls Tryz.prog 106 _ _ _ at hc;rw [← hds] at hc;refine hc.mono fun e w' ⟨he,d',m,os,hp,hsd,hw⟩=>?_
  obtain ⟨hps,_,hpp⟩:=hp;have hd's:fs.length=d'.size:=by rw [hps];exact hds
  have hperm:(d'.toList.map (fun i=>fs.get i)).Perm fs:=by
   have ext:∀ (k:Nat) (x:Array (Fin fs.length)),k=x.size→x.extract 0 k=x:=fun k x hk=>by subst hk;simp
   have e1:=ext _ d' hd's;have e2:=ext _ d hds;rw [e1,e2] at hpp;have:=hpp.map (fun i=>fs.get i)
   rwa [hdl] at this
  refine ⟨he,⟨d'.toList.map (fun i=>fs.get i),hperm,?_⟩,?_⟩
  ·rw [hw];unfold eV
   have hlen':d'.toList.length=fs.length:=by rw [Array.length_toList];exact hd's.symm
   rw [List.length_map,hlen',← hflat];exact mE _ 4 hk ω d' hd's m os hh hg hn hm hs
  ·rw [hw];exact ⟨rfl,rfl,rfl,size_sortWorldK_c _ 4 w g 0 m d' os,fun k hk hne=>eY _ 4 w g 0 m d' os k (fun e=>hne (by rw [e];rfl)) hk⟩
end Go.Proofs.Υ
end

section
namespace Dowel
open Go Go.RowKit Go.Proofs.Υ
open Classical in
noncomputable def jw (P:Nat→V) (N:Nat):Int:=if 64<N then 6 else if ∃ i,i<N∧far (P i)=true then 2 else if N=0∨¬ dq P N then 23 else if 16<(cN P N).length then 6 else 0
def gN (P:Nat→V) (N base:Nat) (w:World) (e:Ending):Prop:=
 ∃ v,e=.returned (.tuple #[.agg #[v],.int .i64 (jw P N)])∧(jw P N≠0→v=.slice none 0 0)∧(jw P N=0→jU w base v (cN P N))
theorem gN.err {P:Nat→V} {N base:Nat} {w:World} {r:Int} (h:jw P N=r) (h0:r≠0):gN P N base w (.returned (.tuple #[.agg #[.slice none 0 0],.int .i64 r])):=
 ⟨_,by rw [h],fun _=>rfl,fun e=>absurd (h.symm.trans e) h0⟩
theorem v3_one (l:List V):∀ u ∈ l.flatMap v3,u.oneCell'=true:=fun u hu=>by
 obtain ⟨p,_,h⟩:=List.mem_flatMap.mp hu;simp [v3] at h
 rcases h with rfl | rfl | rfl <;> rfl
theorem v3_one1 (p:V):∀ u ∈ v3 p,u.oneCell'=true:=fun u hu=>by
 simp [v3] at hu
 rcases hu with rfl | rfl | rfl <;> rfl
theorem dE.set {α:Type} {enc:α→List Value} {k:Nat} {t:TypeId} {w:World} {base:Nat} {v:Value} {l:List α} (h:dE w base t k enc v l) {g:Nat} {cs:Array Value} {t':TypeId} (hb:Box w g cs t') (hne:t≠t') (i:Nat) (u:Value):dE (w.setCell ⟨g,i,none⟩ u) base t k enc v l:=
 h.kept (bS w g i u) (.inr (fun e=>aW h hb hne e.symm))
theorem src_new (w:World) (cs:List Value) (t:TypeId) (k m:Nat) (hl:cs.length=m*k):iA (w.alloc (.cells cs.toArray t)) k (some ⟨w.heap.size,0,none⟩) m cs:=
 iA.some hl fun j hj=>by rw [Nat.zero_add,(Box.new w cs.toArray t _ rfl).cell j];simp
end Dowel
namespace Go.Proofs.Υ
open Go.RowKit Dowel
open Classical
theorem fZ:(Tryz.prog.info? 24).map (·.size)=some 1:=by kernel_rfl
theorem infoVz:(Tryz.prog.info? 46).map (fun i=>(i.zero,i.size,i.bytes))=some (some (.agg #[.int .i64 0,.int .i64 0,.int .i64 0]),3,24):=by kernel_rfl
set_option maxRecDepth 10000 in
theorem rhull_any (a:Option Addr) (len cap:Nat) (P:Nat→V) (w:World) (hP:Pts w a len cap P) (hlen:len≤4611686018427387904) :
  Calls Tryz.prog 31 #[.slice a len cap] w fun e w'=>gN P len w.heap.size w' e∧Below w.heap.size w w':=by
 obtain ⟨W,hW,b1,hB,hS⟩:=aG w #[.slice none 0 0] 24;obtain ⟨i0,hinf,hz0,hz1,hz2⟩:=info_parts infoVz;obtain ⟨z0,z1⟩:=b1.one;have HP:=η (hP.below hB);have B1:=η b1;have HB:=η hB;have HS:=η hS;have HPA:=η (fun x (hx:a=some x)=>(hP.at_ x hx).2.1);obtain ⟨res,hres⟩:∃ res,jw P len=res:=⟨_,rfl⟩;have HRES:=η hres;have HERR:=η (show ∀ (wr:World),Below W.heap.size W wr→Below w.heap.size w (wr.setCell ⟨w.heap.size,0,none⟩ (.slice none 0 0)) from fun wr h=>(ae hB h ω).setCell (p:=⟨w.heap.size,0,none⟩) ρ _);have HBX:=η (show ∀ (wr:World) (u:Value),Below W.heap.size W wr→Box (wr.setCell ⟨w.heap.size,0,none⟩ u) w.heap.size #[u] 24 from fun wr u h=>(b1.below h b1.lt).set 0 u);have HZ:=η (show ∀ (wr:World),Below W.heap.size W wr→wr.cell? ⟨w.heap.size,0,none⟩=some (.slice none 0 0)∧wr.frozen? ⟨w.heap.size,0,none⟩=false from fun wr h=>(b1.below h b1.lt).one);clear hP hB hS b1 hres;by_cases h64:64<len
 ·have e:res=6:=by rw [← HRES.out];unfold jw;rw [if_pos h64]
  subst e
  go_enter Tryz.func31,Tryz.ntmps31
  go_wp2;exact bP Tryz.results31 (w.heap.size) (HBX.out W _ β) _ rfl Tryz.underlying24 rfl fZ rfl ⟨gN.err HRES.out ν,HERR.out W β⟩
 have hl64:len≤64:=ω;have HR:Hid ((if ∃ i,i<len∧far (P i)=true then (2:Int) else if len=0∨¬ dq P len then 23 else if 16<(cN P len).length then 6 else 0)=res):=by
  rw [← HRES.out];unfold jw;rw [if_neg h64];exact rfl
 clear h64
 go_enter Tryz.func31,Tryz.ntmps31
 go_wp2_with fail
 go_loopw [4] (fun iv wr=>∃ k,k≤len∧iv=.int .i64 (k:Nat)∧Hid (∀ q,q<k→far (P q)=false)∧Hid (Below W.heap.size W wr)) (fun iv _=>len - (intOf iv).toNat)
 case atStart=>exact ⟨0,Nat.zero_le _,rfl,(fun q hq=>by omega),Below.refl _ _⟩
 case round =>
  obtain ⟨k,hk,rfl,HG,HR2⟩:=hrel;by_cases h0:k=len
  case neg =>
   have hkl:k<len:=ω;obtain ⟨b,off,rfl,hb,hc,hcc⟩:=(HP.out.below HR2.out).cells ω;obtain ⟨q0,q1,q2⟩:=hcc k hkl;have hlt:(k:Int)<(len:Int):=ω;have HKL:=η hkl;obtain ⟨z0,z1⟩:=HZ.out wr HR2.out;clear hcc h0;have HIN:=η (inRange_any (P k) wr);obtain ⟨fk,hfk⟩:∃ fk,far (P k)=fk:=⟨_,rfl⟩;rw [hfk] at HIN;have HFK:=η hfk;clear hfk;obtain ⟨pk,hpk⟩:∃ pk,P k=pk:=⟨_,rfl⟩;rw [hpk] at q0 q1 q2 HIN;clear hpk
   go_wp2_with fail
   refine HIN.out.mono ?_;rintro e w3 ⟨rfl,hb3⟩;have HR3:=η (ae HR2.out hb3 ρ);clear hb3 z0 z1;obtain ⟨z0,z1⟩:=HZ.out w3 HR3.out;cases fk
   ·go_wp2
    go_round
    case rel=>exact ⟨k+1,by have:=HKL.out;omega,rfl,(fun q hq=>by
     by_cases e:q=k
     ·subst e;exact HFK.out
     ·exact HG.out q ω),HR3.out⟩
    case measure=>show len - ((k:Int)+1).toNat<len - (k:Int).toNat;have:=HKL.out;omega
   ·have e:res=2:=by rw [← HR.out,if_pos ⟨k,HKL.out,HFK.out⟩]
    subst e;go_wp2;exact bP Tryz.results31 (w.heap.size) (HBX.out w3 _ HR3.out) _ rfl Tryz.underlying24 rfl fZ rfl ⟨gN.err HRES.out ν,HERR.out w3 HR3.out⟩
  case pos =>
  have hn:¬ (k:Int)<(len:Int):=ω;have HNEAR:=η (show ∀ q,q<len→LeV 4096 (P q) from fun q hq=>((iu _).mp (HG.out q ω)).le);have hnf:¬ ∃ i,i<len∧far (P i)=true:=fun ⟨i,hi,h⟩=>by rw [HG.out i ω] at h;cases h
  have HR4:Hid ((if len=0∨¬ dq P len then (23:Int) else if 16<(cN P len).length then 6 else 0)=res):=by rw [← HR.out,if_neg hnf];exact rfl
  clear hnf h0 HR;obtain ⟨z0,z1⟩:=HZ.out wr HR2.out;by_cases hl0:len=0
  ·have e:res=23:=by rw [← HR4.out,if_pos (.inl hl0)]
   subst e;subst hl0;go_wp2;exact bP Tryz.results31 (w.heap.size) (HBX.out wr _ HR2.out) _ rfl Tryz.underlying24 rfl fZ rfl ⟨gN.err HRES.out ν,HERR.out wr HR2.out⟩
  have heq0:((len:Int) == 0)=false:=beq_eq_false_iff_ne.mpr ω;have HL0:=η hl0;clear hl0
  go_wp2_with fail
  refine (rflat_any a len cap P wr (HP.out.below HR2.out) hl64 HNEAR.out).mono ?_;rintro e w2 ⟨⟨fl,rfl,hfl⟩,hb2⟩;have H2:=η (ae HR2.out hb2 ρ);clear hb2 z0 z1;obtain ⟨z0,z1⟩:=HZ.out w2 H2.out;cases fl
  case true =>
   have e:res=23:=by rw [← HR4.out,if_pos (.inr (hfl.mp rfl))]
   subst e;clear hfl;go_wp2;exact bP Tryz.results31 (w.heap.size) (HBX.out w2 _ H2.out) _ rfl Tryz.underlying24 rfl fZ rfl ⟨gN.err HRES.out ν,HERR.out w2 H2.out⟩
  have hf4:dq P len:=Classical.byContradiction fun hc=>absurd (hfl.mpr hc) ν
  have HR5:Hid ((if 16<(cN P len).length then (6:Int) else 0)=res):=by
   rw [← HR4.out,if_neg (show ¬ (len=0∨¬ dq P len) from by
    rintro (h | h)
    ·exact HL0.out h
    ·exact h hf4)];exact rfl
  clear hfl hf4 HR4
  go_wp2_with fail
  refine (rplanes_any a len cap P w2 (HP.out.below H2.out) hl64 HNEAR.out).mono ?_;rintro e w3 ⟨⟨pv,rfl,hpv⟩,hb3⟩;have H3:=η (ae H2.out hb3 ρ);have HPV:=η hpv;have HPL:=η (planesR_len P len ω);have HPN:=η (show ∀ i,i<(bD P len).length→LeV 1000000000 ((bD P len).getD i ⟨V.zero,0⟩).n from fun i hi =>
   planesR_le HNEAR.out (by
    rw [show (bD P len).getD i ⟨V.zero,0⟩=(bD P len)[i] from by simp [hi]];exact List.getElem_mem hi))
  clear hb3 hpv z0 z1;obtain ⟨pf,hpf⟩:∃ pf:V→Bool,pf=fun p=>cC P len (bD P len) p:=⟨_,rfl⟩
  have HPF:=η hpf;have HHU:=η (show cN P len=dG P pf len from by rw [hpf];rfl);clear hpf
  go_wp2_with fail
  go_loopw [6,7] (fun ov' iv wr=>∃ k ov,ov=ov'∧k≤len∧iv=.int .i64 (k:Nat)∧Hid (jU wr w3.heap.size ov (dG P pf k))∧Hid (Below w3.heap.size w3 wr)) (fun _ iv _=>len - (intOf iv).toNat)
  case atStart=>exact ⟨0,_,rfl,Nat.zero_le _,rfl,dE.nil _ _ _ _ _,Below.refl _ _⟩
  case round =>
   clear HG HR2;obtain ⟨k,ov,rfl,hk,rfl,HO,HR3⟩:=hrel;obtain ⟨wk,rfl⟩:∃ wk,wk=wr:=⟨_,rfl⟩;have HR2:=η (ae H3.out HR3.out ρ);have HOL:=η (fO (Q:=P) (p:=pf) k);by_cases h0:k=len
   ·have hn2:¬ (k:Int)<(len:Int):=ω
    obtain ⟨z0,z1⟩:=HZ.out wk HR2.out;have HO9:=η (show jU wk w3.heap.size ov (cN P len) from by rw [HHU.out,← h0];exact HO.out);obtain ⟨oa,oc,hov,hoc,hom,-⟩:=HO9.out.form;subst hov;have HLN:=η (show (cN P len).length≤len from by rw [HHU.out];exact fO _);obtain ⟨M,hM⟩:∃ M,(cN P len).length=M:=⟨_,rfl⟩;rw [hM] at HR5 HLN HO9 ⊢;have HMM:=η hM;clear h0 hom hoc hM;by_cases h16:16<M
    ·have e:res=6:=by rw [← HR5.out,if_pos h16]
     subst e;have hd:(16:Int)<(M:Int):=ω;go_wp2;exact bP Tryz.results31 (w.heap.size) (HBX.out wk _ HR2.out) _ rfl Tryz.underlying24 rfl fZ rfl ⟨gN.err HRES.out ν,HERR.out wk HR2.out⟩
    ·have e:res=0:=by rw [← HR5.out,if_neg h16]
     subst e;have hd:¬ (16:Int)<(M:Int):=ω;have HO8:=η (HO9.out.set (B1.out.below HR2.out B1.out.lt) ν 0 (.slice oa M oc));have HDO:=η (show w.heap.size≤w3.heap.size from by have:=H3.out.size;have:=HS.out;omega);go_wp2;exact bP Tryz.results31 (w.heap.size) (HBX.out wk _ HR2.out) _ rfl Tryz.underlying24 rfl fZ rfl ⟨⟨_,by rw [HRES.out];rfl,fun h=>absurd HRES.out h,fun _=>dE.down HO8.out HDO.out⟩,(ae HB.out HR2.out (ψ HS.out)).setCell (p:=⟨w.heap.size,0,none⟩) ρ _⟩
   have hkl:k<len:=ω;have hlt:(k:Int)<(len:Int):=ω;have HKL:=η hkl;clear h0;have hpr:=HP.out.below HR2.out;obtain ⟨b,off,rfl,hb,hc,hcc⟩:=hpr.cells ω;obtain ⟨q0,q1,q2⟩:=hcc k hkl;have hx:=rext_any _ len cap P pv (bD P len) w2.heap.size (P k) wk hpr hl64 HNEAR.out (HPV.out.below HR3.out) HPL.out HPN.out (HNEAR.out k hkl);have HX:=η hx;clear hx hpr hcc;obtain ⟨ex,hexx⟩:∃ ex,pf (P k)=ex:=⟨_,rfl⟩;have HEX:=η hexx;rw [HPF.out] at hexx;dsimp only at hexx;rw [hexx] at HX;clear hexx;obtain ⟨pk,hpk⟩:∃ pk,P k=pk:=⟨_,rfl⟩;have HPK:=η hpk;rw [hpk] at q0 q1 q2 HX HEX;clear hpk
   go_wp2_with fail
   refine HX.out.mono ?_;rintro e w4 ⟨rfl,hb4⟩;have HB4:=η hb4;have HR4:=η (ae HR3.out hb4 ρ);clear hb4;cases ex
   ·go_wp2
    go_round
    case rel=>exact ⟨k+1,_,rfl,by have:=HKL.out;omega,rfl,by
     unfold dG;rw [if_neg (by rw [HPK.out,HEX.out];decide)];exact HO.out.below HB4.out,HR4.out⟩
    case measure=>show len - ((k:Int)+1).toNat<len - (k:Int).toNat;have:=HKL.out;omega
   ·have HTK:=η (show dG P pf (k+1)=jJ pk (dG P pf k) from by
     conv=>lhs;unfold dG
     rw [if_pos (by rw [HPK.out,HEX.out]),HPK.out])
    obtain ⟨L,hL⟩:∃ L,dG P pf k=L:=⟨_,rfl⟩;rw [hL] at HO HTK HOL;have HO4:=η (HO.out.below HB4.out);have HPC:Hid (∀ w',Below w4.heap.size w4 w'→w'.cell? ⟨b,off+k*3,none⟩=some (.int .i64 pk.x)∧w'.cell? ⟨b,off+k*3+1,none⟩=some (.int .i64 pk.y)∧w'.cell? ⟨b,off+k*3+2,none⟩=some (.int .i64 pk.z)):=fun w' h=>by
     have hb4:b<w4.heap.size:=Nat.lt_of_lt_of_le hb HB4.out.size;exact ⟨keepC (keepC q0 HB4.out hb) h hb4,keepC (keepC q1 HB4.out hb) h hb4,keepC (keepC q2 HB4.out hb) h hb4⟩
    have HBLT:=η hb;clear hL q0 q1 q2 hb;obtain ⟨oa,oc,hov,hoc,hom,-⟩:=HO4.out.form;subst hov;obtain ⟨N,hN⟩:∃ N,L.length=N:=⟨_,rfl⟩;have HO4L:=η HO4.out;rw [hN] at HO4 HO hoc HOL ⊢;have HN:=η hN;have HLS:=η (fun (u:V) (lb:Bool) (hlb:lb=true↔Lex u pk) v=>(rless_any u pk v).mono fun e w' (h:eS e (Lex u pk)∧Below v.heap.size v w')=>(show e=.returned (.bool lb)∧Below v.heap.size v w' from by
     obtain ⟨⟨r,rfl,hr⟩,hb⟩:=h;exact ⟨by rw [Bool.eq_iff_iff.mpr (hr.trans hlb.symm)],hb⟩))
    clear hN hom hoc
    go_wp2_with fail
    go_loopw [8] (fun jv wr=>∃ j,j≤N∧jv=.int .i64 (j:Nat)∧Hid (∀ q,q<j→Lex (L.getD q V.zero) pk)∧Hid (Below w4.heap.size w4 wr)) (fun jv _=>N - (intOf jv).toNat)
    case atStart=>exact ⟨0,Nat.zero_le _,rfl,(fun q hq=>by omega),Below.refl _ _⟩
    case round =>
     clear HR2;obtain ⟨j,hj,rfl,HJL,HRJ⟩:=hrel;obtain ⟨wj,rfl⟩:∃ wj,wj=wr:=⟨_,rfl⟩;obtain ⟨p0,p1,p2⟩:=HPC.out wj HRJ.out;have hbj:b<wj.heap.size:=by have:=HBLT.out;have:=HB4.out.size;have:=HRJ.out.size;omega
     have K0:=fun x:Later wj.heap.size wj=>keepC p0 x.h hbj
     have K1:=fun x:Later wj.heap.size wj=>keepC p1 x.h hbj
     have K2:=fun x:Later wj.heap.size wj=>keepC p2 x.h hbj
     clear p0 p1 p2;have HUO:=η (show ∀ u,L[j]?=some u→∃ b',oa=some ⟨b',0,none⟩∧b'<wj.heap.size∧wj.cell? ⟨b',j*3,none⟩=some (.int .i64 u.x)∧wj.cell? ⟨b',j*3+1,none⟩=some (.int .i64 u.y)∧wj.cell? ⟨b',j*3+2,none⟩=some (.int .i64 u.z) from fun u hu=>by
      obtain ⟨b',cap',e,hb',-,hob,huc⟩:=(HO4.out.below HRJ.out).at_ o9 j u hu;cases e;exact ⟨b',rfl,hb',huc 0 ω,huc 1 ω,huc 2 ω⟩)
     have hcase:(∃ u,j<N∧L[j]?=some u∧Lex u pk)∨(∃ u,j<N∧L[j]?=some u∧¬ Lex u pk∧u=pk)∨j=N∨(∃ u,j<N∧L[j]?=some u∧¬ Lex u pk∧u≠pk):=by
      by_cases h0:j=N
      ·exact .inr (.inr (.inl h0))
      ·have hu:=getD_some V.zero (show j<L.length by have:=HN.out;omega)
       by_cases h1:Lex (L.getD j V.zero) pk
       ·exact .inl ⟨_,by omega,hu,h1⟩
       ·by_cases h2:L.getD j V.zero=pk
        ·exact .inr (.inl ⟨_,by omega,hu,h1,h2⟩)
        ·exact .inr (.inr (.inr ⟨_,by omega,hu,h1,h2⟩))
     rcases hcase with ⟨u,hjN,hu,hl⟩ | ⟨u,hjN,hu,hl,heq⟩ | h0 | ⟨u,hjN,hu,hl,hne⟩
     ·have HL:=η hl
      have hls:=η (HLS.out u true ⟨fun _=>HL.out,fun _=>rfl⟩);clear hl;obtain ⟨b',rfl,hb',u0,u1,u2⟩:=HUO.out u hu;have L0:=fun x:Later wj.heap.size wj=>keepC u0 x.h hb'
      have L1:=fun x:Later wj.heap.size wj=>keepC u1 x.h hb'
      have L2:=fun x:Later wj.heap.size wj=>keepC u2 x.h hb'
      have hlj:(j:Int)<(N:Int):=ω;have hdj:decide (j<N)=true:=decide_eq_true hjN;have HGU:=η (show L.getD j V.zero=u from by rw [List.getD_eq_getElem?_getD,hu];rfl);clear u0 u1 u2 hu
      go_wp2_with fail
      refine cz (Below.refl wj.heap.size wj) κ κ ?_
      repeat (first
       | go_big_quiet_skip
       | (go_big_quiet_want;go_big_quiet_op;first | go_big_quiet_on | go_big_quiet_call ((go_at_call 49;exact Calls.later ρ (hls.out _)))))
      refine wpQuiet_nil ?_;intro w5 hw';obtain ⟨x,hx⟩:=hw';have H5:=η (show Below w4.heap.size w4 w5 from by rw [hx];exact ae HRJ.out x.h ρ);have H5J:=η (show Below wj.heap.size wj w5 from by rw [hx];exact x.h);clear hx x K0 K1 K2 L0 L1 L2;have hjm:j<64:=by have:=HOL.out;omega
      go_wp2;go_round
      case rel=>exact ⟨j+1,by omega,rfl,(fun q hq=>by
       by_cases e:q=j
       ·subst e;rw [HGU.out];exact HL.out
       ·exact HJL.out q ω),H5.out⟩
      case measure=>show N - ((j:Int)+1).toNat<N - (j:Int).toNat;omega
     ·have HL:=η hl
      have hls:=η (HLS.out u false ⟨(fun h=>by cases h),fun h=>absurd h HL.out⟩);have HEQ:=η heq;have e46:=eq46;have hbq:(u.x == pk.x && u.y == pk.y && u.z == pk.z)=true:=by rw [heq];simp
      clear hl heq;obtain ⟨b',rfl,hb',u0,u1,u2⟩:=HUO.out u hu;have L0:=fun x:Later wj.heap.size wj=>keepC u0 x.h hb'
      have L1:=fun x:Later wj.heap.size wj=>keepC u1 x.h hb'
      have L2:=fun x:Later wj.heap.size wj=>keepC u2 x.h hb'
      have hlj:(j:Int)<(N:Int):=ω;have hdj:decide (j<N)=true:=decide_eq_true hjN;have HGU:=η (show L.getD j V.zero=u from by rw [List.getD_eq_getElem?_getD,hu];rfl);have v0:=u0;have v1:=u1;have v2:=u2;clear u0 u1 u2 hu
      go_wp2_with fail
      refine cz (Below.refl wj.heap.size wj) κ κ ?_
      repeat (first
       | go_big_quiet_skip
       | (go_big_quiet_want;go_big_quiet_op;first | go_big_quiet_on | go_big_quiet_call ((go_at_call 49;exact Calls.later ρ (hls.out _)))))
      refine wpQuiet_nil ?_;intro w5 hw';obtain ⟨x,hx⟩:=hw';have H5:=η (show Below w4.heap.size w4 w5 from by rw [hx];exact ae HRJ.out x.h ρ);have H5J:=η (show Below wj.heap.size wj w5 from by rw [hx];exact x.h);clear hx x K0 K1 K2 L0 L1 L2;have hb5:b<w5.heap.size:=by have:=HBLT.out;have:=HB4.out.size;have:=H5.out.size;omega
      obtain ⟨p0,p1,p2⟩:=HPC.out w5 H5.out;have K0:=fun x:Later w5.heap.size w5=>keepC p0 x.h hb5
      have K1:=fun x:Later w5.heap.size w5=>keepC p1 x.h hb5
      have K2:=fun x:Later w5.heap.size w5=>keepC p2 x.h hb5
      have u0:=keepC v0 H5J.out hb';have u1:=keepC v1 H5J.out hb';have u2:=keepC v2 H5J.out hb';have hb2:b'<w5.heap.size:=Nat.lt_of_lt_of_le hb' H5J.out.size;have L0:=fun x:Later w5.heap.size w5=>keepC u0 x.h hb2
      have L1:=fun x:Later w5.heap.size w5=>keepC u1 x.h hb2
      have L2:=fun x:Later w5.heap.size w5=>keepC u2 x.h hb2
      clear u0 u1 u2 v0 v1 v2;clear p0 p1 p2
      go_wp2_with fail
      refine cz (Below.refl w5.heap.size w5) κ κ ?_
      repeat (first
       | go_big_quiet_skip
       | (go_big_quiet_want;go_big_quiet_op;first | go_big_quiet_on))
      refine wpQuiet_nil ?_;intro w6 hw';obtain ⟨x,hx⟩:=hw';have H6:=η (show Below w4.heap.size w4 w6 from by rw [hx];exact ae H5.out x.h ρ);clear hx x K0 K1 K2 L0 L1 L2;go_wp2;go_round
      case rel=>exact ⟨k+1,_,rfl,by have:=HKL.out;omega,rfl,by
       rw [HTK.out,me pk L j (ψ HN.out) HJL.out (fun h=>by rw [HGU.out];exact HL.out),if_pos ⟨by have:=HN.out;omega,by rw [HGU.out];exact HEQ.out⟩,HN.out.symm];exact HO4L.out.below H6.out,ae HR4.out H6.out ρ⟩
      case measure=>show len - ((k:Int)+1).toNat<len - (k:Int).toNat;have:=HKL.out;omega
     case' inr.inr.inl =>
      have hdj:decide (j<N)=false:=decide_eq_false ω
      go_wp2_with fail
      refine cz (Below.refl wj.heap.size wj) κ κ ?_
      repeat (first
       | go_big_quiet_skip
       | (go_big_quiet_want;go_big_quiet_op;first | go_big_quiet_on))
      refine wpQuiet_nil ?_;intro w5 hw';obtain ⟨x,hx⟩:=hw';have H5:=η (show Below w4.heap.size w4 w5 from by rw [hx];exact ae HRJ.out x.h ρ);have H5J:=η (show Below wj.heap.size wj w5 from by rw [hx];exact x.h);clear hx x K0 K1 K2;have hb5:b<w5.heap.size:=by have:=HBLT.out;have:=HB4.out.size;have:=H5.out.size;omega
      obtain ⟨p0,p1,p2⟩:=HPC.out w5 H5.out;have K0:=fun x:Later w5.heap.size w5=>keepC p0 x.h hb5
      have K1:=fun x:Later w5.heap.size w5=>keepC p1 x.h hb5
      have K2:=fun x:Later w5.heap.size w5=>keepC p2 x.h hb5
      clear p0 p1 p2
      go_wp2_with fail
      refine cz (Below.refl w5.heap.size w5) κ κ ?_
      repeat (first
       | go_big_quiet_skip
       | (go_big_quiet_want;go_big_quiet_op;first | go_big_quiet_on))
      refine wpQuiet_nil ?_;intro w6 hw';obtain ⟨x,hx⟩:=hw';have H6:=η (show Below w4.heap.size w4 w6 from by rw [hx];exact ae H5.out x.h ρ);clear hx x K0 K1 K2;have HINS:=η (show dG P pf (k+1)=L.take j ++ pk :: L.drop j from by
       rw [HTK.out,me pk L j (ψ HN.out) HJL.out (fun h=>by have:=HN.out;omega),if_neg (fun h=>by have:=HN.out;omega)])
      clear h0 hdj
     case' inr.inr.inr =>
      have HL:=η hl;have hls:=η (HLS.out u false ⟨(fun h=>by cases h),fun h=>absurd h HL.out⟩);have HNE:=η hne;have e46:=eq46;have hbq:(u.x == pk.x && u.y == pk.y && u.z == pk.z)=false:=by
       refine Bool.eq_false_iff.mpr fun h=>hne ?_
       simp only [Bool.and_eq_true,beq_iff_eq] at h;exact V.ext' h.1.1 h.1.2 h.2
      clear hl hne;obtain ⟨b',rfl,hb',u0,u1,u2⟩:=HUO.out u hu;have L0:=fun x:Later wj.heap.size wj=>keepC u0 x.h hb'
      have L1:=fun x:Later wj.heap.size wj=>keepC u1 x.h hb'
      have L2:=fun x:Later wj.heap.size wj=>keepC u2 x.h hb'
      have hlj:(j:Int)<(N:Int):=ω;have hdj:decide (j<N)=true:=decide_eq_true hjN;have HGU:=η (show L.getD j V.zero=u from by rw [List.getD_eq_getElem?_getD,hu];rfl);have v0:=u0;have v1:=u1;have v2:=u2;clear u0 u1 u2 hu
      go_wp2_with fail
      refine cz (Below.refl wj.heap.size wj) κ κ ?_
      repeat (first
       | go_big_quiet_skip
       | (go_big_quiet_want;go_big_quiet_op;first | go_big_quiet_on | go_big_quiet_call ((go_at_call 49;exact Calls.later ρ (hls.out _)))))
      refine wpQuiet_nil ?_;intro w5 hw';obtain ⟨x,hx⟩:=hw';have H5:=η (show Below w4.heap.size w4 w5 from by rw [hx];exact ae HRJ.out x.h ρ);have H5J:=η (show Below wj.heap.size wj w5 from by rw [hx];exact x.h);clear hx x K0 K1 K2 L0 L1 L2;have hb5:b<w5.heap.size:=by have:=HBLT.out;have:=HB4.out.size;have:=H5.out.size;omega
      obtain ⟨p0,p1,p2⟩:=HPC.out w5 H5.out;have K0:=fun x:Later w5.heap.size w5=>keepC p0 x.h hb5
      have K1:=fun x:Later w5.heap.size w5=>keepC p1 x.h hb5
      have K2:=fun x:Later w5.heap.size w5=>keepC p2 x.h hb5
      have u0:=keepC v0 H5J.out hb';have u1:=keepC v1 H5J.out hb';have u2:=keepC v2 H5J.out hb';have hb2:b'<w5.heap.size:=Nat.lt_of_lt_of_le hb' H5J.out.size;have L0:=fun x:Later w5.heap.size w5=>keepC u0 x.h hb2
      have L1:=fun x:Later w5.heap.size w5=>keepC u1 x.h hb2
      have L2:=fun x:Later w5.heap.size w5=>keepC u2 x.h hb2
      clear u0 u1 u2 v0 v1 v2;clear p0 p1 p2
      go_wp2_with fail
      refine cz (Below.refl w5.heap.size w5) κ κ ?_
      repeat (first
       | go_big_quiet_skip
       | (go_big_quiet_want;go_big_quiet_op;first | go_big_quiet_on))
      refine wpQuiet_nil ?_;intro w6 hw';obtain ⟨x,hx⟩:=hw';have H6:=η (show Below w4.heap.size w4 w6 from by rw [hx];exact ae H5.out x.h ρ);clear hx x K0 K1 K2 L0 L1 L2;have HINS:=η (show dG P pf (k+1)=L.take j ++ pk :: L.drop j from by
       rw [HTK.out,me pk L j (ψ HN.out) HJL.out (fun h=>by rw [HGU.out];exact HL.out),if_neg (fun h=>HNE.out (by rw [← HGU.out];exact h.2))])
      clear hlj hdj hb' hbq e46
     all_goals
      have hjl:j≤L.length:=by have:=HN.out;omega
      have hjm:j≤64:=by have:=HOL.out;omega
      have hNm:N≤64:=by have:=HOL.out;omega
      have H63:=η (ae HR4.out H6.out ρ);obtain ⟨_,_,e,hlc,s1,hs2⟩:=dE.cuts o9 (HO4L.out.below H6.out) j hjl;cases e;have hjo:j≤oc:=ω;have hNo:N≤oc:=by have:=HN.out;omega
      clear hlc;have S1:=η s1
      rcases hs2 with ⟨hcj,s2⟩ | ⟨hcj,g0,hoa,s2⟩
      case' inl =>
       obtain rfl:=hcj;have hN0:=HN.out;rw [show L.length - oc=0 by omega] at s2;clear hN0
      case' inr =>
       cases hoa;rw [HN.out] at s2
      all_goals try (exfalso;omega)
      all_goals
       have S2:=η s2;clear s1 s2
       go_wp2_with (at_builtin;refine bR _ rfl _ _ 22 rfl w6.heap.size 46 i0 (.agg #[.int .i64 0,.int .i64 0,.int .i64 0]) 3 24 Tryz.underlying22 hinf hz0 hz1 hz2 rfl ν _ _ _ rfl (World.ownsRow_made w6 #[] 0 ρ (Nat.zero_le _) rfl) _ _ _ _ rfl (S1.out.below (β.alloc ρ _)) (v3_one _) (by unfold maxLen;omega) ω (by simp) ?_)
       intro v1 w7 ho1 hg1;have B67:=η (show Below w6.heap.size w6 w7 from (β.alloc ρ _).grown hg1 (by simp) (fun g e=>by cases e;exact Nat.le_refl _));have HO1:=η ho1;obtain ⟨p0,p1,p2⟩:=HPC.out w7 (ae H6.out B67.out ρ);clear ho1 hg1
       go_wp2_with (at_builtin;refine bR _ rfl _ _ 22 rfl w6.heap.size 46 i0 (.agg #[.int .i64 0,.int .i64 0,.int .i64 0]) 3 24 Tryz.underlying22 hinf hz0 hz1 hz2 rfl ν _ _ _ rfl (HO1.out.alloc _) _ _ _ (v3 pk) rfl (src_new w7 (v3 pk) _ 3 1 rfl) (v3_one1 pk) (by unfold maxLen;omega) ω (by have:=B67.out.size;simp;omega) ?_)
       intro v2 w8 ho2 hg2;have B68:=η (show Below w6.heap.size w6 w8 from (B67.out.alloc B67.out.size _).grown hg2 (by have:=B67.out.size;simp;omega) (fun g e=>cJ HO1.out g e));have HO2:=η ho2;clear ho2 hg2
       go_wp2_with (at_builtin;refine bR _ rfl _ _ 22 rfl w6.heap.size 46 i0 (.agg #[.int .i64 0,.int .i64 0,.int .i64 0]) 3 24 Tryz.underlying22 hinf hz0 hz1 hz2 rfl ν _ _ _ rfl HO2.out _ _ _ _ rfl (S2.out.below B68.out) (v3_one _) (by unfold maxLen;omega) ω B68.out.size ?_)
       intro v4 w9 ho4 hg4;have B69:=η (show Below w6.heap.size w6 w9 from B68.out.grown hg4 B68.out.size (fun g e=>cJ HO2.out g e));have HO9:=η (show jU w9 w3.heap.size v4 (dG P pf (k+1)) from by
        rw [HINS.out];refine dE.down (base:=w6.heap.size) ?_ H63.out.size;have e1:=HN.out;exact dE.ins ω ω ho4 (by first | rfl | simp only [List.append_assoc]))
       have HB9:=η (ae H63.out B69.out ρ);clear ho4 hg4;go_wp2;go_round
       case rel=>exact ⟨k+1,v4,rfl,by have:=HKL.out;omega,rfl,HO9.out,HB9.out⟩
       case measure=>show len - ((k:Int)+1).toNat<len - (k:Int).toNat;have:=HKL.out;omega
end Go.Proofs.Υ
end

section
namespace Dowel
open Go Go.RowKit Go.Proofs Go.Sort Go.Proofs.Υ
instance : Inhabited V := ⟨V.zero⟩
end Dowel
namespace Go.Proofs.Υ
open Go.RowKit Dowel Go.Sort
end Go.Proofs.Υ
end
