/- Lemmas. -/
import Derived.Test.YtodehkjinmgflaaGreatDoorV16
import Derived.Test.YtodehkjinmgflaaGreatDoorV18
set_option linter.all false
set_option maxHeartbeats 0
set_option maxRecDepth 99999
namespace Go.Proofs.Υ
open Go Go.RowKit Tryz
section
theorem dQ{α:Type}(f:α->List Value)(k:Nat)(u:∀x,(f x).length=k)(l:List α)(i j:Nat)(x:α)(e:l[i]?=some x)(A:j<k):(l.flatMap f)[i*k+j]?=(f x)[j]? := by
 induction l generalizing i with
 | nil=>simp at e
 | cons y l ih =>
  rw[List.flatMap_cons]
  cases i with
  | zero =>
   simp at e;subst e;rw[List.getElem?_append_left (by rw[u];omega)];simp
  | succ i =>
   rw[List.getElem?_append_right (by rw[u,Nat.succ_mul];omega),u,show(i+1)*k+j-k=i*k+j by rw[Nat.succ_mul];omega];exact ih i (by simpa using e)
section
variable {α : Type} {enc : α → List Value} {k : Nat} {t : TypeId} {w w' : World} {base : Nat} {v : Value} {l : List α}
def bL(w:World)(base:Nat)(t:TypeId)(k:Nat)(enc:α->List Value)(v:Value)(l:List α):Prop:=w.ownsRow base t k v l.length (l.flatMap enc)
theorem bL.nil(w:World)(base:Nat)(t:TypeId)(k:Nat)(enc:α->List Value):bL w base t k enc (.slice none 0 0) []:=World.ownsRow_nil _ _ _ _
theorem bL.below(h:bL w base t k enc v l)(hb:Bl w w'):bL w' base t k enc v l:=aC h hb
theorem bL.down(h:bL w base t k enc v l){e:Nat}(hb:e<=base):bL w e t k enc v l:=bX h hb
theorem bL.kept(h:bL w base t k enc v l){row:Option Nat}(i:w.grownBy w' row)(e:v.ownBlock=none\/v.ownBlock≠row):bL w' base t k enc v l:=World.ownsRow.kept h i e
theorem bL.app{x:List α}{e:Value}{n:Nat}(i:n=l.length+x.length)(h:w.ownsRow base t k e n (l.flatMap enc++x.flatMap enc)):bL w base t k enc e (l++x):=by
 unfold bL;rw[List.length_append,List.flatMap_append,<-i];exact h
theorem bL.form(h:bL w base t k enc v l):∃a e,v=.slice a l.length e/\l.length<=e/\e<=maxLen/\((a=none/\l=[]/\e=0)\/∃g,a=some ⟨g,0,none⟩/\g<w.heap.size/\base<=g/\v.ownBlock=some g):=by
 obtain⟨E,⟨rfl,h0⟩|⟨g,e,i,rfl,j,u,C,A,F,G⟩⟩:=h
 ·exact⟨none,0,by rw[h0],by omega,Nat.zero_le _,.inl ⟨rfl,List.length_eq_zero_iff.1 h0,rfl⟩⟩
 ·exact⟨_,e,rfl,C,A,.inr ⟨g,rfl,(Array.getElem?_eq_some_iff.1 u).1,j,rfl⟩⟩
theorem bL.at_(J:∀x,(enc x).length=k)(h:bL w base t k enc v l)(i:Nat)(x:α)(F:l[i]?=some x):
 ∃b u,v=.slice (some ⟨b,0,none⟩) l.length u/\b<w.heap.size/\l.length<=u/\v.ownBlock=some b/\∀j,j<k->w.cell? ⟨b,i*k+j,none⟩=(enc x)[j]? := by
 have hi:i<l.length:=(List.getElem?_eq_some_iff.1 F).1;have H:=h;obtain⟨R,⟨_,h0⟩|⟨g,u,G,rfl,Q,A,L,U,W,X⟩⟩:=h
 ·omega
 ·refine⟨g,u,rfl,(Array.getElem?_eq_some_iff.1 A).1,L,rfl,fun j E=>?_⟩
  have C:i*k+j<l.length*k:=Nat.lt_of_lt_of_le (Nat.add_lt_add_left E _) (by rw[<-Nat.succ_mul];exact Nat.mul_le_mul_right _ hi);have e:=World.ownsRow.cellAt H (i*k+j) C;rw[e];exact dQ enc k J l i j x F E
theorem qx(e:∀x,(enc x).length=k):∀l:List α,(l.flatMap enc).length=l.length*k
 | []=>by simp
 | x::l=>by rw[List.flatMap_cons,List.length_append,e,qx e l,List.length_cons,Nat.succ_mul];omega
theorem sH(e:∀x,(enc x).length=k):∀(l:List α) (n:Nat),(l.take n).flatMap enc=(l.flatMap enc).take (n*k)
 | [],n=>by simp
 | x::l,0=>by simp
 | x::l,n+1=>by
  rw[List.take_succ_cons,List.flatMap_cons,List.flatMap_cons,sH e l n,List.take_append,e,show(enc x).take ((n+1)*k)=enc x from List.take_of_length_le (by rw[e,Nat.succ_mul];omega),show(n+1)*k-k=n*k by rw[Nat.succ_mul];omega]
theorem jj.below{size m:Nat}{a:Option Addr}{news:List Value}(h:jj w size a m news)(hb:Bl w w'):jj w' size a m news:=
 ⟨h.1,h.2.imp id fun⟨A,e,hc⟩=>⟨A,e,fun j u i=>(hb.cell (World.block_lt_of_cell? w _ (hc j u i))).trans (hc j u i)⟩⟩
end
def v3(p:V):List Value:=[.int .i64 p.x,.int .i64 p.y,.int .i64 p.z]
theorem jr(p:V):(v3 p).length=3:=rfl
abbrev bM(w:World)(base:Nat)(v:Value)(l:List V):Prop:=bL w base 77 3 v3 v l
theorem getD_some{α:Type}{l:List α}{i:Nat}(d:α)(h:i<l.length):l[i]?=some (l.getD i d):=by simp[h]
theorem bM.pts{w:World}{base:Nat}{v:Value}{l:List V}(h:bM w base v l):∃a u,v=.slice a l.length u/\Pts w a l.length u (ofL l):=by
 obtain⟨a,u,J,hc,-,G⟩:=h.form;refine⟨a,u,J,hc,fun e=>?_,fun x C=>?_⟩
 ·rcases G with⟨_,_,h⟩|⟨g,F,_⟩
  ·exact h
  ·rw[e]at F;cases F
 ·rcases G with⟨e,_⟩|⟨g,e,H,_,hb⟩
  ·rw[e]at C;cases C
  ·rw[e]at C;cases C
   refine⟨rfl,H,fun i hi=>?_⟩;obtain⟨b,E,L,_,_,A,j⟩:=h.at_ jr i _ (getD_some V.zero hi);rw[hb]at A;cases A;refine⟨?_,?_,?_⟩
   ·have:=j 0 I;rw[Nat.zero_add];exact this
   ·have:=j 1 I;rw[Nat.zero_add];exact this
   ·have:=j 2 I;rw[Nat.zero_add];exact this
end
theorem fP{w:World}{base e k:Nat}{v:Value}{n:Nat}{xs:List Value}(h:w.ownsRow base e k v n xs)(g:Nat)(j:v.ownBlock=some g):∃cs,w.heap[g]?=some (.cells cs e (0,0)):=by
 obtain⟨_,⟨rfl,_⟩|⟨g',u,i,rfl,_,A,_⟩⟩:=h
 ·cases j
 ·cases j;exact⟨i,A⟩
def re(w:World)(row:Option Nat):Prop:=∀g,row=some g->∃cs t,w.heap[g]?=some (.cells cs t (0,0))/\t≠176
theorem ja{w:World}{base e k:Nat}{v:Value}{n:Nat}{xs:List Value}(h:w.ownsRow base e k v n xs)(i:e≠176):re w v.ownBlock:=fun g j=>by
 obtain⟨cs,hc⟩:=fP h g j;exact⟨cs,e,hc,i⟩
theorem ak.grown{w w':World}{v:Value}{q:Rat}(h:ak w v q){row:Option Nat}(e:w.grownBy w' row)(i:re w row):ak w' v q:=by
 obtain⟨s1,j,G,c1,s2,u,H,c2,d,A,C,E,F⟩:=h;exact⟨s1,j,G,c1,s2,u,H,c2,d,A,C.grown e i,E.grown e i,F⟩
theorem am.grown{w w':World}{v:Value}{q:Q3}(h:am w v q){row:Option Nat}(e:w.grownBy w' row)(i:re w row):am w' v q:=by
 obtain⟨E,F,G,j,u,A,C⟩:=h;exact⟨E,F,G,j,u.grown e i,A.grown e i,C.grown e i⟩
theorem bE(w:World)(g i:Nat)(v:Value):w.grownBy (w.setCell ⟨g,i,none⟩ v) (some g):=
 ⟨rfl,rfl,rfl,by simp,fun k _ j=>heap_setCell_other _ _ _ _ (fun e=>j (by rw[e]))⟩
theorem eH{w:World}{g:Nat}{cs:Array Value}{t:TypeId}(h:Box w g cs t)(i:t≠176):re w (some g):=fun g' e=>by cases e;exact⟨cs,t,h,i⟩
def bQ(r:RC×RC×RC):List Value:=(ah r.1 r.2.1 r.2.2).toList
theorem vec12_len(r:RC×RC×RC):(bQ r).length=12:=rfl
structure VRow (w:World) (base:Nat) (v:Value) (qs:List Q3) (rs:List (RC × RC × RC)):Prop where
 own:w.ownsRow base 57 12 v rs.length (rs.flatMap bQ)
 len:rs.length=qs.length
 vec:∀ (i:Nat) (r:RC × RC × RC) (q:Q3),rs[i]?=some r→qs[i]?=some q→am w (.agg (ah r.1 r.2.1 r.2.2)) q
theorem VRow.below{w w':World}{base:Nat}{v:Value}{qs:List Q3}{rs:List (RC×RC×RC)}(h:VRow w base v qs rs)(hb:Bl w w'):VRow w' base v qs rs:=
 ⟨aC h.own hb,h.len,fun i r q e j=>(h.vec i r q e j).below hb⟩
theorem VRow.nil(w:World)(base:Nat):VRow w base (.slice none 0 0) [] []:=⟨World.ownsRow_nil _ _ _ _,rfl,fun i r q h=>by simp at h⟩
theorem VRow.other{w w':World}{base:Nat}{v:Value}{qs:List Q3}{rs:List (RC×RC×RC)}(h:VRow w base v qs rs){row:Option Nat}(j:w.grownBy w' row)(C:re w row)(e:v.ownBlock=none\/v.ownBlock≠row):VRow w' base v qs rs:=
 ⟨World.ownsRow.kept h.own j e,h.len,fun i r q u A=>(h.vec i r q u A).grown j C⟩
theorem VRow.set{w:World}{base:Nat}{v:Value}{qs:List Q3}{rs:List (RC×RC×RC)}(h:VRow w base v qs rs){g:Nat}{cs:Array Value}{t:TypeId}(hb:Box w g cs t)(A:t≠176)(j:57≠t)(i:Nat)(u:Value):VRow (w.setCell ⟨g,i,none⟩ u) base v qs rs:=
 h.other (bE w g i u) (eH hb A) (.inr (fun e=>aH h.own hb j e.symm))
theorem VRow.app{w w':World}{base:Nat}{v F:Value}{qs:List Q3}{rs:List (RC×RC×RC)}(h:VRow w base v qs rs){r:RC×RC×RC}{q:Q3}(G:am w (.agg (ah r.1 r.2.1 r.2.2)) q)(A:w'.ownsRow base 57 12 F (rs.length+1) (rs.flatMap bQ++bQ r))(C:w.grownBy w' v.ownBlock):VRow w' base F (qs++[q]) (rs++[r]):=by
 have E:=ja h.own ν;refine⟨by rw[List.length_append,List.flatMap_append];simpa using A,by simp[h.len],fun i J H j u=>?_⟩;by_cases hi:i<rs.length
 ·rw[List.getElem?_append_left hi]at j
  rw[List.getElem?_append_left (by rw[<-h.len];exact hi)]at u;exact(h.vec i J H j u).grown C E
 ·by_cases e:i=rs.length
  ·subst e
   rw[List.getElem?_append_right ρ,Nat.sub_self]at j;rw[List.getElem?_append_right (by rw[h.len];exact Nat.le_refl _),h.len,Nat.sub_self]at u;simp at j u;subst j;subst u;exact G.grown C E
  ·rw[List.getElem?_eq_none (by simp;omega)]at j;cases j
theorem VRow.at_{w:World}{base:Nat}{v:Value}{qs:List Q3}{rs:List (RC×RC×RC)}(h:VRow w base v qs rs)(i:Nat)(q:Q3)(E:qs[i]?=some q):
 ∃b u r,v=.slice (some ⟨b,0,none⟩) qs.length u/\b<w.heap.size/\qs.length<=u/\v.ownBlock=some b/\rs[i]?=some r/\am w (.agg (ah r.1 r.2.1 r.2.2)) q/\∀j,j<12->w.cell? ⟨b,i*12+j,none⟩=(bQ r)[j]? := by
 have hi:i<rs.length:=by rw[h.len];exact(List.getElem?_eq_some_iff.1 E).1
 obtain⟨Q,⟨_,h0⟩|⟨g,u,F,rfl,L,G,J,R,U,W⟩⟩:=h.own
 ·omega
 ·obtain⟨r,C⟩:∃r,rs[i]?=some r:=⟨_,List.getElem?_eq_getElem hi⟩
  refine⟨g,u,r,by rw[h.len],(Array.getElem?_eq_some_iff.1 G).1,by rw[<-h.len];exact J,rfl,C,h.vec i r q C E,fun j H=>?_⟩;have A:i*12+j<rs.length*12:=I;have e:=World.ownsRow.cellAt h.own (i*12+j) A;rw[e];exact dQ bQ 12 vec12_len rs i j r C H
theorem ig{a b c:World}{row j:Option Nat}(h:a.grownBy b row)(k:b.grownBy c j)(C:∀g,j=some g->a.heap.size<=g\/row=some g):a.grownBy c row:=
 ⟨k.os.trans h.os,k.tape.trans h.tape,k.output.trans h.output,Nat.le_trans h.size k.size,fun i hi A=>by
  rw[k.block i (Nat.lt_of_lt_of_le hi h.size) (fun e=>by
   rcases C i e.symm with u|u
   ·omega
   ·exact A u.symm)]
  exact h.block i hi A⟩
structure FR where
 n:RC × RC × RC
 o:RC
 v:Value
def rc4(r:RC):List Value:=[.bool r.s,.slice r.a r.n r.c,.bool r.t,.slice r.b r.m r.d]
def cI(f:FR):List Value:=bQ f.n++rc4 f.o++[f.v]
theorem qA(f:FR):(cI f).length=17:=rfl
structure FRow (w:World) (base:Nat) (v:Value) (fs:List (Q3 × Rat)) (rs:List FR):Prop where
 own:w.ownsRow base 155 17 v rs.length (rs.flatMap cI)
 len:rs.length=fs.length
 vec:∀ (i:Nat) (r:FR) (q:Q3 × Rat),rs[i]?=some r→fs[i]?=some q→am w (.agg (ah r.n.1 r.n.2.1 r.n.2.2)) q.1/\ak w r.o.agg q.2
theorem FRow.below{w w':World}{base:Nat}{v:Value}{fs:List (Q3×Rat)}{rs:List FR}(h:FRow w base v fs rs)(hb:Bl w w'):FRow w' base v fs rs:=
 ⟨aC h.own hb,h.len,fun i r q e j=>⟨(h.vec i r q e j).1.below hb,(h.vec i r q e j).2.below hb⟩⟩
theorem FRow.nil(w:World)(base:Nat):FRow w base (.slice none 0 0) [] []:=⟨World.ownsRow_nil _ _ _ _,rfl,fun i r q h=>by simp at h⟩
theorem FRow.other{w w':World}{base:Nat}{v:Value}{fs:List (Q3×Rat)}{rs:List FR}(h:FRow w base v fs rs){row:Option Nat}(e:w.grownBy w' row)(C:re w row)(j:v.ownBlock=none\/v.ownBlock≠row):FRow w' base v fs rs:=
 ⟨World.ownsRow.kept h.own e j,h.len,fun i r q u A=>⟨(h.vec i r q u A).1.grown e C,(h.vec i r q u A).2.grown e C⟩⟩
theorem FRow.set{w:World}{base:Nat}{v:Value}{fs:List (Q3×Rat)}{rs:List FR}(h:FRow w base v fs rs){g:Nat}{cs:Array Value}{t:TypeId}(hb:Box w g cs t)(A:t≠176)(j:155≠t)(i:Nat)(u:Value):FRow (w.setCell ⟨g,i,none⟩ u) base v fs rs:=
 h.other (bE w g i u) (eH hb A) (.inr (fun e=>aH h.own hb j e.symm))
theorem FRow.app{w w':World}{base:Nat}{v H:Value}{fs:List (Q3×Rat)}{rs:List FR}(h:FRow w base v fs rs){r:FR}{q:Q3×Rat}(L:am w (.agg (ah r.n.1 r.n.2.1 r.n.2.2)) q.1)(J:ak w r.o.agg q.2)(A:w'.ownsRow base 155 17 H (rs.length+1) (rs.flatMap cI++cI r))(C:w.grownBy w' v.ownBlock):FRow w' base H (fs++[q]) (rs++[r]):=by
 have E:=ja h.own ν;refine⟨by rw[List.length_append,List.flatMap_append];simpa using A,by simp[h.len],fun i G F j u=>?_⟩;by_cases hi:i<rs.length
 ·rw[List.getElem?_append_left hi]at j
  rw[List.getElem?_append_left (by rw[<-h.len];exact hi)]at u;exact⟨(h.vec i G F j u).1.grown C E,(h.vec i G F j u).2.grown C E⟩
 ·by_cases e:i=rs.length
  ·subst e
   rw[List.getElem?_append_right ρ,Nat.sub_self]at j;rw[List.getElem?_append_right (by rw[h.len];exact Nat.le_refl _),h.len,Nat.sub_self]at u;simp at j u;subst j;subst u;exact⟨L.grown C E,J.grown C E⟩
  ·rw[List.getElem?_eq_none (by simp;omega)]at j;cases j
section
open Go.Sort
theorem or2_any(b:Nat)(x y:Int)(w:World)(h0:w.cell? ⟨b,0,none⟩=some (.int .i64 x))(C:w.cell? ⟨b,1,none⟩=some (.int .i64 y)):
 Calls prog 181 #[.slice (some ⟨b,0,none⟩) 2 2] w fun e w'=>e=.returned (.int .i64 (if x=0 then y else x))/\w'=w:=by
 go_enter func181,ntmps181
 go_wp2_with fail
 go_loopw [8] (fun j wr=>wr=w/\(j=.int .i64 0\/(j=.int .i64 1/\x=0)\/(j=.int .i64 2/\x=0/\y=0))) (fun j _=>2-(intOf j).toNat)
 case atStart=>exact⟨rfl,.inl rfl⟩
 case round =>
  obtain⟨rfl,rfl|⟨rfl,i⟩|⟨rfl,i,u⟩⟩:=hrel
  ·by_cases i:x=0
   ·have A:decide (x=0)=true:=by simp[i]
    go_wp2_with fail
    go_roundw
    case rel=>exact⟨by first|trivial|rfl,.inr (.inl ⟨by first|trivial|rfl,i⟩)⟩
    case measure=>decide
   ·have A:decide (x=0)=false:=by simp[i]
    go_wp2_with fail
    go_ret
    first|exact⟨rfl,rfl⟩|exact rfl
  ·by_cases u:y=0
   ·have A:decide (y=0)=true:=by simp[u]
    go_wp2_with fail
    go_roundw
    case rel=>exact⟨by first|trivial|rfl,.inr (.inr ⟨by first|trivial|rfl,i,u⟩)⟩
    case measure=>decide
   ·have A:decide (y=0)=false:=by simp[u]
    go_wp2_with fail
    go_ret
    first|exact⟨rfl,rfl⟩|exact rfl
  ·go_wp2_with fail
   go_ret
   first|exact⟨rfl,rfl⟩|exact rfl
def cmpE(a b a' b':Int):Int:=if Lib.compareInt a a'=0 then Lib.compareInt b b' else Lib.compareInt a a'
theorem edges1_any(a b c d j u H J:Int)(w:World):
 Calls prog 180 #[.agg #[.int .i64 a,.int .i64 b,.int .i64 c,.int .i64 d],.agg #[.int .i64 j,.int .i64 u,.int .i64 H,.int .i64 J]] w fun e w'=>e=.returned (.int .i64 (cmpE a b j u))/\∃q X,w'=Go.Sort.grow (w.drewN q) X:=by
 obtain⟨A,C⟩:∃c,Lib.compareInt a j=c:=ξ;obtain⟨cb,E⟩:∃c,Lib.compareInt b u=c:=ξ;obtain⟨Q,R⟩:=η2 (fun w=>C▸cmp_Compare_int a j w) (fun w=>E▸cmp_Compare_int b u w);have Y:=O (show cmpE a b j u=if A=0 then cb else A by unfold cmpE;rw[C,E]);clear C E;obtain⟨W,L,b1,b2,hB,hS⟩:=bU w #[.int .i64 a,.int .i64 b,.int .i64 c,.int .i64 d] #[.int .i64 j,.int .i64 u,.int .i64 H,.int .i64 J] 153 153;have U:∃q os,W.drew=Go.Sort.grow (w.drewN q) os:=by
  refine⟨1,#[.cells #[.int .i64 a,.int .i64 b,.int .i64 c,.int .i64 d] 153]++#[.cells #[.int .i64 j,.int .i64 u,.int .i64 H,.int .i64 J] 153],?_⟩;rw[<-L,alloc_eq_grow,alloc_eq_grow,Go.Sort.grow_grow];rfl
 have HG:=O U;have hcs:W.drew.cell? ⟨w.heap.size,0,none⟩=some (.int .i64 a)/\W.drew.cell? ⟨w.heap.size,1,none⟩=some (.int .i64 b)/\W.drew.cell? ⟨w.heap.size+1,0,none⟩=some (.int .i64 j)/\W.drew.cell? ⟨w.heap.size+1,1,none⟩=some (.int .i64 u)/\∃q os,W.drew=Go.Sort.grow (w.drewN q) os:=
  ⟨b1.cell 0,b1.cell 1,b2.cell 0,b2.cell 1,U⟩
 have F:∃q os,(W.alloc (.cells #[.int .i64 A,.int .i64 cb] 3)).drew=Go.Sort.grow (w.drewN q) os:=by
  refine⟨1,(#[.cells #[.int .i64 a,.int .i64 b,.int .i64 c,.int .i64 d] 153]++#[.cells #[.int .i64 j,.int .i64 u,.int .i64 H,.int .i64 J] 153])++#[.cells #[.int .i64 A,.int .i64 cb] 3],?_⟩;rw[<-L,alloc_eq_grow,alloc_eq_grow,alloc_eq_grow,Go.Sort.grow_grow,Go.Sort.grow_grow];rfl
 have G:=(⟨(b1.old (.cells #[.int .i64 A,.int .i64 cb] 3)).cell 0,(b1.old (.cells #[.int .i64 A,.int .i64 cb] 3)).cell 1,(b2.old (.cells #[.int .i64 A,.int .i64 cb] 3)).cell 0,(b2.old (.cells #[.int .i64 A,.int .i64 cb] 3)).cell 1,F⟩:(fun w'=>w'.cell? ⟨w.heap.size,0,none⟩=some (.int .i64 a)/\w'.cell? ⟨w.heap.size,1,none⟩=some (.int .i64 b)/\w'.cell? ⟨w.heap.size+1,0,none⟩=some (.int .i64 j)/\w'.cell? ⟨w.heap.size+1,1,none⟩=some (.int .i64 u)/\∃q os,w'=Go.Sort.grow (w.drewN q) os) (W.alloc (.cells #[.int .i64 A,.int .i64 cb] 3)).drew);clear b1 b2 hB hS U
 go_enter func180,ntmps180
 go_wp2_with fail
 try rw[L]
 clear L;refine gO (S:=fun w'=>w'.cell? ⟨w.heap.size,0,none⟩=some (.int .i64 a)/\w'.cell? ⟨w.heap.size,1,none⟩=some (.int .i64 b)/\w'.cell? ⟨w.heap.size+1,0,none⟩=some (.int .i64 j)/\w'.cell? ⟨w.heap.size+1,1,none⟩=some (.int .i64 u)/\∃q os,w'=Go.Sort.grow (w.drewN q) os) (by simp) Z Z ?_;dsimp only[List.dropLast,List.getLast];refine cQ 0 ?_;try simp only[Act.put,σ]
 refine cQ 2 ?_;try simp only[Act.put,σ]
 refine cQ 5 ?_;try simp only[Act.put,σ]
 refine cQ 7 ?_;try simp only[Act.put,σ]
 refine cQ 1 ?_;try simp only[Act.put,σ]
 refine cQ 3 ?_;try simp only[Act.put,σ]
 refine cQ 6 ?_;try simp only[Act.put,σ]
 refine cQ 8 ?_;try simp only[Act.put,σ]
 refine wpAnyH_ready (rs:=[4]) Z (by simp) ?_;refine AllReadyH.cons rfl (fun K hK=>?_) AllReadyH.nil;go_simp;refine(Q.o _).mono ?_;rintro e y1 ⟨rfl,rfl⟩;refine hK.out _ _ ?hS (fun i=>?rest)
 case hS=>(try dsimp only);assumption
 case rest =>
 clear hK K
 try simp only[Act.put,σ]
 refine wpAnyH_ready (rs:=[9]) Z (by simp) ?_;refine AllReadyH.cons rfl (fun K hK=>?_) AllReadyH.nil;go_simp;refine(R.o _).mono ?_;rintro e y2 ⟨rfl,rfl⟩;refine hK.out _ _ ?hS (fun i=>?rest)
 case hS=>(try dsimp only);assumption
 case rest =>
 clear hK K
 try simp only[Act.put,σ]
 refine wpAnyH_ready (rs:=[10]) Z (by simp) ?_;refine AllReadyH.cons rfl (fun K hK=>?_) AllReadyH.nil;go_simp;refine hK.out _ _ ?hS (fun i=>?rest)
 case hS=>(try dsimp only);exact G
 case rest =>
 clear hK K
 try simp only[Act.put,σ]
 refine wpAnyH_ready (rs:=[11]) Z (by simp) ?_;refine AllReadyH.cons rfl (fun K hK=>?_) AllReadyH.nil;go_simp;refine(or2_any _ _ _ _ (Box.cell (Box.new1 _ _ _) 0) (Box.cell (Box.new1 _ _ _) 1)).mono ?_;rintro e y1 ⟨rfl,rfl⟩;refine hK.out _ _ ?hS (fun i=>?rest)
 case hS=>(try dsimp only);assumption
 case rest =>
 clear hK K
 try simp only[Act.put,σ]
 refine wpAnyH_done Z ?_ _;show Oper.wp _ _ _ _ _ _;go_simp;go_wp2
 all_goals exact bodyPost_ret (results_tmp results180 _ _ _) rfl ⟨by first|(rw[Y.o,if_pos (by assumption)];rfl)|(rw[Y.o,if_neg (by assumption)];rfl),by first|exact F|exact(show A=0 from by assumption)▸F⟩
end
structure ED where
 a:Nat
 b:Nat
 f:Int
 g:Int
def cx(e:ED):List Value:=[.int .i64 (e.a:Int),.int .i64 (e.b:Int),.int .i64 e.f,.int .i64 e.g]
def eI(w:World)(base:Nat)(v:Value)(l:List ED):Prop:=w.ownsRow base 153 4 v l.length (l.flatMap cx)
theorem cmpI_lt{a b:Int}:Lib.compareInt a b<0↔a<b:=by rw[iR];split<;>(try split)<;>omega
theorem cmpI_0{a b:Int}:Lib.compareInt a b=0↔a=b:=by rw[iR];split<;>(try split)<;>omega
section
open Go.Sort
theorem tQ(a b e i:Int):cmpE a b e i<0↔(a<e\/(a=e/\b<i)):=by
 unfold cmpE
 split
 ·rename_i h;rw[cmpI_0]at h;rw[cmpI_lt];omega
 ·rename_i h;rw[cmpI_0]at h;rw[cmpI_lt];omega
theorem rm(v:Value)(fs:List ED)(base:Nat)(w:World)(hO:eI w base v fs)(hl:fs.length<=262144):
 Calls prog 179 #[v,.func (.func 180) #[] #[]] w fun e w'=>e=.returned (.tuple #[]) /\
  (∃Q,Q.Perm fs/\eI w' base v Q)/\w.grownBy w' v.ownBlock:=by
 by_cases h0:fs.length=0
 ·have:fs=[]:=List.length_eq_zero_iff.1 h0
  subst this;obtain⟨p,A,rfl⟩:∃p A,v=.slice p 0 A:=by
   obtain⟨_,⟨rfl,_⟩|⟨g,c,_,rfl,_⟩⟩:=hO
   ·exact⟨_,_,rfl⟩
   ·exact⟨_,_,rfl⟩
  have hc:=AnyF.slices_SortFunc_none sortEdge p A (.func (.func 180) #[] #[]) w;change Calls prog 179 _ _ _ at hc;exact hc.mono fun e w' ⟨he,hw⟩=>⟨he,⟨[],List.Perm.refl _,by rw[hw];exact hO⟩,by rw[hw];exact World.grownBy.refl _ _⟩
 ·have X:0<fs.length:=I
  haveI:Inhabited (Fin fs.length):=⟨⟨0,X⟩⟩
  have ab:=hO;obtain⟨ag,⟨rfl,h1⟩|⟨g,A,an,rfl,hg,hh,hn,hm,hs,ht⟩⟩:=hO
  ·exact absurd h1 h0
  have ac:g<w.heap.size:=(Array.getElem?_eq_some_iff.1 hh).1;have eg:∀args w,(callFunc 180 args).run prog w=.ok (.enter 180 args) w:=enters_of func180 Z rfl;obtain⟨d,hd⟩:∃d:Array (Fin fs.length),d=Array.ofFn id:=⟨_,rfl⟩;have F:fs.length=d.size:=by rw[hd];simp
  have U:d.toList.map (fun i=>fs.get i)=fs:=by
   rw[hd,Array.toList_ofFn];refine List.ext_getElem (by simp) fun i h1 h2=>by simp
  have E:∀l:List (Fin fs.length),l.flatMap (fun i=>cx (fs.get i))=(l.map fun i=>fs.get i).flatMap cx:=fun l=>by rw[List.flatMap_map]
  have H:∀x:Fin fs.length,(cx (fs.get x)).length=4:=fun _=>rfl
  have W:∀x:Fin fs.length,∀u∈cx (fs.get x),u.oneCell'=true:=by
   intro x u hu;simp only[cx,List.mem_cons,List.not_mem_nil,or_false]at hu
   rcases hu with rfl|rfl|rfl|rfl<;>rfl
  have hH:HoldsK (fun i:Fin fs.length=>cx (fs.get i)) 4 w g 0 d:=
   lG _ 4 H I d F (by rw[E,U]) ab
  have R:CmpLays prog 180 #[] (fun i:Fin fs.length=>cx (fs.get i)) 4 (fun i j=>cmpE ((fs.get i).a:Int) ((fs.get i).b:Int) ((fs.get j).a:Int) ((fs.get j).b:Int)) g 0 d.size w:=by
   intro m os dk _ x y;exact edges1_any _ _ _ _ _ _ _ _ _
  have aa:SWO (ltOf fun i j:Fin fs.length=>cmpE ((fs.get i).a:Int) ((fs.get i).b:Int) ((fs.get j).a:Int) ((fs.get j).b:Int)):=by
   refine⟨fun x=>?_,fun x y z h1 h2=>?_,fun x y z h1 h2=>?_⟩
   ·simp only[ltOf,decide_eq_false_iff_not,tQ];omega
   ·simp only[ltOf,decide_eq_true_eq,tQ]at *;omega
   ·simp only[ltOf,decide_eq_false_iff_not,tQ]at *;omega
  have hc:=AnyQ.slices_SortFunc sortEdge 4 isAgg153 sizeOf153 (fun i:Fin fs.length=>cx (fs.get i)) H W _ aa 180 #[] g 0 A d w eg R hH ac I;change Calls prog 179 _ _ _ at hc;rw[<-F]at hc;refine hc.mono fun e w' ⟨he,G,m,os,hp,ao,hw⟩=>?_
  obtain⟨af,_,Y⟩:=hp;have C:fs.length=G.size:=by rw[af];exact F
  have L:(G.toList.map (fun i=>fs.get i)).Perm fs:=by
   have ext:∀(k:Nat) (x:Array (Fin fs.length)),k=x.size->x.extract 0 k=x:=fun k x H=>by subst H;simp
   have e1:=ext _ G C;have e2:=ext _ d F;rw[e1,e2]at Y;have:=Y.map (fun i=>fs.get i)
   rwa [U]at this
  refine⟨he,⟨G.toList.map (fun i=>fs.get i),L,?_⟩,?_⟩
  ·rw[hw];unfold eI
   have J:G.toList.length=fs.length:=by rw[Array.length_toList];exact C.symm
   rw[List.length_map,J,<-E];exact ln _ 4 H I G C m os hh hg hn hm hs
  ·rw[hw];exact⟨rfl,rfl,rfl,size_sortWorldK_c _ 4 w g 0 m G os,fun k H ad=>fM _ 4 w g 0 m G os k (fun e=>ad (by rw[e];rfl)) H⟩
end
section
open Classical in
noncomputable def j8 (P:Nat→V) (N:Nat):Int:=if 64<N then 6 else if ∃ i,i<N/\far (P i)=true then 2 else if N=0\/¬ eA P N then 23 else if 16<(dJ P N).length then 6 else 0
def jI(P:Nat->V)(N base:Nat)(w:World)(e:Ending):Prop:=
 ∃v,e=.returned (.tuple #[.agg #[v],.int .i64 (j8 P N)])/\(j8 P N≠0->v=.slice none 0 0)/\(j8 P N=0->bM w base v (dJ P N))
theorem jI.err{P:Nat->V}{N base:Nat}{w:World}{r:Int}(h:j8 P N=r)(h0:r≠0):jI P N base w (.returned (.tuple #[.agg #[.slice none 0 0],.int .i64 r])):=
 ⟨_,by rw[h],fun _=>rfl,fun e=>absurd (h.symm.trans e) h0⟩
theorem v3_one(l:List V):∀u∈l.flatMap v3,u.oneCell'=true:=fun u e=>by
 obtain⟨p,_,h⟩:=List.mem_flatMap.mp e;simp[v3]at h
 rcases h with rfl|rfl|rfl<;>rfl
theorem v3_one1(p:V):∀u∈v3 p,u.oneCell'=true:=fun u e=>by
 simp[v3]at e
 rcases e with rfl|rfl|rfl<;>rfl
theorem bL.set{α:Type}{enc:α->List Value}{k:Nat}{t:TypeId}{w:World}{base:Nat}{v:Value}{l:List α}(h:bL w base t k enc v l){g:Nat}{cs:Array Value}{A:TypeId}(hb:Box w g cs A)(j:t≠A)(i:Nat)(u:Value):bL (w.setCell ⟨g,i,none⟩ u) base t k enc v l:=
 h.kept (bE w g i u) (.inr (fun e=>aH h hb j e.symm))
theorem src_new(w:World)(cs:List Value)(t:TypeId)(k m:Nat)(e:cs.length=m*k):jj (w.alloc (.cells cs.toArray t)) k (some ⟨w.heap.size,0,none⟩) m cs:=
 jj.some e fun j i=>by rw[Nat.zero_add,(Box.new w cs.toArray t _ rfl).cell j];simp
end
section
open Classical
theorem jc:(prog.info? 102).map (·.size)=some 1:=by kernel_rfl
theorem infoVz:(prog.info? 77).map (fun i=>(i.zero,i.size,i.bytes))=some (some (.agg #[.int .i64 0,.int .i64 0,.int .i64 0]),3,24):=by kernel_rfl
end
section
open Go.Sort
instance : Inhabited V := ⟨V.zero⟩
theorem cmpV_trans(x y z:V)(e:iy x y<0)(i:iy y z<0):iy x z<0:=iS _ _ _ e i
theorem cmpV_ge(x y z:V)(e:¬ iy x y<0)(i:¬ iy y z<0):¬ iy x z<0:=iT _ _ _ e i
theorem cmpV_self(x:V):iy x x=0:=ny _
theorem sP(x y:V):iy y x=- iy x y:=nw _ _
end
section
open Go.Sort
theorem corder_grow(a b:V)(w:World):
 Calls prog 128 #[dP a,dP b] w fun e w'=>e=.returned (.int .i64 (iy a b))/\∃q i,w'=grow (w.drewN q) i:=by
 obtain⟨W,F,b1,b2,E,hS⟩:=bU w #[.int .i64 a.x,.int .i64 a.y,.int .i64 a.z] #[.int .i64 b.x,.int .i64 b.y,.int .i64 b.z] 77 77;obtain⟨j,u⟩:=η2 b1 b2;obtain⟨G,H,J,-⟩:=b1.three;obtain⟨L,Q,R,-⟩:=b2.three;have C:=O F;have A:Hid (bK [a.x,a.y,a.z] [b.x,b.y,b.z]=iy a b):=by exact rfl
 clear b1 b2 hS E;unfold dP
 go_enter func128,ntmps128
 go_wp2_with fail
 go_quiet (first|(go_at_call 162;refine Calls.quiet_of_same (fw _ _ 3 3 3 3 _ _ _ ((Ints.of_box j.o).below (aF β _)) ((Ints.of_box u.o).below (aF β _)) I I)))
 go_wp2;exact bodyPost_ret (results_tmp results128 _ _ _) rfl ⟨by rw[<-A.o];rfl,_,_,by rw[<-C.o,alloc_eq_grow,alloc_eq_grow,grow_grow];rfl⟩
theorem sortPts_any(v:Value)(l:List V)(base:Nat)(w:World)(hO:bM w base v l)(hl:l.length<=262144):
 Calls prog 127 #[v,.func (.func 128) #[] #[]] w fun e w'=>e=.returned (.tuple #[]) /\
  (∃l',l'.Perm l/\l'.Pairwise (fun a b=>iy a b<=0)/\bM w' base v l')/\Go.RowKit.Below base w w':=by
 by_cases h0:l.length=0
 ·have:l=[]:=List.length_eq_zero_iff.1 h0
  subst this;obtain⟨p,C,rfl⟩:∃p C,v=.slice p 0 C:=by
   obtain⟨_,⟨rfl,_⟩|⟨g,c,_,rfl,_⟩⟩:=hO
   ·exact⟨_,_,rfl⟩
   ·exact⟨_,_,rfl⟩
  have hc:=AnyF.slices_SortFunc_none sortPt p C (.func (.func 128) #[] #[]) w;change Calls prog 127 _ _ _ at hc;exact hc.mono fun e w' ⟨he,Y⟩=>⟨he,⟨[],List.Perm.refl _,List.Pairwise.nil,by rw[Y];exact hO⟩,by rw[Y];exact Go.RowKit.Below.refl _ _⟩
 ·have ao:0<l.length:=I
  have aa:=hO;obtain⟨an,⟨rfl,J⟩|⟨g,C,ap,rfl,hg,hh,hn,hm,hs,ht⟩⟩:=hO
  ·exact absurd J h0
  have R:g<w.heap.size:=(Array.getElem?_eq_some_iff.1 hh).1;have eg:∀args w,(callFunc 128 args).run prog w=.ok (.enter 128 args) w:=enters_of func128 Z rfl;obtain⟨d,hd⟩:∃d:Array V,d=l.toArray:=⟨_,rfl⟩;have F:l.length=d.size:=by rw[hd];simp
  have Q:d.toList=l:=by rw[hd]
  have U:∀x:V,∀u∈v3 x,u.oneCell'=true:=fun x u hu=>by
   simp[v3]at hu
   rcases hu with rfl|rfl|rfl<;>rfl
  have hH:HoldsK v3 3 w g 0 d:=lG _ 3 jr I d F (by rw[Q]) aa;have L:CmpLays prog 128 #[] v3 3 iy g 0 d.size w:=by
   intro m os dk _ x y;exact corder_grow x y _
  have X:SWO (ltOf iy):=by
   refine⟨fun x=>by simp[ltOf,cmpV_self],fun x y z J h2=>?_,fun x y z J h2=>?_⟩
   ·simp only[ltOf,decide_eq_true_eq]at *;exact cmpV_trans _ _ _ J h2
   ·simp only[ltOf,decide_eq_false_iff_not]at *;exact cmpV_ge _ _ _ J h2
  have hc:=AnyQ.slices_SortFunc sortPt 3 isAgg77 sizeOf77 v3 jr U _ X 128 #[] g 0 C d w eg L hH R I;change Calls prog 127 _ _ _ at hc;rw[<-F]at hc;refine hc.mono fun e w' ⟨he,A,m,os,hp,ag,Y⟩=>?_
  obtain⟨af,_,W⟩:=hp;have E:l.length=A.size:=by rw[af];exact F
  have H:A.toList.Perm l:=by
   have ext:∀(k:Nat) (x:Array V),k=x.size->x.extract 0 k=x:=fun k x hk=>by subst hk;simp
   have e1:=ext _ A E;have e2:=ext _ d F;rw[e1,e2]at W;have:=W
   rwa [Q]at this
  refine⟨he,⟨A.toList,H,?_,?_⟩,?_⟩
  ·rw[List.pairwise_iff_getElem]
   intro i j hi hj ac;have ad:j<A.size:=by simpa using hj
   have ab:i<A.size:=by simpa using hi
   have:=ag i j (Nat.zero_le _) ac I;simp only[ltOf,decide_eq_false_iff_not]at this;have e1:A[j]! = A.toList[j]:=by simp[ad]
   have e2:A[i]! = A.toList[i]:=by simp[ab]
   rw[e1,e2,sP]at this;omega
  ·rw[Y]
   have G:A.toList.length=l.length:=by rw[Array.length_toList];exact E.symm
   show World.ownsRow _ _ _ _ _ _ _;rw[G];exact ln _ 3 jr I A E m os hh hg hn hm hs
  ·rw[Y];exact iW _ 3 w g 0 m A os base hg R
end
theorem Pts.src{w:World}{a:Option Addr}{n i:Nat}{P:Nat->V}(h:Pts w a n i P):jj w 3 a n (((List.range n).map P).flatMap v3):=by
 have C:(((List.range n).map P).flatMap v3).length=n*3:=by rw[qx jr];simp
 cases a with
 | none =>
  have A:n=0:=by have u:=h.nil rfl;have F:=h.le;omega
  rw[A];exact jj.none w 3
 | some x =>
  obtain⟨u,F,G⟩:=h.at_ x rfl;obtain⟨b,off,Q⟩:=x;simp only at u;subst u;refine jj.some C fun j J=>?_
  rw[C]at J;have hi:j / 3<n:=Nat.div_lt_of_lt_mul I;have H:((List.range n).map P)[j / 3]?=some (P (j / 3)):=by rw[List.getElem?_map,List.getElem?_range hi];rfl
  have hc:=dQ v3 3 jr _ (j / 3) (j % 3) _ H (Nat.mod_lt _ I);rw[show j / 3*3+j % 3=j by omega]at hc;rw[hc];obtain⟨E,c1,c2⟩:=G (j / 3) hi;have L:j % 3=0\/j % 3=1\/j % 3=2:=I
  rcases L with e|e|e
  ·rw[e];have:off+j=off+j / 3*3:=I
   rw[this];exact E
  ·rw[e];have:off+j=off+j / 3*3+1:=I
   rw[this];exact c1
  ·rw[e];have:off+j=off+j / 3*3+2:=I
   rw[this];exact c2
theorem tR(a:Option Addr)(len i:Nat)(P:Nat->V)(w:World)(j:Pts w a len i P)(hl:len<=262144):
 Calls prog 86 #[.slice a len i] w fun e w'=>(∃v,e=.returned v/\bM w' w.heap.size v ((List.range len).map P))/\Bl w w':=by
 obtain⟨X,A,H,J,L⟩:=info_parts infoVz;have R:=O j.src;have G:a=none->len=0:=fun e=>by have h1:=j.nil e;have h2:=j.le;omega
 have Q:=O j;clear j
 cases a with
 | none =>
  have:=G rfl;subst this;clear G R Q;have W:=fun w=>Lib.run_eql_slice_nil (P:=prog) w 100 77 none 0 i 0 0 underlying100
  go_enter func86,ntmps86
  go_wp2;exact bodyPost_ret (results_tmp results86 _ _ _) rfl ⟨⟨_,rfl,bL.nil _ _ _ _ _⟩,Below.refl _ _⟩
 | some x =>
  clear G Q;have W:=fun w=>Lib.run_eql_slice_nil (P:=prog) w 100 77 (some x) len i 0 0 underlying100
  go_enter func86,ntmps86
  go_wp2_with (at_builtin;refine cH _ rfl _ _ 100 rfl w.heap.size 77 X (.agg #[.int .i64 0,.int .i64 0,.int .i64 0]) 3 24 underlying100 A H J L rfl ν _ _ _ rfl (World.ownsRow_made w #[] 0 ρ (Nat.zero_le _) rfl) _ _ _ _ rfl (R.o.below (β.alloc ρ _)) (v3_one _) (by unfold maxLen;omega) I (by simp) ?_)
  intro Y U C u;have E:=O (show Bl w U from(β.alloc ρ _).grown u (by simp) (fun g e=>by cases e;exact Nat.le_refl _));have F:=O (show bM U w.heap.size Y ((List.range len).map P)from by
   show World.ownsRow _ _ _ _ _ _ _;rw[show((List.range len).map P).length=len by simp];exact C)
  clear C u;go_wp2;exact bodyPost_ret (results_tmp results86 _ _ _) rfl ⟨⟨_,rfl,F.o⟩,E.o⟩
end Go.Proofs.Υ
