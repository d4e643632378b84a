/- Lemmas. -/
import Derived.Test.YtodehkjinmgflaaGreatDoorV20
import Derived.Test.YtodehkjinmgflaaGreatDoorV24
set_option linter.all false
set_option maxHeartbeats 0
set_option maxRecDepth 99999
namespace Go.Proofs.Υ
open Go Go.RowKit
section
def ew(X:Nat->Prop)(W:World):Prop:=∀k,X k->∀cs,W.heap[k]?≠some (.cells cs 176 (0,0))
theorem ew.none(W:World):ew (fun _=>False) W:=fun _ h=>h.elim
theorem ew.box{W:World}{k:Nat}{cs:Array Value}{t:TypeId}(h:Box W k cs t)(C:t≠176):ew (fun j=>j=k) W:=fun j e u i=>by
 subst e;have A:W.heap[j]?=some (.cells cs t (0,0)):=h;rw[A]at i;injection i with i
 injection i with _ i _
 exact C i
section
variable {n0 : Nat} {X : Nat → Prop} {W W' : World}
theorem Mag.keepC{a:Option Addr}{n j:Nat}{C:List Nat}(h:Mag W a n j C)(E:KeepC n0 X W W')(H:ew X W):Mag W' a n j C:=by
 have hb:∀x,a=some x->W'.heap[x.block]?=W.heap[x.block]? := fun x e=>by
  obtain⟨cs,u⟩:=h.ty x e;rw[E.same x.block cs _ _ (fun A=>H _ A _ u) u,u]
 refine⟨⟨h.sl.le,h.sl.len,h.sl.nil,fun x e=>?_⟩,h.dg,h.len,fun x e=>by rw[hb x e];exact h.ty x e⟩;obtain⟨u,F,G⟩:=h.sl.at_ x e;refine⟨u,Nat.lt_of_lt_of_le F E.size,fun i hi=>?_⟩;have:=G i hi;unfold World.cell? at this⊢;rw[show(⟨x.block,x.off+i,none⟩:Addr).block=x.block from rfl]at this⊢;rw[hb x e];exact this
theorem aO.keepC{v:Value}{z:Int}(h:aO W v z)(F:KeepC n0 X W W')(E:ew X W):aO W' v z:=by
 obtain⟨s,a,n,e,i,j,G,u,A,C⟩:=h;exact⟨s,a,n,e,i,j,G,u.keepC F E,A,C⟩
theorem ak.keepC{v:Value}{q:Rat}(h:ak W v q)(i:KeepC n0 X W W')(e:ew X W):ak W' v q:=by
 obtain⟨s1,j,G,c1,s2,u,H,c2,d,A,C,E,F⟩:=h;exact⟨s1,j,G,c1,s2,u,H,c2,d,A,C.keepC i e,E.keepC i e,F⟩
theorem am.keepC{v:Value}{q:Q3}(h:am W v q)(i:KeepC n0 X W W')(e:ew X W):am W' v q:=by
 obtain⟨E,F,G,j,u,A,C⟩:=h;exact⟨E,F,G,j,u.keepC i e,A.keepC i e,C.keepC i e⟩
theorem Box.keepC{k:Nat}{cs:Array Value}{t:TypeId}(h:Box W k cs t)(i:KeepC n0 X W W')(e:¬ X k):Box W' k cs t:=i.same k cs t _ e h
end
theorem FRow.nth{w:World}{base:Nat}{v:Value}{qs:List (Q3×Rat)}{rs:List FR}(h:FRow w base v qs rs)(i:Nat)(hi:i<rs.length):
 ∃b e r,v=.slice (some ⟨b,0,none⟩) rs.length e/\b<w.heap.size/\rs[i]?=some r/\∀j,j<17->w.cell? ⟨b,i*17+j,none⟩=(cI r)[j]? := by
 obtain⟨H,⟨_,h0⟩|⟨g,e,C,rfl,G,E,L,J,Q,R⟩⟩:=h.own
 ·omega
 ·obtain⟨r,A⟩:∃r,rs[i]?=some r:=⟨_,List.getElem?_eq_getElem hi⟩
  refine⟨g,e,r,rfl,(Array.getElem?_eq_some_iff.1 E).1,A,fun j F=>?_⟩;have u:i*17+j<rs.length*17:=I;rw[World.ownsRow.cellAt h.own (i*17+j) u];exact dQ cI 17 qA rs i j r A F
end
section
def Sh12(cs:Array Value):Prop:=∃r0 r1 r2,cs=ah r0 r1 r2
def aE(r:RC):Array Value:=#[.bool r.s,.slice r.a r.n r.c,.bool r.t,.slice r.b r.m r.d]
def Sh4(cs:Array Value):Prop:=∃r,cs=aE r
theorem sh12(e i j:RC):Sh12 (ah e i j):=⟨_,_,_,rfl⟩
theorem sh4(r:RC):Sh4 (aE r):=⟨_,rfl⟩
theorem Box.at1{w:World}{g:Nat}{r:RC}{t:TypeId}(h:Box w g (aE r) t):At4 w g 0 r:=⟨⟨h.four.1,h.four.2.1,h.four.2.2.1,h.four.2.2.2.1⟩,h.free 0,h.free 1,h.free 2,h.free 3⟩
theorem Box.s4{w:World}{g:Nat}{r:RC}{t:TypeId}(h:Box w g (aE r) t)(a:RC):Box (put4 w g 0 a) g (aE a) t:=
 (((h.set 0 (.bool a.s)).set 1 (.slice a.a a.n a.c)).set 2 (.bool a.t)).set 3 (.slice a.b a.m a.d)
theorem Box.o12{w:World}{g:Nat}{cs:Array Value}{t:TypeId}(h:Box w g cs t){g':Nat}(e:g≠g')(a b c:RC):Box (put12 w g' a b c) g cs t:=((h.oput4 e 0 a).oput4 e 4 b).oput4 e 8 c
theorem dX(w:World)(g o:Nat)(r:RC):w.grownBy (put4 w g o r) (some g):=
 (((bE w g o (.bool r.s)).trans (bE _ g (o+1) _)).trans (bE _ g (o+2) _)).trans (bE _ g (o+3) _)
theorem j9(w:World)(g:Nat)(a b c:RC):w.grownBy (put12 w g a b c) (some g):=((dX w g 0 a).trans (dX _ g 4 b)).trans (dX _ g 8 c)
def eY(Sh:Array Value->Prop)(n:Nat)(t:TypeId)(v:Value)(w:World):Prop:=∃g cs,v=.pointer (some ⟨g,0,none⟩)/\n<=g/\Sh cs/\Box w g cs t
theorem eY.stab{Sh:Array Value->Prop}{n:Nat}{t:TypeId}:∀v w w',Bl w w'->eY Sh n t v w->eY Sh n t v w':=fun _ _ _ h ⟨g,cs,e,j,u,i⟩=>⟨g,cs,e,j,u,i.to h⟩
def Wr(Sh:Array Value->Prop)(n:Nat)(t:TypeId)(w w':World):Prop:=∃g cs cs',n<=g/\Box w g cs t/\Sh cs'/\Box w' g cs' t/\w.grownBy w' (some g)
theorem Wr.put12{w:World}{n g:Nat}{i j u:RC}{t:TypeId}(e:n<=g)(hb:Box w g (ah i j u) t)(a b c:RC):Wr Sh12 n t w (put12 w g a b c):=⟨g,_,_,e,hb,sh12 a b c,hb.s12 a b c,j9 w g a b c⟩
theorem Wr.put4{w:World}{n g:Nat}{r:RC}{t:TypeId}(e:n<=g)(hb:Box w g (aE r) t)(a:RC):Wr Sh4 n t w (put4 w g 0 a):=⟨g,_,_,e,hb,sh4 a,hb.s4 a,dX w g 0 a⟩
def sW(Sh:Array Value->Prop)(n:Nat)(t:TypeId)(r:RSpec):Prop:=∀l w w',Wr Sh n t w w'->r.rel l w->r.rel l w'
section
variable {Sh : Array Value → Prop} {n : Nat} {t : TypeId}
theorem isV.stabW{i:Nat}{c:Value}:sW Sh n t (isV i c):=fun _ _ _ _ h=>h
theorem isN.stabW{i:Nat}:sW Sh n t (isN i):=fun _ _ _ _ h=>h
theorem isP.stabW{i:Nat}{p:Value->World->Prop}(u:∀v w w',Wr Sh n t w w'->p v w->p v w'):sW Sh n t (isP i p):=
 fun _ w w' A ⟨v,e,j⟩=>⟨v,e,u v w w' A j⟩
theorem eY.stabW{m:Nat}:∀v w w',Wr Sh n t w w'->eY Sh m t v w->eY Sh m t v w':=by
 rintro v w w' ⟨g,cs,j,J,hb,H,u,A⟩ ⟨g',E,e,C,F,G⟩;by_cases i:g'=g
 ·subst i
  exact⟨g',j,e,C,H,u⟩
 ·exact⟨g',E,e,C,F,G.kept A (fun h=>i (Option.some.inj h).symm)⟩
theorem Wr.keepC{w w':World}(h:Wr Sh n t w w')(A:t≠176):∃X,KeepC 0 X w w'/\ew X w:=by
 obtain⟨g,cs,j,C,hb,E,u,i⟩:=h;exact⟨fun k=>k=g,KeepC.grown i (Nat.zero_le _) (fun r e=>by cases e;exact⟨Nat.zero_le _,.inl rfl⟩),ew.box hb A⟩
theorem isVec_stabW(j:t≠176){q:Q3}:∀v w w',Wr Sh n t w w'->am w v q->am w' v q:=fun _ _ _ h u=>by
 obtain⟨X,i,e⟩:=h.keepC j;exact u.keepC i e
theorem dh(j:t≠176){q:Rat}:∀v w w',Wr Sh n t w w'->ak w v q->ak w' v q:=fun _ _ _ h u=>by
 obtain⟨X,i,e⟩:=h.keepC j;exact u.keepC i e
def isS(i n:Nat)(t:TypeId)(p:Array Value->World->Prop):RSpec:=⟨[i],fun l w=>∃g cs,l=[.pointer (some ⟨g,0,none⟩)]/\n<=g/\Box w g cs t/\p cs w⟩
theorem isS.stab{i:Nat}{p:Array Value->World->Prop}(C:∀cs w w',Bl w w'->p cs w->p cs w'):Stab (isS i n t p):=fun _ w w' h ⟨g,cs,e,u,j,A⟩=>⟨g,cs,e,u,j.to h,C cs w w' h A⟩
theorem isS.get{i:Nat}{p:Array Value->World->Prop}{y:Nat->Value}{w:World}(h:(isS i n t p).rel ((isS i n t p).deps.map y) w):∃g cs,y i=.pointer (some ⟨g,0,none⟩)/\n<=g/\Box w g cs t/\p cs w:=by
 obtain⟨g,cs,e,j,u,A⟩:=h;exact⟨g,cs,(List.cons.inj e).1,j,u,A⟩
theorem isS.put{i j:Nat}{p:Array Value->World->Prop}{y:Nat->Value}{w:World}{u:Value}{g:Nat}{cs:Array Value}(e:i≠j)(A:y i=.pointer (some ⟨g,0,none⟩))(C:n<=g)(hb:Box w g cs t)(E:p cs w):
 (isS i n t p).rel ((isS i n t p).deps.map (upd y j u)) w:=
 ⟨g,cs,by show[upd y j u i]=_;rw[lk _ e,A],C,hb,E⟩
def aY(Sh:Array Value->Prop)(n:Nat)(t:TypeId)(Rs:List RSpec):Prop:=∀r∈Rs,sW Sh n t r
theorem aY.nil:aY Sh n t []:=fun _ h=>by cases h
theorem aY.cons{r:RSpec}{i:List RSpec}(h:sW Sh n t r)(j:aY Sh n t i):aY Sh n t (r::i):=fun x e=>by
 rcases List.mem_cons.1 e with rfl|e
 ·exact h
 ·exact j x e
theorem stabWs{e:List RSpec}(h:aY Sh n t e)(j:Nat):sW Sh n t (e.getD j (isN 0)):=by
 rw[List.getD_eq_getElem?_getD];by_cases u:j<e.length
 ·rw[List.getElem?_eq_getElem u];exact h _ (List.getElem_mem u)
 ·rw[List.getElem?_eq_none I];exact isN.stabW (i:=0)
def bB(Sh:Array Value->Prop)(so n:Nat)(t:TypeId)(i:Nat)(w w':World):Prop:=Bl w w'\/(i=so/\Wr Sh n t w w')
theorem bB.old{e i:Nat}{w w':World}(h:Bl w w'):bB Sh e n t i w w':=.inl h
theorem bB.new{e:Nat}{w w':World}(h:Wr Sh n t w w'):bB Sh e n t e w w':=.inr ⟨rfl,h⟩
theorem stepS_stab{E:Nat}{u:List RSpec}(F:aq u)(G:aY Sh n t (u.set E (isN 0))){i j:Nat}(A:i≠j)(l:List Value)(w w':World)(h:bB Sh E n t i w w')(C:(u.getD j (isN 0)).rel l w):(u.getD j (isN 0)).rel l w':=by
 rcases h with h|⟨rfl,H⟩
 ·exact stabs F j l w w' h C
 ·have e:(u.set i (isN 0)).getD j (isN 0)=u.getD j (isN 0):=by
   rw[List.getD_eq_getElem?_getD,List.getD_eq_getElem?_getD,List.getElem?_set_ne A]
  have:=stabWs G j l w w' H;rw[e]at this;exact this C
end
section
variable {P : Program} {Q : Exit → Act → World → Prop} {ops : Array Oper}
theorem eZ{id rest:Nat}{a:Act}{w:World}(Sh:Array Value->Prop)(X:Nat)(t:TypeId)(u:List RSpec)(al:List Nat)(A:(Nat->Value)->Act)(e:Array Bool)(Y:P.follows .mixedOrders=true)(L:List Nat)(G:sM .any ops L=true)(R:rX .any ops L=true)(F:ke ops L=true)(E:nA .any ops L (fun i=>(u.getD i (isN 0)).deps)=true)(J:iN (Array.replicate ops.size false) L=e)(W:ops.size=L.length+rest)(U:aq u)(C:aY Sh w.heap.size t (u.set X (isN 0)))(hA:∀y,cL ops y L a=A y)(hop:ai (wpOp P ops Q) .any ops (fun w'=>Bl w w') (fun i=>u.getD i (isN 0)) (bB Sh X w.heap.size t) al A L)(hend:∀y w',Bl w w'->(∀i,L.contains i=true->(u.getD i (isN 0)).rel ((u.getD i (isN 0)).deps.map y) w')->(∀i∈al,∀j∈al,L.contains i=true->L.contains j=true->i≠j->y i≠y j)->wpAny P .any ops Q rest e (A y) w'):(Code.region id ops true).wp P Q a w:=
 kV L (fun i=>u.getD i (isN 0)) (bB Sh X w.heap.size t) al A e Y G R F E J W (fun _ _ _ _ H l w1 w2 hb h=>stepS_stab U C H l w1 w2 hb h) β.drew hA hop hend
end
end
end Go.Proofs.Υ
