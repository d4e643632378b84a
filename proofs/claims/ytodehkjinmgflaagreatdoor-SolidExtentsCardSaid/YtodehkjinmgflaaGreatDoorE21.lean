/- Lemmas. -/
import Derived.Test.YtodehkjinmgflaaGreatDoorE20
import Derived.Test.YtodehkjinmgflaaGreatDoorE24
set_option linter.all false
set_option maxHeartbeats 0
set_option maxRecDepth 99999
namespace Go.Proofs.Υ
open Go Go.RowKit
section
def eC(X:Nat->Prop)(W:World):Prop:=∀k,X k->∀cs,W.heap[k]?≠some (.cells cs 176 (0,0))
theorem eC.none(W:World):eC (fun _=>False) W:=fun _ h=>h.elim
theorem eC.box{W:World}{k:Nat}{cs:Array Value}{t:TypeId}(h:Box W k cs t)(E:t≠176):eC (fun j=>j=k) W:=fun j e A u=>by
 subst e;have C:W.heap[j]?=some (.cells cs t (0,0)):=h;rw[C]at u;injection u with u
 injection u with _ u _
 exact E u
section
variable {n0 : Nat} {X : Nat → Prop} {W W' : World}
theorem Mag.keepC{a:Option Addr}{n j:Nat}{C:List Nat}(h:Mag W a n j C)(E:KeepC n0 X W W')(H:eC X W):Mag W' a n j C:=by
 have hb:∀x,a=some x->W'.heap[x.block]?=W.heap[x.block]? := fun x e=>by
  obtain⟨cs,u⟩:=h.ty x e;rw[E.same x.block cs _ _ (fun A=>H _ A _ u) u,u]
 refine⟨⟨h.sl.le,h.sl.len,h.sl.nil,fun x e=>?_⟩,h.dg,h.len,fun x e=>by rw[hb x e];exact h.ty x e⟩;obtain⟨u,F,G⟩:=h.sl.at_ x e;refine⟨u,Nat.lt_of_lt_of_le F E.size,fun i hi=>?_⟩;have:=G i hi;unfold World.cell? at this⊢;rw[show(⟨x.block,x.off+i,none⟩:Addr).block=x.block from rfl]at this⊢;rw[hb x e];exact this
theorem aU.keepC{v:Value}{z:Int}(h:aU W v z)(G:KeepC n0 X W W')(F:eC X W):aU W' v z:=by
 obtain⟨s,a,n,e,j,u,H,A,C,E⟩:=h;exact⟨s,a,n,e,j,u,H,A.keepC G F,C,E⟩
theorem aj.keepC{v:Value}{q:Rat}(h:aj W v q)(j:KeepC n0 X W W')(e:eC X W):aj W' v q:=by
 obtain⟨s1,u,H,c1,s2,A,J,c2,d,C,E,F,G⟩:=h;exact⟨s1,u,H,c1,s2,A,J,c2,d,C,E.keepC j e,F.keepC j e,G⟩
theorem aA.keepC{v:Value}{q:Q3}(h:aA W v q)(j:KeepC n0 X W W')(e:eC X W):aA W' v q:=by
 obtain⟨F,G,H,u,A,C,E⟩:=h;exact⟨F,G,H,u,A.keepC j e,C.keepC j e,E.keepC j e⟩
theorem Box.keepC{k:Nat}{cs:Array Value}{t:TypeId}(h:Box W k cs t)(j:KeepC n0 X W W')(e:¬ X k):Box W' k cs t:=j.same k cs t _ e h
end
theorem FRow.nth{w:World}{base:Nat}{v:Value}{qs:List (Q3×Rat)}{rs:List FR}(h:FRow w base v qs rs)(i:Nat)(hi:i<rs.length):
 ∃b e r,v=.slice (some ⟨b,0,none⟩) rs.length e/\b<w.heap.size/\rs[i]?=some r/\∀j,j<17->w.cell? ⟨b,i*17+j,none⟩=(cQ r)[j]? := by
 obtain⟨H,⟨_,h0⟩|⟨g,e,C,rfl,G,E,L,J,Q,R⟩⟩:=h.own
 ·omega
 ·obtain⟨r,A⟩:∃r,rs[i]?=some r:=⟨_,List.getElem?_eq_getElem hi⟩
  refine⟨g,e,r,rfl,(Array.getElem?_eq_some_iff.1 E).1,A,fun j F=>?_⟩;have u:i*17+j<rs.length*17:=I;rw[World.ownsRow.cellAt h.own (i*17+j) u];exact eJ cQ 17 qU rs i j r A F
end
section
def sm(cs:Array Value):Prop:=∃r0 r1 r2,cs=ah r0 r1 r2
def aq(r:RC):Array Value:=#[.bool r.s,.slice r.a r.n r.c,.bool r.t,.slice r.b r.m r.d]
def Sh4(cs:Array Value):Prop:=∃r,cs=aq r
theorem sh12(e j u:RC):sm (ah e j u):=⟨_,_,_,rfl⟩
theorem sh4(r:RC):Sh4 (aq r):=⟨_,rfl⟩
theorem Box.at1{w:World}{g:Nat}{r:RC}{t:TypeId}(h:Box w g (aq r) t):At4 w g 0 r:=⟨⟨h.four.1,h.four.2.1,h.four.2.2.1,h.four.2.2.2.1⟩,h.free 0,h.free 1,h.free 2,h.free 3⟩
theorem Box.s4{w:World}{g:Nat}{r:RC}{t:TypeId}(h:Box w g (aq r) t)(a:RC):Box (put4 w g 0 a) g (aq a) t:=
 (((h.set 0 (.bool a.s)).set 1 (.slice a.a a.n a.c)).set 2 (.bool a.t)).set 3 (.slice a.b a.m a.d)
theorem Box.o12{w:World}{g:Nat}{cs:Array Value}{t:TypeId}(h:Box w g cs t){g':Nat}(e:g≠g')(a b c:RC):Box (put12 w g' a b c) g cs t:=((h.oput4 e 0 a).oput4 e 4 b).oput4 e 8 c
theorem dM(w:World)(g o:Nat)(r:RC):w.grownBy (put4 w g o r) (some g):=
 (((bC w g o (.bool r.s)).trans (bC _ g (o+1) _)).trans (bC _ g (o+2) _)).trans (bC _ g (o+3) _)
theorem kC(w:World)(g:Nat)(a b c:RC):w.grownBy (put12 w g a b c) (some g):=((dM w g 0 a).trans (dM _ g 4 b)).trans (dM _ g 8 c)
def cO(Sh:Array Value->Prop)(n:Nat)(t:TypeId)(v:Value)(w:World):Prop:=∃g cs,v=.pointer (some ⟨g,0,none⟩)/\n<=g/\Sh cs/\Box w g cs t
theorem cO.stab{Sh:Array Value->Prop}{n:Nat}{t:TypeId}:∀v w w',Bl w w'->cO Sh n t v w->cO Sh n t v w':=fun _ _ _ h ⟨g,cs,e,u,A,j⟩=>⟨g,cs,e,u,A,j.to h⟩
def Wr(Sh:Array Value->Prop)(n:Nat)(t:TypeId)(w w':World):Prop:=∃g cs cs',n<=g/\Box w g cs t/\Sh cs'/\Box w' g cs' t/\w.grownBy w' (some g)
theorem Wr.put12{w:World}{n g:Nat}{j u A:RC}{t:TypeId}(e:n<=g)(hb:Box w g (ah j u A) t)(a b c:RC):Wr sm n t w (put12 w g a b c):=⟨g,_,_,e,hb,sh12 a b c,hb.s12 a b c,kC w g a b c⟩
theorem Wr.put4{w:World}{n g:Nat}{r:RC}{t:TypeId}(e:n<=g)(hb:Box w g (aq r) t)(a:RC):Wr Sh4 n t w (put4 w g 0 a):=⟨g,_,_,e,hb,sh4 a,hb.s4 a,dM w g 0 a⟩
def tw(Sh:Array Value->Prop)(n:Nat)(t:TypeId)(r:RSpec):Prop:=∀l w w',Wr Sh n t w w'->r.rel l w->r.rel l w'
section
variable {Sh : Array Value → Prop} {n : Nat} {t : TypeId}
theorem isV.stabW{i:Nat}{c:Value}:tw Sh n t (isV i c):=fun _ _ _ _ h=>h
theorem isN.stabW{i:Nat}:tw Sh n t (isN i):=fun _ _ _ _ h=>h
theorem isP.stabW{i:Nat}{p:Value->World->Prop}(u:∀v w w',Wr Sh n t w w'->p v w->p v w'):tw Sh n t (isP i p):=
 fun _ w w' A ⟨v,e,j⟩=>⟨v,e,u v w w' A j⟩
theorem cO.stabW{m:Nat}:∀v w w',Wr Sh n t w w'->cO Sh m t v w->cO Sh m t v w':=by
 rintro v w w' ⟨g,cs,u,L,hb,J,A,C⟩ ⟨g',F,e,E,G,H⟩;by_cases j:g'=g
 ·subst j
  exact⟨g',u,e,E,J,A⟩
 ·exact⟨g',F,e,E,G,H.kept C (fun h=>j (Option.some.inj h).symm)⟩
theorem Wr.keepC{w w':World}(h:Wr Sh n t w w')(C:t≠176):∃X,KeepC 0 X w w'/\eC X w:=by
 obtain⟨g,cs,u,E,hb,F,A,j⟩:=h;exact⟨fun k=>k=g,KeepC.grown j (Nat.zero_le _) (fun r e=>by cases e;exact⟨Nat.zero_le _,.inl rfl⟩),eC.box hb C⟩
theorem iM(u:t≠176){q:Q3}:∀v w w',Wr Sh n t w w'->aA w v q->aA w' v q:=fun _ _ _ h A=>by
 obtain⟨X,j,e⟩:=h.keepC u;exact A.keepC j e
theorem bW(u:t≠176){q:Rat}:∀v w w',Wr Sh n t w w'->aj w v q->aj w' v q:=fun _ _ _ h A=>by
 obtain⟨X,j,e⟩:=h.keepC u;exact A.keepC j e
def isS(i n:Nat)(t:TypeId)(p:Array Value->World->Prop):RSpec:=⟨[i],fun l w=>∃g cs,l=[.pointer (some ⟨g,0,none⟩)]/\n<=g/\Box w g cs t/\p cs w⟩
theorem isS.stab{i:Nat}{p:Array Value->World->Prop}(C:∀cs w w',Bl w w'->p cs w->p cs w'):uB (isS i n t p):=fun _ w w' h ⟨g,cs,e,u,j,A⟩=>⟨g,cs,e,u,j.to h,C cs w w' h A⟩
theorem isS.get{i:Nat}{p:Array Value->World->Prop}{y:Nat->Value}{w:World}(h:(isS i n t p).rel ((isS i n t p).deps.map y) w):∃g cs,y i=.pointer (some ⟨g,0,none⟩)/\n<=g/\Box w g cs t/\p cs w:=by
 obtain⟨g,cs,e,j,u,A⟩:=h;exact⟨g,cs,(List.cons.inj e).1,j,u,A⟩
theorem isS.put{i j:Nat}{p:Array Value->World->Prop}{y:Nat->Value}{w:World}{u:Value}{g:Nat}{cs:Array Value}(e:i≠j)(A:y i=.pointer (some ⟨g,0,none⟩))(C:n<=g)(hb:Box w g cs t)(E:p cs w):
 (isS i n t p).rel ((isS i n t p).deps.map (upd y j u)) w:=
 ⟨g,cs,by show[upd y j u i]=_;rw[lF _ e,A],C,hb,E⟩
def aH(Sh:Array Value->Prop)(n:Nat)(t:TypeId)(Rs:List RSpec):Prop:=∀r∈Rs,tw Sh n t r
theorem aH.nil:aH Sh n t []:=fun _ h=>by cases h
theorem aH.cons{r:RSpec}{j:List RSpec}(h:tw Sh n t r)(u:aH Sh n t j):aH Sh n t (r::j):=fun x e=>by
 rcases List.mem_cons.1 e with rfl|e
 ·exact h
 ·exact u x e
theorem stabWs{e:List RSpec}(h:aH Sh n t e)(j:Nat):tw Sh n t (e.getD j (isN 0)):=by
 rw[List.getD_eq_getElem?_getD];by_cases u:j<e.length
 ·rw[List.getElem?_eq_getElem u];exact h _ (List.getElem_mem u)
 ·rw[List.getElem?_eq_none I];exact isN.stabW (i:=0)
def aI(Sh:Array Value->Prop)(so n:Nat)(t:TypeId)(i:Nat)(w w':World):Prop:=Bl w w'\/(i=so/\Wr Sh n t w w')
theorem aI.old{e i:Nat}{w w':World}(h:Bl w w'):aI Sh e n t i w w':=.inl h
theorem aI.new{e:Nat}{w w':World}(h:Wr Sh n t w w'):aI Sh e n t e w w':=.inr ⟨rfl,h⟩
theorem pS{E:Nat}{u:List RSpec}(F:ak u)(G:aH Sh n t (u.set E (isN 0))){i j:Nat}(A:i≠j)(l:List Value)(w w':World)(h:aI Sh E n t i w w')(C:(u.getD j (isN 0)).rel l w):(u.getD j (isN 0)).rel l w':=by
 rcases h with h|⟨rfl,H⟩
 ·exact stabs F j l w w' h C
 ·have e:(u.set i (isN 0)).getD j (isN 0)=u.getD j (isN 0):=by
   rw[List.getD_eq_getElem?_getD,List.getD_eq_getElem?_getD,List.getElem?_set_ne A]
  have:=stabWs G j l w w' H;rw[e]at this;exact this C
end
section
variable {P : Program} {Q : Exit → Act → World → Prop} {ops : Array Oper}
theorem dD{id rest:Nat}{a:Act}{w:World}(Sh:Array Value->Prop)(X:Nat)(t:TypeId)(u:List RSpec)(al:List Nat)(A:(Nat->Value)->Act)(e:Array Bool)(Y:P.follows .mixedOrders=true)(L:List Nat)(G:oM .any ops L=true)(R:ox .any ops L=true)(F:jn ops L=true)(E:kG .any ops L (fun i=>(u.getD i (isN 0)).deps)=true)(J:gP (Array.replicate ops.size false) L=e)(W:ops.size=L.length+rest)(U:ak u)(C:aH Sh w.heap.size t (u.set X (isN 0)))(hA:∀y,cE ops y L a=A y)(hop:ai (wpOp P ops Q) .any ops (fun w'=>Bl w w') (fun i=>u.getD i (isN 0)) (aI Sh X w.heap.size t) al A L)(hend:∀y w',Bl w w'->(∀i,L.contains i=true->(u.getD i (isN 0)).rel ((u.getD i (isN 0)).deps.map y) w')->(∀i∈al,∀j∈al,L.contains i=true->L.contains j=true->i≠j->y i≠y j)->wpAny P .any ops Q rest e (A y) w'):(Code.region id ops true).wp P Q a w:=
 gj L (fun i=>u.getD i (isN 0)) (aI Sh X w.heap.size t) al A e Y G R F E J W (fun _ _ _ _ H l w1 w2 hb h=>pS U C H l w1 w2 hb h) β.drew hA hop hend
end
end
end Go.Proofs.Υ
