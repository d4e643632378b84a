/- Regions that draw, operation by operation: one of the operations may store into a new box. -/
import Derived.Test.YtaibkpbklfodiaaGreatDoorP24
import Derived.Test.YtaibkpbklfodiaaGreatDoorP28
set_option linter.all false
set_option maxHeartbeats 100000000
section
namespace Dowel
open Go Go.RowKit
def qo (cs:Array Value):Prop:=∃ r0 r1 r2,cs=ah r0 r1 r2
def aT (r:RC):Array Value:=#[.bool r.s,.slice r.a r.n r.c,.bool r.t,.slice r.b r.m r.d]
def Sh4 (cs:Array Value):Prop:=∃ r,cs=aT r
theorem sh12 (r0 r1 r2:RC):qo (ah r0 r1 r2):=⟨_,_,_,rfl⟩
theorem sh4 (r:RC):Sh4 (aT r):=⟨_,rfl⟩
theorem Box.at1 {w:World} {g:Nat} {r:RC} {t:TypeId} (h:Box w g (aT r) t):At4 w g 0 r:=⟨⟨h.four.1,h.four.2.1,h.four.2.2.1,h.four.2.2.2.1⟩,h.free 0,h.free 1,h.free 2,h.free 3⟩
theorem Box.s4 {w:World} {g:Nat} {r:RC} {t:TypeId} (h:Box w g (aT r) t) (a:RC):Box (put4 w g 0 a) g (aT a) t:=
 (((h.set 0 (.bool a.s)).set 1 (.slice a.a a.n a.c)).set 2 (.bool a.t)).set 3 (.slice a.b a.m a.d)
theorem Box.o12 {w:World} {g:Nat} {cs:Array Value} {t:TypeId} (h:Box w g cs t) {g':Nat} (hp:g≠g') (a b c:RC):Box (put12 w g' a b c) g cs t:=((h.oput4 hp 0 a).oput4 hp 4 b).oput4 hp 8 c
theorem dI (w:World) (g o:Nat) (r:RC):w.grownBy (put4 w g o r) (some g):=
 (((bS w g o (.bool r.s)).trans (bS _ g (o+1) _)).trans (bS _ g (o+2) _)).trans (bS _ g (o+3) _)
theorem iY (w:World) (g:Nat) (a b c:RC):w.grownBy (put12 w g a b c) (some g):=((dI w g 0 a).trans (dI _ g 4 b)).trans (dI _ g 8 c)
def dS (Sh:Array Value→Prop) (n:Nat) (t:TypeId) (v:Value) (w:World):Prop:=∃ g cs,v=.pointer (some ⟨g,0,none⟩)∧n≤g∧Sh cs∧Box w g cs t
theorem dS.stab {Sh:Array Value→Prop} {n:Nat} {t:TypeId}:∀ v w w',Below w.heap.size w w'→dS Sh n t v w→dS Sh n t v w':=fun _ _ _ h ⟨g,cs,e,h1,h2,h3⟩=>⟨g,cs,e,h1,h2,h3.below h h3.lt⟩
def Wr (Sh:Array Value→Prop) (n:Nat) (t:TypeId) (w w':World):Prop:=∃ g cs cs',n≤g∧Box w g cs t∧Sh cs'∧Box w' g cs' t∧w.grownBy w' (some g)
theorem Wr.put12 {w:World} {n g:Nat} {r0 r1 r2:RC} {t:TypeId} (hg:n≤g) (hb:Box w g (ah r0 r1 r2) t) (a b c:RC):Wr qo n t w (put12 w g a b c):=⟨g,_,_,hg,hb,sh12 a b c,hb.s12 a b c,iY w g a b c⟩
theorem Wr.put4 {w:World} {n g:Nat} {r:RC} {t:TypeId} (hg:n≤g) (hb:Box w g (aT r) t) (a:RC):Wr Sh4 n t w (put4 w g 0 a):=⟨g,_,_,hg,hb,sh4 a,hb.s4 a,dI w g 0 a⟩
def o5 (Sh:Array Value→Prop) (n:Nat) (t:TypeId) (r:RSpec):Prop:=∀ l w w',Wr Sh n t w w'→r.rel l w→r.rel l w'
section
variable {Sh : Array Value → Prop} {n : Nat} {t : TypeId}
theorem isV.stabW {i:Nat} {c:Value}:o5 Sh n t (isV i c):=fun _ _ _ _ h=>h
theorem isN.stabW {i:Nat}:o5 Sh n t (isN i):=fun _ _ _ _ h=>h
theorem isP.stabW {i:Nat} {p:Value→World→Prop} (hp:∀ v w w',Wr Sh n t w w'→p v w→p v w'):o5 Sh n t (isP i p):=
 fun _ w w' hw ⟨v,h1,h2⟩=>⟨v,h1,hp v w w' hw h2⟩
theorem dS.stabW {m:Nat}:∀ v w w',Wr Sh n t w w'→dS Sh m t v w→dS Sh m t v w':=by
 rintro v w w' ⟨g,cs,cs',hg,hb,hs,hb',hgr⟩ ⟨g',ds,e,h1,h2,h3⟩;by_cases hne:g'=g
 ·subst hne
  exact ⟨g',cs',e,h1,hs,hb'⟩
 ·exact ⟨g',ds,e,h1,h2,h3.kept hgr (fun h=>hne (Option.some.inj h).symm)⟩
theorem Wr.keepC {w w':World} (h:Wr Sh n t w w') (ht:t≠191):∃ X,KeepC 0 X w w'∧dL X w:=by
 obtain ⟨g,cs,cs',hg,hb,hs,hb',hgr⟩:=h;exact ⟨fun k=>k=g,KeepC.grown hgr (Nat.zero_le _) (fun r e=>by cases e;exact ⟨Nat.zero_le _,.inl rfl⟩),dL.box hb ht⟩
theorem cT (ht:t≠191) {q:Rat}:∀ v w w',Wr Sh n t w w'→am w v q→am w' v q:=fun _ _ _ h hv=>by
 obtain ⟨X,hk,hX⟩:=h.keepC ht;exact hv.keepC hk hX
def isS (i n:Nat) (t:TypeId) (p:Array Value→World→Prop):RSpec:=⟨[i],fun l w=>∃ g cs,l=[.pointer (some ⟨g,0,none⟩)]∧n≤g∧Box w g cs t∧p cs w⟩
theorem isS.stab {i:Nat} {p:Array Value→World→Prop} (hp:∀ cs w w',Below w.heap.size w w'→p cs w→p cs w'):Stab (isS i n t p):=fun _ w w' h ⟨g,cs,e,h1,h2,h3⟩=>⟨g,cs,e,h1,h2.below h h2.lt,hp cs w w' h h3⟩
theorem isS.get {i:Nat} {p:Array Value→World→Prop} {y:Nat→Value} {w:World} (h:(isS i n t p).rel ((isS i n t p).deps.map y) w):∃ g cs,y i=.pointer (some ⟨g,0,none⟩)∧n≤g∧Box w g cs t∧p cs w:=by
 obtain ⟨g,cs,h1,h2,h3,h4⟩:=h;exact ⟨g,cs,(List.cons.inj h1).1,h2,h3,h4⟩
theorem isS.put {i j:Nat} {p:Array Value→World→Prop} {y:Nat→Value} {w:World} {u:Value} {g:Nat} {cs:Array Value} (hij:i≠j) (he:y i=.pointer (some ⟨g,0,none⟩)) (hg:n≤g) (hb:Box w g cs t) (hp:p cs w) :
  (isS i n t p).rel ((isS i n t p).deps.map (upd y j u)) w:=
 ⟨g,cs,by show [upd y j u i]=_;rw [jC _ hij,he],hg,hb,hp⟩
def aI (Sh:Array Value→Prop) (n:Nat) (t:TypeId) (Rs:List RSpec):Prop:=∀ r ∈ Rs,o5 Sh n t r
theorem aI.nil:aI Sh n t []:=fun _ h=>by cases h
theorem aI.cons {r:RSpec} {Rs:List RSpec} (h:o5 Sh n t r) (hs:aI Sh n t Rs):aI Sh n t (r :: Rs):=fun x hx=>by
 rcases List.mem_cons.1 hx with rfl | hx
 ·exact h
 ·exact hs x hx
theorem stabWs {Rs:List RSpec} (h:aI Sh n t Rs) (j:Nat):o5 Sh n t (Rs.getD j (isN 0)):=by
 rw [List.getD_eq_getElem?_getD];by_cases hj:j<Rs.length
 ·rw [List.getElem?_eq_getElem hj];exact h _ (List.getElem_mem hj)
 ·rw [List.getElem?_eq_none ω];exact isN.stabW (i:=0)
def bn (Sh:Array Value→Prop) (so n:Nat) (t:TypeId) (i:Nat) (w w':World):Prop:=Below w.heap.size w w'∨(i=so∧Wr Sh n t w w')
theorem bn.old {so i:Nat} {w w':World} (h:Below w.heap.size w w'):bn Sh so n t i w w':=.inl h
theorem bn.new {so:Nat} {w w':World} (h:Wr Sh n t w w'):bn Sh so n t so w w':=.inr ⟨rfl,h⟩
theorem stepS_stab {so:Nat} {Rs:List RSpec} (h1:aj Rs) (h2:aI Sh n t (Rs.set so (isN 0))) {i j:Nat} (hij:i≠j) (l:List Value) (w w':World) (h:bn Sh so n t i w w') (hr:(Rs.getD j (isN 0)).rel l w):(Rs.getD j (isN 0)).rel l w':=by
 rcases h with h | ⟨rfl,hw⟩
 ·exact stabs h1 j l w w' h hr
 ·have e:(Rs.set i (isN 0)).getD j (isN 0)=Rs.getD j (isN 0):=by
   rw [List.getD_eq_getElem?_getD,List.getD_eq_getElem?_getD,List.getElem?_set_ne hij]
  have:=stabWs h2 j l w w' hw;rw [e] at this;exact this hr
end
section
variable {P : Program} {Q : Exit → Act → World → Prop} {ops : Array Oper}
theorem gH {id rest:Nat} {a:Act} {w:World} (Sh:Array Value→Prop) (so:Nat) (t:TypeId) (Rs:List RSpec) (al:List Nat) (A:(Nat→Value)→Act) (listed1:Array Bool) (hm:P.follows .mixedOrders=true) (L:List Nat)
  (hdn:oT .any ops L=true) (hre:oz .any ops L=true) (hdi:i7 ops L=true) (hcl:kZ .any ops L (fun i=>(Rs.getD i (isN 0)).deps)=true) (hl1:gS (Array.replicate ops.size false) L=listed1) (hsz:ops.size=L.length+rest)
  (hst:aj Rs) (hst2:aI Sh w.heap.size t (Rs.set so (isN 0))) (hA:∀ y,bj ops y L a=A y)
  (hop:ai (wpOp P ops Q) .any ops (fun w'=>Below w.heap.size w w') (fun i=>Rs.getD i (isN 0)) (bn Sh so w.heap.size t) al A L)
  (hend:∀ y w',Below w.heap.size w w'→(∀ i,L.contains i=true→(Rs.getD i (isN 0)).rel ((Rs.getD i (isN 0)).deps.map y) w')→(∀ i ∈ al,∀ j ∈ al,L.contains i=true→L.contains j=true→i≠j→y i≠y j)→wpAny P .any ops Q rest listed1 (A y) w'):(Code.region id ops true).wp P Q a w:=
 js L (fun i=>Rs.getD i (isN 0)) (bn Sh so w.heap.size t) al A listed1 hm hdn hre hdi hcl hl1 hsz (fun _ _ _ _ hij l w1 w2 hb h=>stepS_stab hst hst2 hij l w1 w2 hb h) β.drew hA hop hend
end
end Dowel
end
