/- Regions that draw, operation by operation, in which only new memory is made: the handy form. -/
import Derived.Test.YtaibkpbklfodiaaGreatDoorP23
import Derived.Test.YtaibkpbklfodiaaGreatDoorP1
set_option linter.all false
set_option maxHeartbeats 100000000
section
namespace Dowel
open Go Go.RowKit
def isV (i:Nat) (c:Value):RSpec:=⟨[i],fun l _=>l=[c]⟩
def isP (i:Nat) (p:Value→World→Prop):RSpec:=⟨[i],fun l w=>∃ v,l=[v]∧p v w⟩
def isN (_:Nat):RSpec:=⟨[],fun _ _=>True⟩
theorem isV.get {i:Nat} {c:Value} {y:Nat→Value} {w:World} (h:(isV i c).rel ((isV i c).deps.map y) w):y i=c:=(List.cons.inj h).1
theorem isP.get {i:Nat} {p:Value→World→Prop} {y:Nat→Value} {w:World} (h:(isP i p).rel ((isP i p).deps.map y) w):p (y i) w:=by
 obtain ⟨v,h1,h2⟩:=h;rw [show y i=v from (List.cons.inj h1).1];exact h2
theorem isV.put {i:Nat} {c:Value} {y:Nat→Value} {w:World}:(isV i c).rel ((isV i c).deps.map (upd y i c)) w:=by
 show [upd y i c i]=[c];rw [iI]
theorem isP.put {i:Nat} {p:Value→World→Prop} {y:Nat→Value} {v:Value} {w:World} (h:p v w):(isP i p).rel ((isP i p).deps.map (upd y i v)) w:=
 ⟨v,by show [upd y i v i]=[v];rw [iI],h⟩
def Stab (r:RSpec):Prop:=∀ l w w',Below w.heap.size w w'→r.rel l w→r.rel l w'
theorem isV.stab {i:Nat} {c:Value}:Stab (isV i c):=fun _ _ _ _ h=>h
theorem isN.stab {i:Nat}:Stab (isN i):=fun _ _ _ _ h=>h
theorem isP.stab {i:Nat} {p:Value→World→Prop} (hp:∀ v w w',Below w.heap.size w w'→p v w→p v w'):Stab (isP i p):=fun _ w w' hb ⟨v,h1,h2⟩=>⟨v,h1,hp v w w' hb h2⟩
theorem stabs {Rs:List RSpec} (h:∀ r ∈ Rs,Stab r) (j:Nat):Stab (Rs.getD j (isN 0)):=by
 rw [List.getD_eq_getElem?_getD];by_cases hj:j<Rs.length
 ·rw [List.getElem?_eq_getElem hj];exact h _ (List.getElem_mem hj)
 ·rw [List.getElem?_eq_none ω];exact isN.stab (i:=0)
def aj (Rs:List RSpec):Prop:=∀ r ∈ Rs,Stab r
theorem aj.nil:aj []:=fun _ h=>by cases h
theorem aj.cons {r:RSpec} {Rs:List RSpec} (h:Stab r) (hs:aj Rs):aj (r :: Rs):=fun x hx=>by
 rcases List.mem_cons.1 hx with rfl | hx
 ·exact h
 ·exact hs x hx
section
variable {P : Program} {Q : Exit → Act → World → Prop} {ops : Array Oper}
theorem bK {id rest:Nat} {a:Act} {w:World} (Rs:List RSpec) (al:List Nat) (A:(Nat→Value)→Act) (listed1:Array Bool) (hm:P.follows .mixedOrders=true) (L:List Nat)
  (hdn:oT .any ops L=true) (hre:oz .any ops L=true) (hdi:i7 ops L=true) (hcl:kZ .any ops L (fun i=>(Rs.getD i (isN 0)).deps)=true) (hl1:gS (Array.replicate ops.size false) L=listed1) (hsz:ops.size=L.length+rest)
  (hst:aj Rs) (hA:∀ y,bj ops y L a=A y)
  (hop:ai (wpOp P ops Q) .any ops (fun w'=>Below w.heap.size w w') (fun i=>Rs.getD i (isN 0)) (fun _ w w'=>Below w.heap.size w w') al A L)
  (hend:∀ y w',Below w.heap.size w w'→(∀ i,L.contains i=true→(Rs.getD i (isN 0)).rel ((Rs.getD i (isN 0)).deps.map y) w')→(∀ i ∈ al,∀ j ∈ al,L.contains i=true→L.contains j=true→i≠j→y i≠y j)→wpAny P .any ops Q rest listed1 (A y) w'):(Code.region id ops true).wp P Q a w:=
 js L (fun i=>Rs.getD i (isN 0)) (fun _ w w'=>Below w.heap.size w w') al A listed1 hm hdn hre hdi hcl hl1 hsz (fun i j _ _ _ l w w' hb h=>stabs hst j l w w' hb h) β.drew hA hop hend
theorem jt {F:Fence} {n id rest:Nat} {a:Act} {w:World} (Rs:List RSpec) (al:List Nat) (A:(Nat→Value)→Act) (listed1:Array Bool) (hm:P.follows .mixedOrders=true) (L:List Nat)
  (hdn:oT .any ops L=true) (hre:oz .any ops L=true) (hdi:i7 ops L=true) (hcl:kZ .any ops L (fun i=>(Rs.getD i (isN 0)).deps)=true) (hl1:gS (Array.replicate ops.size false) L=listed1) (hsz:ops.size=L.length+rest)
  (hst:aj Rs) (hA:∀ y,bj ops y L a=A y)
  (hop:ai (wpOpIn F n P ops Q) .any ops (fun w'=>Below w.heap.size w w') (fun i=>Rs.getD i (isN 0)) (fun _ w w'=>Below w.heap.size w w') al A L)
  (hend:∀ y w',Below w.heap.size w w'→(∀ i,L.contains i=true→(Rs.getD i (isN 0)).rel ((Rs.getD i (isN 0)).deps.map y) w')→(∀ i ∈ al,∀ j ∈ al,L.contains i=true→L.contains j=true→i≠j→y i≠y j)→wpAnyIn F n P .any ops Q rest listed1 (A y) w'):(Code.region id ops true).wpIn F n P Q a w:=
 lV L (fun i=>Rs.getD i (isN 0)) (fun _ w w'=>Below w.heap.size w w') al A listed1 hm hdn hre hdi hcl hl1 hsz (fun i j _ _ _ l w w' hb h=>stabs hst j l w w' hb h) β.drew hA hop hend
theorem bM {md:Region.Mode} {rest i:Nat} {o:Oper} {listed listed2:Array Bool} {a:Act} {w:World} (hr:Region.ready md ops listed=[i]) (ho:ops[i]?=some o) (hl:listed.setIfInBounds i true=listed2)
  (h:∀ K:Act→World→Prop,Shut (∀ a' w',wpAny P md ops Q rest listed2 a' w'→K a' w')→if Region.wanted o (yielded ops a.tmps)=true then Oper.wp P o a w K Q else K (a.put o.dst undef) w):wpAny P md ops Q (rest+1) listed a w:=by
 refine ⟨fun h=>(by rw [hr] at h;cases h),fun j hj=>?_⟩;rw [hr,List.mem_singleton] at hj;subst hj;rw [hl];exact wpOp_step ho (fun K' hK=>h K' (fun a w h=>hK _ _ h))
theorem iG {F:Fence} {n:Nat} {md:Region.Mode} {rest i:Nat} {o:Oper} {listed listed2:Array Bool} {a:Act} {w:World} (hr:Region.ready md ops listed=[i]) (ho:ops[i]?=some o) (hl:listed.setIfInBounds i true=listed2)
  (h:∀ K:Act→World→Prop,Shut (∀ a' w',wpAnyIn F n P md ops Q rest listed2 a' w'→K a' w')→if Region.wanted o (yielded ops a.tmps)=true then Oper.wpIn F n P o a w K Q else (∀ f,o.about P w a.eval=some f→F.fn f)∧K (a.put o.dst undef) w):wpAnyIn F n P md ops Q (rest+1) listed a w:=by
 refine ⟨fun h=>(by rw [hr] at h;cases h),fun j hj=>?_⟩;rw [hr,List.mem_singleton] at hj;subst hj;rw [hl];exact wpOpIn_step ho (fun K' hK=>h K' (fun a w h=>hK _ _ h))
theorem bq {md:Region.Mode} {rest:Nat} {listed:Array Bool} {a:Act} {w:World} (hr:Region.ready md ops listed=[]) (h:Q .normal a w):wpAny P md ops Q rest listed a w:=by
 cases rest with
 | zero=>exact ⟨hr,h⟩
 | succ n=>exact ⟨fun _=>h,fun i hi=>by rw [hr] at hi;cases hi⟩
theorem jV {F:Fence} {n:Nat} {md:Region.Mode} {rest:Nat} {listed:Array Bool} {a:Act} {w:World} (hr:Region.ready md ops listed=[]) (h:Q .normal a w):wpAnyIn F n P md ops Q rest listed a w:=by
 cases rest with
 | zero=>exact ⟨hr,h⟩
 | succ n=>exact ⟨fun _=>h,fun i hi=>by rw [hr] at hi;cases hi⟩
end
end Dowel
end
