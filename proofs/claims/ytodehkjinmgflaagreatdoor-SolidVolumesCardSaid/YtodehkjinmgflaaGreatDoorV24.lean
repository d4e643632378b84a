/- Lemmas. -/
import Derived.Test.YtodehkjinmgflaaGreatDoorV23
import Derived.Test.YtodehkjinmgflaaGreatDoorV19
set_option linter.all false
set_option maxHeartbeats 0
set_option maxRecDepth 99999
namespace Go.Proofs.Υ
open Go Go.RowKit
section
def isV(i:Nat)(c:Value):RSpec:=⟨[i],fun l _=>l=[c]⟩
def isP(i:Nat)(p:Value->World->Prop):RSpec:=⟨[i],fun l w=>∃v,l=[v]/\p v w⟩
def isN(_:Nat):RSpec:=⟨[],fun _ _=>True⟩
theorem isV.get{i:Nat}{c:Value}{y:Nat->Value}{w:World}(h:(isV i c).rel ((isV i c).deps.map y) w):y i=c:=(List.cons.inj h).1
theorem isP.get{i:Nat}{p:Value->World->Prop}{y:Nat->Value}{w:World}(h:(isP i p).rel ((isP i p).deps.map y) w):p (y i) w:=by
 obtain⟨v,e,j⟩:=h;rw[show y i=v from(List.cons.inj e).1];exact j
theorem isV.put{i:Nat}{c:Value}{y:Nat->Value}{w:World}:(isV i c).rel ((isV i c).deps.map (upd y i c)) w:=by
 show[upd y i c i]=[c];rw[jT]
theorem isP.put{i:Nat}{p:Value->World->Prop}{y:Nat->Value}{v:Value}{w:World}(h:p v w):(isP i p).rel ((isP i p).deps.map (upd y i v)) w:=
 ⟨v,by show[upd y i v i]=[v];rw[jT],h⟩
def Stab(r:RSpec):Prop:=∀l w w',Bl w w'->r.rel l w->r.rel l w'
theorem isV.stab{i:Nat}{c:Value}:Stab (isV i c):=fun _ _ _ _ h=>h
theorem isN.stab{i:Nat}:Stab (isN i):=fun _ _ _ _ h=>h
theorem isP.stab{i:Nat}{p:Value->World->Prop}(u:∀v w w',Bl w w'->p v w->p v w'):Stab (isP i p):=fun _ w w' hb ⟨v,e,j⟩=>⟨v,e,u v w w' hb j⟩
theorem stabs{e:List RSpec}(h:∀r∈e,Stab r)(j:Nat):Stab (e.getD j (isN 0)):=by
 rw[List.getD_eq_getElem?_getD];by_cases u:j<e.length
 ·rw[List.getElem?_eq_getElem u];exact h _ (List.getElem_mem u)
 ·rw[List.getElem?_eq_none I];exact isN.stab (i:=0)
def aq(Rs:List RSpec):Prop:=∀r∈Rs,Stab r
theorem aq.nil:aq []:=fun _ h=>by cases h
theorem aq.cons{r:RSpec}{i:List RSpec}(h:Stab r)(j:aq i):aq (r::i):=fun x e=>by
 rcases List.mem_cons.1 e with rfl|e
 ·exact h
 ·exact j x e
section
variable {P : Program} {Q : Exit → Act → World → Prop} {ops : Array Oper}
theorem aU{id rest:Nat}{a:Act}{w:World}(u:List RSpec)(al:List Nat)(A:(Nat->Value)->Act)(e:Array Bool)(U:P.follows .mixedOrders=true)(L:List Nat)(F:sM .any ops L=true)(H:rX .any ops L=true)(E:ke ops L=true)(C:nA .any ops L (fun i=>(u.getD i (isN 0)).deps)=true)(G:iN (Array.replicate ops.size false) L=e)(R:ops.size=L.length+rest)(J:aq u)(hA:∀y,cL ops y L a=A y)(hop:ai (wpOp P ops Q) .any ops (fun w'=>Bl w w') (fun i=>u.getD i (isN 0)) (fun _ w w'=>Bl w w') al A L)(hend:∀y w',Bl w w'->(∀i,L.contains i=true->(u.getD i (isN 0)).rel ((u.getD i (isN 0)).deps.map y) w')->(∀i∈al,∀j∈al,L.contains i=true->L.contains j=true->i≠j->y i≠y j)->wpAny P .any ops Q rest e (A y) w'):(Code.region id ops true).wp P Q a w:=
 kV L (fun i=>u.getD i (isN 0)) (fun _ w w'=>Bl w w') al A e U F H E C G R (fun i j _ _ _ l w w' hb h=>stabs J j l w w' hb h) β.drew hA hop hend
theorem kW{F:Fence}{n id rest:Nat}{a:Act}{w:World}(u:List RSpec)(al:List Nat)(A:(Nat->Value)->Act)(e:Array Bool)(W:P.follows .mixedOrders=true)(L:List Nat)(G:sM .any ops L=true)(J:rX .any ops L=true)(E:ke ops L=true)(C:nA .any ops L (fun i=>(u.getD i (isN 0)).deps)=true)(H:iN (Array.replicate ops.size false) L=e)(U:ops.size=L.length+rest)(R:aq u)(hA:∀y,cL ops y L a=A y)(hop:ai (wpOpIn F n P ops Q) .any ops (fun w'=>Bl w w') (fun i=>u.getD i (isN 0)) (fun _ w w'=>Bl w w') al A L)(hend:∀y w',Bl w w'->(∀i,L.contains i=true->(u.getD i (isN 0)).rel ((u.getD i (isN 0)).deps.map y) w')->(∀i∈al,∀j∈al,L.contains i=true->L.contains j=true->i≠j->y i≠y j)->wpAnyIn F n P .any ops Q rest e (A y) w'):(Code.region id ops true).wpIn F n P Q a w:=
 oD L (fun i=>u.getD i (isN 0)) (fun _ w w'=>Bl w w') al A e W G J E C H U (fun i j _ _ _ l w w' hb h=>stabs R j l w w' hb h) β.drew hA hop hend
theorem aL{u:Region.Mode}{rest i:Nat}{o:Oper}{e listed2:Array Bool}{a:Act}{w:World}(E:Region.ready u ops e=[i])(H:ops[i]?=some o)(G:e.setIfInBounds i true=listed2)(h:∀K:Act->World->Prop,Shut (∀A w',wpAny P u ops Q rest listed2 A w'->K A w')->if Region.wanted o (yielded ops a.tmps)=true then Oper.wp P o a w K Q else K (a.put o.dst undef) w):wpAny P u ops Q (rest+1) e a w:=by
 refine⟨fun h=>(by rw[E]at h;cases h),fun j C=>?_⟩;rw[E,List.mem_singleton]at C;subst C;rw[G];exact wpOp_step H (fun F hK=>h F (fun a w h=>hK _ _ h))
theorem jR{F:Fence}{n:Nat}{u:Region.Mode}{rest i:Nat}{o:Oper}{e listed2:Array Bool}{a:Act}{w:World}(E:Region.ready u ops e=[i])(J:ops[i]?=some o)(H:e.setIfInBounds i true=listed2)(h:∀K:Act->World->Prop,Shut (∀A w',wpAnyIn F n P u ops Q rest listed2 A w'->K A w')->if Region.wanted o (yielded ops a.tmps)=true then Oper.wpIn F n P o a w K Q else(∀f,o.about P w a.eval=some f->F.fn f)/\K (a.put o.dst undef) w):wpAnyIn F n P u ops Q (rest+1) e a w:=by
 refine⟨fun h=>(by rw[E]at h;cases h),fun j C=>?_⟩;rw[E,List.mem_singleton]at C;subst C;rw[H];exact wpOpIn_step J (fun G hK=>h G (fun a w h=>hK _ _ h))
theorem aP{u:Region.Mode}{rest:Nat}{e:Array Bool}{a:Act}{w:World}(j:Region.ready u ops e=[])(h:Q .normal a w):wpAny P u ops Q rest e a w:=by
 cases rest with
 | zero=>exact⟨j,h⟩
 | succ n=>exact⟨fun _=>h,fun i hi=>by rw[j]at hi;cases hi⟩
theorem lV{F:Fence}{n:Nat}{u:Region.Mode}{rest:Nat}{e:Array Bool}{a:Act}{w:World}(j:Region.ready u ops e=[])(h:Q .normal a w):wpAnyIn F n P u ops Q rest e a w:=by
 cases rest with
 | zero=>exact⟨j,h⟩
 | succ n=>exact⟨fun _=>h,fun i hi=>by rw[j]at hi;cases hi⟩
end
theorem cZ{p:Prop}(h:p:=by intro y;simp only[cL,kd,List.getElem?_toArray,List.getElem?_cons_zero,List.getElem?_cons_succ,Option.bind_some,Act.put,List.setIfInBounds_toArray,List.set_cons_zero,List.set_cons_succ];exact rfl):p:=h
end
structure Pts8 (w:World) (a:Option Addr) (n cap:Nat) (P:Nat→V):Prop where
 le:n<=cap
 nil:a=none→cap=0
 at_:∀ x,a=some x→x.spot=none/\x.block<w.heap.size/\∀ i,i<n →
  w.cell? ⟨x.block,x.off+i*3,none⟩=some (.int .i8 (P i).x)/\w.cell? ⟨x.block,x.off+i*3+1,none⟩=some (.int .i8 (P i).y)/\w.cell? ⟨x.block,x.off+i*3+2,none⟩=some (.int .i8 (P i).z)
 near:∀ i,i<n→LeV 128 (P i)
end Go.Proofs.Υ
