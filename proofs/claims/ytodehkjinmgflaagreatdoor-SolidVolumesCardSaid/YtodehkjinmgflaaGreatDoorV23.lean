/- Lemmas. -/
import Derived.Test.YtodehkjinmgflaaGreatDoorVA
import Derived.Deep.RegionHeld3
import Derived.OrdersIn
set_option linter.all false
set_option maxHeartbeats 0
set_option maxRecDepth 99999
namespace Go.Proofs.Υ
open Go Go.RowKit
section
structure RSpec where
 deps:List Nat
 rel:List Value→World→Prop
def upd(y:Nat->Value)(i:Nat)(v:Value):Nat->Value:=fun k=>if k=i then v else y k
theorem jT(y:Nat->Value)(i:Nat)(v:Value):upd y i v i=v:=if_pos rfl
theorem lk{y:Nat->Value}{i k:Nat}(v:Value)(h:k≠i):upd y i v k=y k:=if_neg h
def kd(ops:Array Oper)(i:Nat):Option Tmp:=(ops[i]?).bind (·.dst)
def cL(ops:Array Oper)(y:Nat->Value):List Nat->Act->Act
 | [],a=>a
 | i::l,a=>cL ops y l (a.put (kd ops i) (y i))
def qS:Option Tmp->Option Tmp->Bool
 | some d,some e=>decide (d≠e)
 | _,_=>true
def ke(ops:Array Oper):List Nat->Bool
 | []=>true
 | i::l=>(l.all fun j=>decide (i≠j)&&qS (kd ops i) (kd ops j))&&ke ops l
theorem apartB_spec{x y:Option Tmp}(h:qS x y=true):∀d,x=some d->y≠some d:=by
 rintro d rfl rfl;simp[qS]at h
theorem pT(ops:Array Oper)(y:Nat->Value)(d:Option Tmp)(v:Value):∀(l:List Nat) (a:Act),(∀j∈l,qS d (kd ops j)=true)->(cL ops y l a).put d v=cL ops y l (a.put d v)
 | [],_,_=>rfl
 | j::l,a,h=>by
  show(cL ops y l _).put d v=cL ops y l _;rw[pT ops y d v l _ (fun k e=>h k (List.mem_cons_of_mem _ e)),Act.put_comm a v (y j) (apartB_spec (h j (List.mem_cons_self ..)))]
theorem tr(a:Act)(d:Option Tmp)(v u:Value):(a.put d v).put d u=a.put d u:=by
 cases d with
 | none=>rfl
 | some d=>simp[Act.put]
theorem jZ(ops:Array Oper)(y:Nat->Value)(i:Nat)(v:Value):∀(l:List Nat) (a:Act),i∉l->cL ops (upd y i v) l a=cL ops y l a
 | [],_,_=>rfl
 | j::l,a,h=>by
  show cL ops (upd y i v) l _=cL ops y l _;rw[jZ ops y i v l _ (fun u=>h (List.mem_cons_of_mem _ u)),lk v (fun e=>h (by rw[e];exact List.mem_cons_self ..))]
theorem pU(ops:Array Oper)(y:Nat->Value)(i:Nat)(v:Value):∀(l:List Nat) (a:Act),ke ops l=true->i∈l->(cL ops y l a).put (kd ops i) v=cL ops (upd y i v) l a
 | [],_,_,h=>by cases h
 | j::l,a,hd,h=>by
  unfold ke at hd;rw[Bool.and_eq_true,List.all_eq_true]at hd;have A:∀k∈l,j≠k/\qS (kd ops j) (kd ops k)=true:=fun k u=>by
   have:=hd.1 k u;rw[Bool.and_eq_true,decide_eq_true_iff]at this;exact this
  by_cases e:i=j
  ·subst e
   show(cL ops y l _).put _ v=cL ops (upd y i v) l _;rw[pT ops y _ v l _ (fun k u=>(A k u).2),tr,jZ ops y i v l _ (fun C=>(A i C).1 rfl),jT]
  ·have hi:i∈l:=(List.mem_cons.mp h).resolve_left e
   show(cL ops y l _).put _ v=cL ops (upd y i v) l _;rw[pU ops y i v l _ hd.2 hi,lk v (fun h=>e h.symm)]
theorem put_self(a:Act)(d:Option Tmp):a.put d (match d with|some d=>a.tmps.getD d undef|none=>undef)=a:=by
 cases d with
 | none=>rfl
 | some d =>
  show({ a with tmps:=_ }:Act)=a;have:a.tmps.setIfInBounds d (a.tmps.getD d undef)=a.tmps:=by
   apply Array.ext_getElem?;intro j;rw[Array.getElem?_setIfInBounds]
   split
   ·rename_i e
    subst e
    split
    ·rename_i i;rw[Array.getElem?_eq_getElem i];rfl
    ·rename_i i;rw[Array.getElem?_eq_none I]
   ·rfl
  simp only[this]
theorem nY(ops:Array Oper)(a:Act):∀l:List Nat,cL ops (fun i=>match kd ops i with|some d=>a.tmps.getD d undef|none=>undef) l a=a
 | []=>rfl
 | i::l=>by
  show cL ops _ l (a.put (kd ops i) _)=a;rw[put_self];exact nY ops a l
def sM(md:Region.Mode)(ops:Array Oper)(L:List Nat):Bool:=
 L.all fun j=>decide (j<ops.size)&&((ops[j]?).map fun o=>o.after.all fun e=>!Region.binds md e || (decide (e.on<j)&&L.contains e.on)).getD false
def nA(md:Region.Mode)(ops:Array Oper)(L:List Nat)(R:Nat->List Nat):Bool:=
 L.all fun i=>(R i).all fun k=>k == i || ((ops[i]?).map fun o=>o.after.any fun e=>Region.binds md e&&(e.on == k || (R e.on).contains k)).getD false
def markB(md:Region.Mode)(ops:Array Oper)(m:List Nat)(i:Nat):List Nat:=
 if m.contains i then m++((ops[i]?).map fun o=>(o.after.toList.filter fun e=>Region.binds md e).map fun e=>e.on).getD [] else m
def ancs(md:Region.Mode)(ops:Array Oper)(k:Nat):List Nat:=(List.range ops.size).reverse.foldl (markB md ops) [k]
def rX(md:Region.Mode)(ops:Array Oper)(L:List Nat):Bool:=
 (List.range ops.size).all fun k=>L.contains k || L.all fun j=>(ancs md ops k).contains j
def iN(listed:Array Bool)(L:List Nat):Array Bool:=L.foldl (fun l i=>l.setIfInBounds i true) listed
theorem nU:∀(L:List Nat) (l:Array Bool),(iN l L).size=l.size
 | [],_=>rfl
 | i::L,l=>by show(iN (l.setIfInBounds i true) L).size=_;rw[nU L,Array.size_setIfInBounds]
theorem pJ:∀(L:List Nat) (l:Array Bool) (j:Nat),j<l.size->(iN l L)[j]?=some (l.getD j false || L.contains j)
 | [],l,j,h=>by show l[j]?=_;rw[Array.getD_eq_getD_getElem?,Array.getElem?_eq_getElem h];simp
 | i::L,l,j,h=>by
  show(iN (l.setIfInBounds i true) L)[j]?=_;rw[pJ L _ j (by rw[Array.size_setIfInBounds];exact h),Array.getD_eq_getD_getElem?,Array.getElem?_setIfInBounds,Array.getD_eq_getD_getElem?,List.contains_cons];by_cases e:i=j
  ·subst e;simp[h]
  ·have u:(j == i)=false:=by simp;omega
   simp[e,u]
def anyG(ready:Array Bool->List Nat)(step:Nat->(Act->World->Prop)->Act->World->Prop)(Qn:Act->World->Prop):Nat->Array Bool->Act->World->Prop
 | 0,listed,a,w=>ready listed=[]/\Qn a w
 | fuel+1,listed,a,w=>(ready listed=[]->Qn a w)/\∀i∈ready listed,step i (anyG ready step Qn fuel (listed.setIfInBounds i true)) a w
section
variable {P : Program} {Q : Exit → Act → World → Prop} {md : Region.Mode} {ops : Array Oper} {S : World → Prop}
theorem gj:∀(j:Nat) (e:Array Bool) (a:Act) (w:World),anyG (Region.ready md ops) (wpOp P ops Q) (Q .normal) j e a w↔wpAny P md ops Q j e a w
 | 0,_,_,_=>Iff.rfl
 | j+1,e,a,w =>
  ⟨fun h=>⟨h.1,fun i hi=>wpOp_mono (fun u w'=>(gj j _ u w').mp) (h.2 i hi)⟩,fun h=>⟨h.1,fun i hi=>wpOp_mono (fun u w'=>(gj j _ u w').mpr) (h.2 i hi)⟩⟩
theorem eS{F:Fence}{n:Nat}:∀(j:Nat) (e:Array Bool) (a:Act) (w:World),anyG (Region.ready md ops) (wpOpIn F n P ops Q) (Q .normal) j e a w↔wpAnyIn F n P md ops Q j e a w
 | 0,_,_,_=>Iff.rfl
 | j+1,e,a,w =>
  ⟨fun h=>⟨h.1,fun i hi=>wpOpIn_mono (fun u w'=>(eS j _ u w').mp) (h.2 i hi)⟩,fun h=>⟨h.1,fun i hi=>wpOpIn_mono (fun u w'=>(eS j _ u w').mpr) (h.2 i hi)⟩⟩
def DepsOk(md:Region.Mode)(R:Nat->RSpec)(o:Oper)(y:Nat->Value)(w:World):Prop:=
 ∀j,(o.after.any fun e=>Region.binds md e&&e.on == j)=true->(R j).rel ((R j).deps.map y) w
def Fresh(al:List Nat)(R:Nat->RSpec)(y:Nat->Value)(w:World)(i:Nat)(v:Value):Prop:=i∈al->∀j,j∈al->j≠i->(R j).rel ((R j).deps.map y) w->y j≠v
def ai(step:Nat->(Act->World->Prop)->Act->World->Prop)(md:Region.Mode)(ops:Array Oper)(S:World->Prop)(R:Nat->RSpec)(St:Nat->World->World->Prop)(al:List Nat)(A:(Nat->Value)->Act)(l:List Nat):Prop:=
 ∀i∈l,∀o,ops[i]?=some o->∀y w,S w->DepsOk md R o y w->step i (fun a' w'=>∃v,a'=(A y).put o.dst v/\S w'/\St i w w'/\(R i).rel ((R i).deps.map (upd y i v)) w'/\Fresh al R y w i v) (A y) w
theorem ai.nil{step:Nat->(Act->World->Prop)->Act->World->Prop}{R:Nat->RSpec}{St:Nat->World->World->Prop}{al:List Nat}{A:(Nat->Value)->Act}:ai step md ops S R St al A []:=fun _ h=>by cases h
theorem ai.cons{R:Nat->RSpec}{St:Nat->World->World->Prop}{al:List Nat}{A:(Nat->Value)->Act}{i:Nat}{o:Oper}{l:List Nat}(E:ops[i]?=some o)(h:∀y w,S w->DepsOk md R o y w->∀u:Act->World->Prop,Shut (∀v w',S w'->St i w w'->(R i).rel ((R i).deps.map (upd y i v)) w'->Fresh al R y w i v->u ((A y).put o.dst v) w') ->
  if Region.wanted o (yielded ops (A y).tmps)=true then Oper.wp P o (A y) w u Q else u ((A y).put o.dst undef) w)(L:ai (wpOp P ops Q) md ops S R St al A l):ai (wpOp P ops Q) md ops S R St al A (i::l):=fun j C U e y w hS hD=>by
 rcases List.mem_cons.1 C with rfl|C
 ·rw[E]at e
  cases e;exact wpOp_step E (fun u hK=>h y w hS hD u (fun v w' F G H J=>hK _ _ ⟨v,rfl,F,G,H,J⟩))
 ·exact L j C U e y w hS hD
theorem ai.consIn{F:Fence}{n:Nat}{R:Nat->RSpec}{St:Nat->World->World->Prop}{al:List Nat}{A:(Nat->Value)->Act}{i:Nat}{o:Oper}{l:List Nat}(E:ops[i]?=some o)(h:∀y w,S w->DepsOk md R o y w->∀u:Act->World->Prop,Shut (∀v w',S w'->St i w w'->(R i).rel ((R i).deps.map (upd y i v)) w'->Fresh al R y w i v->u ((A y).put o.dst v) w') ->
  if Region.wanted o (yielded ops (A y).tmps)=true then Oper.wpIn F n P o (A y) w u Q else(∀f,o.about P w (A y).eval=some f->F.fn f)/\u ((A y).put o.dst undef) w)(U:ai (wpOpIn F n P ops Q) md ops S R St al A l):ai (wpOpIn F n P ops Q) md ops S R St al A (i::l):=fun j C W e y w hS hD=>by
 rcases List.mem_cons.1 C with rfl|C
 ·rw[E]at e
  cases e;exact wpOpIn_step E (fun u hK=>h y w hS hD u (fun v w' G H J L=>hK _ _ ⟨v,rfl,G,H,J,L⟩))
 ·exact U j C W e y w hS hD
theorem sK{j:Type}{p q:j->Bool}(e:∀x,q x=true->p x=true){i:j}(u:p i=true)(A:q i=false):∀l:List j,i∈l->(l.filter q).length<(l.filter p).length
 | [],h=>by cases h
 | x::l,h=>by
  have C:(l.filter q).length<=(l.filter p).length:=by
   clear h
   induction l with
   | nil=>exact Nat.le_refl _
   | cons z l ih =>
    rw[List.filter_cons,List.filter_cons];cases hqz:q z
    ·cases p z
     ·simpa using ih
     ·simp;omega
    ·rw[e z hqz];simpa using ih
  rcases List.mem_cons.1 h with rfl|h
  ·rw[List.filter_cons,List.filter_cons,u,A];simp;omega
  ·have:=sK e u A l h
   rw[List.filter_cons,List.filter_cons];cases hqx:q x
   ·cases p x
    ·simpa using this
    ·simp;omega
   ·rw[e x hqx];simpa using this
theorem qy{u:Type}{p q:u->Bool}{i:u}(j:∀x,x≠i->p x=true->q x=true):∀l:List u,l.Nodup->(l.filter p).length<=(l.filter q).length+1
 | [],_=>Nat.zero_le _
 | x::l,h=>by
  obtain⟨E,C⟩:=List.nodup_cons.mp h;by_cases e:x=i
  ·subst e
   have:∀m:List u,x∉m->(m.filter p).length<=(m.filter q).length:=by
    intro m
    induction m with
    | nil=>intro _;exact Nat.le_refl _
    | cons z m ih =>
     intro A;have F:z≠x:=fun e=>A (by rw[e];exact List.mem_cons_self ..)
     have:=ih fun h=>A (List.mem_cons_of_mem _ h)
     rw[List.filter_cons,List.filter_cons];cases hp:p z
     ·cases q z
      ·simpa using this
      ·simp;omega
     ·rw[j z F hp];simpa using this
   have:=this l E;rw[List.filter_cons,List.filter_cons];cases p x<;>cases q x<;>simp<;>omega
  ·have:=qy j l C
   rw[List.filter_cons,List.filter_cons];cases hp:p x
   ·cases q x
    ·simpa using this
    ·simp;omega
   ·rw[j x e hp];simpa using this
theorem qG{ops:Array Oper}:∀{l:List Nat},ke ops l=true->l.Nodup
 | [],_=>List.nodup_nil
 | i::l,h=>by
  unfold ke at h;rw[Bool.and_eq_true,List.all_eq_true]at h;refine List.nodup_cons.mpr ⟨fun hi=>?_,qG h.2⟩;have:=h.1 i hi;simp at this
theorem ancs_ok{u:Array Bool}{k:Nat}(E:∀i o,ops[i]?=some o->u.getD i false=true->∀e∈o.after,Region.binds md e=true->u.getD e.on false=true)(G:∀o,ops[k]?=some o->∀e∈o.after,Region.binds md e=true->u.getD e.on false=true):∀j∈ancs md ops k,j=k\/u.getD j false=true:=by
 have H:∀(l m:List Nat),(∀j∈m,j=k\/u.getD j false=true)->∀j∈l.foldl (markB md ops) m,j=k\/u.getD j false=true:=by
  intro l
  induction l with
  | nil=>intro m h;exact h
  | cons i l ih =>
   intro m h;refine ih _ fun j A=>?_
   unfold markB at A
   split at A
   ·rename_i hi
    rcases List.mem_append.mp A with A|A
    ·exact h j A
    ·cases ho:ops[i]? with
     | none=>rw[ho]at A;simp at A
     | some o =>
      rw[ho]at A;simp only[Option.map_some,Option.getD_some,List.mem_map,List.mem_filter]at A;obtain⟨e,⟨F,hb⟩,rfl⟩:=A;have C:e∈o.after:=Array.mem_toList_iff.mp F
      rcases h i (List.contains_iff_mem.mp hi)with rfl|J
      ·exact .inr (G o ho e C hb)
      ·exact .inr (E i o ho J e C hb)
   ·exact h j A
 exact H _ [k] (fun j A=>.inl (List.mem_singleton.mp A))
theorem anyG_inv{step:Nat->(Act->World->Prop)->Act->World->Prop}{Qn:Act->World->Prop}(a5:∀i K K' a w,(∀a w,K a w->K' a w)->step i K a w->step i K' a w){rest:Nat}{a0:Act}{w0:World}(L:List Nat)(R:Nat->RSpec)(St:Nat->World->World->Prop)(al:List Nat)(A:(Nat->Value)->Act)(J:Array Bool)(bv:sM md ops L=true)(bI:rX md ops L=true)(a8:ke ops L=true)(bu:nA md ops L (fun i=>(R i).deps)=true)(bz:iN (Array.replicate ops.size false) L=J)(bV:∀i j,i∈L->j∈L->i≠j->∀l w w',St i w w'->(R j).rel l w->(R j).rel l w')(bs:S w0)(hA:∀y,cL ops y L a0=A y)(hop:ai step md ops S R St al A L)(hend:∀y w,S w->(∀i,L.contains i=true->(R i).rel ((R i).deps.map y) w)->(∀i∈al,∀j∈al,L.contains i=true->L.contains j=true->i≠j->y i≠y j)->anyG (Region.ready md ops) step Qn rest J (A y) w):
 anyG (Region.ready md ops) step Qn (L.length+rest) (Array.replicate ops.size false) a0 w0:=by
 have ap:∀j∈L,j<ops.size/\∀o,ops[j]?=some o->∀e∈o.after,Region.binds md e=true->e.on<j/\e.on∈L:=fun j C=>by
  have:=List.all_eq_true.mp bv j C;rw[Bool.and_eq_true,decide_eq_true_iff]at this;refine⟨this.1,fun o ho e he hb=>?_⟩;have h2:=this.2;rw[ho]at h2;simp only[Option.map_some,Option.getD_some]at h2;have h3:=Array.all_eq_true_iff_forall_mem.mp h2 e he;rw[hb,Bool.not_true,Bool.false_or,Bool.and_eq_true,decide_eq_true_iff]at h3;exact⟨h3.1,List.contains_iff_mem.mp h3.2⟩
 have bk:∀(j:Nat) (d:Bool),j<ops.size->(Array.replicate ops.size false).getD j d=false:=fun j d C=>by
  rw[Array.getD_eq_getD_getElem?,Array.getElem?_replicate,if_pos C];rfl
 suffices H:∀(G:Nat) (u:Array Bool) (y:Nat->Value) (w:World),u.size=ops.size->(∀j,u.getD j false=true->j∈L) ->
  (∀i o,ops[i]?=some o->u.getD i false=true->∀e∈o.after,Region.binds md e=true->u.getD e.on false=true)->S w ->
  (∀j∈L,u.getD j false=true->(R j).rel ((R j).deps.map y) w/\∀k∈(R j).deps,k∈L/\u.getD k false=true) ->
  (∀i∈al,∀j∈al,u.getD i false=true->u.getD j false=true->i≠j->y i≠y j) ->
  (L.filter fun j=>!u.getD j false).length=G->anyG (Region.ready md ops) step Qn (G+rest) u (A y) w by
  have hy:=nY ops a0 L;rw[hA]at hy;rw[<-hy];have hz:∀j,(Array.replicate ops.size false).getD j false=false:=fun j=>by
   by_cases C:j<ops.size
   ·exact bk j false C
   ·rw[Array.getD_eq_getD_getElem?,Array.getElem?_eq_none (by simp;omega)];rfl
  refine H L.length _ _ w0 (by simp) (fun j C=>by rw[hz]at C;cases C) (fun i o _ hi=>by rw[hz]at hi;cases hi) bs (fun j _ C=>by rw[hz]at C;cases C) (fun i _ j _ hi=>by rw[hz]at hi;cases hi) ?_;rw[List.filter_eq_self.mpr (fun j _=>by rw[hz];rfl)]
 intro G
 induction G with
 | zero =>
  intro u y w hs ar ao hS hR hF hc;have E:∀j∈L,u.getD j false=true:=fun j C=>by
   refine Classical.byContradiction fun h=>?_
   have:j∈L.filter fun j=>!u.getD j false:=List.mem_filter.mpr ⟨C,by simpa using h⟩
   have:=List.length_pos_of_mem this;omega
  have e:u=J:=by
   rw[<-bz];apply Array.ext_getElem?;intro j;by_cases C:j<ops.size
   ·rw[pJ L _ j (by simpa using C),bk j false C,Bool.false_or,Array.getElem?_eq_getElem I]
    congr 1
    have hg:u.getD j false=u[j]:=by rw[Array.getD_eq_getD_getElem?,Array.getElem?_eq_getElem I];rfl
    rw[<-hg,Bool.eq_iff_iff,List.contains_iff_mem];exact⟨ar j,E j⟩
   ·rw[Array.getElem?_eq_none I,Array.getElem?_eq_none (by rw[nU];simp;omega)]
  rw[e,Nat.zero_add];exact hend y w hS (fun i hi=>(hR i (List.contains_iff_mem.mp hi) (E i (List.contains_iff_mem.mp hi))).1) fun i hi j C h1 h2 ad=>hF i hi j C (E i (List.contains_iff_mem.mp h1)) (E j (List.contains_iff_mem.mp h2)) ad
 | succ G ih =>
  intro u y w hs ar ao hS hR hF hc;obtain⟨j0,bf⟩:∃j,j∈L.filter fun j=>!u.getD j false:=by
   cases hf:L.filter fun j=>!u.getD j false with
   | nil=>rw[hf]at hc;simp at hc
   | cons x l=>exact⟨x,by simp⟩
  have a4:=(List.mem_filter.mp bf).1;have bg:u.getD j0 false=false:=by simpa using(List.mem_filter.mp bf).2
  have be:∀{j:Nat},j<ops.size->u.getD j true=u.getD j false:=fun{j} h=>by
   rw[Array.getD_eq_getD_getElem?,Array.getD_eq_getD_getElem?,Array.getElem?_eq_getElem I];rfl
  have ad:Region.ready md ops u≠[]:=by
   have:∀j,j∈L->u.getD j false=false->∃i,i∈Region.ready md ops u:=by
    intro j
    induction j using Nat.strongRecOn with
    | _ j ihj =>
     intro C hl;obtain⟨aw,bt⟩:=ap j C;by_cases ba:∃e∈(ops[j]).after,Region.binds md e=true/\u.getD e.on false=false
     ·obtain⟨e,he,hb,bF⟩:=ba
      obtain⟨h1,h2⟩:=bt _ (Array.getElem?_eq_getElem aw) e he hb;exact ihj e.on h1 h2 bF
     ·refine⟨j,mem_ready.mpr ⟨by rw[be aw];exact hl,ops[j],Array.getElem?_eq_getElem aw,fun e he hb=>?_⟩⟩
      refine Classical.byContradiction fun hc=>ba ⟨e,he,hb,by simpa using hc⟩
   obtain⟨i,hi⟩:=this j0 a4 bg;intro h;rw[h]at hi;cases hi
  rw[show G+1+rest=(G+rest)+1 by omega];refine⟨fun h=>absurd h ad,fun i hi=>?_⟩;obtain⟨h1,o,ho,E⟩:=mem_ready.mp hi;have ay:=(Array.getElem?_eq_some_iff.mp ho).1;rw[be ay]at h1;have ac:i∈L:=Classical.byContradiction fun bi=>by
   have Y:=List.all_eq_true.mp bI i (List.mem_range.mpr ay);rw[Bool.or_eq_true]at Y
   rcases Y with Y|Y
   ·exact bi (List.contains_iff_mem.mp Y)
   ·have hm:=List.contains_iff_mem.mp (List.all_eq_true.mp Y j0 a4)
    rcases ancs_ok ao (fun o' bl=>by rw[ho]at bl;cases bl;exact E) j0 hm with e|e
    ·exact bi (e▸a4)
    ·rw[bg]at e;cases e
  refine a5 i _ _ _ _ (fun a' w'=>?_) (hop i ac o ho y w hS fun j C=>?_)
  ·rintro⟨v,rfl,br,bm,bp,bc⟩
   have e:(A y).put o.dst v=A (upd y i v):=by
    rw[<-hA,<-hA,<-pU ops y i v L a0 a8 ac];unfold kd;rw[ho];rfl
   rw[e];have F:∀j,j≠i->(u.setIfInBounds i true).getD j false=u.getD j false:=fun j C=>getD_set_ne false (fun h=>C h.symm)
   have aa:(u.setIfInBounds i true).getD i false=true:=by
    rw[Array.getD_eq_getD_getElem?,Array.getElem?_setIfInBounds_self_of_lt I];rfl
   have af:∀{k:Nat},u.getD k false=true->(u.setIfInBounds i true).getD k false=true:=fun{k} Y=>by
    by_cases av:k=i
    ·rw[av];exact aa
    ·rw[F k av];exact Y
   refine ih _ _ w' (by rw[Array.size_setIfInBounds];exact hs) (fun j C=>?_) (fun j oj a6 hl ed a9 hb=>?_) br (fun j C hl=>?_) (fun i' az j' a3 ab W ad=>?_) ?_
   ·by_cases U:j=i
    ·rw[U];exact ac
    ·rw[F j U]at C;exact ar j C
   ·by_cases U:j=i
    ·subst U
     rw[ho]at a6;cases a6;exact af (E ed a9 hb)
    ·rw[F j U]at hl;exact af (ao j oj a6 hl ed a9 hb)
   ·by_cases U:j=i
    ·subst U
     refine⟨bp,fun k Y=>?_⟩;have an:=List.all_eq_true.mp (List.all_eq_true.mp bu j C) k Y;rw[Bool.or_eq_true,beq_iff_eq,ho]at an
     rcases an with rfl|an
     ·exact⟨C,aa⟩
     ·simp only[Option.map_some,Option.getD_some]at an
      obtain⟨x,hx,hb⟩:=Array.any_eq_true.mp an;rw[Bool.and_eq_true,Bool.or_eq_true,beq_iff_eq]at hb;obtain⟨a7,ag⟩:=hb;have au:=E _ (Array.getElem_mem hx) a7;have X:=((ap j C).2 o ho _ (Array.getElem_mem hx) a7).2
      rcases ag with ag|ag
      ·rw[<-ag];exact⟨X,af au⟩
      ·obtain⟨a1,a2⟩:=(hR _ X au).2 k (List.contains_iff_mem.mp ag)
       exact⟨a1,af a2⟩
    ·rw[F j U]at hl
     obtain⟨r1,r2⟩:=hR j C hl;refine⟨?_,fun k Y=>⟨(r2 k Y).1,af (r2 k Y).2⟩⟩;have em:(R j).deps.map (upd y i v)=(R j).deps.map y:=List.map_congr_left fun k Y=>lk v (fun av=>by
      have:=(r2 k Y).2;rw[av,h1]at this;cases this)
     rw[em];exact bV i j ac C (fun e=>U e.symm) _ w w' bm r1
   ·by_cases e1:i'=i
    ·subst e1
     have e2:j'≠i':=fun h=>ad h.symm
     rw[F j' e2]at W;rw[jT,lk v e2];exact(bc az j' a3 e2 (hR j' (ar j' W) W).1).symm
    ·rw[F i' e1]at ab
     rw[lk v e1];by_cases e2:j'=i
     ·subst e2
      rw[jT];exact bc a3 i' az e1 (hR i' (ar i' ab) ab).1
     ·rw[F j' e2]at W
      rw[lk v e2];exact hF i' az j' a3 ab W ad
   ·have aw:=sK (p:=fun j=>!u.getD j false) (q:=fun j=>!(u.setIfInBounds i true).getD j false) (fun x hx=>by
     cases hlx:u.getD x false
     ·rfl
     ·rw[af hlx]at hx;cases hx) (by rw[h1];rfl) (by rw[aa];rfl) L ac
    have b0:=qy (p:=fun j=>!u.getD j false) (q:=fun j=>!(u.setIfInBounds i true).getD j false) (i:=i) (fun x hx hp=>by rw[F x hx];exact hp) L (qG a8);omega
  ·obtain⟨x,hx,hb⟩:=Array.any_eq_true.mp C
   rw[Bool.and_eq_true,beq_iff_eq]at hb;have au:=E _ (Array.getElem_mem hx) hb.1;have X:=((ap i ac).2 o ho _ (Array.getElem_mem hx) hb.1).2;rw[hb.2]at au X;exact(hR j X au).1
theorem kV{id rest:Nat}{a:Act}{w:World}(L:List Nat)(R:Nat->RSpec)(St:Nat->World->World->Prop)(al:List Nat)(A:(Nat->Value)->Act)(e:Array Bool)(hm:P.follows .mixedOrders=true)(F:sM .any ops L=true)(H:rX .any ops L=true)(E:ke ops L=true)(C:nA .any ops L (fun i=>(R i).deps)=true)(G:iN (Array.replicate ops.size false) L=e)(U:ops.size=L.length+rest)(J:∀i j,i∈L->j∈L->i≠j->∀l w w',St i w w'->(R j).rel l w->(R j).rel l w')(u:S w.drew)(hA:∀y,cL ops y L a=A y)(hop:ai (wpOp P ops Q) .any ops S R St al A L)(hend:∀y w,S w->(∀i,L.contains i=true->(R i).rel ((R i).deps.map y) w)->(∀i∈al,∀j∈al,L.contains i=true->L.contains j=true->i≠j->y i≠y j)->wpAny P .any ops Q rest e (A y) w):(Code.region id ops true).wp P Q a w:=by
 refine wp_region_any hm ?_;have h:=anyG_inv (step:=wpOp P ops Q) (Qn:=Q .normal) (rest:=rest) (fun i K K' a w h W=>wpOp_mono h W) L R St al A e F H E C G J u hA hop (fun y w X Y h3=>(gj ..).mpr (hend y w X Y h3));rw[gj,<-U]at h;exact h
theorem oD{F:Fence}{n id rest:Nat}{a:Act}{w:World}(L:List Nat)(R:Nat->RSpec)(St:Nat->World->World->Prop)(al:List Nat)(A:(Nat->Value)->Act)(e:Array Bool)(hm:P.follows .mixedOrders=true)(G:sM .any ops L=true)(J:rX .any ops L=true)(E:ke ops L=true)(C:nA .any ops L (fun i=>(R i).deps)=true)(H:iN (Array.replicate ops.size false) L=e)(W:ops.size=L.length+rest)(U:∀i j,i∈L->j∈L->i≠j->∀l w w',St i w w'->(R j).rel l w->(R j).rel l w')(u:S w.drew)(hA:∀y,cL ops y L a=A y)(hop:ai (wpOpIn F n P ops Q) .any ops S R St al A L)(hend:∀y w,S w->(∀i,L.contains i=true->(R i).rel ((R i).deps.map y) w)->(∀i∈al,∀j∈al,L.contains i=true->L.contains j=true->i≠j->y i≠y j)->wpAnyIn F n P .any ops Q rest e (A y) w):(Code.region id ops true).wpIn F n P Q a w:=by
 refine wpIn_region_any hm ?_;have h:=anyG_inv (step:=wpOpIn F n P ops Q) (Qn:=Q .normal) (rest:=rest) (fun i K K' a w h X=>wpOpIn_mono h X) L R St al A e G J E C H U u hA hop (fun y w Y h2 h3=>(eS ..).mpr (hend y w Y h2 h3));rw[eS,<-W]at h;exact h
end
end
end Go.Proofs.Υ
