/- A region that draws its order, operation by operation: by what each operation's value is known. -/
import Derived.Test.YtaibkpbklfodiaaGreatDoorPA
import Derived.Deep.RegionHeld3
import Derived.OrdersIn
set_option linter.all false
set_option maxHeartbeats 100000000
section
namespace Dowel
open Go
structure RSpec where
 deps:List Nat
 rel:List Value→World→Prop
def upd (y:Nat→Value) (i:Nat) (v:Value):Nat→Value:=fun k=>if k=i then v else y k
theorem iI (y:Nat→Value) (i:Nat) (v:Value):upd y i v i=v:=if_pos rfl
theorem jC {y:Nat→Value} {i k:Nat} (v:Value) (h:k≠i):upd y i v k=y k:=if_neg h
def cU (ops:Array Oper) (i:Nat):Option Tmp:=(ops[i]?).bind (·.dst)
def bj (ops:Array Oper) (y:Nat→Value):List Nat→Act→Act
 | [],a=>a
 | i :: l,a=>bj ops y l (a.put (cU ops i) (y i))
def nJ:Option Tmp→Option Tmp→Bool
 | some d,some e=>decide (d≠e)
 | _,_=>true
def i7 (ops:Array Oper):List Nat→Bool
 | []=>true
 | i :: l=>(l.all fun j=>decide (i≠j) && nJ (cU ops i) (cU ops j)) && i7 ops l
theorem apartB_spec {x y:Option Tmp} (h:nJ x y=true):∀ d,x=some d→y≠some d:=by
 rintro d rfl rfl;simp [nJ] at h
theorem mQ (ops:Array Oper) (y:Nat→Value) (d:Option Tmp) (v:Value):∀ (l:List Nat) (a:Act),(∀ j ∈ l,nJ d (cU ops j)=true)→(bj ops y l a).put d v=bj ops y l (a.put d v)
 | [],_,_=>rfl
 | j :: l,a,h=>by
  show (bj ops y l _).put d v=bj ops y l _;rw [mQ ops y d v l _ (fun k hk=>h k (List.mem_cons_of_mem _ hk)),Act.put_comm a v (y j) (apartB_spec (h j (List.mem_cons_self ..)))]
theorem pG (a:Act) (d:Option Tmp) (v u:Value):(a.put d v).put d u=a.put d u:=by
 cases d with
 | none=>rfl
 | some d=>simp [Act.put]
theorem iR (ops:Array Oper) (y:Nat→Value) (i:Nat) (v:Value):∀ (l:List Nat) (a:Act),i ∉ l→bj ops (upd y i v) l a=bj ops y l a
 | [],_,_=>rfl
 | j :: l,a,h=>by
  show bj ops (upd y i v) l _=bj ops y l _;rw [iR ops y i v l _ (fun hh=>h (List.mem_cons_of_mem _ hh)),jC v (fun e=>h (by rw [e];exact List.mem_cons_self ..))]
theorem mR (ops:Array Oper) (y:Nat→Value) (i:Nat) (v:Value):∀ (l:List Nat) (a:Act),i7 ops l=true→i ∈ l→(bj ops y l a).put (cU ops i) v=bj ops (upd y i v) l a
 | [],_,_,h=>by cases h
 | j :: l,a,hd,h=>by
  unfold i7 at hd;rw [Bool.and_eq_true,List.all_eq_true] at hd;have hj:∀ k ∈ l,j≠k∧nJ (cU ops j) (cU ops k)=true:=fun k hk=>by
   have:=hd.1 k hk;rw [Bool.and_eq_true,decide_eq_true_iff] at this;exact this
  by_cases e:i=j
  ·subst e
   show (bj ops y l _).put _ v=bj ops (upd y i v) l _;rw [mQ ops y _ v l _ (fun k hk=>(hj k hk).2),pG,iR ops y i v l _ (fun hh=>(hj i hh).1 rfl),iI]
  ·have hi:i ∈ l:=(List.mem_cons.mp h).resolve_left e
   show (bj ops y l _).put _ v=bj ops (upd y i v) l _;rw [mR ops y i v l _ hd.2 hi,jC v (fun h=>e h.symm)]
theorem put_self (a:Act) (d:Option Tmp):a.put d (match d with | some d=>a.tmps.getD d undef | none=>undef)=a:=by
 cases d with
 | none=>rfl
 | some d =>
  show ({ a with tmps:=_ }:Act)=a;have:a.tmps.setIfInBounds d (a.tmps.getD d undef)=a.tmps:=by
   apply Array.ext_getElem?;intro j;rw [Array.getElem?_setIfInBounds]
   split
   ·rename_i e
    subst e
    split
    ·rename_i hl;rw [Array.getElem?_eq_getElem hl];rfl
    ·rename_i hl;rw [Array.getElem?_eq_none ω]
   ·rfl
  simp only [this]
theorem lH (ops:Array Oper) (a:Act):∀ l:List Nat,bj ops (fun i=>match cU ops i with | some d=>a.tmps.getD d undef | none=>undef) l a=a
 | []=>rfl
 | i :: l=>by
  show bj ops _ l (a.put (cU ops i) _)=a;rw [put_self];exact lH ops a l
def oT (md:Region.Mode) (ops:Array Oper) (L:List Nat):Bool:=
 L.all fun j=>decide (j<ops.size) && ((ops[j]?).map fun o=>o.after.all fun e=>!Region.binds md e || (decide (e.on<j) && L.contains e.on)).getD false
def kZ (md:Region.Mode) (ops:Array Oper) (L:List Nat) (R:Nat→List Nat):Bool:=
 L.all fun i=>(R i).all fun k=>k == i || ((ops[i]?).map fun o=>o.after.any fun e=>Region.binds md e && (e.on == k || (R e.on).contains k)).getD false
def markB (md:Region.Mode) (ops:Array Oper) (m:List Nat) (i:Nat):List Nat:=
 if m.contains i then m ++ ((ops[i]?).map fun o=>(o.after.toList.filter fun e=>Region.binds md e).map fun e=>e.on).getD [] else m
def ancs (md:Region.Mode) (ops:Array Oper) (k:Nat):List Nat:=(List.range ops.size).reverse.foldl (markB md ops) [k]
def oz (md:Region.Mode) (ops:Array Oper) (L:List Nat):Bool:=
 (List.range ops.size).all fun k=>L.contains k || L.all fun j=>(ancs md ops k).contains j
def gS (listed:Array Bool) (L:List Nat):Array Bool:=L.foldl (fun l i=>l.setIfInBounds i true) listed
theorem lD:∀ (L:List Nat) (l:Array Bool),(gS l L).size=l.size
 | [],_=>rfl
 | i :: L,l=>by show (gS (l.setIfInBounds i true) L).size=_;rw [lD L,Array.size_setIfInBounds]
theorem mG:∀ (L:List Nat) (l:Array Bool) (j:Nat),j<l.size→(gS l L)[j]?=some (l.getD j false || L.contains j)
 | [],l,j,h=>by show l[j]?=_;rw [Array.getD_eq_getD_getElem?,Array.getElem?_eq_getElem h];simp
 | i :: L,l,j,h=>by
  show (gS (l.setIfInBounds i true) L)[j]?=_;rw [mG L _ j (by rw [Array.size_setIfInBounds];exact h),Array.getD_eq_getD_getElem?,Array.getElem?_setIfInBounds,Array.getD_eq_getD_getElem?,List.contains_cons];by_cases e:i=j
  ·subst e;simp [h]
  ·have e':(j == i)=false:=by simp;omega
   simp [e,e']
def anyG (ready:Array Bool→List Nat) (step:Nat→(Act→World→Prop)→Act→World→Prop) (Qn:Act→World→Prop):Nat→Array Bool→Act→World→Prop
 | 0,listed,a,w=>ready listed=[]∧Qn a w
 | fuel+1,listed,a,w=>(ready listed=[]→Qn a w)∧∀ i ∈ ready listed,step i (anyG ready step Qn fuel (listed.setIfInBounds i true)) a w
section
variable {P : Program} {Q : Exit → Act → World → Prop} {md : Region.Mode} {ops : Array Oper} {S : World → Prop}
theorem fp:∀ (fuel:Nat) (listed:Array Bool) (a:Act) (w:World),anyG (Region.ready md ops) (wpOp P ops Q) (Q .normal) fuel listed a w↔wpAny P md ops Q fuel listed a w
 | 0,_,_,_=>Iff.rfl
 | fuel+1,listed,a,w =>
  ⟨fun h=>⟨h.1,fun i hi=>wpOp_mono (fun a' w'=>(fp fuel _ a' w').mp) (h.2 i hi)⟩,fun h=>⟨h.1,fun i hi=>wpOp_mono (fun a' w'=>(fp fuel _ a' w').mpr) (h.2 i hi)⟩⟩
theorem dZ {F:Fence} {n:Nat}:∀ (fuel:Nat) (listed:Array Bool) (a:Act) (w:World),anyG (Region.ready md ops) (wpOpIn F n P ops Q) (Q .normal) fuel listed a w↔wpAnyIn F n P md ops Q fuel listed a w
 | 0,_,_,_=>Iff.rfl
 | fuel+1,listed,a,w =>
  ⟨fun h=>⟨h.1,fun i hi=>wpOpIn_mono (fun a' w'=>(dZ fuel _ a' w').mp) (h.2 i hi)⟩,fun h=>⟨h.1,fun i hi=>wpOpIn_mono (fun a' w'=>(dZ fuel _ a' w').mpr) (h.2 i hi)⟩⟩
def DepsOk (md:Region.Mode) (R:Nat→RSpec) (o:Oper) (y:Nat→Value) (w:World):Prop:=
 ∀ j,(o.after.any fun e=>Region.binds md e && e.on == j)=true→(R j).rel ((R j).deps.map y) w
def Fresh (al:List Nat) (R:Nat→RSpec) (y:Nat→Value) (w:World) (i:Nat) (v:Value):Prop:=i ∈ al→∀ j,j ∈ al→j≠i→(R j).rel ((R j).deps.map y) w→y j≠v
def ai (step:Nat→(Act→World→Prop)→Act→World→Prop) (md:Region.Mode) (ops:Array Oper) (S:World→Prop) (R:Nat→RSpec) (St:Nat→World→World→Prop) (al:List Nat) (A:(Nat→Value)→Act) (l:List Nat):Prop:=
 ∀ i ∈ l,∀ o,ops[i]?=some o→∀ y w,S w→DepsOk md R o y w→step i (fun a' w'=>∃ v,a'=(A y).put o.dst v∧S w'∧St i w w'∧(R i).rel ((R i).deps.map (upd y i v)) w'∧Fresh al R y w i v) (A y) w
theorem ai.nil {step:Nat→(Act→World→Prop)→Act→World→Prop} {R:Nat→RSpec} {St:Nat→World→World→Prop} {al:List Nat} {A:(Nat→Value)→Act}:ai step md ops S R St al A []:=fun _ h=>by cases h
theorem ai.cons {R:Nat→RSpec} {St:Nat→World→World→Prop} {al:List Nat} {A:(Nat→Value)→Act} {i:Nat} {o:Oper} {l:List Nat} (ho:ops[i]?=some o)
  (h:∀ y w,S w→DepsOk md R o y w→∀ K':Act→World→Prop,Shut (∀ v w',S w'→St i w w'→(R i).rel ((R i).deps.map (upd y i v)) w'→Fresh al R y w i v→K' ((A y).put o.dst v) w') →
   if Region.wanted o (yielded ops (A y).tmps)=true then Oper.wp P o (A y) w K' Q else K' ((A y).put o.dst undef) w)
  (hs:ai (wpOp P ops Q) md ops S R St al A l):ai (wpOp P ops Q) md ops S R St al A (i :: l):=fun j hj o' ho' y w hS hD=>by
 rcases List.mem_cons.1 hj with rfl | hj
 ·rw [ho] at ho'
  cases ho';exact wpOp_step ho (fun K' hK=>h y w hS hD K' (fun v w' h1 h2 h3 h4=>hK _ _ ⟨v,rfl,h1,h2,h3,h4⟩))
 ·exact hs j hj o' ho' y w hS hD
theorem ai.consIn {F:Fence} {n:Nat} {R:Nat→RSpec} {St:Nat→World→World→Prop} {al:List Nat} {A:(Nat→Value)→Act} {i:Nat} {o:Oper} {l:List Nat} (ho:ops[i]?=some o)
  (h:∀ y w,S w→DepsOk md R o y w→∀ K':Act→World→Prop,Shut (∀ v w',S w'→St i w w'→(R i).rel ((R i).deps.map (upd y i v)) w'→Fresh al R y w i v→K' ((A y).put o.dst v) w') →
   if Region.wanted o (yielded ops (A y).tmps)=true then Oper.wpIn F n P o (A y) w K' Q else (∀ f,o.about P w (A y).eval=some f→F.fn f)∧K' ((A y).put o.dst undef) w)
  (hs:ai (wpOpIn F n P ops Q) md ops S R St al A l):ai (wpOpIn F n P ops Q) md ops S R St al A (i :: l):=fun j hj o' ho' y w hS hD=>by
 rcases List.mem_cons.1 hj with rfl | hj
 ·rw [ho] at ho'
  cases ho';exact wpOpIn_step ho (fun K' hK=>h y w hS hD K' (fun v w' h1 h2 h3 h4=>hK _ _ ⟨v,rfl,h1,h2,h3,h4⟩))
 ·exact hs j hj o' ho' y w hS hD
theorem oS {α:Type} {p q:α→Bool} (hqp:∀ x,q x=true→p x=true) {i:α} (hp:p i=true) (hq:q i=false):∀ l:List α,i ∈ l→(l.filter q).length<(l.filter p).length
 | [],h=>by cases h
 | x :: l,h=>by
  have hle:(l.filter q).length≤(l.filter p).length:=by
   clear h
   induction l with
   | nil=>exact Nat.le_refl _
   | cons z l ih =>
    rw [List.filter_cons,List.filter_cons];cases hqz:q z
    ·cases p z
     ·simpa using ih
     ·simp;omega
    ·rw [hqp z hqz];simpa using ih
  rcases List.mem_cons.1 h with rfl | h
  ·rw [List.filter_cons,List.filter_cons,hp,hq];simp;omega
  ·have:=oS hqp hp hq l h
   rw [List.filter_cons,List.filter_cons];cases hqx:q x
   ·cases p x
    ·simpa using this
    ·simp;omega
   ·rw [hqp x hqx];simpa using this
theorem m9 {α:Type} {p q:α→Bool} {i:α} (hpq:∀ x,x≠i→p x=true→q x=true):∀ l:List α,l.Nodup→(l.filter p).length≤(l.filter q).length+1
 | [],_=>Nat.zero_le _
 | x :: l,h=>by
  obtain ⟨hx,hl⟩:=List.nodup_cons.mp h;by_cases e:x=i
  ·subst e
   have:∀ m:List α,x ∉ m→(m.filter p).length≤(m.filter q).length:=by
    intro m
    induction m with
    | nil=>intro _;exact Nat.le_refl _
    | cons z m ih =>
     intro hm;have hz:z≠x:=fun e=>hm (by rw [e];exact List.mem_cons_self ..)
     have:=ih fun h=>hm (List.mem_cons_of_mem _ h)
     rw [List.filter_cons,List.filter_cons];cases hp:p z
     ·cases q z
      ·simpa using this
      ·simp;omega
     ·rw [hpq z hz hp];simpa using this
   have:=this l hx;rw [List.filter_cons,List.filter_cons];cases p x <;> cases q x <;> simp <;> omega
  ·have:=m9 hpq l hl
   rw [List.filter_cons,List.filter_cons];cases hp:p x
   ·cases q x
    ·simpa using this
    ·simp;omega
   ·rw [hpq x e hp];simpa using this
theorem nw {ops:Array Oper}:∀ {l:List Nat},i7 ops l=true→l.Nodup
 | [],_=>List.nodup_nil
 | i :: l,h=>by
  unfold i7 at h;rw [Bool.and_eq_true,List.all_eq_true] at h;refine List.nodup_cons.mpr ⟨fun hi=>?_,nw h.2⟩;have:=h.1 i hi;simp at this
theorem ancs_ok {listed:Array Bool} {k:Nat} (hcl:∀ i o,ops[i]?=some o→listed.getD i false=true→∀ e ∈ o.after,Region.binds md e=true→listed.getD e.on false=true)
  (hk:∀ o,ops[k]?=some o→∀ e ∈ o.after,Region.binds md e=true→listed.getD e.on false=true):∀ j ∈ ancs md ops k,j=k∨listed.getD j false=true:=by
 have H:∀ (l m:List Nat),(∀ j ∈ m,j=k∨listed.getD j false=true)→∀ j ∈ l.foldl (markB md ops) m,j=k∨listed.getD j false=true:=by
  intro l
  induction l with
  | nil=>intro m h;exact h
  | cons i l ih =>
   intro m h;refine ih _ fun j hj=>?_
   unfold markB at hj
   split at hj
   ·rename_i hi
    rcases List.mem_append.mp hj with hj | hj
    ·exact h j hj
    ·cases ho:ops[i]? with
     | none=>rw [ho] at hj;simp at hj
     | some o =>
      rw [ho] at hj;simp only [Option.map_some,Option.getD_some,List.mem_map,List.mem_filter] at hj;obtain ⟨e,⟨he,hb⟩,rfl⟩:=hj;have he':e ∈ o.after:=Array.mem_toList_iff.mp he
      rcases h i (List.contains_iff_mem.mp hi) with rfl | hl
      ·exact .inr (hk o ho e he' hb)
      ·exact .inr (hcl i o ho hl e he' hb)
   ·exact h j hj
 exact H _ [k] (fun j hj=>.inl (List.mem_singleton.mp hj))
theorem anyG_inv {step:Nat→(Act→World→Prop)→Act→World→Prop} {Qn:Act→World→Prop} (hmono:∀ i K K' a w,(∀ a w,K a w→K' a w)→step i K a w→step i K' a w)
  {rest:Nat} {a0:Act} {w0:World} (L:List Nat) (R:Nat→RSpec) (St:Nat→World→World→Prop) (al:List Nat) (A:(Nat→Value)→Act) (listed1:Array Bool)
  (hdn:oT md ops L=true) (hre:oz md ops L=true) (hdi:i7 ops L=true) (hcl:kZ md ops L (fun i=>(R i).deps)=true) (hl1:gS (Array.replicate ops.size false) L=listed1)
  (hst:∀ i j,i ∈ L→j ∈ L→i≠j→∀ l w w',St i w w'→(R j).rel l w→(R j).rel l w') (hS0:S w0) (hA:∀ y,bj ops y L a0=A y)
  (hop:ai step md ops S R St al A L)
  (hend:∀ y w,S w→(∀ i,L.contains i=true→(R i).rel ((R i).deps.map y) w)→(∀ i ∈ al,∀ j ∈ al,L.contains i=true→L.contains j=true→i≠j→y i≠y j)→anyG (Region.ready md ops) step Qn rest listed1 (A y) w) :
  anyG (Region.ready md ops) step Qn (L.length+rest) (Array.replicate ops.size false) a0 w0:=by
 have hdn':∀ j ∈ L,j<ops.size∧∀ o,ops[j]?=some o→∀ e ∈ o.after,Region.binds md e=true→e.on<j∧e.on ∈ L:=fun j hj=>by
  have:=List.all_eq_true.mp hdn j hj;rw [Bool.and_eq_true,decide_eq_true_iff] at this;refine ⟨this.1,fun o ho e he hb=>?_⟩;have h2:=this.2;rw [ho] at h2;simp only [Option.map_some,Option.getD_some] at h2;have h3:=Array.all_eq_true_iff_forall_mem.mp h2 e he;rw [hb,Bool.not_true,Bool.false_or,Bool.and_eq_true,decide_eq_true_iff] at h3;exact ⟨h3.1,List.contains_iff_mem.mp h3.2⟩
 have hno:∀ (j:Nat) (d:Bool),j<ops.size→(Array.replicate ops.size false).getD j d=false:=fun j d hj=>by
  rw [Array.getD_eq_getD_getElem?,Array.getElem?_replicate,if_pos hj];rfl
 suffices H:∀ (fuel:Nat) (listed:Array Bool) (y:Nat→Value) (w:World),listed.size=ops.size→(∀ j,listed.getD j false=true→j ∈ L) →
   (∀ i o,ops[i]?=some o→listed.getD i false=true→∀ e ∈ o.after,Region.binds md e=true→listed.getD e.on false=true)→S w →
   (∀ j ∈ L,listed.getD j false=true→(R j).rel ((R j).deps.map y) w∧∀ k ∈ (R j).deps,k ∈ L∧listed.getD k false=true) →
   (∀ i ∈ al,∀ j ∈ al,listed.getD i false=true→listed.getD j false=true→i≠j→y i≠y j) →
   (L.filter fun j=>!listed.getD j false).length=fuel→anyG (Region.ready md ops) step Qn (fuel+rest) listed (A y) w by
  have hy:=lH ops a0 L;rw [hA] at hy;rw [← hy];have hz:∀ j,(Array.replicate ops.size false).getD j false=false:=fun j=>by
   by_cases hj:j<ops.size
   ·exact hno j false hj
   ·rw [Array.getD_eq_getD_getElem?,Array.getElem?_eq_none (by simp;omega)];rfl
  refine H L.length _ _ w0 (by simp) (fun j hj=>by rw [hz] at hj;cases hj) (fun i o _ hi=>by rw [hz] at hi;cases hi) hS0 (fun j _ hj=>by rw [hz] at hj;cases hj) (fun i _ j _ hi=>by rw [hz] at hi;cases hi) ?_;rw [List.filter_eq_self.mpr (fun j _=>by rw [hz];rfl)]
 intro fuel
 induction fuel with
 | zero =>
  intro listed y w hs hin hcl' hS hR hF hc;have hall:∀ j ∈ L,listed.getD j false=true:=fun j hj=>by
   refine Classical.byContradiction fun h=>?_
   have:j ∈ L.filter fun j=>!listed.getD j false:=List.mem_filter.mpr ⟨hj,by simpa using h⟩
   have:=List.length_pos_of_mem this;omega
  have e:listed=listed1:=by
   rw [← hl1];apply Array.ext_getElem?;intro j;by_cases hj:j<ops.size
   ·rw [mG L _ j (by simpa using hj),hno j false hj,Bool.false_or,Array.getElem?_eq_getElem ω]
    congr 1
    have hg:listed.getD j false=listed[j]:=by rw [Array.getD_eq_getD_getElem?,Array.getElem?_eq_getElem ω];rfl
    rw [← hg,Bool.eq_iff_iff,List.contains_iff_mem];exact ⟨hin j,hall j⟩
   ·rw [Array.getElem?_eq_none ω,Array.getElem?_eq_none (by rw [lD];simp;omega)]
  rw [e,Nat.zero_add];exact hend y w hS (fun i hi=>(hR i (List.contains_iff_mem.mp hi) (hall i (List.contains_iff_mem.mp hi))).1) fun i hi j hj h1 h2 hne=>hF i hi j hj (hall i (List.contains_iff_mem.mp h1)) (hall j (List.contains_iff_mem.mp h2)) hne
 | succ fuel ih =>
  intro listed y w hs hin hcl' hS hR hF hc;obtain ⟨j0,hj0⟩:∃ j,j ∈ L.filter fun j=>!listed.getD j false:=by
   cases hf:L.filter fun j=>!listed.getD j false with
   | nil=>rw [hf] at hc;simp at hc
   | cons x l=>exact ⟨x,by simp⟩
  have hj1:=(List.mem_filter.mp hj0).1;have hj2:listed.getD j0 false=false:=by simpa using (List.mem_filter.mp hj0).2
  have hft:∀ {j:Nat},j<ops.size→listed.getD j true=listed.getD j false:=fun {j} h=>by
   rw [Array.getD_eq_getD_getElem?,Array.getD_eq_getD_getElem?,Array.getElem?_eq_getElem ω];rfl
  have hne:Region.ready md ops listed≠[]:=by
   have:∀ j,j ∈ L→listed.getD j false=false→∃ i,i ∈ Region.ready md ops listed:=by
    intro j
    induction j using Nat.strongRecOn with
    | _ j ihj =>
     intro hj hl;obtain ⟨hlt,haf⟩:=hdn' j hj;by_cases hex:∃ e ∈ (ops[j]).after,Region.binds md e=true∧listed.getD e.on false=false
     ·obtain ⟨e,he,hb,hle⟩:=hex
      obtain ⟨h1,h2⟩:=haf _ (Array.getElem?_eq_getElem hlt) e he hb;exact ihj e.on h1 h2 hle
     ·refine ⟨j,mem_ready.mpr ⟨by rw [hft hlt];exact hl,ops[j],Array.getElem?_eq_getElem hlt,fun e he hb=>?_⟩⟩
      refine Classical.byContradiction fun hc=>hex ⟨e,he,hb,by simpa using hc⟩
   obtain ⟨i,hi⟩:=this j0 hj1 hj2;intro h;rw [h] at hi;cases hi
  rw [show fuel+1+rest=(fuel+rest)+1 by omega];refine ⟨fun h=>absurd h hne,fun i hi=>?_⟩;obtain ⟨h1,o,ho,hall⟩:=mem_ready.mp hi;have hilt:=(Array.getElem?_eq_some_iff.mp ho).1;rw [hft hilt] at h1;have hiL:i ∈ L:=Classical.byContradiction fun hni=>by
   have hk:=List.all_eq_true.mp hre i (List.mem_range.mpr hilt);rw [Bool.or_eq_true] at hk
   rcases hk with hk | hk
   ·exact hni (List.contains_iff_mem.mp hk)
   ·have hm:=List.contains_iff_mem.mp (List.all_eq_true.mp hk j0 hj1)
    rcases ancs_ok hcl' (fun o' ho'=>by rw [ho] at ho';cases ho';exact hall) j0 hm with e | e
    ·exact hni (e ▸ hj1)
    ·rw [hj2] at e;cases e
  refine hmono i _ _ _ _ (fun a' w'=>?_) (hop i hiL o ho y w hS fun j hj=>?_)
  ·rintro ⟨v,rfl,hS',hstp,hRi,hfr⟩
   have e:(A y).put o.dst v=A (upd y i v):=by
    rw [← hA,← hA,← mR ops y i v L a0 hdi hiL];unfold cU;rw [ho];rfl
   rw [e];have hset:∀ j,j≠i→(listed.setIfInBounds i true).getD j false=listed.getD j false:=fun j hj=>getD_set_ne false (fun h=>hj h.symm)
   have hself:(listed.setIfInBounds i true).getD i false=true:=by
    rw [Array.getD_eq_getD_getElem?,Array.getElem?_setIfInBounds_self_of_lt ω];rfl
   have hup:∀ {k:Nat},listed.getD k false=true→(listed.setIfInBounds i true).getD k false=true:=fun {k} hk=>by
    by_cases hki:k=i
    ·rw [hki];exact hself
    ·rw [hset k hki];exact hk
   refine ih _ _ w' (by rw [Array.size_setIfInBounds];exact hs) (fun j hj=>?_) (fun j oj hoj hl ed hed hb=>?_) hS' (fun j hj hl=>?_) (fun i' hi' j' hj' hl1' hl2' hne=>?_) ?_
   ·by_cases hji:j=i
    ·rw [hji];exact hiL
    ·rw [hset j hji] at hj;exact hin j hj
   ·by_cases hji:j=i
    ·subst hji
     rw [ho] at hoj;cases hoj;exact hup (hall ed hed hb)
    ·rw [hset j hji] at hl;exact hup (hcl' j oj hoj hl ed hed hb)
   ·by_cases hji:j=i
    ·subst hji
     refine ⟨hRi,fun k hk=>?_⟩;have hcj:=List.all_eq_true.mp (List.all_eq_true.mp hcl j hj) k hk;rw [Bool.or_eq_true,beq_iff_eq,ho] at hcj
     rcases hcj with rfl | hcj
     ·exact ⟨hj,hself⟩
     ·simp only [Option.map_some,Option.getD_some] at hcj
      obtain ⟨x,hx,hb⟩:=Array.any_eq_true.mp hcj;rw [Bool.and_eq_true,Bool.or_eq_true,beq_iff_eq] at hb;obtain ⟨hb1,hb3⟩:=hb;have hon:=hall _ (Array.getElem_mem hx) hb1;have honL:=((hdn' j hj).2 o ho _ (Array.getElem_mem hx) hb1).2
      rcases hb3 with hb3 | hb3
      ·rw [← hb3];exact ⟨honL,hup hon⟩
      ·obtain ⟨a1,a2⟩:=(hR _ honL hon).2 k (List.contains_iff_mem.mp hb3)
       exact ⟨a1,hup a2⟩
    ·rw [hset j hji] at hl
     obtain ⟨r1,r2⟩:=hR j hj hl;refine ⟨?_,fun k hk=>⟨(r2 k hk).1,hup (r2 k hk).2⟩⟩;have em:(R j).deps.map (upd y i v)=(R j).deps.map y:=List.map_congr_left fun k hk=>jC v (fun hki=>by
      have:=(r2 k hk).2;rw [hki,h1] at this;cases this)
     rw [em];exact hst i j hiL hj (fun e=>hji e.symm) _ w w' hstp r1
   ·by_cases e1:i'=i
    ·subst e1
     have e2:j'≠i':=fun h=>hne h.symm
     rw [hset j' e2] at hl2';rw [iI,jC v e2];exact (hfr hi' j' hj' e2 (hR j' (hin j' hl2') hl2').1).symm
    ·rw [hset i' e1] at hl1'
     rw [jC v e1];by_cases e2:j'=i
     ·subst e2
      rw [iI];exact hfr hj' i' hi' e1 (hR i' (hin i' hl1') hl1').1
     ·rw [hset j' e2] at hl2'
      rw [jC v e2];exact hF i' hi' j' hj' hl1' hl2' hne
   ·have hlt:=oS (p:=fun j=>!listed.getD j false) (q:=fun j=>!(listed.setIfInBounds i true).getD j false) (fun x hx=>by
     cases hlx:listed.getD x false
     ·rfl
     ·rw [hup hlx] at hx;cases hx) (by rw [h1];rfl) (by rw [hself];rfl) L hiL
    have hge:=m9 (p:=fun j=>!listed.getD j false) (q:=fun j=>!(listed.setIfInBounds i true).getD j false) (i:=i) (fun x hx hp=>by rw [hset x hx];exact hp) L (nw hdi);omega
  ·obtain ⟨x,hx,hb⟩:=Array.any_eq_true.mp hj
   rw [Bool.and_eq_true,beq_iff_eq] at hb;have hon:=hall _ (Array.getElem_mem hx) hb.1;have honL:=((hdn' i hiL).2 o ho _ (Array.getElem_mem hx) hb.1).2;rw [hb.2] at hon honL;exact (hR j honL hon).1
theorem js {id rest:Nat} {a:Act} {w:World} (L:List Nat) (R:Nat→RSpec) (St:Nat→World→World→Prop) (al:List Nat) (A:(Nat→Value)→Act) (listed1:Array Bool) (hm:P.follows .mixedOrders=true)
  (hdn:oT .any ops L=true) (hre:oz .any ops L=true) (hdi:i7 ops L=true) (hcl:kZ .any ops L (fun i=>(R i).deps)=true) (hl1:gS (Array.replicate ops.size false) L=listed1) (hsz:ops.size=L.length+rest)
  (hst:∀ i j,i ∈ L→j ∈ L→i≠j→∀ l w w',St i w w'→(R j).rel l w→(R j).rel l w') (hS0:S w.drew) (hA:∀ y,bj ops y L a=A y)
  (hop:ai (wpOp P ops Q) .any ops S R St al A L)
  (hend:∀ y w,S w→(∀ i,L.contains i=true→(R i).rel ((R i).deps.map y) w)→(∀ i ∈ al,∀ j ∈ al,L.contains i=true→L.contains j=true→i≠j→y i≠y j)→wpAny P .any ops Q rest listed1 (A y) w):(Code.region id ops true).wp P Q a w:=by
 refine wp_region_any hm ?_;have h:=anyG_inv (step:=wpOp P ops Q) (Qn:=Q .normal) (rest:=rest) (fun i K K' a w h h'=>wpOp_mono h h') L R St al A listed1 hdn hre hdi hcl hl1 hst hS0 hA hop (fun y w h1 h2 h3=>(fp ..).mpr (hend y w h1 h2 h3));rw [fp,← hsz] at h;exact h
theorem lV {F:Fence} {n id rest:Nat} {a:Act} {w:World} (L:List Nat) (R:Nat→RSpec) (St:Nat→World→World→Prop) (al:List Nat) (A:(Nat→Value)→Act) (listed1:Array Bool) (hm:P.follows .mixedOrders=true)
  (hdn:oT .any ops L=true) (hre:oz .any ops L=true) (hdi:i7 ops L=true) (hcl:kZ .any ops L (fun i=>(R i).deps)=true) (hl1:gS (Array.replicate ops.size false) L=listed1) (hsz:ops.size=L.length+rest)
  (hst:∀ i j,i ∈ L→j ∈ L→i≠j→∀ l w w',St i w w'→(R j).rel l w→(R j).rel l w') (hS0:S w.drew) (hA:∀ y,bj ops y L a=A y)
  (hop:ai (wpOpIn F n P ops Q) .any ops S R St al A L)
  (hend:∀ y w,S w→(∀ i,L.contains i=true→(R i).rel ((R i).deps.map y) w)→(∀ i ∈ al,∀ j ∈ al,L.contains i=true→L.contains j=true→i≠j→y i≠y j)→wpAnyIn F n P .any ops Q rest listed1 (A y) w):(Code.region id ops true).wpIn F n P Q a w:=by
 refine wpIn_region_any hm ?_;have h:=anyG_inv (step:=wpOpIn F n P ops Q) (Qn:=Q .normal) (rest:=rest) (fun i K K' a w h h'=>wpOpIn_mono h h') L R St al A listed1 hdn hre hdi hcl hl1 hst hS0 hA hop (fun y w h1 h2 h3=>(dZ ..).mpr (hend y w h1 h2 h3));rw [dZ,← hsz] at h;exact h
end
end Dowel
end
