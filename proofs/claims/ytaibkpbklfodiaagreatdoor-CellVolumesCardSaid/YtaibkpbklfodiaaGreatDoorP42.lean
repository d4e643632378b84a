/- A region that draws its order and appends to rows of its own; the hull of points and of their extreme points (plain). Regions that draw, operation by operation: two of the operations store into new boxes. Printed by gen/invy.py. -/
import Derived.Test.YtaibkpbklfodiaaGreatDoorP41
import Derived.Test.YtaibkpbklfodiaaGreatDoorP30
import Derived.Test.YtaibkpbklfodiaaGreatDoorP2
set_option linter.all false
set_option maxHeartbeats 100000000
section
namespace Dowel
open Go Go.RowKit Go.Proofs.Υ
section
variable {P : Program} {Q : Exit → Act → World → Prop} {ops : Array Oper}
end
structure KT (base:Nat) (e:TypeId) (k n:Nat) (w w':World):Prop where
 below:Below base w w'
 box:∀ g cs t,t≠e→Box w g cs t→Box w' g cs t
 empty:∀ g,Box w g #[] e→Box w' g #[] e
 row:∀ v m xs,m≤n→w.ownsRow base e k v m xs→w'.ownsRow base e k v m xs
section
variable {P : Program}
end
end Dowel
namespace Dowel
open Go Go.RowKit Go.Proofs.Υ
def StC (n:Nat) (w w':World):Prop:=∃ g u u',n≤g∧Box w g #[u] 24∧w'=w.setCell ⟨g,0,none⟩ u'
def StH (n len i:Nat) (w w':World):Prop:=if i=5 then KT n 46 3 len w w' else if i=11 then StC n w w' else Below w.heap.size w w'
theorem StH.cases {n len i:Nat} {w w':World} (h:StH n len i w w'):(i=5∧KT n 46 3 len w w')∨(i=11∧StC n w w')∨Below w.heap.size w w':=by
 unfold StH at h;by_cases h5:i=5
 ·rw [if_pos h5] at h;exact .inl ⟨h5,h⟩
 ·rw [if_neg h5] at h
  by_cases h11:i=11
  ·rw [if_pos h11] at h;exact .inr (.inl ⟨h11,h⟩)
  ·rw [if_neg h11] at h;exact .inr (.inr h)
abbrev RowV (n m:Nat) (xs:List Value) (v:Value) (w:World):Prop:=w.ownsRow n 46 3 v m xs
def hp0 (n:Nat) (v:Value) (w:World):Prop:=∃ g,v=.slice (some ⟨g,0,none⟩) 0 0∧n≤g∧Box w g #[] 46
def hp2 (n m:Nat) (xs:List Value) (v:Value) (w:World):Prop:=RowV n m xs v w
def r11 (n M:Nat) (xs:List Value):RSpec:=⟨[10],fun l w=>∃ g z zc,l=[.pointer (some ⟨g,0,none⟩)]∧n≤g∧Box w g #[.slice z M zc] 24∧RowV n M xs (.slice z M zc) w⟩
end Dowel
end

section
namespace Dowel
open Go Go.RowKit
section
variable {P : Program} {Q : Exit → Act → World → Prop} {md : Region.Mode} {ops : Array Oper} {S : World → Prop}
def bc (step:Nat→(Act→World→Prop)→Act→World→Prop) (md:Region.Mode) (ops:Array Oper) (S:World→Prop) (R:Nat→RSpec) (St:(Nat→Value)→Nat→World→World→Prop) (al:List Nat) (A:(Nat→Value)→Act) (l:List Nat):Prop:=
 ∀ i ∈ l,∀ o,ops[i]?=some o→∀ y w,S w→n8 md R o y w→step i (fun a' w'=>∃ v,a'=(A y).put o.dst v∧S w'∧St y i w w'∧(R i).rel ((R i).deps.map (upd y i v)) w'∧Fresh al R y w i v) (A y) w
theorem bc.nil {step:Nat→(Act→World→Prop)→Act→World→Prop} {R:Nat→RSpec} {St:(Nat→Value)→Nat→World→World→Prop} {al:List Nat} {A:(Nat→Value)→Act}:bc step md ops S R St al A []:=fun _ h=>by cases h
theorem bc.cons {R:Nat→RSpec} {St:(Nat→Value)→Nat→World→World→Prop} {al:List Nat} {A:(Nat→Value)→Act} {i:Nat} {o:Oper} {l:List Nat} (ho:ops[i]?=some o)
  (h:∀ y w,S w→n8 md R o y w→∀ K':Act→World→Prop,Shut (∀ v w',S w'→St y i w w'→(R i).rel ((R i).deps.map (upd y i v)) w'→Fresh al R y w i v→K' ((A y).put o.dst v) w') →
   if Region.wanted o (yielded ops (A y).tmps)=true then Oper.wp P o (A y) w K' Q else K' ((A y).put o.dst undef) w)
  (hs:bc (wpOp P ops Q) md ops S R St al A l):bc (wpOp P ops Q) md ops S R St al A (i :: l):=fun j hj o' ho' y w hS hD=>by
 rcases List.mem_cons.1 hj with rfl | hj
 ·rw [ho] at ho'
  cases ho';exact wpOp_step ho (fun K' hK=>h y w hS hD K' (fun v w' h1 h2 h3 h4=>hK _ _ ⟨v,rfl,h1,h2,h3,h4⟩))
 ·exact hs j hj o' ho' y w hS hD
theorem anyG_invY {step:Nat→(Act→World→Prop)→Act→World→Prop} {Qn:Act→World→Prop} (hmono:∀ i K K' a w,(∀ a w,K a w→K' a w)→step i K a w→step i K' a w)
  {rest:Nat} {a0:Act} {w0:World} (L:List Nat) (R:Nat→RSpec) (St:(Nat→Value)→Nat→World→World→Prop) (al:List Nat) (A:(Nat→Value)→Act) (listed1:Array Bool)
  (hdn:kB md ops L=true) (hre:ke md ops L=true) (hdi:gg ops L=true) (hcl:il md ops L (fun i=>(R i).deps)=true) (hl1:eH (Array.replicate ops.size false) L=listed1)
  (hst:∀ i j,i ∈ L→j ∈ L→i≠j→∀ y w w',St y i w w'→(R j).rel ((R j).deps.map y) w→(R j).rel ((R j).deps.map y) w') (hS0:S w0) (hA:∀ y,aS ops y L a0=A y)
  (hop:bc step md ops S R St al A L)
  (hend:∀ y w,S w→(∀ i,L.contains i=true→(R i).rel ((R i).deps.map y) w)→(∀ i ∈ al,∀ j ∈ al,L.contains i=true→L.contains j=true→i≠j→y i≠y j)→qq (Region.ready md ops) step Qn rest listed1 (A y) w) :
  qq (Region.ready md ops) step Qn (L.length+rest) (Array.replicate ops.size false) a0 w0:=by
 have hdn':∀ j ∈ L,j<ops.size∧∀ o,ops[j]?=some o→∀ e ∈ o.after,Region.binds md e=true→e.on<j∧e.on ∈ L:=fun j hj=>by
  have:=List.all_eq_true.mp hdn j hj;rw [Bool.and_eq_true,decide_eq_true_iff] at this;refine ⟨this.1,fun o ho e he hb=>?_⟩;have h2:=this.2;rw [ho] at h2;simp only [Option.map_some,Option.getD_some] at h2;have h3:=Array.all_eq_true_iff_forall_mem.mp h2 e he;rw [hb,Bool.not_true,Bool.false_or,Bool.and_eq_true,decide_eq_true_iff] at h3;exact ⟨h3.1,List.contains_iff_mem.mp h3.2⟩
 have hno:∀ (j:Nat) (d:Bool),j<ops.size→(Array.replicate ops.size false).getD j d=false:=fun j d hj=>by
  rw [Array.getD_eq_getD_getElem?,Array.getElem?_replicate,if_pos hj];rfl
 suffices H:∀ (fuel:Nat) (listed:Array Bool) (y:Nat→Value) (w:World),listed.size=ops.size→(∀ j,listed.getD j false=true→j ∈ L) →
   (∀ i o,ops[i]?=some o→listed.getD i false=true→∀ e ∈ o.after,Region.binds md e=true→listed.getD e.on false=true)→S w →
   (∀ j ∈ L,listed.getD j false=true→(R j).rel ((R j).deps.map y) w∧∀ k ∈ (R j).deps,k ∈ L∧listed.getD k false=true) →
   (∀ i ∈ al,∀ j ∈ al,listed.getD i false=true→listed.getD j false=true→i≠j→y i≠y j) →
   (L.filter fun j=>!listed.getD j false).length=fuel→qq (Region.ready md ops) step Qn (fuel+rest) listed (A y) w by
  have hy:=iM ops a0 L;rw [hA] at hy;rw [← hy];have hz:∀ j,(Array.replicate ops.size false).getD j false=false:=fun j=>by
   by_cases hj:j<ops.size
   ·exact hno j false hj
   ·rw [Array.getD_eq_getD_getElem?,Array.getElem?_eq_none (by simp;omega)];rfl
  refine H L.length _ _ w0 (by simp) (fun j hj=>by rw [hz] at hj;cases hj) (fun i o _ hi=>by rw [hz] at hi;cases hi) hS0 (fun j _ hj=>by rw [hz] at hj;cases hj) (fun i _ j _ hi=>by rw [hz] at hi;cases hi) ?_;rw [List.filter_eq_self.mpr (fun j _=>by rw [hz];rfl)]
 intro fuel
 induction fuel with
 | zero =>
  intro listed y w hs hin hcl' hS hR hF hc;have hall:∀ j ∈ L,listed.getD j false=true:=fun j hj=>by
   refine Classical.byContradiction fun h=>?_
   have:j ∈ L.filter fun j=>!listed.getD j false:=List.mem_filter.mpr ⟨hj,by simpa using h⟩
   have:=List.length_pos_of_mem this;omega
  have e:listed=listed1:=by
   rw [← hl1];apply Array.ext_getElem?;intro j;by_cases hj:j<ops.size
   ·rw [jJ L _ j (by simpa using hj),hno j false hj,Bool.false_or,Array.getElem?_eq_getElem ω]
    congr 1
    have hg:listed.getD j false=listed[j]:=by rw [Array.getD_eq_getD_getElem?,Array.getElem?_eq_getElem ω];rfl
    rw [← hg,Bool.eq_iff_iff,List.contains_iff_mem];exact ⟨hin j,hall j⟩
   ·rw [Array.getElem?_eq_none ω,Array.getElem?_eq_none (by rw [iH];simp;omega)]
  rw [e,Nat.zero_add];exact hend y w hS (fun i hi=>(hR i (List.contains_iff_mem.mp hi) (hall i (List.contains_iff_mem.mp hi))).1) fun i hi j hj h1 h2 hne=>hF i hi j hj (hall i (List.contains_iff_mem.mp h1)) (hall j (List.contains_iff_mem.mp h2)) hne
 | succ fuel ih =>
  intro listed y w hs hin hcl' hS hR hF hc;obtain ⟨j0,hj0⟩:∃ j,j ∈ L.filter fun j=>!listed.getD j false:=by
   cases hf:L.filter fun j=>!listed.getD j false with
   | nil=>rw [hf] at hc;simp at hc
   | cons x l=>exact ⟨x,by simp⟩
  have hj1:=(List.mem_filter.mp hj0).1;have hj2:listed.getD j0 false=false:=by simpa using (List.mem_filter.mp hj0).2
  have hft:∀ {j:Nat},j<ops.size→listed.getD j true=listed.getD j false:=fun {j} h=>by
   rw [Array.getD_eq_getD_getElem?,Array.getD_eq_getD_getElem?,Array.getElem?_eq_getElem ω];rfl
  have hne:Region.ready md ops listed≠[]:=by
   have:∀ j,j ∈ L→listed.getD j false=false→∃ i,i ∈ Region.ready md ops listed:=by
    intro j
    induction j using Nat.strongRecOn with
    | _ j ihj =>
     intro hj hl;obtain ⟨hlt,haf⟩:=hdn' j hj;by_cases hex:∃ e ∈ (ops[j]).after,Region.binds md e=true∧listed.getD e.on false=false
     ·obtain ⟨e,he,hb,hle⟩:=hex
      obtain ⟨h1,h2⟩:=haf _ (Array.getElem?_eq_getElem hlt) e he hb;exact ihj e.on h1 h2 hle
     ·refine ⟨j,mem_ready.mpr ⟨by rw [hft hlt];exact hl,ops[j],Array.getElem?_eq_getElem hlt,fun e he hb=>?_⟩⟩
      refine Classical.byContradiction fun hc=>hex ⟨e,he,hb,by simpa using hc⟩
   obtain ⟨i,hi⟩:=this j0 hj1 hj2;intro h;rw [h] at hi;cases hi
  rw [show fuel+1+rest=(fuel+rest)+1 by omega];refine ⟨fun h=>absurd h hne,fun i hi=>?_⟩;obtain ⟨h1,o,ho,hall⟩:=mem_ready.mp hi;have hilt:=(Array.getElem?_eq_some_iff.mp ho).1;rw [hft hilt] at h1;have hiL:i ∈ L:=Classical.byContradiction fun hni=>by
   have hk:=List.all_eq_true.mp hre i (List.mem_range.mpr hilt);rw [Bool.or_eq_true] at hk
   rcases hk with hk | hk
   ·exact hni (List.contains_iff_mem.mp hk)
   ·have hm:=List.contains_iff_mem.mp (List.all_eq_true.mp hk j0 hj1)
    rcases ancs_ok hcl' (fun o' ho'=>by rw [ho] at ho';cases ho';exact hall) j0 hm with e | e
    ·exact hni (e ▸ hj1)
    ·rw [hj2] at e;cases e
  refine hmono i _ _ _ _ (fun a' w'=>?_) (hop i hiL o ho y w hS fun j hj=>?_)
  ·rintro ⟨v,rfl,hS',hstp,hRi,hfr⟩
   have e:(A y).put o.dst v=A (upd y i v):=by
    rw [← hA,← hA,← jM ops y i v L a0 hdi hiL];unfold cK;rw [ho];rfl
   rw [e];have hset:∀ j,j≠i→(listed.setIfInBounds i true).getD j false=listed.getD j false:=fun j hj=>getD_set_ne false (fun h=>hj h.symm)
   have hself:(listed.setIfInBounds i true).getD i false=true:=by
    rw [Array.getD_eq_getD_getElem?,Array.getElem?_setIfInBounds_self_of_lt ω];rfl
   have hup:∀ {k:Nat},listed.getD k false=true→(listed.setIfInBounds i true).getD k false=true:=fun {k} hk=>by
    by_cases hki:k=i
    ·rw [hki];exact hself
    ·rw [hset k hki];exact hk
   refine ih _ _ w' (by rw [Array.size_setIfInBounds];exact hs) (fun j hj=>?_) (fun j oj hoj hl ed hed hb=>?_) hS' (fun j hj hl=>?_) (fun i' hi' j' hj' hl1' hl2' hne=>?_) ?_
   ·by_cases hji:j=i
    ·rw [hji];exact hiL
    ·rw [hset j hji] at hj;exact hin j hj
   ·by_cases hji:j=i
    ·subst hji
     rw [ho] at hoj;cases hoj;exact hup (hall ed hed hb)
    ·rw [hset j hji] at hl;exact hup (hcl' j oj hoj hl ed hed hb)
   ·by_cases hji:j=i
    ·subst hji
     refine ⟨hRi,fun k hk=>?_⟩;have hcj:=List.all_eq_true.mp (List.all_eq_true.mp hcl j hj) k hk;rw [Bool.or_eq_true,beq_iff_eq,ho] at hcj
     rcases hcj with rfl | hcj
     ·exact ⟨hj,hself⟩
     ·simp only [Option.map_some,Option.getD_some] at hcj
      obtain ⟨x,hx,hb⟩:=Array.any_eq_true.mp hcj;rw [Bool.and_eq_true,Bool.or_eq_true,beq_iff_eq] at hb;obtain ⟨hb1,hb3⟩:=hb;have hon:=hall _ (Array.getElem_mem hx) hb1;have honL:=((hdn' j hj).2 o ho _ (Array.getElem_mem hx) hb1).2
      rcases hb3 with hb3 | hb3
      ·rw [← hb3];exact ⟨honL,hup hon⟩
      ·obtain ⟨a1,a2⟩:=(hR _ honL hon).2 k (List.contains_iff_mem.mp hb3)
       exact ⟨a1,hup a2⟩
    ·rw [hset j hji] at hl
     obtain ⟨r1,r2⟩:=hR j hj hl;refine ⟨?_,fun k hk=>⟨(r2 k hk).1,hup (r2 k hk).2⟩⟩;have em:(R j).deps.map (upd y i v)=(R j).deps.map y:=List.map_congr_left fun k hk=>eC v (fun hki=>by
      have:=(r2 k hk).2;rw [hki,h1] at this;cases this)
     rw [em];exact hst i j hiL hj (fun e=>hji e.symm) _ w w' hstp r1
   ·by_cases e1:i'=i
    ·subst e1
     have e2:j'≠i':=fun h=>hne h.symm
     rw [hset j' e2] at hl2';rw [fH,eC v e2];exact (hfr hi' j' hj' e2 (hR j' (hin j' hl2') hl2').1).symm
    ·rw [hset i' e1] at hl1'
     rw [eC v e1];by_cases e2:j'=i
     ·subst e2
      rw [fH];exact hfr hj' i' hi' e1 (hR i' (hin i' hl1') hl1').1
     ·rw [hset j' e2] at hl2'
      rw [eC v e2];exact hF i' hi' j' hj' hl1' hl2' hne
   ·have hlt:=lf (p:=fun j=>!listed.getD j false) (q:=fun j=>!(listed.setIfInBounds i true).getD j false) (fun x hx=>by
     cases hlx:listed.getD x false
     ·rfl
     ·rw [hup hlx] at hx;cases hx) (by rw [h1];rfl) (by rw [hself];rfl) L hiL
    have hge:=jT (p:=fun j=>!listed.getD j false) (q:=fun j=>!(listed.setIfInBounds i true).getD j false) (i:=i) (fun x hx hp=>by rw [hset x hx];exact hp) L (jX hdi);omega
  ·obtain ⟨x,hx,hb⟩:=Array.any_eq_true.mp hj
   rw [Bool.and_eq_true,beq_iff_eq] at hb;have hon:=hall _ (Array.getElem_mem hx) hb.1;have honL:=((hdn' i hiL).2 o ho _ (Array.getElem_mem hx) hb.1).2;rw [hb.2] at hon honL;exact (hR j honL hon).1
theorem mB {id rest:Nat} {a:Act} {w:World} (L:List Nat) (R:Nat→RSpec) (St:(Nat→Value)→Nat→World→World→Prop) (al:List Nat) (A:(Nat→Value)→Act) (listed1:Array Bool) (hm:P.follows .mixedOrders=true)
  (hdn:kB .any ops L=true) (hre:ke .any ops L=true) (hdi:gg ops L=true) (hcl:il .any ops L (fun i=>(R i).deps)=true) (hl1:eH (Array.replicate ops.size false) L=listed1) (hsz:ops.size=L.length+rest)
  (hst:∀ i j,i ∈ L→j ∈ L→i≠j→∀ y w w',St y i w w'→(R j).rel ((R j).deps.map y) w→(R j).rel ((R j).deps.map y) w') (hS0:S w.drew) (hA:∀ y,aS ops y L a=A y)
  (hop:bc (wpOp P ops Q) .any ops S R St al A L)
  (hend:∀ y w,S w→(∀ i,L.contains i=true→(R i).rel ((R i).deps.map y) w)→(∀ i ∈ al,∀ j ∈ al,L.contains i=true→L.contains j=true→i≠j→y i≠y j)→wpAny P .any ops Q rest listed1 (A y) w):(Code.region id ops true).wp P Q a w:=by
 refine wp_region_any hm ?_;have h:=anyG_invY (step:=wpOp P ops Q) (Qn:=Q .normal) (rest:=rest) (fun i K K' a w h h'=>wpOp_mono h h') L R St al A listed1 hdn hre hdi hcl hl1 hst hS0 hA hop (fun y w h1 h2 h3=>(df ..).mpr (hend y w h1 h2 h3));rw [df,← hsz] at h;exact h
end
def WrG (Sh:Array Value→Prop) (n:Nat) (t:TypeId) (g:Nat) (w w':World):Prop:=n≤g∧∃ cs cs',Box w g cs t∧Sh cs'∧Box w' g cs' t∧w.grownBy w' (some g)
theorem WrG.wr {Sh:Array Value→Prop} {n:Nat} {t:TypeId} {g:Nat} {w w':World} (h:WrG Sh n t g w w'):Wr Sh n t w w':=by
 obtain ⟨h0,cs,cs',h1,h2,h3,h4⟩:=h;exact ⟨g,cs,cs',h0,h1,h2,h3,h4⟩
theorem WrG.other {Sh:Array Value→Prop} {n:Nat} {t t':TypeId} {g g':Nat} {cs:Array Value} {w w':World} (h:WrG Sh n t g w w') (hb:Box w g' cs t') (hne:g'≠g):Box w' g' cs t':=by
 obtain ⟨h0,_,_,h1,h2,h3,h4⟩:=h;exact hb.kept h4 (fun e=>hne (Option.some.inj e).symm)
def isT (k k':Nat) (t:TypeId) (cs:Array Value):RSpec:=⟨[k,k'],fun l w=>∃ g g',l=[.pointer (some ⟨g,0,none⟩),.pointer (some ⟨g',0,none⟩)]∧(g≠g'→Box w g cs t)⟩
def StepT (Sh:Array Value→Prop) (n:Nat) (t:TypeId) (s1 k1 s2 k2:Nat) (y:Nat→Value) (i:Nat) (w w':World):Prop:=
 Below w.heap.size w w'∨(i=s1∧∃ g,y k1=.pointer (some ⟨g,0,none⟩)∧WrG Sh n t g w w')∨(i=s2∧∃ g,y k2=.pointer (some ⟨g,0,none⟩)∧WrG Sh n t g w w')
section
variable {P : Program} {Q : Exit → Act → World → Prop} {ops : Array Oper}
theorem oW {k k':Nat} {t:TypeId} {cs:Array Value} {l:List Value} {w w':World} (h:Below w.heap.size w w') (hr:(isT k k' t cs).rel l w):(isT k k' t cs).rel l w':=by
 obtain ⟨g,g',e,hb⟩:=hr;exact ⟨g,g',e,fun hne=>(hb hne).below h (hb hne).lt⟩
theorem oV {Sh:Array Value→Prop} {n:Nat} {k k':Nat} {t:TypeId} {cs:Array Value} {y:Nat→Value} {w w':World} {g:Nat} (he:y k'=.pointer (some ⟨g,0,none⟩)) (h:WrG Sh n t g w w') (hr:(isT k k' t cs).rel ((isT k k' t cs).deps.map y) w):(isT k k' t cs).rel ((isT k k' t cs).deps.map y) w':=by
 obtain ⟨g1,g2,e,hb⟩:=hr;have e2:y k'=.pointer (some ⟨g2,0,none⟩):=(List.cons.inj (List.cons.inj e).2).1;rw [he] at e2;cases e2;exact ⟨g1,g,e,fun hne=>h.other (hb hne) hne⟩
theorem isT.get {k k':Nat} {t:TypeId} {cs:Array Value} {y:Nat→Value} {w:World} {g g':Nat} (h1:y k=.pointer (some ⟨g,0,none⟩)) (h2:y k'=.pointer (some ⟨g',0,none⟩)) (hne:g≠g') (hr:(isT k k' t cs).rel ((isT k k' t cs).deps.map y) w):Box w g cs t:=by
 obtain ⟨a,b,e,hb⟩:=hr;have e1:y k=.pointer (some ⟨a,0,none⟩):=(List.cons.inj e).1;have e2:y k'=.pointer (some ⟨b,0,none⟩):=(List.cons.inj (List.cons.inj e).2).1;rw [h1] at e1;rw [h2] at e2;cases e1;cases e2;exact hb hne
theorem isT.put {k k' j:Nat} {t:TypeId} {cs:Array Value} {y:Nat→Value} {w:World} {v:Value} {g g':Nat} (hj:k≠j∧k'≠j) (h1:y k=.pointer (some ⟨g,0,none⟩)) (h2:y k'=.pointer (some ⟨g',0,none⟩)) (hb:Box w g cs t):(isT k k' t cs).rel ((isT k k' t cs).deps.map (upd y j v)) w:=
 ⟨g,g',by show [upd y j v k,upd y j v k']=_;rw [eC _ hj.1,eC _ hj.2,h1,h2],fun _=>hb⟩
theorem wp_region_t (Sh:Array Value→Prop) (n:Nat) (t:TypeId) (s1 k1 s2 k2:Nat) (c1 c2:Array Value) {id rest:Nat} {a:Act} {w:World} (Rs:List RSpec) (al:List Nat) (A:(Nat→Value)→Act) (listed1:Array Bool) (hm:P.follows .mixedOrders=true) (L:List Nat)
  (hdn:kB .any ops L=true) (hre:ke .any ops L=true) (hdi:gg ops L=true) (hcl:il .any ops L (fun i=>(Rs.getD i (isN 0)).deps)=true) (hl1:eH (Array.replicate ops.size false) L=listed1) (hsz:ops.size=L.length+rest)
  (h1:Rs.getD s1 (isN 0)=isT k1 k2 t c1) (h2:Rs.getD s2 (isN 0)=isT k2 k1 t c2)
  (hst:ae ((Rs.set s1 (isN 0)).set s2 (isN 0))) (hst2:aq Sh n t ((Rs.set s1 (isN 0)).set s2 (isN 0))) (hA:∀ y,aS ops y L a=A y)
  (hop:bc (wpOp P ops Q) .any ops (fun w'=>Below w.heap.size w w') (fun i=>Rs.getD i (isN 0)) (StepT Sh n t s1 k1 s2 k2) al A L)
  (hend:∀ y w',Below w.heap.size w w'→(∀ i,L.contains i=true→(Rs.getD i (isN 0)).rel ((Rs.getD i (isN 0)).deps.map y) w')→(∀ i ∈ al,∀ j ∈ al,L.contains i=true→L.contains j=true→i≠j→y i≠y j)→wpAny P .any ops Q rest listed1 (A y) w'):(Code.region id ops true).wp P Q a w:=by
 refine mB L (fun i=>Rs.getD i (isN 0)) (StepT Sh n t s1 k1 s2 k2) al A listed1 hm hdn hre hdi hcl hl1 hsz (fun i j _ _ hij y w w' hs hr=>?_) β.drew hA hop hend;by_cases e1:j=s1
 ·subst e1
  rw [h1] at hr ⊢
  rcases hs with hs | ⟨e,-⟩ | ⟨-,g,he,hs⟩
  ·exact oW hs hr
  ·exact absurd e hij
  ·exact oV he hs hr
 by_cases e2:j=s2
 ·subst e2
  rw [h2] at hr ⊢
  rcases hs with hs | ⟨-,g,he,hs⟩ | ⟨e,-⟩
  ·exact oW hs hr
  ·exact oV he hs hr
  ·exact absurd e hij
 have e:((Rs.set s1 (isN 0)).set s2 (isN 0)).getD j (isN 0)=Rs.getD j (isN 0):=by
  rw [List.getD_eq_getElem?_getD,List.getD_eq_getElem?_getD,List.getElem?_set_ne (fun h=>e2 h.symm),List.getElem?_set_ne (fun h=>e1 h.symm)]
 rw [← e] at hr ⊢
 rcases hs with hs | ⟨-,g,-,hs⟩ | ⟨-,g,-,hs⟩
 ·exact stabs hst j _ w w' hs hr
 ·exact stabWs hst2 j _ w w' hs.wr hr
 ·exact stabWs hst2 j _ w w' hs.wr hr
end
end Dowel
end
