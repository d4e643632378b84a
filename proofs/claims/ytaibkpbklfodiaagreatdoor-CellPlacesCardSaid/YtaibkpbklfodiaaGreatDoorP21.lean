/- The edges found so far: a row and a map. Package cell: edges. Package cell: edges. Printed by gen/edge5.py. Package cell: Of. Printed by gen/of.py. The law CellChecks, but for the first example. The faces of a shape are the reference's planes. The first example's shape. The reference's faces, in order, are those of the shape (plain). -/
import Derived.Test.YtaibkpbklfodiaaGreatDoorP20
import Derived.Test.YtaibkpbklfodiaaGreatDoorP12
import Derived.Test.YtaibkpbklfodiaaGreatDoorP19
import Derived.Test.YtaibkpbklfodiaaGreatDoorP16
import Derived.Test.YtaibkpbklfodiaaGreatDoorP2
import Derived.Maps.OwnIn
import Derived.Maps.Views
import Derived.WideKeyPair
import Derived.Carry
import Derived.Deep.AppendLies
set_option linter.all false
set_option maxHeartbeats 100000000
section
namespace Dowel
open Go Go.RowKit
open Go.Maps (Keyed)
def keyV (s:Nat × Nat):Value:=.agg #[.int .i64 (s.1:Int),.int .i64 (s.2:Int)]
def iC (s:Nat × Nat):Lit:=.string (keyBytes [.int .i64 (s.1:Int),.int .i64 (s.2:Int)])
def ED.key (e:ED):Nat × Nat:=(e.a,e.b)
def ft (s:Nat × Nat):Nat × Nat:=(min s.1 s.2,max s.1 s.2)
def gU (ks:List (Nat × Nat)) (s:Nat × Nat):List (Nat × Nat):=if ft s ∈ ks then ks else ks ++ [ft s]
def bC (ks:List (Nat × Nat)) (l:List (Nat × Nat)):List (Nat × Nat):=l.foldl gU ks
theorem nY (ks l:List (Nat × Nat)) (s:Nat × Nat):bC ks (l ++ [s])=gU (bC ks l) s:=by simp [bC]
theorem lW (ks l l':List (Nat × Nat)):bC ks (l ++ l')=bC (bC ks l) l':=by simp [bC]
theorem mem_addKey {ks:List (Nat × Nat)} {s t:Nat × Nat}:t ∈ gU ks s↔t ∈ ks∨t=ft s:=by
 unfold gU
 split
 ·rename_i h
  constructor
  ·exact .inl
  ·rintro (h' | rfl)
   ·exact h'
   ·exact h
 ·simp
theorem pO {ks:List (Nat × Nat)} {s:Nat × Nat} (h:ks.Nodup):(gU ks s).Nodup:=by
 unfold gU
 split
 ·exact h
 ·rename_i hn
  refine List.nodup_append.mpr ⟨h,by simp,?_⟩;intro a ha b hb e;rw [List.mem_singleton] at hb;subst hb;subst e;exact hn ha
theorem pQ {l:List (Nat × Nat)}:∀ {ks:List (Nat × Nat)} {t:Nat × Nat},t ∈ bC ks l↔t ∈ ks∨∃ s ∈ l,t=ft s:=by
 induction l with
 | nil=>intro ks t;simp [bC]
 | cons s l ih =>
  intro ks t;show t ∈ bC (gU ks s) l↔_;rw [ih,mem_addKey]
  constructor
  ·rintro ((h | h) | ⟨s',h1,h2⟩)
   ·exact .inl h
   ·exact .inr ⟨s,by simp,h⟩
   ·exact .inr ⟨s',by simp [h1],h2⟩
  ·rintro (h | ⟨s',h1,h2⟩)
   ·exact .inl (.inl h)
   ·rcases List.mem_cons.mp h1 with rfl | h1
    ·exact .inl (.inr h2)
    ·exact .inr ⟨s',h1,h2⟩
theorem mW {l:List (Nat × Nat)}:∀ {ks:List (Nat × Nat)},ks.Nodup→(bC ks l).Nodup:=by
 induction l with
 | nil=>intro ks h;exact h
 | cons s l ih=>intro ks h;exact ih (pO h)
def ql (ks:List (Nat × Nat)):Prop:=∀ s ∈ ks,s.1<64∧s.2<64
theorem kL {ks:List (Nat × Nat)} (h:ql ks) (hn:ks.Nodup):ks.length≤4096:=by
 have h1:(ks.map fun s=>s.1*64+s.2).Nodup:=by
  rw [List.Nodup,List.pairwise_map];refine (List.pairwise_iff_getElem.mpr ?_);intro i j hi hj hij;have hne:=(List.pairwise_iff_getElem.mp hn) i j hi hj hij;have a:=h _ (List.getElem_mem hi);have b:=h _ (List.getElem_mem hj);intro e;exact hne (Prod.ext ω ω)
 have h2:=eN _ (List.range 4096) h1 (fun x hx=>by
  obtain ⟨s,hs,rfl⟩:=List.mem_map.mp hx;have:=h s hs;exact List.mem_range.mpr ω)
 simpa using h2
def ls (P:Program) (w:World) (kt et:TypeId) (b n:Nat) (ks:List (Nat × Nat)):Prop:=
 ∃ D:DataW Unit,w.ownsMap P kt (plainElem P et) b n D∧Go.Maps.IsMap D∧∀ s:Nat × Nat,s.1<64→s.2<64 →
  Go.Maps.has D (iC s)=decide (s ∈ ks)∧∀ i:Nat,ks[i]?=some s→D.atKey (iC s) (.lit (.int .i64 0))=.lit (.int .i64 (i:Int))
theorem ls.made (P:Program) (w:World) (kt et:TypeId):ls P (w.alloc (.map #[] 0)) kt et w.heap.size 0 []:=
 ⟨.map [],World.ownsMap_made _ _ _ _,⟨_,rfl⟩,fun s _ _=>⟨by simp [Go.Maps.has],fun i h=>by simp at h⟩⟩
theorem ls.kept {P:Program} {w w':World} {kt et:TypeId} {b n:Nat} {ks:List (Nat × Nat)} (h:ls P w kt et b n ks) {row:Option Nat} (hg:w.grownBy w' row) (hne:some b≠row):ls P w' kt et b n ks:=by
 obtain ⟨D,ho,hm,hk⟩:=h;exact ⟨D,ho.kept hg hne,hm,hk⟩
theorem i64_wf (x:Nat) (h:x<9223372036854775808):(Lit.int .i64 (x:Int)).wf=true:=by
 simp only [Lit.wf,Bool.and_eq_true,decide_eq_true_eq];refine ⟨?_,?_⟩
 ·show (-9223372036854775808:Int)≤x;omega
 ·show (x:Int)≤9223372036854775807;omega
theorem keyL_inj {P:Program} {kt:TypeId} (K:Keyed P kt) (hk:∀ s:Nat × Nat,s.1<64→s.2<64→keyOf P kt (keyV s)=some (iC s)) {s t:Nat × Nat} (hs1:s.1<64) (hs2:s.2<64) (ht1:t.1<64) (ht2:t.2<64) (he:iC t=iC s):t=s:=by
 have h1:=hk s hs1 hs2;have h2:=hk t ht1 ht2;rw [he] at h2;have:=K.inj h2 h1;unfold keyV at this;simp at this;exact Prod.ext ω ω
theorem ls.put {P:Program} {w w':World} {kt et:TypeId} {b n n':Nat} {ks:List (Nat × Nat)} {D:DataW Unit} (K:Keyed P kt) (hk:∀ s:Nat × Nat,s.1<64→s.2<64→keyOf P kt (keyV s)=some (iC s)) (hm:Go.Maps.IsMap D)
  (ha:∀ s:Nat × Nat,s.1<64→s.2<64→Go.Maps.has D (iC s)=decide (s ∈ ks)∧∀ i:Nat,ks[i]?=some s→D.atKey (iC s) (.lit (.int .i64 0))=.lit (.int .i64 (i:Int)))
  (s:Nat × Nat) (hs1:s.1<64) (hs2:s.2<64) (hn:s ∉ ks)
  (ho:w'.ownsMap P kt (plainElem P et) b n' (D.put (iC s) (.lit (.int .i64 (ks.length:Int))))):ls P w' kt et b n' (ks ++ [s]):=by
 have hkl:WideAt.IsKeyLit (iC s):=K.key (hk s hs1 hs2);refine ⟨_,ho,hm.put _ _,fun t ht1 ht2=>?_⟩;by_cases e:t=s
 ·subst e
  refine ⟨by rw [Go.Maps.has_put_same hm hkl];simp,fun i hi=>?_⟩;rw [Go.Maps.atKey_put_same hm hkl];have:i=ks.length:=by
   rcases Nat.lt_trichotomy i ks.length with h | h | h
   ·rw [List.getElem?_append_left h] at hi
    exact absurd (List.mem_of_getElem? hi) hn
   ·exact h
   ·rw [List.getElem?_eq_none (by simp;omega)] at hi;cases hi
  rw [this]
 ·have hne:iC t≠iC s:=fun h=>e (keyL_inj K hk hs1 hs2 ht1 ht2 h)
  refine ⟨by rw [Go.Maps.has_put_other hne,(ha t ht1 ht2).1];simp [e],fun i hi=>?_⟩;rw [Go.Maps.atKey_put_other hne];refine (ha t ht1 ht2).2 i ?_
  rcases Nat.lt_trichotomy i ks.length with h | h | h
  ·rwa [List.getElem?_append_left h] at hi
  ·subst h
   rw [List.getElem?_append_right ρ,Nat.sub_self] at hi;simp at hi;exact absurd hi.symm e
  ·rw [List.getElem?_eq_none (by simp;omega)] at hi;cases hi
end Dowel
namespace Go.Proofs.Υ
open Go.RowKit Dowel
theorem arr94:WideMaps.ArrKey Tryz.prog 94 3 2:=⟨Tryz.underlying94,by kernel_rfl,by kernel_rfl,by kernel_rfl⟩
theorem l9:Go.Maps.Keyed Tryz.prog 94:=Go.Maps.Keyed.of_law arr94.law
theorem key94 (s:Nat × Nat) (h1:s.1<64) (h2:s.2<64):keyOf Tryz.prog 94 (keyV s)=some (iC s):=
 WideMaps.keyOf_pair arr94 Tryz.underlying3 ⟨Tryz.prog.types.size - 1,by kernel_rfl⟩ (i64_wf _ ω) (i64_wf _ ω)
end Go.Proofs.Υ
end

section
namespace Dowel
open Go Go.RowKit
structure EI (B0:Nat) (w W:World) (ks:List (Nat × Nat)) (ev:Value) (es:List ED):Prop where
 b1:Box W (B0+1) #[.map (some B0)] 175
 b2:Box W (B0+2) #[ev] 30
 own:eV W (B0+3) ev es
 keys:es.map ED.key=ks
 map:ls Proofs.Tryz.prog W 94 3 B0 ks.length ks
 bel:Below B0 w W
 nod:ks.Nodup
 small:ql ks
theorem EI.lt {B0:Nat} {w W:World} {ks:List (Nat × Nat)} {ev:Value} {es:List ED} (h:EI B0 w W ks ev es):B0+2<W.heap.size:=h.b2.lt
theorem EI.grown {B0:Nat} {w W W':World} {ks:List (Nat × Nat)} {ev:Value} {es:List ED} (h:EI B0 w W ks ev es) {row:Option Nat} (hg:W.grownBy W' row)
  (hr:∀ r,row=some r→B0+2<r∧ev.ownBlock≠some r) (hw:B0≤w.heap.size):EI B0 w W' ks ev es:=by
 have ne:∀ k,k≤B0+2→some k≠row:=fun k hk e=>by have:=(hr k e.symm).1;omega
 exact ⟨h.b1.grown hg (ne _ ω),h.b2.grown hg (ne _ ω),World.ownsRow.kept h.own hg (by
  rcases hv:ev.ownBlock with _ | g
  ·exact .inl rfl
  ·exact .inr (fun e=>(hr g e.symm).2 hv)),h.keys,h.map.kept hg (ne _ ω),h.bel.grown hg (Nat.le_trans hw h.bel.size) (fun g hg'=>by have:=(hr g hg').1;omega),h.nod,h.small⟩
theorem EI.from {B0:Nat} {w W W':World} {ks:List (Nat × Nat)} {ev:Value} {es:List ED} (h:EI B0 w W ks ev es) {B:Nat} (hB:B0+2<B) {row:Option Nat} (hg:W.grownBy W' row)
  (hr:∀ r,row=some r→B≤r∧∃ o:Obj,W.heap[r]?=some o∧o.isCells=false) (hw:B0≤w.heap.size):EI B0 w W' ks ev es:=
 h.grown hg (fun r e=>by
  obtain ⟨h1,o,ho,hc⟩:=hr r e;refine ⟨by omega,fun e2=>?_⟩;obtain ⟨cs,h3⟩:=gY h.own r e2;rw [ho] at h3;cases h3;cases hc) hw
theorem EI.alloc {B0:Nat} {w W:World} {ks:List (Nat × Nat)} {ev:Value} {es:List ED} (h:EI B0 w W ks ev es) (hw:B0≤w.heap.size) (o:Obj):EI B0 w (W.alloc o) ks ev es:=
 h.grown (World.grownBy_alloc W o none) (fun r e=>by cases e) hw
theorem EI.drew {B0:Nat} {w W:World} {ks:List (Nat × Nat)} {ev:Value} {es:List ED} (h:EI B0 w W ks ev es) (hw:B0≤w.heap.size):EI B0 w W.drew ks ev es:=
 h.grown (row:=none) ⟨rfl,rfl,rfl,Nat.le_refl _,fun _ _ _=>rfl⟩ (fun r e=>by cases e) hw
def fM (W:World) (lo:Nat) (Ds:List Nat):Prop:=Ds.Nodup∧∀ D ∈ Ds,lo≤D∧W.heap[D]?=some (.deferred (some []))
def mark (D:Nat):Deferred:={ target:=.collected D,args:=#[] }
theorem fM.lt {W:World} {lo:Nat} {Ds:List Nat} (h:fM W lo Ds):∀ D ∈ Ds,D<W.heap.size:=fun D hD=>(Array.getElem?_eq_some_iff.1 (h.2 D hD).2).1
theorem fM.grown {W W':World} {lo:Nat} {Ds:List Nat} (h:fM W lo Ds) {row:Option Nat} (hg:W.grownBy W' row) (hr:∀ r,row=some r→r ∉ Ds):fM W' lo Ds:=
 ⟨h.1,fun D hD=>⟨(h.2 D hD).1,by rw [hg.block D (h.lt D hD) (fun e=>hr D e.symm hD)];exact (h.2 D hD).2⟩⟩
theorem fM.alloc {W:World} {lo:Nat} {Ds:List Nat} (h:fM W lo Ds) (o:Obj):fM (W.alloc o) lo Ds:=h.grown (World.grownBy_alloc W o none) (fun r e=>by cases e)
theorem ka {P:Program} {F:Fence} {n:Nat} {fn:Func} {tmps:Array Value} {R:Ending→World→Prop} {lo:Nat} (J:World→Prop) (hJ:∀ W D,lo≤D→W.heap[D]?=some (.deferred (some []))→J W→J (W.putObj D (.deferred none))) :
  ∀ (Ds:List Nat) (W:World),fM W lo Ds→J W→(∀ W',J W'→LeavesIn F n P fn tmps R [] .returning W')→LeavesInM F n P fn tmps R (Ds.map mark) .returning W
 | [],W,_,hW,h=>h W hW
 | D :: Ds,W,hM,hW,h=>by
  have hD:=hM.2 D (by simp);refine ⟨by simp,.inl ⟨D,_,rfl,run_takeDeferred hD.2,?_⟩⟩;refine ka J hJ Ds _ ⟨(List.nodup_cons.mp hM.1).2,fun E hE=>⟨(hM.2 E (by simp [hE])).1,?_⟩⟩ (hJ W D hD.1 hD.2 hW) h;have hne:E≠D:=fun e=>(List.nodup_cons.mp hM.1).1 (e ▸ hE)
  rw [World.putObj_heap_other hne];exact (hM.2 E (by simp [hE])).2
end Dowel
namespace Dowel
open Go Go.RowKit
theorem flat_set {α:Type} (f:α→List Value) (k:Nat) (hf:∀ x,(f x).length=k):∀ (l:List α) (i j:Nat) (x:α) (y:α) (u:Value),l[i]?=some x→j<k→f y=(f x).set j u→(l.flatMap f).set (i*k+j) u=(l.set i y).flatMap f
 | [],i,j,x,y,u,h,_,_=>by simp at h
 | a :: l,0,j,x,y,u,h,hj,hy=>by
  simp at h;subst h;simp only [List.flatMap_cons,List.set_cons_zero,Nat.zero_mul,Nat.zero_add];rw [List.set_append_left _ _ (by rw [hf];exact hj),hy]
 | a :: l,i+1,j,x,y,u,h,hj,hy=>by
  have h':l[i]?=some x:=by simpa using h
  simp only [List.flatMap_cons,List.set_cons_succ];rw [List.set_append_right _ _ (by rw [hf,Nat.succ_mul];omega),hf,show (i+1)*k+j - k=i*k+j by rw [Nat.succ_mul];omega,flat_set f k hf l i j x y u h' hj hy]
theorem EI.found {B0:Nat} {w W:World} {ks:List (Nat × Nat)} {g cap:Nat} {es:List ED} (h:EI B0 w W ks (.slice (some ⟨g,0,none⟩) es.length cap) es) (hw:B0≤w.heap.size) (i:Nat) (e:ED) (he:es[i]?=some e) (f:Int) :
  EI B0 w (W.setCell ⟨g,i*4+3,none⟩ (.int .i64 f)) ks (.slice (some ⟨g,0,none⟩) es.length cap) (es.set i { e with g:=f }):=by
 have hb:=cJ h.own g rfl;have hgr:=bS W g (i*4+3) (.int .i64 f);refine ⟨h.b1.grown hgr (fun e=>by cases e;omega),h.b2.grown hgr (fun e=>by cases e;omega),?_,?_,h.map.kept hgr (fun e=>by cases e;omega),h.bel.grown hgr (Nat.le_trans hw h.bel.size) (fun g' hg'=>by cases hg';omega),h.nod,h.small⟩
 ·have hst:=(World.ownsRow.stored h.own (i*4+3) (.int .i64 f)).1
  unfold eV;rw [List.length_set,← flat_set cL 4 (fun _=>rfl) es i 3 e { e with g:=f } (.int .i64 f) he ω rfl];exact hst
 ·rw [← h.keys,List.map_set]
  apply List.ext_getElem?;intro j;rw [List.getElem?_set];by_cases hij:i=j
  ·subst hij
   have hl:i<es.length:=(List.getElem?_eq_some_iff.1 he).1;have e2:es[i]=e:=by rw [List.getElem?_eq_getElem hl] at he;exact Option.some.inj he
   simp [hl,e2];rfl
  ·simp [hij]
theorem EI.mapped {B0:Nat} {w W W':World} {ks:List (Nat × Nat)} {ev:Value} {es:List ED} (h:EI B0 w W ks ev es) {s:Nat × Nat}
  (hm:ls Proofs.Tryz.prog W' 94 3 B0 (ks.length+1) (ks ++ [s])) (hg:W.grownBy W' (some B0)) (hw:B0≤w.heap.size) :
  Box W' (B0+1) #[.map (some B0)] 175∧Box W' (B0+2) #[ev] 30∧eV W' (B0+3) ev es∧Below B0 w W':=
 ⟨h.b1.grown hg (fun e=>by simp at e),h.b2.grown hg (fun e=>by simp at e),World.ownsRow.kept h.own hg (by
  rcases hv:ev.ownBlock with _ | g
  ·exact .inl rfl
  ·refine .inr (fun e=>?_)
   have:=cJ h.own g hv;cases e;omega),h.bel.grown hg (Nat.le_trans hw h.bel.size) (fun g hg'=>by cases hg';exact Nat.le_refl _)⟩
theorem eV.form {W:World} {base:Nat} {ev:Value} {es:List ED} (h:eV W base ev es):∃ p c,ev=.slice p es.length c∧(es=[]∨∃ g,p=some ⟨g,0,none⟩∧g<W.heap.size):=by
 obtain ⟨_,⟨rfl,h0⟩ | ⟨g,c,_,rfl,_,hh,_⟩⟩:=h
 ·have:es=[]:=List.length_eq_zero_iff.1 h0
  subst this;exact ⟨none,0,rfl,.inl rfl⟩
 ·exact ⟨_,_,rfl,.inr ⟨g,rfl,(Array.getElem?_eq_some_iff.1 hh).1⟩⟩
theorem own_low {w:World} {base e k:Nat} {v:Value} {n:Nat} {xs:List Value} (h:w.ownsRow base e k v n xs) {g:Nat} (hg:g<base):v.ownBlock=none∨v.ownBlock≠some g:=by
 rcases hv:v.ownBlock with _ | g'
 ·exact .inl rfl
 ·refine .inr (fun e=>?_)
  have:=cJ h g' hv;cases e;omega
theorem EI.new {B0:Nat} {w W w1 w2:World} {ks:List (Nat × Nat)} {ev v':Value} {es:List ED} (h:EI B0 w W ks ev es) (hw:B0≤w.heap.size) {s:Nat × Nat} (hs1:s.1<64) (hs2:s.2<64) (hn:s ∉ ks)
  (hm:ls Proofs.Tryz.prog w1 94 3 B0 (ks.length+1) (ks ++ [s])) (hg1:W.grownBy w1 (some B0)) (o:Obj) {e:ED} (he:e.key=s)
  (hown:w2.ownsRow (B0+3) 96 4 v' (es.length+1) (es.flatMap cL ++ cL e)) (hg2:(w1.alloc o).grownBy w2 ev.ownBlock) :
  EI B0 w (w2.setCell ⟨B0+2,0,none⟩ v') (ks ++ [s]) v' (es ++ [e]) ∧
  ∀ k,k<W.heap.size→k≠B0→k≠B0+2→some k≠ev.ownBlock→(w2.setCell ⟨B0+2,0,none⟩ v').heap[k]?=W.heap[k]? := by
 have hlt:=h.lt;have ge:∀ k,k≤B0+2→some k≠ev.ownBlock:=fun k hk e=>by have:=cJ h.own k e.symm;omega
 have ge2:some (B0+2)≠v'.ownBlock:=fun e=>by have:=cJ hown _ e.symm;omega
 obtain ⟨c1,c2,c3,c4⟩:=h.mapped hm hg1 hw;have hb1:=(c1.old o).grown hg2 (ge _ ω);have hb2:=(c2.old o).grown hg2 (ge _ ω);have hgs:=bS w2 (B0+2) 0 v';have hsz:=hg1.size;refine ⟨⟨hb1.grown hgs (fun e=>by simp at e),hb2.set 0 v',?_,by rw [List.map_append,h.keys,List.map_singleton,he],?_,?_,?_,?_⟩,?_⟩
 ·have:=World.ownsRow.kept hown hgs (.inr (fun e=>ge2 e.symm))
  unfold eV;rw [List.length_append,List.flatMap_append]
  simpa using this
 ·rw [List.length_append]
  exact ((hm.kept (World.grownBy_alloc w1 o none) (by simp)).kept hg2 (ge _ ω)).kept hgs (fun e=>by simp at e)
 ·exact ((c4.alloc ω o).grown hg2 (by have:=c4.size;simp;omega) (fun g hg=>by have:=cJ h.own g hg;omega)).grown hgs (by have:=c4.size;have:=hg2.size;simp at this;omega) (fun g hg=>by cases hg;omega)
 ·refine List.nodup_append.mpr ⟨h.nod,by simp,?_⟩
  intro a ha b hb e;rw [List.mem_singleton] at hb;subst hb;subst e;exact hn ha
 ·intro t ht
  rcases List.mem_append.mp ht with h' | h'
  ·exact h.small t h'
  ·rw [List.mem_singleton] at h';subst h';exact ⟨hs1,hs2⟩
 ·intro k hk h1 h2 h3
  rw [hgs.block k (by have:=hg2.size;simp at this;omega) (fun e=>by simp at e;omega),hg2.block k (by simp;omega) h3,(World.grownBy_alloc w1 o none).block k ω (by simp),hg1.block k hk (fun e=>by simp at e;omega)]
theorem EI.keeps {B0:Nat} {w W W':World} {ks:List (Nat × Nat)} {ev:Value} {es:List ED} (h:EI B0 w W ks ev es) (hsz:W.heap.size≤W'.heap.size)
  (hblk:∀ k,k<W.heap.size→k≠B0→k≠B0+2→some k≠ev.ownBlock→W'.heap[k]?=W.heap[k]?)
  {B g b5 bs lo:Nat} {c5 cs:Array Value} {Ds:List Nat} (hB:B0+2<B) (h5:Box W b5 c5 3) (h5n:B0+2<b5) (hs:Box W bs cs 43) (hsn:B0+2<bs) (hg:g<B0) (hM:fM W lo Ds) (hlo:B0+3≤lo) :
  KeepsFrom B W W'∧gG bs g W W'∧Box W' b5 c5 3∧Box W' bs cs 43∧fM W' lo Ds:=by
 have hge:∀ k,some k=ev.ownBlock→B0+3≤k∧∃ cs,W.heap[k]?=some (.cells cs 96 (0,0)):=fun k e=>⟨cJ h.own k e.symm,gY h.own k e.symm⟩
 have e5:=hblk b5 h5.lt ω ω (aW h.own h5 ν);have es:=hblk bs hs.lt ω ω (aW h.own hs ν);have hlt:=h.lt;refine ⟨⟨hsz,fun k o hk ho hc=>?_⟩,⟨es,?_⟩,by unfold Box;rw [e5];exact h5,by unfold Box;rw [es];exact hs,⟨hM.1,fun D hD=>⟨(hM.2 D hD).1,?_⟩⟩⟩
 ·rw [hblk k (Array.getElem?_eq_some_iff.1 ho).1 ω ω (fun e=>?_)]
  ·exact ho
  ·obtain ⟨_,cs,h1⟩:=hge k e
   rw [ho] at h1;cases h1;cases hc
 ·exact hblk g ω ω ω (fun e=>by have:=(hge g e).1;omega)
 ·have h1:=hM.2 D hD
  rw [hblk D (hM.lt D hD) ω ω (fun e=>?_)]
  ·exact h1.2
  ·obtain ⟨_,cs,h2⟩:=hge D e
   rw [h1.2] at h2;cases h2
end Dowel
end

section
namespace Dowel
open Go Go.RowKit
theorem FRow.at_ {w:World} {base:Nat} {v:Value} {qs:List (Q3 × Rat)} {rs:List FR} (h:FRow w base v qs rs) (i:Nat) (hi:i<rs.length) :
  ∃ b cap r,v=.slice (some ⟨b,0,none⟩) rs.length cap∧b<w.heap.size∧rs[i]?=some r∧∀ j,j<17→w.cell? ⟨b,i*17+j,none⟩=(dj r)[j]? := by
 obtain ⟨hl,⟨_,h0⟩ | ⟨g,cap,cur,rfl,hg,hh,hn,hm,hs,ht⟩⟩:=h.own
 ·omega
 ·obtain ⟨r,hr⟩:∃ r,rs[i]?=some r:=⟨_,List.getElem?_eq_getElem hi⟩
  refine ⟨g,cap,r,rfl,(Array.getElem?_eq_some_iff.1 hh).1,hr,fun j hj=>?_⟩;have hlt:i*17+j<rs.length*17:=ω;rw [World.ownsRow.cellAt h.own (i*17+j) hlt];exact ia dj 17 nh rs i j r hr hj
structure EdgesOk (rs:List (List Nat)) (es:List ED):Prop where
 nodup:(es.map ED.key).Nodup
 small:ql (es.map ED.key)
 mem:∀ t,t ∈ es.map ED.key↔∃ r ∈ rs,∃ s ∈ db r,t=ft s
def RetEdges (rs:List (List Nat)) (base:Nat) (w':World) (e:Ending):Prop:=∃ ev es,e=.returned ev∧eV w' base ev es∧EdgesOk rs es
def EdgesI (v:Value) (len:Nat) (w:World) (rs:List (List Nat)) (a':Act) (w':World):Prop:=
 ∃ (i:Nat) (Ds:List Nat) (ev:Value) (es:List ED) (u5 u6 u7 u8 u9 u10 u11 u16 u17 u18 u19 u20 u21 u22 u23 u24 u25 u26 u27 u28 u29 u30 u31 u32 u33 u34 u35 u36 u37 u38 u39 u40 u41 u42 u43 u44 u45 u46 u47 u48 u49 u50 u51 u52 u53 u54 u55 u56 u57 u58 u59 u60:Value),i≤len∧Hid (fM w' (w.heap.size+3) Ds)∧Hid (EI w.heap.size w w' (bC [] ((rs.take i).flatMap db)) ev es) ∧
  a'={ tmps:=List.toArray (v :: undef :: .slice none 0 0 :: .pointer (some ⟨w.heap.size+1,0,none⟩) :: .pointer (some ⟨w.heap.size+2,0,none⟩) :: u5 :: u6 :: u7 :: u8 :: u9 :: u10 :: u11 :: .map (some w.heap.size) :: v :: .int .i64 (len:Nat) :: .int .i64 (i:Nat) :: u16 :: u17 :: u18 :: u19 :: u20 :: u21 :: u22 :: u23 :: u24 :: u25 :: u26 :: u27 :: u28 :: u29 :: u30 :: u31 :: u32 :: u33 :: u34 :: u35 :: u36 :: u37 :: u38 :: u39 :: u40 :: u41 :: u42 :: u43 :: u44 :: u45 :: u46 :: u47 :: u48 :: u49 :: u50 :: u51 :: u52 :: u53 :: u54 :: u55 :: u56 :: u57 :: u58 :: u59 :: u60 :: undef :: undef :: undef :: []),defers:=Ds.map mark }
end Dowel
namespace Go.Proofs.Υ
open Go.RowKit Dowel
theorem infoEdge:(Tryz.prog.info? 96).map (fun i=>(i.zero,i.size,i.bytes))=some (some (.agg #[.int .i64 0,.int .i64 0,.int .i64 0,.int .i64 0]),4,32):=by kernel_rfl
set_option maxRecDepth 100000 in
theorem edges_any (v:Value) (len:Nat) (qs:List (Q3 × Rat)) (frs:List FR) (rs:List (List Nat)) (base base':Nat) (w:World) (hlen:len=frs.length) (hmax:len≤262144) (hF:FRow w base v qs frs) (hr:rs.length=len)
  (hI:∀ (i:Nat) (f:FR) (r:List Nat),frs[i]?=some f→rs[i]?=some r→dr w base' f.v r) (h64:∀ r ∈ rs,r.length≤64∧r≠[]∧∀ i ∈ r,i<64) :
  Calls Tryz.prog 54 #[v] w fun e w'=>RetEdges rs w.heap.size w' e∧Below w.heap.size w w':=by
 have hmm:=@run_makeMap Tryz.prog;obtain ⟨pa,cap,hv⟩:∃ pa cap,v=.slice pa len cap:=by
  obtain ⟨_,⟨rfl,h0⟩ | ⟨g,c,_,rfl,_⟩⟩:=hF.own
  ·exact ⟨none,0,by rw [hlen,h0]⟩
  ·exact ⟨_,_,by rw [hlen]⟩
 have HF:=η hF;have HI:=η hI;have H64:=η h64;have HLEN:=η hlen;have HR:=η hr;clear hF hI h64 hlen hr;subst hv;refine (callsIn_wide (n:=9)).1 ?_;refine callsIn_of_wp_marks Tryz.func54 rfl trivial ?_ rfl;simp only [Tryz.ntmps54,List.size_toArray,List.length_cons,List.length_nil,Nat.reduceAdd,Nat.reduceSub,Array.replicate_succ,Array.replicate_zero,List.push_toArray,List.append_toArray,List.nil_append,List.cons_append]
 gi_wp2_with fail
 refine wpIn_loop (EdgesI (.slice pa len cap) len w rs) (fun a' _=>len - (intOf (a'.tmps.getD 15 undef)).toNat) ?_ ?_
 ·refine ⟨0,[],.slice none 0 0,[],_,_,_,_,_,_,_,_,_,_,_,_,_,_,_,_,_,_,_,_,_,_,_,_,_,_,_,_,_,_,_,_,_,_,_,_,_,_,_,_,_,_,_,_,_,_,_,_,_,_,_,_,Nat.zero_le _,⟨List.nodup_nil,by simp⟩,?_,rfl⟩
  exact ⟨(Box.new2 _ _ _ _).old _,Box.new _ _ _ _ (by simp),World.ownsRow_nil _ _ _ _,rfl,((ls.made _ _ _ _).kept (World.grownBy_alloc _ _ none) (by simp)).kept (World.grownBy_alloc _ _ none) (by simp),((((Below.refl _ w).alloc ρ _).alloc (by simp) _).alloc (by simp;omega) _),List.nodup_nil,fun s hs=>by cases hs⟩
 ·rintro _ wr ⟨i,Ds,ev,es,u5,u6,u7,u8,u9,u10,u11,u16,u17,u18,u19,u20,u21,u22,u23,u24,u25,u26,u27,u28,u29,u30,u31,u32,u33,u34,u35,u36,u37,u38,u39,u40,u41,u42,u43,u44,u45,u46,u47,u48,u49,u50,u51,u52,u53,u54,u55,u56,u57,u58,u59,u60,hi,HM,HE,rfl⟩
  by_cases h0:i=len
  ·have hn:¬ (i:Int)<(len:Int):=ω
   have hc2:wr.cell? ⟨w.heap.size+2,0,none⟩=some ev:=(HE.out.b2.cell 0).trans rfl;have HI0:=η h0;clear h0
   gi_wp2_with fail
   refine ⟨trivial,?_⟩;have hel:es.length≤262144:=by
    have:=kL HE.out.small HE.out.nod;rw [← HE.out.keys,List.length_map] at this;omega
   refine (callsIn_wide.2 (nW ev es (w.heap.size+3) wr HE.out.own hel)).mono ?_;rintro e w2 ⟨rfl,⟨fs',hperm,hown'⟩,hg2⟩;have hge:=cJ HE.out.own;have hbox:=HE.out.b2.grown hg2 (fun e=>by have:=hge _ e.symm;omega);have hc3:w2.cell? ⟨w.heap.size+2,0,none⟩=some ev:=(hbox.cell 0).trans rfl;have HP:=η hperm;have HO:=η hown';have HM2:=η (show fM w2 (w.heap.size+3) Ds from HM.out.grown hg2 (fun r e hD=>by
    obtain ⟨cs,h1⟩:=gY HE.out.own r e;rw [(HM.out.2 r hD).2] at h1;cases h1))
   have HB2:=η (show Below w.heap.size w w2 from HE.out.bel.grown hg2 HE.out.bel.size (fun g hg=>by have:=hge g hg;omega));clear hperm hown' hg2 hbox hc2
   gi_wp2_with fail
   refine ka (lo:=w.heap.size+3) (fun W=>eV W w.heap.size ev fs'∧Below w.heap.size w W) ?_ Ds w2 HM2.out ⟨cj HO.out ω,HB2.out⟩ ?_
   ·rintro W D hD hW ⟨h1,h2⟩
    refine ⟨World.ownsRow.kept h1 (grownBy_putObj' W D _) (.inr (fun e=>?_)),h2.grown (grownBy_putObj' W D _) h2.size (fun k e=>by cases e;omega)⟩;obtain ⟨cs,h3⟩:=gY h1 D e;rw [hW] at h3;cases h3
   ·rintro W' ⟨h1,h2⟩
    refine ⟨_,results_tmp rfl _ _ _,⟨ev,fs',rfl,h1,?_⟩,h2⟩;have hk:(fs'.map ED.key).Perm (bC [] ((rs.take i).flatMap db)):=by rw [← HE.out.keys];exact HP.out.map _
    have ht:rs.take i=rs:=List.take_of_length_le (by rw [HR.out];exact Nat.le_of_eq HI0.out.symm);rw [ht] at hk;refine ⟨hk.nodup_iff.mpr (mW List.nodup_nil),fun s hs=>HE.out.small s (by rw [ht];exact hk.mem_iff.mp hs),fun t=>?_⟩;rw [hk.mem_iff,pQ]
    constructor
    ·rintro (h | ⟨s,hs,e⟩)
     ·cases h
     ·obtain ⟨r,h1,h2⟩:=List.mem_flatMap.mp hs
      exact ⟨r,h1,s,h2,e⟩
    ·rintro ⟨r,h1,s,h2,e⟩
     exact .inr ⟨s,List.mem_flatMap.mpr ⟨r,h1,h2⟩,e⟩
  ·have hlt:(i:Int)<(len:Int):=ω
   have hil:i<len:=ω;obtain ⟨b,cap',fr,e,hb,hfr,hc⟩:=HF.out.at_ i (ψ HLEN.out);cases e;have hc':∀ j,j<17→wr.cell? ⟨b,i*17+j,none⟩=(dj fr)[j]? := fun j hj=>(HE.out.bel.cell (p:=⟨b,i*17+j,none⟩) hb).trans (hc j hj)
   obtain ⟨r,hr⟩:∃ r,rs[i]?=some r:=⟨_,List.getElem?_eq_getElem (ψ HR.out)⟩;have hown:=HI.out i fr r hfr hr;obtain ⟨⟨n0,n1,n2⟩,ro,fvv⟩:=fr;simp only [] at hown;obtain ⟨q1,q2,rfl,hints⟩:=dr.ints hown;have hrr:=H64.out r (List.mem_of_getElem? hr);obtain ⟨g,og,rfl,hg,hgc,hgd⟩:=hints.cells (by have:=List.length_pos_iff.mpr hrr.2.1;omega);obtain ⟨N,hN⟩:∃ N,r.length=N:=⟨_,rfl⟩;rw [hN] at hc' hgd hgc;have HRI:=η hr;have HRR:=η hrr;have HNN:=η hN;have HGD:=η hgd;have d0:=hc' 0 ω;have d1:=hc' 1 ω;have d2:=hc' 2 ω;have d3:=hc' 3 ω;have d4:=hc' 4 ω;have d5:=hc' 5 ω;have d6:=hc' 6 ω;have d7:=hc' 7 ω;have d8:=hc' 8 ω;have d9:=hc' 9 ω;have d10:=hc' 10 ω;have d11:=hc' 11 ω;have d12:=hc' 12 ω;have d13:=hc' 13 ω;have d14:=hc' 14 ω;have d15:=hc' 15 ω;have d16:=hc' 16 ω;simp only [dj,bO,ah,rc4,List.cons_append,List.nil_append,List.getElem?_cons_zero,List.getElem?_cons_succ,Nat.add_zero] at d0 d1 d2 d3 d4 d5 d6 d7 d8 d9 d10 d11 d12 d13 d14 d15 d16;clear hc hc' hr hrr hgd hown hints hfr hN;obtain ⟨Wc,hWc,b5,b6,hBc,hSc⟩:=da wr #[.int .i64 (i:Nat)] #[.bool n0.s,.slice n0.a n0.n n0.c,.bool n0.t,.slice n0.b n0.m n0.d,.bool n1.s,.slice n1.a n1.n n1.c,.bool n1.t,.slice n1.b n1.m n1.d,.bool n2.s,.slice n2.a n2.n n2.c,.bool n2.t,.slice n2.b n2.m n2.d,.bool ro.s,.slice ro.a ro.n ro.c,.bool ro.t,.slice ro.b ro.m ro.d,.slice (some ⟨g,og,none⟩) N q2] 3 98;have HEc:=η (show EI w.heap.size w Wc _ ev es from by rw [← hWc];exact (HE.out.alloc ρ _).alloc ρ _);have HMc:=η (show fM Wc _ Ds from by rw [← hWc];exact (HM.out.alloc _).alloc _);have B5:=η b5;have x16:Wc.cell? ⟨wr.heap.size+1,16,none⟩=some (.slice (some ⟨g,og,none⟩) N q2):=(b6.cell 16).trans rfl;have SC:=η hSc;clear b5 b6 hBc hSc
   gi_wp2_with fail
   try rw [hWc]
   clear d0 d1 d2 d3 d4 d5 d6 d7 d8 d9 d10 d11 d12 d13 d14 d15 d16 hWc;refine ⟨trivial,?_⟩;refine (callsIn_wide.2 (sides_any _ _ _ _)).mono ?_;rintro e w' ⟨rfl,rfl⟩
   gi_wp2_with fail
   have hNr:=HRR.out;have hsz:w.heap.size+2<Wc.heap.size:=HEc.out.lt;refine wpIn_rangeFunc_ownG rfl ω (gf:=146) (lb:=#[.pointer (some ⟨Wc.heap.size,0,none⟩)]) rfl trivial (enters_of Tryz.func146 κ rfl)
    (sides_stops 8 ω Wc.heap.size g og q2 r hNr.2.2 hNr.1 _ (by simp) (by simp;omega) ?hBs ?hcs) gG.trans ?hKb β (fun _=>rfl)
    (fun pre W=>∃ ev es,EI w.heap.size w W (bC (bC [] ((rs.take i).flatMap db)) (pre.map fun x=>(x.1.val,x.2.val))) ev es∧Box W wr.heap.size #[.int .i64 (i:Nat)] 3∧Box W Wc.heap.size #[.slice (some ⟨g,og,none⟩) N q2] 43∧fM W (w.heap.size+3) Ds)
    (fun _ _ _=>False) ?hI (fun _ _ _ _ _ hs _ _=>hs) ?h0 (fun x=>{ tmps:=List.toArray ((.slice (some ⟨b,0,none⟩) frs.length cap) :: undef :: .slice none 0 0 :: .pointer (some ⟨w.heap.size+1,0,none⟩) :: .pointer (some ⟨w.heap.size+2,0,none⟩) :: .pointer (some ⟨wr.heap.size,0,none⟩) :: .pointer (some ⟨wr.heap.size+1,0,none⟩) :: .int .i64 (x.1.val:Int) :: .int .i64 (x.2.val:Int) :: u9 :: u10 :: u11 :: .map (some w.heap.size) :: (.slice (some ⟨b,0,none⟩) frs.length cap) :: .int .i64 (frs.length:Nat) :: .int .i64 (i:Nat) :: .bool true :: .int .i64 (i:Nat) :: .pointer (some ⟨b,i*17,none⟩) :: .agg #[.bool n0.s,.slice n0.a n0.n n0.c,.bool n0.t,.slice n0.b n0.m n0.d,.bool n1.s,.slice n1.a n1.n n1.c,.bool n1.t,.slice n1.b n1.m n1.d,.bool n2.s,.slice n2.a n2.n n2.c,.bool n2.t,.slice n2.b n2.m n2.d,.bool ro.s,.slice ro.a ro.n ro.c,.bool ro.t,.slice ro.b ro.m ro.d,.slice (some ⟨g,og,none⟩) N q2] :: .pointer (some ⟨wr.heap.size+1,16,none⟩) :: .slice (some ⟨g,og,none⟩) N q2 :: .func (.func 146) #[] #[.pointer (some ⟨Wc.heap.size,0,none⟩)] :: .int .i64 (x.1.val:Int) :: .int .i64 (x.2.val:Int) :: u25 :: u26 :: u27 :: u28 :: u29 :: u30 :: u31 :: u32 :: u33 :: u34 :: u35 :: u36 :: u37 :: u38 :: u39 :: u40 :: u41 :: u42 :: u43 :: u44 :: u45 :: u46 :: u47 :: u48 :: u49 :: u50 :: u51 :: u52 :: u53 :: u54 :: u55 :: u56 :: u57 :: u58 :: u59 :: u60 :: undef :: undef :: undef :: []),defers:=[] }) ?assign ?body ?done ?stop
   case hBs=>rw [HNN.out];exact (Box.new1 _ _ _).cell 0
   case hcs =>
    intro j hj;have h1:=HGD.out j (ψ HNN.out);have hb1:Below w.heap.size w (Wc.alloc (.cells #[.slice (some ⟨g,og,none⟩) N q2] 43)):=HEc.out.bel.alloc ω _;rw [hb1.cell (p:=⟨g,og+j,none⟩) hg,h1]
    congr 2
    rw [List.getD_eq_getElem?_getD,List.getD_eq_getElem?_getD,List.getElem?_map];cases r[j]? <;> rfl
   case hKb =>
    intro W l o o' hl _ _ _;simp at hl;exact ⟨World.putObj_heap_other ω,World.putObj_heap_other ω⟩
   case hI =>
    rintro s A B row ⟨ev,es,h1,h2,h3,h4⟩ hg hr;have hlo:∀ r,row=some r→Wc.heap.size+1≤r:=fun r e=>by have:=(hr r e).1;simpa using this
    refine ⟨ev,es,h1.from (B:=Wc.heap.size+1) ω hg (fun r e=>⟨hlo r e,(hr r e).2⟩) ρ,h2.grown hg ?_,h3.grown hg ?_,h4.grown hg ?_⟩
    ·intro e;have:=hlo _ e.symm;have:=B5.out.lt;omega
    ·intro e;have:=hlo _ e.symm;omega
    ·intro r e hD;have:=hlo r e;have:=HMc.out.lt r hD;omega
   case h0=>exact ⟨ev,es,HEc.out.alloc ρ _,B5.out.old _,Box.new1 _ _ _,HMc.out.alloc _⟩
   case assign =>
    intro l x W K hK;have hsem:=@Oper.semAt_some l;simp only [sideV]
    gi_wp2
    with_reducible exact hK
   case body =>
    rintro l pre ⟨⟨xa,ha⟩,⟨xc,hc⟩⟩ W ⟨ev,es,hE,h5,hs,hM⟩ hlt;dsimp only at *;have hsem:=@Oper.semAt_some l;obtain ⟨p,cp,rfl,hform⟩:=hE.own.form;obtain ⟨D,hD,hDm,hDk⟩:=hE.map;obtain ⟨ks,hks⟩:∃ ks,bC (bC [] ((rs.take i).flatMap db)) (pre.map fun x=>(x.1.val,x.2.val))=ks:=⟨_,rfl⟩;rw [hks] at hE hD hDk;have KS:=η hks;obtain ⟨lo,hlo⟩:∃ lo:Nat,min xa xc=lo:=⟨_,rfl⟩;obtain ⟨up,hup⟩:∃ up:Nat,max xa xc=up:=⟨_,rfl⟩;have hlo64:lo<64:=ω;have hup64:up<64:=ω;have hkey:ft (xa,xc)=(lo,up):=by unfold ft;simp only [];rw [hlo,hup]
    have hmin:min (xa:Int) (xc:Int)=(lo:Int):=ω;have hmax2:max (xa:Int) (xc:Int)=(up:Int):=ω;clear hlo hup;obtain ⟨hk1,hk2⟩:=hDk (lo,up) hlo64 hup64;have hkk:=key94 (lo,up) hlo64 hup64;have hmem:∀ ys,bC (bC [] ((rs.take i).flatMap db)) (ys ++ [(xa,xc)])=gU (bC (bC [] ((rs.take i).flatMap db)) ys) (xa,xc):=fun ys=>nY _ _ _
    have HKEY:=η hkey;have HMEM:=η hmem;clear hkey hmem;obtain ⟨Wk,hWk,bk,hBk,hSk⟩:=aG W #[.int .i64 (lo:Nat),.int .i64 (up:Nat)] 94;have hEk:EI w.heap.size w Wk ks (.slice p es.length cp) es:=by rw [← hWk];exact hE.alloc ρ _
    have h5k:Box Wk wr.heap.size #[.int .i64 (i:Nat)] 3:=by rw [← hWk];exact h5.old _
    have hsk:Box Wk Wc.heap.size #[.slice (some ⟨g,og,none⟩) N q2] 43:=by rw [← hWk];exact hs.old _
    have hMk:fM Wk (w.heap.size+3) Ds:=by rw [← hWk];exact hM.alloc _
    have hDw:Wk.ownsMap Tryz.prog 94 (plainElem Tryz.prog 3) w.heap.size ks.length D:=by rw [← hWk];exact hD.alloc _
    have hc1:Wk.cell? ⟨w.heap.size+1,0,none⟩=some (.map (some w.heap.size)):=(hEk.b1.cell 0).trans rfl;have hc2:Wk.cell? ⟨w.heap.size+2,0,none⟩=some (.slice p es.length cp):=(hEk.b2.cell 0).trans rfl;have hc5:Wk.cell? ⟨wr.heap.size,0,none⟩=some (.int .i64 (i:Nat)):=(h5k.cell 0).trans rfl;have hk0:Wk.cell? ⟨W.heap.size,0,none⟩=some (.int .i64 (lo:Nat)):=(bk.cell 0).trans rfl;have hk01:Wk.cell? ⟨W.heap.size,1,none⟩=some (.int .i64 (up:Nat)):=(bk.cell 1).trans rfl;have ES:=η hE;have EK:=η hEk;have K5:=η h5k;have KSB:=η hsk;have KM:=η hMk;have DM:=η hDm;have DK:=η hDk;have HFM:=η hform;have BK:=η bk;have KW:=η (show KeepsFrom (Wc.alloc (.cells #[.slice (some ⟨g,og,none⟩) N q2] 43)).heap.size W Wk from by rw [← hWk];exact (KeepsOthers.alloc _ _).from _);have KW2:=η (show gG Wc.heap.size g W Wk from ⟨hBk.block _ hs.lt,hBk.block _ (ψ hE.lt)⟩);clear hE hEk h5k hsk hMk hDm hDk hM hs h5 hform bk hBk;by_cases hin:(lo,up) ∈ ks
    ·have hhas:Maps.has D (iC (lo,up))=true:=by rw [hk1];simp [hin]
     obtain ⟨ix,hix⟩:=List.getElem?_of_mem hin;have hat0:=hk2 ix hix;clear hk1 hk2;obtain ⟨ed,hed⟩:∃ ed,es[ix]?=some ed:=by
      have h1:=hix;rw [← EK.out.keys,List.getElem?_map] at h1
      cases he:es[ix]? with
      | none=>rw [he] at h1;cases h1
      | some ed=>exact ⟨ed,rfl⟩
     have hixl:ix<es.length:=(List.getElem?_eq_some_iff.1 hed).1;obtain ⟨gE,rfl,hgE⟩:∃ gE,p=some ⟨gE,0,none⟩∧gE<W.heap.size:=by
      rcases HFM.out with h | h
      ·rw [h] at hixl;simp at hixl
      ·exact h
     have hcell:∀ j,j<4→Wk.cell? ⟨gE,ix*4+j,none⟩=(cL ed)[j]? := fun j hj=>by
      rw [World.ownsRow.cellAt EK.out.own (ix*4+j) ω];exact ia cL 4 (fun _=>rfl) es ix j ed hed hj
     have hce:Wk.cell? ⟨gE,ix*4+3,none⟩=some (.int .i64 ed.g):=hcell 3 ω;have hcf:Wk.frozen? ⟨gE,ix*4+3,none⟩=false:=World.ownsRow.frozenAt EK.out.own _;have hmx:Tryz.prog.follows .mixedOrders=true:=by kernel_rfl
     have HED:=η hed;have HKN:=η (show bC (bC [] ((rs.take i).flatMap db)) (List.map (fun x:Side=>(x.1.val,x.2.val)) (pre ++ [(⟨xa,ha⟩,⟨xc,hc⟩)]))=ks from by
      rw [List.map_append,List.map_singleton,HMEM.out,KS.out];unfold gU;rw [HKEY.out,if_pos hin])
     clear hed hix hcell
     gi_wp2_with (gi_at_lookup;refine wpListIn_lookup_own_ok_int _ rfl _ _ 175 rfl 94 3 .i64 l9 Tryz.underlying175 Tryz.underlying3 (Tryz.zeroValue3 _) w.heap.size ks.length D rfl hDw (keyV (lo,up)) (iC (lo,up)) rfl hkk ?_;intro c hat hwc;rw [hat0] at hat;injection hat with hat1;injection hat1 with _ hat2;subst hat2;clear hwc)
     gi_region_with_o fail
     all_goals gi_wp2
     all_goals
      obtain ⟨k1,k2,k3,k4,k5⟩:=EK.out.keeps (W':=(Wk.setCell ⟨gE,ix*4+2+1,none⟩ (.int .i64 (i:Nat))).drew) (B:=(Wc.alloc (.cells #[.slice (some ⟨g,og,none⟩) N q2] 43)).heap.size) (g:=g) (by simp) (fun k h1 _ _ h4=>(bS Wk gE (ix*4+3) (.int .i64 (i:Nat))).block k h1 (fun e=>h4 (by cases e;rfl))) (by simp;omega) K5.out (ψ HE.out.lt) KSB.out ω hg KM.out ρ;refine ⟨KW.out.trans k1,KW2.out.trans k2,.slice (some ⟨gE,0,none⟩) es.length cp,es.set ix { ed with g:=((i:Nat):Int) },?_,k3,k4,k5⟩;rw [HKN.out];exact (EK.out.found ρ ix ed HED.out ((i:Nat):Int)).drew ρ
    ·have hhas:Maps.has D (iC (lo,up))=false:=by rw [hk1];simp [hin]
     clear hk1 hk2;have hel:es.length=ks.length:=by rw [← EK.out.keys];simp
     have hk4:ks.length≤4096:=kL EK.out.small EK.out.nod;obtain ⟨j0,jinf,jz0,jz1,jz2⟩:=info_parts infoEdge;have hrow:=EK.out.own;have HEL:=η hel;have hk5:es.length≤4096:=ω;clear hel;have n1:wr.heap.size≠w.heap.size:=by have:=HE.out.lt;omega
     have n2:W.heap.size≠w.heap.size:=by have:=ES.out.lt;omega
     have HKN:=η (show bC (bC [] ((rs.take i).flatMap db)) (List.map (fun x:Side=>(x.1.val,x.2.val)) (pre ++ [(⟨xa,ha⟩,⟨xc,hc⟩)]))=ks ++ [(lo,up)] from by
      rw [List.map_append,List.map_singleton,HMEM.out,KS.out];unfold gU;rw [HKEY.out,if_neg hin])
     gi_wp2_with (first
      | (gi_at_lookup;refine wpListIn_lookup_own_ok_int _ rfl _ _ 175 rfl 94 3 .i64 l9 Tryz.underlying175 Tryz.underlying3 (Tryz.zeroValue3 _) w.heap.size ks.length D rfl hDw (keyV (lo,up)) (iC (lo,up)) rfl hkk ?_;intro c hat hwc;clear hat hwc)
      | (gi_at_mapUpdate;refine wpListIn_mapUpdate_own _ rfl _ _ _ 175 rfl 94 3 l9 Tryz.underlying175 _ w.heap.size ks.length D rfl hDw (by unfold maxLen;omega) _ _ (iC (lo,up)) rfl rfl hkk _ [] (plainElem_int Tryz.underlying3 (i64_wf _ ω)) ?_;intro w1 hown1 hgrow1;have g2:=World.grownBy.cell hgrow1 hc2 (by simp);have g5:=World.grownBy.cell hgrow1 hc5 (by simpa using n1);have gk0:=World.grownBy.cell hgrow1 hk0 (by simpa using n2);have gk1:=World.grownBy.cell hgrow1 hk01 (by simpa using n2))
      | (gi_at_builtin;refine wpListIn_append_own_at _ rfl _ _ 30 rfl (w.heap.size+3) 96 j0 (.agg #[.int .i64 0,.int .i64 0,.int .i64 0,.int .i64 0]) 4 32 Tryz.underlying30 jinf jz0 jz1 jz2 rfl ν _ _ _ rfl (World.ownsRow.alloc (World.ownsRow.kept hrow hgrow1 (own_low hrow ω)) _) ⟨w1.heap.size,0,none⟩ 1 1 [.int .i64 (lo:Int),.int .i64 (up:Int),.int .i64 (i:Int),.int .i64 (i:Int)] rfl rfl (fun j u hj=>Box.news (Box.new1 _ _ _) j u hj) (by simp [Value.oneCell']) (by unfold maxLen;omega) ω (by have:=EK.out.lt;have:=hgrow1.size;simp;omega) ?_;intro v' w2 hown2 hgrow2 hnil2 hat2;clear hnil2 hat2;obtain ⟨gn,cn,rfl⟩:=ownsRow_succ hown2;have b2n:=((EK.out.b2.grown hgrow1 (by simp)).old (.cells #[.int .i64 (lo:Int),.int .i64 (up:Int),.int .i64 (i:Int),.int .i64 (i:Int)] 96)).grown hgrow2 (fun e=>by have:=cJ hrow _ e.symm;omega);have e2:=b2n.cell 0;have f2:=b2n.free 0))
     have hm1:ls Tryz.prog w1 94 3 w.heap.size (ks.length+1) (ks ++ [(lo,up)]):=by
      have hown1':=hown1;rw [HEL.out] at hown1';exact ls.put (w:=Wk) (n:=ks.length) l9 key94 DM.out DK.out (lo,up) hlo64 hup64 hin hown1'
     obtain ⟨hN1,hN2⟩:=EK.out.new ρ hlo64 hup64 hin hm1 hgrow1 _ (e:=⟨lo,up,i,i⟩) rfl hown2 hgrow2;obtain ⟨k1,k2,k3,k4,k5⟩:=EK.out.keeps (B:=(Wc.alloc (.cells #[.slice (some ⟨g,og,none⟩) N q2] 43)).heap.size) (g:=g) (by have h1:=hgrow1.size;have h2:=hgrow2.size;simp at h2 ⊢;omega) hN2 (by simp;omega) K5.out (ψ HE.out.lt) KSB.out ω hg KM.out ρ;rw [← HKN.out] at hN1;exact ⟨KW.out.trans k1,KW2.out.trans k2,_,_,hN1,k3,k4,k5⟩
   case done =>
    rintro D ys W hD rfl ⟨ev',es',h1,h2,h3,h4⟩ hK;have H1:=η h1;have H4:=η h4;clear h1 h2 h3 h4
    gi_wp2
    refine ⟨⟨i+1,D :: Ds,ev',es',_,_,_,_,_,_,_,_,_,_,_,_,_,_,_,_,_,_,_,_,_,_,_,_,_,_,_,_,_,_,_,_,_,_,_,_,_,_,_,_,_,_,_,_,_,_,_,_,_,_,_,_,?_,?_,?_,rfl⟩,?_⟩
    ·omega
    ·refine ⟨List.nodup_cons.mpr ⟨fun hDD=>?_,H4.out.1⟩,fun E hE=>?_⟩
     ·have:=HMc.out.lt D hDD;simp at hD;omega
     ·rcases List.mem_cons.mp hE with rfl | hE
      ·exact ⟨by simp at hD;omega,hK⟩
      ·exact H4.out.2 E hE
    ·have e1:(rs.take (i+1)).flatMap db=(rs.take i).flatMap db ++ db r:=by rw [fR HRI.out];simp
     rw [e1,lW,← uptoS_all hNr.2.2];exact H1.out
    ·show frs.length - ((i:Int)+1).toNat<frs.length - (i:Int).toNat;omega
   case stop =>
    rintro D c pre W _ _ h _;exact h.elim
end Go.Proofs.Υ
end

section
namespace Dowel
open Go Go.RowKit
def ptQ (p:V):Q3:=⟨(p.x:Rat),(p.y:Rat),(p.z:Rat)⟩
def dU (P:Nat→V) (k:Nat):List Q3:=(List.range k).map fun i=>ptQ (P i)
theorem ptsQ_succ (P:Nat→V) (k:Nat):dU P (k+1)=dU P k ++ [ptQ (P k)]:=by
 unfold dU;rw [List.range_succ,List.map_append];rfl
def gM (P:Nat→V) (f:RF):Q3 × Rat:=(cI (ptQ f.n),bt (cI (ptQ f.n)) (ptQ (P (f.r.headD 0))))
theorem pV {P:Nat→V} {N:Nat} (hn:∀ i,i<N→LeV 4096 (P i)) {n:V} {b:Nat} (h:Face P N n b):LeV 134217728 n:=by
 obtain ⟨i,j,k,h1,h2,h3,-,hm,-⟩:=h.three;have hl:=((hn j ω).sub (hn i h3)).cross ((hn k ω).sub (hn i h3));have hl2:=hl.mono (show 2*((4096+4096)*(4096+4096))≤(134217728:Int) by omega)
 rcases hm with e | e <;> rw [e]
 ·exact hl2
 ·exact hl2.neg
theorem Face.ring_hd {P:Nat→V} {N:Nat} (hS:Sorted P N) {n:V} {b:Nat} (h:Face P N n b):(ring P (aH P N n b) n).headD 0<N∧ring P (aH P N n b) n≠[]:=by
 have hm:=(h.ring_mem hS _).mpr (h.head hS);have hne:ring P (aH P N n b) n≠[]:=List.ne_nil_of_mem hm;refine ⟨?_,hne⟩;have:(ring P (aH P N n b) n).headD 0 ∈ ring P (aH P N n b) n:=by
  cases hr:ring P (aH P N n b) n with
  | nil=>exact absurd hr hne
  | cons x l=>simp
 exact (aD.mp ((h.ring_mem hS _).mp this).1).1
theorem ownS_at {w:World} {base:Nat} {v:Value} {l:List Value} (h:OwnS w base v l) (hl:0<l.length):∃ g cap,v=.slice (some ⟨g,0,none⟩) l.length cap∧g<w.heap.size∧∀ k x,l[k]?=some x→w.cell? ⟨g,k,none⟩=some x:=by
 have hh:=h;obtain ⟨hlen,⟨rfl,h0⟩ | ⟨g,cap,cur,rfl,hg,hh',r⟩⟩:=h
 ·omega
 ·refine ⟨g,cap,rfl,(Array.getElem?_eq_some_iff.1 hh').1,fun k x hk=>?_⟩
  have hkl:k<l.length:=(List.getElem?_eq_some_iff.1 hk).1;exact (World.ownsRow.cellAt hh k ω).trans hk
theorem lg {p:V} (h:LeV 9007199254740992 p):BdV 2 (ptQ p):=by
 have k:∀ x:Int,Le 9007199254740992 x→Bd 2 (x:Rat):=fun x hx=>Bd.int x (by unfold B;unfold Le at hx;omega)
 exact ⟨k _ h.1,k _ h.2.1,k _ h.2.2⟩
theorem bd_primQ {a:Q3} (h:BdV 2 a∧a≠⟨0,0,0⟩):BdV 18 (cI a):=by
 obtain ⟨hk,h0⟩:=h;have hs:=fj hk 3 ω;have BD:Bd 7 (cZ a 3:Rat):=⟨hs.2,by show 1<B ^ 7;unfold B;omega⟩;have BA:BdV 9 ⟨(cZ a 3:Rat)*a.x,(cZ a 3:Rat)*a.y,(cZ a 3:Rat)*a.z⟩:=⟨BD.mul hk.1,BD.mul hk.2.1,BD.mul hk.2.2⟩;have hg0:0<iD ⟨(cZ a 3:Rat)*a.x,(cZ a 3:Rat)*a.y,(cZ a 3:Rat)*a.z⟩ 3:=gcdQ_pos fun e=>h0 (by
  have hD0:(cZ a 3:Rat)≠0:=fun h=>by
   have h':cZ a 3=0:=by exact_mod_cast h
   omega
  have e1:=congrArg Q3.x e;have e2:=congrArg Q3.y e;have e3:=congrArg Q3.z e;have z:∀ t:Rat,(cZ a 3:Rat)*t=0→t=0:=fun t h=>(Rat.mul_eq_zero.mp h).resolve_left hD0
  generalize (cZ a 3:Rat)=D at *;obtain ⟨ax,ay,az⟩:=a;rw [show ax=0 from z _ e1,show ay=0 from z _ e2,show az=0 from z _ e3])
 have BP:Bd 9 (Rat.divInt 1 (iD ⟨(cZ a 3:Rat)*a.x,(cZ a 3:Rat)*a.y,(cZ a 3:Rat)*a.z⟩ 3:Nat)):=eA (by show 1<B ^ 9;unfold B;omega) (mh BA 3) ω;exact ⟨BP.mul BA.1,BP.mul BA.2.1,BP.mul BA.2.2⟩
theorem hfs_len {P:Nat→V} {N:Nat} {fs:List RF} {E:Nat} (h:RingsOk P N fs E) (hN:N≤16):fs.length≤262144:=by
 have h1:=eN (fs.map RF.o) (List.range 65536) h.nodup (fun x hx=>by
  obtain ⟨f,hf,rfl⟩:=List.mem_map.mp hx;obtain ⟨b,_,ho,_⟩:=h.ok f hf;rw [List.mem_range,ho];unfold cH;have a:=j9 (fun q=>decide (V.dot f.n (P q - P b)=0)) N;have c:(2:Nat) ^ N≤2 ^ 16:=Nat.pow_le_pow_right ω hN;omega)
 rw [List.length_map,List.length_range] at h1;omega
theorem VRow.base {w:World} {base base':Nat} {v:Value} {qs:List Q3} {rs:List (RC × RC × RC)} (h:VRow w base v qs rs) (hb:base'≤base):VRow w base' v qs rs:=⟨cj h.own hb,h.len,h.vec⟩
theorem FRow.base {w:World} {base base':Nat} {v:Value} {fs:List (Q3 × Rat)} {rs:List FR} (h:FRow w base v fs rs) (hb:base'≤base):FRow w base' v fs rs:=⟨cj h.own hb,h.len,h.vec⟩
structure ShapeOk (P:Nat→V) (len base:Nat) (w:World) (v0 v1 v2:Value) (fs:List RF) (E:Nat) (vrs:List (RC × RC × RC)) (frs:List FR) (es:List ED):Prop where
 vs:VRow w base v0 (dU P len) vrs
 fcs:FRow w base v1 (fs.map (gM P)) frs
 val:frs.map FR.v=fs.map RF.v
 rows:Faces w base fs
 eds:eV w base v2 es
 edg:EdgesOk (fs.map RF.r) es
 ok:RingsOk P len fs E
theorem ShapeOk.below {P:Nat→V} {len base:Nat} {w w':World} {v0 v1 v2:Value} {fs:List RF} {E:Nat} {vrs:List (RC × RC × RC)} {frs:List FR} {es:List ED} (h:ShapeOk P len base w v0 v1 v2 fs E vrs frs es) (hb:Below w.heap.size w w') :
  ShapeOk P len base w' v0 v1 v2 fs E vrs frs es:=⟨h.vs.below hb,h.fcs.below hb,h.val,⟨fun f hf=>aF (h.rows.own f hf) hb,h.rows.short⟩,aF h.eds hb,h.edg,h.ok⟩
theorem im {w:World} {base e k:Nat} {v:Value} {n:Nat} {xs:List Value} (h:w.ownsRow base e k v n xs) {g:Nat} {cs:Array Value} {t:TypeId} (hb:Box w g cs t) (hne:e≠t) (i:Nat) (u:Value):(w.setCell ⟨g,i,none⟩ u).ownsRow base e k v n xs:=
 World.ownsRow.kept h (bS w g i u) (.inr (fun e=>aW h hb hne e.symm))
theorem ShapeOk.set {P:Nat→V} {len base:Nat} {w:World} {v0 v1 v2:Value} {fs:List RF} {E:Nat} {vrs:List (RC × RC × RC)} {frs:List FR} {es:List ED} (h:ShapeOk P len base w v0 v1 v2 fs E vrs frs es) {g:Nat} {cs:Array Value} (hb:Box w g cs 32) (i:Nat) (u:Value) :
  ShapeOk P len base (w.setCell ⟨g,i,none⟩ u) v0 v1 v2 fs E vrs frs es:=
 ⟨h.vs.set hb ν ν i u,h.fcs.set hb ν ν i u,h.val,⟨fun f hf=>im (h.rows.own f hf) hb ν i u,h.rows.short⟩,im h.eds hb ν i u,h.edg,h.ok⟩
def RetShape (P:Nat→V) (len base:Nat) (w:World) (e:Ending):Prop:=
 ∃ v0 v1 v2 fs E vrs frs es,e=.returned (.tuple #[.agg #[v0,v1,v2],.int .i64 0])∧ShapeOk P len base w v0 v1 v2 fs E vrs frs es
end Dowel
namespace Go.Proofs.Υ
open Go.RowKit Dowel
theorem infoFace:(Tryz.prog.info? 98).map (fun i=>(i.zero,i.size,i.bytes))=some (some (.agg #[.bool false,.slice none 0 0,.bool false,.slice none 0 0,.bool false,.slice none 0 0,.bool false,.slice none 0 0,.bool false,.slice none 0 0,.bool false,.slice none 0 0,.bool false,.slice none 0 0,.bool false,.slice none 0 0,.slice none 0 0]),17,280):=by kernel_rfl
theorem oN:(Tryz.prog.info? 32).map (·.size)=some 3:=by kernel_rfl
theorem infoVecR:(Tryz.prog.info? 58).map (fun i=>(i.zero,i.size,i.bytes))=some (some (.agg (ah RC.zero RC.zero RC.zero)),12,192):=by kernel_rfl
set_option maxRecDepth 20000 in
theorem of_any (a:Option Addr) (len cap:Nat) (P:Nat→V) (w:World) (hP:Pts w a len cap P) (hlen:len≤16) (hnear:∀ i,i<len→LeV 4096 (P i)) (hT:Tab w) (hSO:Sorted P len) (hFU:fG P len) (hck:∀ v,Below w.heap.size w v→Calls Tryz.prog 13 #[.agg #[.slice a len cap]] v fun e w'=>e=.returned (.int .i64 0)∧Below v.heap.size v w') :
  Calls Tryz.prog 12 #[.agg #[.slice a len cap]] w fun e w'=>RetShape P len w.heap.size w' e∧Below w.heap.size w w':=by
 obtain ⟨W,hW,b1,b2,hB,hS⟩:=da w #[.slice a len cap] #[.slice none 0 0,.slice none 0 0,.slice none 0 0] 24 32;have B1:=η b1;have R2:=η b2;have HCK:=η hck;have HT:=η (hT.below hB hT.1);have HSO:=η hSO;have HFU:=η hFU;have HP:=η (hP.below hB);have HN:=η hnear;have HB:=η hB;have HSZ:=η hS;obtain ⟨x0,-⟩:=b1.one;obtain ⟨i0,hinf,hz0,hz1,hz2⟩:=info_parts infoVecR;clear b1 b2 hck hP hnear hB hS hT hSO hFU
 go_enter Tryz.func12,Tryz.ntmps12
 go_wp2_with fail
 refine (HCK.out _ HB.out).mono ?_;rintro e w1 ⟨rfl,hb1⟩;have B2:=B1.out.below hb1 (B1.out.lt);have HC1:=η B2;have R3:=η (R2.out.below hb1 R2.out.lt);have SZ1:=η (show w.heap.size+2≤w1.heap.size from by have:=hb1.size;have:=HSZ.out;omega);have HB1:=η (ae HB.out hb1 (ψ HSZ.out));have HP1:=η (HP.out.below hb1);have HT1:=η (HT.out.below hb1 HT.out.1);obtain ⟨x1,-⟩:=(B2.old (.cells #[.slice none 0 0,.slice none 0 0,.slice none 0 0] 32)).one;clear hb1
 go_wp2_with fail
 go_loopw [24] (fun iv wr=>∃ k,k≤len∧iv=.int .i64 (k:Nat)∧∃ vv rs,Hid (Box wr w1.heap.size #[vv,.slice none 0 0,.slice none 0 0] 32)∧Hid (VRow wr (w1.heap.size+1) vv (dU P k) rs)∧Hid (Below w1.heap.size w1 wr)) (fun iv _=>len - (intOf iv).toNat)
 case atStart=>exact ⟨0,Nat.zero_le _,rfl,_,[],Box.new _ _ _ _ rfl,VRow.nil _ _,β.alloc ρ _⟩
 case round =>
  obtain ⟨k,hk,rfl,vv,rs,HSB,HV,HR⟩:=hrel;obtain ⟨wk,rfl⟩:∃ wk,wk=wr:=⟨_,rfl⟩;have HRL:=η (show rs.length=k from by rw [HV.out.len];simp [dU]);by_cases h0:k=len
  ·have hn:¬ (k:Int)<(len:Int):=ω
   obtain ⟨x0,-⟩:=(HC1.out.below HR.out HC1.out.lt).one;have H0:=η h0;clear h0
   go_wp2_with fail
   refine (ox a len cap P wk (HT1.out.below HR.out HT1.out.1) (HP1.out.below HR.out) ω HN.out HSO.out HFU.out).mono ?_;rintro e w5 ⟨⟨pv,rv,fs,E,rfl,hpl,hsl,hfc,hok⟩,hb5⟩;obtain ⟨ap,cp,rfl,hps⟩:=Sl.of_owns hpl;obtain ⟨ar,cr,rfl,hrs⟩:=Sl.of_owns hsl;have hl1:(fs.map fun f=>(f.n,f.o)).length=fs.length:=List.length_map ..;have hl2:(fs.map RF.v).length=fs.length:=List.length_map ..;have HPL:=η hpl;have HSL:=η hsl;have HFC:=η hfc;have HOK:=η hok;have SB5:=η (HSB.out.below hb5 HSB.out.lt);have V5:=η (show VRow w5 (w1.heap.size+1) vv (dU P len) rs from by rw [← H0.out];exact HV.out.below hb5);have H5:=η (ae HR.out hb5 ρ);have HKS:=η HR.out.size;have NPV:=η (aW hpl SB5.out ν);have NRV:=η (aW hsl SB5.out ν);have NVV:=η (aW V5.out.own SB5.out ν);have hfl:fs.length≤262144:=hfs_len HOK.out ω;rw [hl1] at HPL NPV ⊢;rw [hl2] at HSL NRV ⊢;clear hpl hsl hfc hok hps hrs hl1 hl2 hb5 x0
   go_wp2_with fail
   go_loopw [45] (fun iv wr=>∃ i,i≤fs.length∧iv=.int .i64 (i:Nat)∧∃ fv frs,Hid (Box wr w1.heap.size #[vv,fv,.slice none 0 0] 32)∧Hid (FRow wr w5.heap.size fv ((fs.take i).map (gM P)) frs)∧Hid (frs.map FR.v=(fs.take i).map RF.v)∧Hid (w5.grownBy wr (some w1.heap.size))) (fun iv _=>fs.length - (intOf iv).toNat)
   case atStart=>exact ⟨0,Nat.zero_le _,rfl,_,[],SB5.out,FRow.nil _ _,rfl,World.grownBy.refl _ _⟩
   case round =>
    clear HV HSB HR;obtain ⟨i,hi,rfl,fv,frs,HSB,HF,HFV,HG⟩:=hrel;obtain ⟨w6,rfl⟩:∃ w6,w6=wr:=⟨_,rfl⟩;by_cases h1:i=fs.length
    ·have hn2:¬ (i:Int)<(fs.length:Int):=ω
     have HF6:Hid (FRow w6 w5.heap.size fv (fs.map (gM P)) frs):=by have h:=HF.out;rw [h1,List.take_length] at h;exact h
     have HV6:Hid (frs.map FR.v=fs.map RF.v):=by have h:=HFV.out;rw [h1,List.take_length] at h;exact h
     have HFL:=η (show frs.length=fs.length from by have h:=congrArg List.length HV6.out;simpa using h);have HN6:Hid (∀ f ∈ fs,dr w6 wk.heap.size f.v f.r):=fun f hf=>World.ownsRow.kept (HFC.out.own f hf) HG.out (.inr (fun e=>aW (HFC.out.own f hf) SB5.out ν e.symm))
     clear h1 HF HFV;have c1:=HSB.out.cell 1;have c2:=HSB.out.cell 0
     go_wp2_with fail
     refine (edges_any fv fs.length (fs.map (gM P)) frs (fs.map RF.r) w5.heap.size wk.heap.size w6 HFL.out.symm hfl HF6.out (by simp) ?hI ?h64).mono ?_
     case hI =>
      intro i f r h1 h2;have h3:=congrArg (fun l:List Value=>l[i]?) HV6.out;simp only [List.getElem?_map,h1,Option.map_some] at h3;rw [List.getElem?_map] at h2;obtain ⟨g,hg1,hg2⟩:=Option.map_eq_some_iff.mp h2;rw [hg1,Option.map_some] at h3;have h4:=HN6.out g (List.mem_of_getElem? hg1);rw [← Option.some.inj h3,hg2] at h4;exact h4
     case h64 =>
      intro r hr;obtain ⟨f,hf,rfl⟩:=List.mem_map.mp hr;obtain ⟨bF,hFace,-,hfr⟩:=HOK.out.ok f hf;refine ⟨HFC.out.short f hf,by rw [hfr];exact (Face.ring_hd HSO.out hFace).2,fun x hx=>?_⟩;rw [hfr] at hx;have:=(aD.mp ((hFace.ring_mem HSO.out _).mp hx).1).1;omega
     rintro e w7 ⟨⟨ev,es,rfl,hoe,hek⟩,hb7⟩;obtain ⟨pe,ce,hev,-⟩:=eV.form hoe;subst hev;generalize hesl:es.length=el at *;obtain ⟨av,cvv,hvvE,-⟩:=Sl.of_owns V5.out.own;subst hvvE;obtain ⟨af,cff,hfvE,-⟩:=Sl.of_owns HF6.out.own;subst hfvE;have SB7:=η (HSB.out.below hb7 HSB.out.lt);have HB7:=η hb7;have HOE:=η hoe;have HEK:=η hek;clear c1 c2 hoe hek hb7;have sz1:=HB1.out.size;have szk:=H5.out.size;have sz5:=HG.out.size;have szz:=SZ1.out;have R7:=η (((R3.out.below H5.out R3.out.lt).grown HG.out (fun e=>by injection e with e;omega)).below HB7.out (by have:=HG.out.size;have:=H5.out.size;have:=R3.out.lt;omega));have OK7:ShapeOk P len w.heap.size w7 (.slice av rs.length cvv) (.slice af frs.length cff) (.slice pe el ce) fs E rs frs es:=
      ⟨((V5.out.other HG.out (dR SB5.out ν) (.inr (fun e=>NVV.out e.symm))).below HB7.out).base ω,(HF6.out.below HB7.out).base ω,HV6.out,⟨fun f hf=>cj (aF (HN6.out f hf) HB7.out) (ψ HKS.out),HFC.out.short⟩,cj HOE.out ω,HEK.out,HOK.out⟩
     have OK8:=η (OK7.set SB7.out 2 (.slice pe el ce));have R8:=η (R7.out.other (p:=⟨w1.heap.size,2,none⟩) (by show w.heap.size+1≠w1.heap.size;omega) (.slice pe el ce));have BB8:=η (show Below w.heap.size w (w7.setCell ⟨w1.heap.size,2,none⟩ (.slice pe el ce)) from by
      have hgr:w1.grownBy w7 (some w1.heap.size):=fT (fT (fB H5.out _) HG.out (fun g hg=>.inr hg)) (fB HB7.out none) (fun g hg=>by cases hg);exact HB1.out.grown (fT hgr (bS w7 w1.heap.size 2 (.slice pe el ce)) (fun g hg=>.inr hg)) ω (fun g hg=>by cases hg;omega))
     have d0:=SB7.out.cell 0;have d1:=SB7.out.cell 1;have d2:=SB7.out.cell 2;have f2:=SB7.out.free 2;have r0:=R7.out.cell 0;have r1:=R7.out.cell 1;have r2:=R7.out.cell 2;have g0:=R7.out.free 0;have g1:=R7.out.free 1;have g2:=R7.out.free 2;have ne1:w1.heap.size≠w.heap.size+1:=ω;have ne2:w.heap.size+1≠w1.heap.size:=ω;clear sz1 szk sz5 szz OK7
     go_wp2_with fail
     have O9:=(((OK8.out.set R8.out 0 (.slice av rs.length cvv)).set (R8.out.set 0 (.slice av rs.length cvv)) 1 (.slice af frs.length cff)).set ((R8.out.set 0 (.slice av rs.length cvv)).set 1 (.slice af frs.length cff)) 2 (.slice pe el ce));have B9:=((BB8.out.setCell (p:=⟨w.heap.size+1,0,none⟩) (by show w.heap.size≤w.heap.size+1;omega) (.slice av rs.length cvv)).setCell (p:=⟨w.heap.size+1,1,none⟩) (by show w.heap.size≤w.heap.size+1;omega) (.slice af frs.length cff)).setCell (p:=⟨w.heap.size+1,2,none⟩) (by show w.heap.size≤w.heap.size+1;omega) (.slice pe el ce);exact bP Tryz.results12 (w.heap.size+1) ((R8.out.set3 (.slice av rs.length cvv) (.slice af frs.length cff) (.slice pe el ce))) _ rfl Tryz.underlying32 rfl oN rfl ⟨⟨_,_,_,fs,E,rs,frs,es,rfl,O9⟩,B9⟩
    have hlt:(i:Int)<(fs.length:Int):=ω;have hil:i<fs.length:=ω;have HIL:=η hil;clear h1;obtain ⟨f,hf⟩:∃ f,fs[i]?=some f:=⟨fs[i],List.getElem?_eq_getElem hil⟩;have P6:fF w6 wk.heap.size (.slice ap fs.length cp) (fs.map fun f=>(f.n,f.o)):=World.ownsRow.kept HPL.out HG.out (.inr (fun e=>NPV.out e.symm));have R6:OwnS w6 wk.heap.size (.slice ar fs.length cr) (fs.map RF.v):=World.ownsRow.kept HSL.out HG.out (.inr (fun e=>NRV.out e.symm));obtain ⟨gp,cp',ep,-,hgp,hpc⟩:=P6.at_ (by rw [List.length_map];omega);have ep1:=(Value.slice.inj ep).1;subst ep1;obtain ⟨p0,p1,p2,p3⟩:=hpc i (f.n,f.o) (by rw [List.getElem?_map,hf];rfl);obtain ⟨gr,cr',er,hgr,hrc⟩:=ownS_at R6 (by rw [List.length_map];omega);have er1:=(Value.slice.inj er).1;subst er1;have hr0:=hrc i f.v (by rw [List.getElem?_map,hf];rfl);have hfm:f ∈ fs:=List.mem_of_getElem? hf;obtain ⟨bF,hFace,hfo,hfr⟩:=HOK.out.ok f hfm;have hne:f.n≠V.zero:=hFace.n0;have hfle:LeV 134217728 f.n:=pV HN.out hFace;have hhd:f.r.headD 0<len∧f.r≠[]:=by rw [hfr];exact Face.ring_hd HSO.out hFace
    have hN5:=HFC.out.own f hfm;have NFV:=aW hN5 SB5.out ν;have hN6:dr w6 wk.heap.size f.v f.r:=World.ownsRow.kept hN5 HG.out (.inr (fun e=>NFV e.symm));obtain ⟨av,cv,hv,hints⟩:=dr.ints hN6;obtain ⟨gi,oi,ei,hgi,hci,hic⟩:=hints.cells (List.length_pos_iff.mpr hhd.2);have hi0:=hic 0 (List.length_pos_iff.mpr hhd.2);obtain ⟨hd,hhdq⟩:∃ hd,f.r.headD 0=hd:=⟨_,rfl⟩;have hi1:(f.r.map fun (i:Nat)=>(i:Int)).getD 0 0=(hd:Int):=by
     rw [← hhdq]
     cases hfr':f.r with
     | nil=>exact absurd hfr' hhd.2
     | cons x t=>simp
    rw [hi1] at hi0;rw [hv,ei] at hr0;have V6:VRow w6 (w1.heap.size+1) vv (dU P len) rs:=V5.out.other HG.out (dR SB5.out ν) (.inr (fun e=>NVV.out e.symm));obtain ⟨bV,capV,rV,hvv,hbV,hcV,hbo,hrV,hvecV,hcellV⟩:=V6.at_ hd (ptQ (P hd)) (by unfold dU;rw [List.getElem?_map,List.getElem?_range (by rw [← hhdq];exact hhd.1)];rfl);have HHD:=η hhdq;have HV6:=η V6;have HI0:=η (And.intro hi0 (And.intro hgi hci));have HR0:=η (And.intro hr0 hgr);have HCV:=η (And.intro hcellV hbV);have HVQ:=η hvecV;have HVV:=η (And.intro hvv (And.intro hbo hcV));have HHL:=η (show hd<len from by rw [← hhdq];exact hhd.1);have HRN:=η (List.length_pos_iff.mpr hhd.2);have HFI:=η hf;have HFVV:=η (hv.trans (by rw [ei]));obtain ⟨fn,fo,fvv,fr⟩:=f;dsimp only at p0 p1 p2 p3 hne hfle;have HOF:=η (fun v=>kr fn v (hfle.mono ω));have hq0:ptQ fn≠⟨0,0,0⟩:=fun e=>hne (by
     have e1:=congrArg Q3.x e;have e2:=congrArg Q3.y e;have e3:=congrArg Q3.z e;refine V.ext' ?_ ?_ ?_
     ·show fn.x=0;have:(fn.x:Rat)=0:=e1;exact_mod_cast this
     ·show fn.y=0;have:(fn.y:Rat)=0:=e2;exact_mod_cast this
     ·show fn.z=0;have:(fn.z:Rat)=0:=e3;exact_mod_cast this)
    have hbq:BdV 2 (ptQ fn):=lg (hfle.mono ω);have HBQ:Hid (BdV 2 (ptQ fn)∧ptQ fn≠⟨0,0,0⟩):=⟨hbq,hq0⟩;have HPR:=η (fun x v h=>lm x (ptQ fn) 2 v h hbq ω hq0);clear hpc hrc hr0 hhd hi0 hi1 hhdq hvecV hcellV hvv hbo hcV hbV hgi hci hgr hic hints hfr hFace hfo hfm hN5 hN6 NFV P6 R6 V6 hne hfle hq0 hbq hf hv ei ep er hrV
    go_upto_region 14 with fail
    obtain ⟨W7,hW7,b7,hB7,hS7⟩:=aG w6 #[.int .i64 fn.x,.int .i64 fn.y,.int .i64 fn.z,.int .u64 (fo:Int)] 120;rw [hW7];have HB7:=η hB7;obtain ⟨z0,z1,z2,z3,-⟩:=b7.four;clear hW7 b7 hS7 hB7 p0 p1 p2 p3 hgp
    go_wp2_with fail
    refine (HOF.out _).mono ?_;rintro e w8 ⟨⟨v8,rfl,hv8⟩,hb8⟩;have HB8:=η (ae HB7.out hb8 ρ);clear hb8 z0 z1 z2 z3
    go_wp2_with fail
    refine (HPR.out _ _ hv8).mono ?_;rintro e w9 ⟨⟨v9,rfl,hv9⟩,hb9⟩;obtain ⟨n0,n1,n2,rfl,hnv⟩:=hv9.rcv;have HNV:=η hnv;have HB9:=η (ae HB8.out hb9 ρ);clear hv8 hv9 hnv hb9
    go_upto_region 15 with fail
    obtain ⟨W10,hW10,b10,hB10,hS10⟩:=aG w9 (ah n0 n1 n2) 58;unfold ah at hW10;rw [hW10];have NB:=η b10;have HB10:=η (ae HB9.out hB10 ρ);have SB10:=η (HSB.out.below HB10.out HSB.out.lt);have FR10:=η (HF.out.below HB10.out);have HBG:=η (show w5.heap.size≤W10.heap.size from Nat.le_trans HG.out.size HB10.out.size);obtain ⟨hvv,hbo,hcV⟩:=HVV.out;rw [show (dU P len).length=len by simp [dU]] at hvv hcV;obtain ⟨u0,u1,u2⟩:=rV;have LT:Hid (gr<w5.heap.size∧gi<w5.heap.size∧bV<w5.heap.size):=
     ⟨(World.ownsRow.lt HSL.out gr rfl).2,(World.ownsRow.lt (HFC.out.own _ (List.mem_of_getElem? HFI.out)) gi (by rw [HFVV.out];rfl)).2,(World.ownsRow.lt V5.out.own bV hbo).2⟩
    have hbq:BdV 18 (cI (ptQ fn)):=bd_primQ HBQ.out;have hbp:BdV 2 (ptQ (P hd)):=lg ((HN.out hd HHL.out).mono ω);have HDT:=η (fun v x y h1 h2=>gF x y (cI (ptQ fn)) (ptQ (P hd)) 18 2 v h1 h2 hbq hbp ω);have HVQ10:=η (HVQ.out.below HB10.out);have hfrl:frs.length≤262144:=by have:=congrArg List.length HFV.out;rw [List.length_map,List.length_map,List.length_take] at this;omega
    obtain ⟨j0,jinf,jz0,jz1,jz2⟩:=info_parts infoFace;have KP:Hid (∀ w',Below W10.heap.size W10 w'→w'.cell? ⟨w1.heap.size,0,none⟩=some (.slice (some ⟨bV,0,none⟩) len capV)∧w'.cell? ⟨w1.heap.size,1,none⟩=some fv∧w'.cell? ⟨w9.heap.size,0,none⟩=some (.bool n0.s)∧w'.cell? ⟨w9.heap.size,1,none⟩=some (.slice n0.a n0.n n0.c)∧w'.cell? ⟨w9.heap.size,2,none⟩=some (.bool n0.t)∧w'.cell? ⟨w9.heap.size,3,none⟩=some (.slice n0.b n0.m n0.d)∧w'.cell? ⟨w9.heap.size,4,none⟩=some (.bool n1.s)∧w'.cell? ⟨w9.heap.size,5,none⟩=some (.slice n1.a n1.n n1.c)∧w'.cell? ⟨w9.heap.size,6,none⟩=some (.bool n1.t)∧w'.cell? ⟨w9.heap.size,7,none⟩=some (.slice n1.b n1.m n1.d)∧w'.cell? ⟨w9.heap.size,8,none⟩=some (.bool n2.s)∧w'.cell? ⟨w9.heap.size,9,none⟩=some (.slice n2.a n2.n n2.c)∧w'.cell? ⟨w9.heap.size,10,none⟩=some (.bool n2.t)∧w'.cell? ⟨w9.heap.size,11,none⟩=some (.slice n2.b n2.m n2.d)∧w'.cell? ⟨gr,i,none⟩=some (.slice (some ⟨gi,oi,none⟩) fr.length cv)∧w'.cell? ⟨gi,oi,none⟩=some (.int .i64 (hd:Nat))∧Λ w' bV (hd*12) u0 u1 u2):=fun w' h=>by
     have h6:=ae HB10.out h (ψ HB10.out.size);have sb:=SB10.out.below h SB10.out.lt;have nb:=NB.out.below h NB.out.lt;obtain ⟨a0,a1,a2,a3⟩:=nb.p0.1;obtain ⟨a4,a5,a6,a7⟩:=nb.p1.1;obtain ⟨a8,a9,a10,a11⟩:=nb.p2.1;have cv12:=fun (j:Nat) (v:Value) (hj:j<12) (he:(bO (u0,u1,u2))[j]?=some v)=>keepC (p:=⟨bV,hd*12+j,none⟩) ((HCV.out.1 j hj).trans he) h6 HCV.out.2
     refine ⟨(sb.cell 0).trans (by rw [hvv];rfl),sb.cell 1,a0,a1,a2,a3,a4,a5,a6,a7,a8,a9,a10,a11,keepC HR0.out.1 h6 HR0.out.2,keepC HI0.out.1 h6 HI0.out.2.1,cv12 0 _ ω rfl,cv12 1 _ ω rfl,cv12 2 _ ω rfl,cv12 3 _ ω rfl,cv12 4 _ ω rfl,cv12 5 _ ω rfl,cv12 6 _ ω rfl,cv12 7 _ ω rfl,cv12 8 _ ω rfl,cv12 9 _ ω rfl,cv12 10 _ ω rfl,cv12 11 _ ω rfl⟩
    have hS0:=KP.out W10.drew β.drew;have hi0':(i:Int)<(fs.length:Int):=by have:=HIL.out;omega
    have hi1':(hd:Int)<(len:Int):=by have:=HHL.out;omega
    have hi2':(0:Int)<(fr.length:Int):=by have:0<fr.length:=HRN.out;omega
    have hi3':0<fr.length:=HRN.out;clear hvv hbo hcV hbq hbp hW10 hS10;refine fH (S:=fun w'=>w'.cell? ⟨w1.heap.size,0,none⟩=some (.slice (some ⟨bV,0,none⟩) len capV)∧w'.cell? ⟨w1.heap.size,1,none⟩=some fv∧w'.cell? ⟨w9.heap.size,0,none⟩=some (.bool n0.s)∧w'.cell? ⟨w9.heap.size,1,none⟩=some (.slice n0.a n0.n n0.c)∧w'.cell? ⟨w9.heap.size,2,none⟩=some (.bool n0.t)∧w'.cell? ⟨w9.heap.size,3,none⟩=some (.slice n0.b n0.m n0.d)∧w'.cell? ⟨w9.heap.size,4,none⟩=some (.bool n1.s)∧w'.cell? ⟨w9.heap.size,5,none⟩=some (.slice n1.a n1.n n1.c)∧w'.cell? ⟨w9.heap.size,6,none⟩=some (.bool n1.t)∧w'.cell? ⟨w9.heap.size,7,none⟩=some (.slice n1.b n1.m n1.d)∧w'.cell? ⟨w9.heap.size,8,none⟩=some (.bool n2.s)∧w'.cell? ⟨w9.heap.size,9,none⟩=some (.slice n2.a n2.n n2.c)∧w'.cell? ⟨w9.heap.size,10,none⟩=some (.bool n2.t)∧w'.cell? ⟨w9.heap.size,11,none⟩=some (.slice n2.b n2.m n2.d)∧w'.cell? ⟨gr,i,none⟩=some (.slice (some ⟨gi,oi,none⟩) fr.length cv)∧w'.cell? ⟨gi,oi,none⟩=some (.int .i64 (hd:Nat))∧Λ w' bV (hd*12) u0 u1 u2) (by simp) κ κ ?_;dsimp only [List.dropLast,List.getLast];refine wpAnyH_take (i:=0) (v:=?_) rfl κ κ κ (fun _ _ _ h=>h) (Or.inl ⟨by rfl,?hy⟩) (by assumption) ?rest
    case hy=>intro w' hSw;(try dsimp only at hSw);go_simp;try with_reducible rfl
    case rest =>
    try simp only [Act.put,List.setIfInBounds_toArray,List.set_cons_zero,List.set_cons_succ]
    refine wpAnyH_take (i:=1) (v:=?_) rfl κ κ κ (fun _ _ _ h=>h) (Or.inl ⟨by rfl,?hy⟩) (by assumption) ?rest
    case hy=>intro w' hSw;(try dsimp only at hSw);go_simp;try with_reducible rfl
    case rest =>
    try simp only [Act.put,List.setIfInBounds_toArray,List.set_cons_zero,List.set_cons_succ]
    refine wpAnyH_take (i:=2) (v:=?_) rfl κ κ κ (fun _ _ _ h=>h) (Or.inl ⟨by rfl,?hy⟩) (by assumption) ?rest
    case hy=>intro w' hSw;(try dsimp only at hSw);go_simp;try with_reducible rfl
    case rest =>
    try simp only [Act.put,List.setIfInBounds_toArray,List.set_cons_zero,List.set_cons_succ]
    refine wpAnyH_take (i:=3) (v:=?_) rfl κ κ κ (fun _ _ _ h=>h) (Or.inl ⟨by rfl,?hy⟩) (by assumption) ?rest
    case hy=>intro w' hSw;(try dsimp only at hSw);go_simp;try with_reducible rfl
    case rest =>
    try simp only [Act.put,List.setIfInBounds_toArray,List.set_cons_zero,List.set_cons_succ]
    refine wpAnyH_take (i:=4) (v:=?_) rfl κ κ κ (fun _ _ _ h=>h) (Or.inl ⟨by rfl,?hy⟩) (by assumption) ?rest
    case hy=>intro w' hSw;(try dsimp only at hSw);go_simp;try with_reducible rfl
    case rest =>
    try simp only [Act.put,List.setIfInBounds_toArray,List.set_cons_zero,List.set_cons_succ]
    refine wpAnyH_take (i:=5) (v:=?_) rfl κ κ κ (fun _ _ _ h=>h) (Or.inl ⟨by rfl,?hy⟩) (by assumption) ?rest
    case hy=>intro w' hSw;(try dsimp only at hSw);go_simp;try with_reducible rfl
    case rest =>
    try simp only [Act.put,List.setIfInBounds_toArray,List.set_cons_zero,List.set_cons_succ]
    refine wpAnyH_take (i:=6) (v:=?_) rfl κ κ κ (fun _ _ _ h=>h) (Or.inl ⟨by rfl,?hy⟩) (by assumption) ?rest
    case hy=>intro w' hSw;(try dsimp only at hSw);go_simp;try with_reducible rfl
    case rest =>
    try simp only [Act.put,List.setIfInBounds_toArray,List.set_cons_zero,List.set_cons_succ]
    refine wpAnyH_take (i:=7) (v:=?_) rfl κ κ κ (fun _ _ _ h=>h) (Or.inl ⟨by rfl,?hy⟩) (by assumption) ?rest
    case hy=>intro w' hSw;(try dsimp only at hSw);go_simp;try with_reducible rfl
    case rest =>
    try simp only [Act.put,List.setIfInBounds_toArray,List.set_cons_zero,List.set_cons_succ]
    refine wpAnyH_take (i:=8) (v:=?_) rfl κ κ κ (fun _ _ _ h=>h) (Or.inl ⟨by rfl,?hy⟩) (by assumption) ?rest
    case hy=>intro w' hSw;(try dsimp only at hSw);go_simp;try with_reducible rfl
    case rest =>
    try simp only [Act.put,List.setIfInBounds_toArray,List.set_cons_zero,List.set_cons_succ]
    refine wpAnyH_take (i:=9) (v:=?_) rfl κ κ κ (fun _ _ _ h=>h) (Or.inl ⟨by rfl,?hy⟩) (by assumption) ?rest
    case hy=>intro w' hSw;(try dsimp only at hSw);go_simp;try with_reducible rfl
    case rest =>
    try simp only [Act.put,List.setIfInBounds_toArray,List.set_cons_zero,List.set_cons_succ]
    refine wpAnyH_take (i:=10) (v:=?_) rfl κ κ κ (fun _ _ _ h=>h) (Or.inl ⟨by rfl,?hy⟩) (by assumption) ?rest
    case hy=>intro w' hSw;(try dsimp only at hSw);go_simp;try with_reducible rfl
    case rest =>
    try simp only [Act.put,List.setIfInBounds_toArray,List.set_cons_zero,List.set_cons_succ]
    refine wpAnyH_take (i:=11) (v:=?_) rfl κ κ κ (fun _ _ _ h=>h) (Or.inl ⟨by rfl,?hy⟩) (by assumption) ?rest
    case hy=>intro w' hSw;(try dsimp only at hSw);go_simp;try with_reducible rfl
    case rest =>
    try simp only [Act.put,List.setIfInBounds_toArray,List.set_cons_zero,List.set_cons_succ]
    refine wpAnyH_take (i:=12) (v:=?_) rfl κ κ κ (fun _ _ _ h=>h) (Or.inl ⟨by rfl,?hy⟩) (by assumption) ?rest
    case hy=>intro w' hSw;(try dsimp only at hSw);go_simp;try with_reducible rfl
    case rest =>
    try simp only [Act.put,List.setIfInBounds_toArray,List.set_cons_zero,List.set_cons_succ]
    refine wpAnyH_take (i:=13) (v:=?_) rfl κ κ κ (fun _ _ _ h=>h) (Or.inl ⟨by rfl,?hy⟩) (by assumption) ?rest
    case hy=>intro w' hSw;(try dsimp only at hSw);go_simp;try with_reducible rfl
    case rest =>
    try simp only [Act.put,List.setIfInBounds_toArray,List.set_cons_zero,List.set_cons_succ]
    refine wpAnyH_take (i:=15) (v:=?_) rfl κ κ κ (fun _ _ _ h=>h) (Or.inl ⟨by rfl,?hy⟩) (by assumption) ?rest
    case hy=>intro w' hSw;(try dsimp only at hSw);go_simp;try with_reducible rfl
    case rest =>
    try simp only [Act.put,List.setIfInBounds_toArray,List.set_cons_zero,List.set_cons_succ]
    refine wpAnyH_take (i:=16) (v:=?_) rfl κ κ κ (fun _ _ _ h=>h) (Or.inl ⟨by rfl,?hy⟩) (by assumption) ?rest
    case hy=>intro w' hSw;(try dsimp only at hSw);go_simp;try with_reducible rfl
    case rest =>
    try simp only [Act.put,List.setIfInBounds_toArray,List.set_cons_zero,List.set_cons_succ]
    refine wpAnyH_take (i:=17) (v:=?_) rfl κ κ κ (fun _ _ _ h=>h) (Or.inl ⟨by rfl,?hy⟩) (by assumption) ?rest
    case hy=>intro w' hSw;(try dsimp only at hSw);go_simp;try with_reducible rfl
    case rest =>
    try simp only [Act.put,List.setIfInBounds_toArray,List.set_cons_zero,List.set_cons_succ]
    refine wpAnyH_take (i:=18) (v:=?_) rfl κ κ κ (fun _ _ _ h=>h) (Or.inl ⟨by rfl,?hy⟩) (by assumption) ?rest
    case hy=>intro w' hSw;(try dsimp only at hSw);go_simp;try with_reducible rfl
    case rest =>
    try simp only [Act.put,List.setIfInBounds_toArray,List.set_cons_zero,List.set_cons_succ]
    refine wpAnyH_ready (rs:=[14]) κ (by simp) ?_;refine AllReadyH.cons rfl (fun K hK=>?_) AllReadyH.nil;go_simp
    go_at_call 44;refine (HDT.out _ _ _ (HNV.out.below (ae hB10 β.drew ρ)) (HVQ10.out.below β.drew)).mono ?_;rintro e y1 ⟨⟨v1,rfl,hv1⟩,hb1⟩
    obtain ⟨ro,rfl,hro⟩:=hv1.rcv;have HRO:=η hro;have N1:=η (show Below W10.heap.size W10 y1 from ae β.drew hb1 ρ);clear hv1 hro hb1;refine hK.out _ _ ?hS (fun hHeld=>?rest)
    case hS=>(try dsimp only);exact KP.out _ N1.out
    case rest =>
    clear hK K
    try simp only [Act.put,List.setIfInBounds_toArray,List.set_cons_zero,List.set_cons_succ]
    refine wpAnyH_take (i:=19) (v:=?_) rfl κ κ κ (fun _ _ _ h=>h) (Or.inl ⟨by rfl,?hy⟩) (by assumption) ?rest
    case hy=>intro w' hSw;(try dsimp only at hSw);go_simp;try with_reducible rfl
    case rest =>
    try simp only [Act.put,List.setIfInBounds_toArray,List.set_cons_zero,List.set_cons_succ]
    refine wpAnyH_ready (rs:=[20]) κ (by simp) ?_;refine AllReadyH.cons rfl (fun K hK=>?_) AllReadyH.nil;go_simp;refine hK.out _ _ ?hS (fun hHeld=>?rest)
    case hS=>(try dsimp only);exact KP.out _ (N1.out.alloc N1.out.size _)
    case rest =>
    clear hK K
    try simp only [Act.put,List.setIfInBounds_toArray,List.set_cons_zero,List.set_cons_succ]
    refine wpAnyH_ready (rs:=[21]) κ (by simp) ?_;refine AllReadyH.cons rfl (fun K hK=>?_) AllReadyH.nil;refine step_append_lies _ rfl (.tmp 58) (.tmp 77) 29 rfl w5.heap.size 98 j0 (.agg #[.bool false,.slice none 0 0,.bool false,.slice none 0 0,.bool false,.slice none 0 0,.bool false,.slice none 0 0,.bool false,.slice none 0 0,.bool false,.slice none 0 0,.bool false,.slice none 0 0,.bool false,.slice none 0 0,.slice none 0 0]) 17 280 Tryz.underlying29 jinf jz0 jz1 jz2 rfl ν fv frs.length (frs.flatMap dj) (by simp [Act.eval,Act.put]) (World.ownsRow.alloc (FR10.out.below N1.out).own _) _ 1 1 (dj ⟨(n0,n1,n2),ro,.slice (some ⟨gi,oi,none⟩) fr.length cv⟩) (by simp [Act.eval,Act.put]) rfl (fun j u hj=>Box.news (Box.new1 _ _ _) j u hj) (by intro u hu;simp [dj,bO,ah,rc4] at hu;rcases hu with rfl | rfl | rfl | rfl | rfl | rfl | rfl | rfl | rfl | rfl | rfl | rfl | rfl | rfl | rfl | rfl | rfl <;> rfl) ω (by unfold maxLen;omega) ω (by have:=N1.out.size;have:=HBG.out;simp;omega) _ rfl ?_;intro g cg wB hown hgrow hat hlt2;obtain ⟨YA,hYA⟩:∃ YA,y1.alloc (.cells (dj ⟨(n0,n1,n2),ro,.slice (some ⟨gi,oi,none⟩) fr.length cv⟩).toArray 98)=YA:=⟨_,rfl⟩;have hYB:Below y1.heap.size y1 YA:=by rw [← hYA];exact β.alloc ρ _
    replace hgrow:YA.grownBy wB fv.ownBlock:=by rw [← hYA];exact hgrow
    have N2:Below W10.heap.size W10 YA:=ae N1.out hYB ρ;have FA:=(FR10.out.below N1.out).below hYB;have FB:=η (FRow.app (r:=⟨(n0,n1,n2),ro,.slice (some ⟨gi,oi,none⟩) fr.length cv⟩) (q:=(cI (ptQ fn),bt (cI (ptQ fn)) (ptQ (P hd)))) FA (HNV.out.below (ae hB10 N2 ρ)) (HRO.out.below hYB) hown hgrow);have SA:=(SB10.out.below N2 SB10.out.lt);have NA:=(NB.out.below N2 NB.out.lt);have nes:=aW FA.own SA ν;have nen:=aW FA.own NA ν;have hge:=cJ FA.own;have ner:some gr≠fv.ownBlock:=fun e=>by have:=hge gr e.symm;have:=LT.out.1;omega
    have nei:some gi≠fv.ownBlock:=fun e=>by have:=hge gi e.symm;have:=LT.out.2.1;omega
    have nev:some bV≠fv.ownBlock:=fun e=>by have:=hge bV e.symm;have:=LT.out.2.2;omega
    have SBB:=η (SA.grown hgrow nes);have hGB:w5.grownBy wB (some w1.heap.size):=fT (fT HG.out (fB (ae HB10.out N2 (ψ HB10.out.size)) _) (fun g hg=>.inr hg)) hgrow (fun g hg=>.inl (by have:=hge g hg;exact this));have HGB:=η hGB;have KS:Hid (wB.cell? ⟨w1.heap.size,0,none⟩=some (.slice (some ⟨bV,0,none⟩) len capV)∧wB.cell? ⟨w1.heap.size,1,none⟩=some fv∧wB.cell? ⟨w9.heap.size,0,none⟩=some (.bool n0.s)∧wB.cell? ⟨w9.heap.size,1,none⟩=some (.slice n0.a n0.n n0.c)∧wB.cell? ⟨w9.heap.size,2,none⟩=some (.bool n0.t)∧wB.cell? ⟨w9.heap.size,3,none⟩=some (.slice n0.b n0.m n0.d)∧wB.cell? ⟨w9.heap.size,4,none⟩=some (.bool n1.s)∧wB.cell? ⟨w9.heap.size,5,none⟩=some (.slice n1.a n1.n n1.c)∧wB.cell? ⟨w9.heap.size,6,none⟩=some (.bool n1.t)∧wB.cell? ⟨w9.heap.size,7,none⟩=some (.slice n1.b n1.m n1.d)∧wB.cell? ⟨w9.heap.size,8,none⟩=some (.bool n2.s)∧wB.cell? ⟨w9.heap.size,9,none⟩=some (.slice n2.a n2.n n2.c)∧wB.cell? ⟨w9.heap.size,10,none⟩=some (.bool n2.t)∧wB.cell? ⟨w9.heap.size,11,none⟩=some (.slice n2.b n2.m n2.d)∧wB.cell? ⟨gr,i,none⟩=some (.slice (some ⟨gi,oi,none⟩) fr.length cv)∧wB.cell? ⟨gi,oi,none⟩=some (.int .i64 (hd:Nat))∧Λ wB bV (hd*12) u0 u1 u2):=by
     obtain ⟨c0,c1,c2,c3,c4,c5,c6,c7,c8,c9,c10,c11,c12,c13,c14,c15,c16,c17,c18,c19,c20,c21,c22,c23,c24,c25,c26,c27⟩:=KP.out _ N2;exact ⟨World.grownBy.cell hgrow c0 nes,World.grownBy.cell hgrow c1 nes,World.grownBy.cell hgrow c2 nen,World.grownBy.cell hgrow c3 nen,World.grownBy.cell hgrow c4 nen,World.grownBy.cell hgrow c5 nen,World.grownBy.cell hgrow c6 nen,World.grownBy.cell hgrow c7 nen,World.grownBy.cell hgrow c8 nen,World.grownBy.cell hgrow c9 nen,World.grownBy.cell hgrow c10 nen,World.grownBy.cell hgrow c11 nen,World.grownBy.cell hgrow c12 nen,World.grownBy.cell hgrow c13 nen,World.grownBy.cell hgrow c14 ner,World.grownBy.cell hgrow c15 nei,World.grownBy.cell hgrow c16 nev,World.grownBy.cell hgrow c17 nev,World.grownBy.cell hgrow c18 nev,World.grownBy.cell hgrow c19 nev,World.grownBy.cell hgrow c20 nev,World.grownBy.cell hgrow c21 nev,World.grownBy.cell hgrow c22 nev,World.grownBy.cell hgrow c23 nev,World.grownBy.cell hgrow c24 nev,World.grownBy.cell hgrow c25 nev,World.grownBy.cell hgrow c26 nev,World.grownBy.cell hgrow c27 nev⟩
    clear hown hgrow hat hlt2 hYA hYB N2 FA SA NA nes nen hge ner nei nev hGB;refine hK.out _ _ ?hS (fun hHeld=>?rest)
    case hS=>(try dsimp only);exact KS.out
    case rest =>
    clear hK K
    try simp only [Act.put,List.setIfInBounds_toArray,List.set_cons_zero,List.set_cons_succ]
    refine wpAnyH_take (i:=22) (v:=?_) rfl κ κ κ (fun _ _ _ h=>h) (Or.inl ⟨by rfl,?hy⟩) (by assumption) ?rest
    case hy=>intro w' hSw;(try dsimp only at hSw);go_simp;try with_reducible rfl
    case rest =>
    try simp only [Act.put,List.setIfInBounds_toArray,List.set_cons_zero,List.set_cons_succ]
    refine wpAnyH_done κ ?_ _;show Oper.wp _ _ _ _ _ _;have f1:=SBB.out.free 1;have e1:=SBB.out.cell 1;go_simp;clear f1 e1;go_wp2;go_round
    case rel =>
     refine ⟨i+1,by have:=HIL.out;omega,rfl,_,frs ++ [⟨(n0,n1,n2),ro,.slice (some ⟨gi,oi,none⟩) fr.length cv⟩],SBB.out.set 1 _,?_,?_,fT HGB.out (bS _ _ _ _) (fun g hg=>.inr hg)⟩
     ·show FRow _ _ _ _ _
      rw [fR HFI.out,List.map_append];have e:[(⟨fn,fo,fvv,fr⟩:RF)].map (gM P)=[(cI (ptQ fn),bt (cI (ptQ fn)) (ptQ (P hd)))]:=by
       show [gM P ⟨fn,fo,fvv,fr⟩]=_;unfold gM;rw [HHD.out]
      rw [e];exact FB.out.set SBB.out ν ν 1 _
     ·show _=_
      rw [fR HFI.out,List.map_append,List.map_append,HFV.out];show _ ++ [_]=_ ++ [fvv];rw [HFVV.out]
    case measure=>show fs.length - ((i:Int)+1).toNat<fs.length - (i:Int).toNat;have:=HIL.out;omega
  have hlt:(k:Int)<(len:Int):=ω;have hkl:k<len:=ω;have HKL:=η hkl;clear h0;obtain ⟨b,off,rfl,hb,hc,hcc⟩:=(HP1.out.below HR.out).cells ω;obtain ⟨q0,q1,q2⟩:=hcc k hkl;have LP:=η ((HN.out k hkl).mono (show (4096:Int)≤9007199254740992 by omega));obtain ⟨p,hp⟩:∃ p,P k=p:=⟨_,rfl⟩;rw [hp] at q0 q1 q2 LP;have HPK:=η hp;clear hcc hp
  go_upto_region 8 with fail
  obtain ⟨Wp,hWp,bp,hBp,hSp⟩:=aG wk #[.int .i64 p.x,.int .i64 p.y,.int .i64 p.z] 46;rw [hWp];have PB:=η bp;have SB:=η (HSB.out.below hBp HSB.out.lt);have VR:=η (HV.out.below hBp);have HR1:=η (ae HR.out hBp ρ);have GS:=η (show w1.heap.size<wk.heap.size from HSB.out.lt);have hnev:some w1.heap.size≠vv.ownBlock:=aW VR.out.own SB.out ν;have hnep:some wk.heap.size≠vv.ownBlock:=aW VR.out.own PB.out ν;have NEV:=η hnev;have NEP:=η hnep;have HOF:=η (fun v=>kr p v LP.out);have hrl:rs.length≤16:=by have:=HRL.out;omega
  clear hWp bp hBp hSp q0 q1 q2 hb hnev hnep;have hS0:Wp.drew.cell? ⟨w1.heap.size,0,none⟩=some vv∧Wp.drew.cell? ⟨wk.heap.size,0,none⟩=some (.int .i64 p.x)∧Wp.drew.cell? ⟨wk.heap.size,1,none⟩=some (.int .i64 p.y)∧Wp.drew.cell? ⟨wk.heap.size,2,none⟩=some (.int .i64 p.z):=by
   obtain ⟨p0,p1,p2,-⟩:=PB.out.three;have s0:=SB.out.cell 0;exact ⟨s0,p0,p1,p2⟩
  refine fH (S:=fun w'=>w'.cell? ⟨w1.heap.size,0,none⟩=some vv∧w'.cell? ⟨wk.heap.size,0,none⟩=some (.int .i64 p.x)∧w'.cell? ⟨wk.heap.size,1,none⟩=some (.int .i64 p.y)∧w'.cell? ⟨wk.heap.size,2,none⟩=some (.int .i64 p.z)) (by simp) κ κ ?_;dsimp only [List.dropLast,List.getLast];refine wpAnyH_take (i:=0) (v:=?_) rfl κ κ κ (fun _ _ _ h=>h) (Or.inl ⟨by rfl,?hy⟩) (by assumption) ?rest
  case hy=>intro w' hSw;(try dsimp only at hSw);go_simp;try with_reducible rfl
  case rest =>
  try simp only [Act.put,List.setIfInBounds_toArray,List.set_cons_zero,List.set_cons_succ]
  refine wpAnyH_take (i:=1) (v:=?_) rfl κ κ κ (fun _ _ _ h=>h) (Or.inl ⟨by rfl,?hy⟩) (by assumption) ?rest
  case hy=>intro w' hSw;(try dsimp only at hSw);go_simp;try with_reducible rfl
  case rest =>
  try simp only [Act.put,List.setIfInBounds_toArray,List.set_cons_zero,List.set_cons_succ]
  refine wpAnyH_take (i:=2) (v:=?_) rfl κ κ κ (fun _ _ _ h=>h) (Or.inl ⟨by rfl,?hy⟩) (by assumption) ?rest
  case hy=>intro w' hSw;(try dsimp only at hSw);go_simp;try with_reducible rfl
  case rest =>
  try simp only [Act.put,List.setIfInBounds_toArray,List.set_cons_zero,List.set_cons_succ]
  refine wpAnyH_ready (rs:=[3]) κ (by simp) ?_;refine AllReadyH.cons rfl (fun K hK=>?_) AllReadyH.nil;go_simp
  go_at_call 22;refine (HOF.out _).mono ?_;rintro e y1 ⟨⟨v1,rfl,hv1⟩,hb1⟩
  obtain ⟨r0,r1,r2,rfl,hr⟩:=hv1.rcv;have R1:=η hr;have N1:=η (show Below Wp.heap.size Wp y1 from ae β.drew hb1 ρ);clear hv1 hr hb1;refine hK.out _ _ ?hS (fun hHeld=>?rest)
  case hS=>(try dsimp only);exact ⟨(SB.out.below N1.out SB.out.lt).cell 0,((PB.out.below N1.out PB.out.lt).three).1,((PB.out.below N1.out PB.out.lt).three).2.1,((PB.out.below N1.out PB.out.lt).three).2.2.1⟩
  case rest =>
  clear hK K
  try simp only [Act.put,List.setIfInBounds_toArray,List.set_cons_zero,List.set_cons_succ]
  refine wpAnyH_ready (rs:=[4]) κ (by simp) ?_;refine AllReadyH.cons rfl (fun K hK=>?_) AllReadyH.nil;go_simp;refine hK.out _ _ ?hS (fun hHeld=>?rest)
  case hS=>(try dsimp only);exact ⟨((SB.out.below N1.out SB.out.lt).old _).cell 0,(((PB.out.below N1.out PB.out.lt).old _).three).1,(((PB.out.below N1.out PB.out.lt).old _).three).2.1,(((PB.out.below N1.out PB.out.lt).old _).three).2.2.1⟩
  case rest =>
  clear hK K
  try simp only [Act.put,List.setIfInBounds_toArray,List.set_cons_zero,List.set_cons_succ]
  refine wpAnyH_ready (rs:=[5]) κ (by simp) ?_;refine AllReadyH.cons rfl (fun K hK=>?_) AllReadyH.nil;refine step_append_lies _ rfl (.tmp 29) (.tmp 32) 28 rfl (w1.heap.size+1) 58 i0 (.agg (ah RC.zero RC.zero RC.zero)) 12 192 Tryz.underlying28 hinf hz0 hz1 hz2 rfl ν vv rs.length (rs.flatMap bO) (by simp [Act.eval,Act.put]) (World.ownsRow.alloc (VR.out.below N1.out).own _) _ 1 1 (bO (r0,r1,r2)) (by simp [Act.eval,Act.put]) rfl (fun j u hj=>Box.news (Box.new1 _ _ _) j u hj) (by intro u hu;simp [bO,ah] at hu;rcases hu with rfl | rfl | rfl | rfl | rfl | rfl | rfl | rfl | rfl | rfl | rfl | rfl <;> rfl) ω (by unfold maxLen;omega) ω (by have:=N1.out.size;have:=GS.out;have:=PB.out.lt;simp;omega) _ rfl ?_;intro g cg wB hown hgrow hat hlt2;have V1:=(VR.out.below N1.out).below ((Below.refl y1.heap.size y1).alloc ρ (.cells (ah r0 r1 r2) 58));have VB:=η (VRow.app (r:=(r0,r1,r2)) V1 (R1.out.below ((Below.refl y1.heap.size y1).alloc ρ (.cells (ah r0 r1 r2) 58))) hown hgrow);have SBB:=η (((SB.out.below N1.out SB.out.lt).old (.cells (ah r0 r1 r2) 58)).grown hgrow NEV.out);have PBB:=η (((PB.out.below N1.out PB.out.lt).old (.cells (ah r0 r1 r2) 58)).grown hgrow NEP.out);have OGE:=cJ VR.out.own;have hBB:Below w1.heap.size w1 wB:=((ae HR1.out N1.out (ψ HR1.out.size)).alloc (by have:=HR1.out.size;have:=N1.out.size;omega) (.cells (ah r0 r1 r2) 58)).grown hgrow (by have:=HR1.out.size;have:=N1.out.size;simp;omega) (fun g hg=>by have:=OGE g hg;omega);have HBB:=η hBB;clear V1 OGE hBB hown hgrow hat hlt2;refine hK.out _ _ ?hS (fun hHeld=>?rest)
  case hS=>(try dsimp only);exact ⟨SBB.out.cell 0,PBB.out.three.1,PBB.out.three.2.1,PBB.out.three.2.2.1⟩
  case rest =>
  clear hK K
  try simp only [Act.put,List.setIfInBounds_toArray,List.set_cons_zero,List.set_cons_succ]
  refine wpAnyH_take (i:=6) (v:=?_) rfl κ κ κ (fun _ _ _ h=>h) (Or.inl ⟨by rfl,?hy⟩) (by assumption) ?rest
  case hy=>intro w' hSw;(try dsimp only at hSw);go_simp;try with_reducible rfl
  case rest =>
  try simp only [Act.put,List.setIfInBounds_toArray,List.set_cons_zero,List.set_cons_succ]
  refine wpAnyH_done κ ?_ _;show Oper.wp _ _ _ _ _ _;have f0:=SBB.out.free 0;have c0:=SBB.out.cell 0;go_simp;clear f0 c0;go_wp2;go_round
  case rel=>exact ⟨k+1,by have:=HKL.out;omega,rfl,_,_,SBB.out.set 0 _,by
   show VRow _ _ _ _ _;rw [ptsQ_succ,HPK.out];exact VB.out.set SBB.out ν ν 0 _,HBB.out.setCell ρ _⟩
  case measure=>show len - ((k:Int)+1).toNat<len - (k:Int).toNat;have:=HKL.out;omega
end Go.Proofs.Υ
end

section
namespace Dowel
end Dowel
namespace Go.Proofs.Υ
open Go.RowKit Dowel
end Go.Proofs.Υ
end

section
namespace Dowel
open V
theorem qdot_pt (a b:V):bt (ptQ a) (ptQ b)=((dot a b:Int):Rat):=by
 unfold bt ptQ dot;simp only [Rat.intCast_add,Rat.intCast_mul]
theorem jM {g x y:Int} (hg:g≠0) (h:x=g*y):Rat.divInt 1 g*(x:Rat)=(y:Rat):=by
 have h0:(g:Rat)≠0:=fun e=>hg (by exact_mod_cast e)
 rw [h,Rat.divInt_eq_div,Rat.intCast_mul,Rat.div_def,← Rat.mul_assoc,Rat.mul_assoc _ _ (g:Rat),Rat.inv_mul_cancel _ h0];simp
theorem primQ_pt {a:V} (h:a≠V.zero):cI (ptQ a)=ptQ (aQ a):=by
 have hd:cZ (ptQ a) 3=1:=by
  have e:∀ i,((ptQ a).at i).den=1:=fun i=>by
   match i with
   | 0=>rfl
   | 1=>rfl
   | _+2=>rfl
  unfold cZ cZ cZ cZ;rw [e,e,e]
  decide
 have h1:∀ t:Rat,((1:Int):Rat)*t=t:=fun t=>by rw [Rat.intCast_one,Rat.one_mul]
 have hg:iD (ptQ a) 3=cx a:=by
  unfold iD iD iD iD cx Q3.at ptQ;simp [Int.gcd]
 have hgp:=eO h;obtain ⟨m1,m2,m3⟩:=ji a;unfold cI;rw [hd];simp only [h1];rw [show (⟨(ptQ a).x,(ptQ a).y,(ptQ a).z⟩:Q3)=ptQ a from rfl,hg];have g0:(cx a:Int)≠0:=ω;show (⟨_,_,_⟩:Q3)=⟨_,_,_⟩;rw [show (ptQ a).x=(a.x:Rat) from rfl,show (ptQ a).y=(a.y:Rat) from rfl,show (ptQ a).z=(a.z:Rat) from rfl,jM g0 m1,jM g0 m2,jM g0 m3]
variable {P : Nat → V} {N E : Nat} {fs : List RF}
def plF (P:Nat→V) (f:RF):Pl:=⟨aQ f.n,dot (aQ f.n) (P (f.r.headD 0))⟩
theorem RingsOk.pl (h:RingsOk P N fs E) (hS:Sorted P N) {f:RF} (hf:f ∈ fs):∃ b,Face P N f.n b∧f.o=cH P N f.n b∧f.r=ring P (aH P N f.n b) f.n∧plF P f=kP P (f.n,b):=by
 obtain ⟨b,hF,ho,hr⟩:=h.ok f hf;refine ⟨b,hF,ho,hr,?_⟩;have hm:f.r.headD 0 ∈ aH P N f.n b:=by
  obtain ⟨h1,h2⟩:=Face.ring_hd hS hF;have:f.r.headD 0 ∈ f.r:=by
   rw [← hr] at h2
   cases hr':f.r with
   | nil=>exact absurd hr' h2
   | cons x l=>simp
  exact ((hF.ring_mem hS _).mp (hr ▸ this)).1
 exact oD hF hm
theorem RingsOk.face (h:RingsOk P N fs E) (hS:Sorted P N) {f:RF} (hf:f ∈ fs):gM P f=(ptQ (plF P f).n,((plF P f).o:Rat))∧f.r=iO P N (plF P f):=by
 obtain ⟨b,hF,_,hr,hp⟩:=h.pl hS hf;refine ⟨?_,?_⟩
 ·unfold gM plF
  rw [primQ_pt hF.n0,qdot_pt]
 ·rw [hp,ringPl_plOf (f:=(f.n,b)) hF];exact hr
theorem RingsOk.polys (h:RingsOk P N fs E):∃ bs:RF→Nat,(∀ f ∈ fs,Face P N f.n (bs f)∧f.o=cH P N f.n (bs f)∧f.r=ring P (aH P N f.n (bs f)) f.n)∧Polys P N (fs.map fun f=>(f.n,bs f)):=by
 have hb:∀ f:RF,∃ b,f ∈ fs→Face P N f.n b∧f.o=cH P N f.n b∧f.r=ring P (aH P N f.n b) f.n:=fun f=>by
  by_cases hf:f ∈ fs
  ·obtain ⟨b,h1⟩:=h.ok f hf;exact ⟨b,fun _=>h1⟩
  ·exact ⟨0,fun h=>absurd h hf⟩
 obtain ⟨bs,hbs⟩:=Classical.axiomOfChoice hb;have hm:∀ {n n':V} {b b':Nat},cH P N n b=cH P N n' b'→aH P N n b=aH P N n' b':=fun e=>by
  unfold aH;exact List.filter_congr fun i hi=>mask_inj _ _ N e i (List.mem_range.mp hi)
 have hm':∀ {n n':V} {b b':Nat},aH P N n b=aH P N n' b'→cH P N n b=cH P N n' b':=fun {n n' b b'} e=>by
  unfold cH;refine ip _ _ N fun i hi=>?_
  have h1:i ∈ aH P N n b↔i ∈ aH P N n' b':=by rw [e]
  rw [aD,aD] at h1;rw [decide_eq_decide];exact ⟨fun h=>(h1.mp ⟨hi,h⟩).2,fun h=>(h1.mpr ⟨hi,h⟩).2⟩
 refine ⟨bs,hbs,fun g hg=>?_,fun n b hF=>?_,?_⟩
 ·obtain ⟨f,hf,rfl⟩:=List.mem_map.mp hg
  exact (hbs f hf).1
 ·obtain ⟨f,hf,ho⟩:=h.all n b hF
  exact ⟨_,List.mem_map.mpr ⟨f,hf,rfl⟩,hm ((hbs f hf).2.1.symm.trans ho)⟩
 ·rw [List.pairwise_map]
  have hn:=h.nodup;rw [List.nodup_iff_pairwise_ne,List.pairwise_map] at hn;refine hn.imp_of_mem fun {f g} hf hg hne e=>hne ?_
  rw [(hbs f hf).2.1,(hbs g hg).2.1];exact hm' e
theorem RingsOk.planes (h:RingsOk P N fs E) (hS:Sorted P N) (hfull:fG P N):(fs.map (plF P)).Nodup∧∀ m,m ∈ bD P N↔m ∈ fs.map (plF P):=by
 obtain ⟨bs,hbs,hp⟩:=h.polys;have e:(fs.map fun f=>(f.n,bs f)).map (kP P)=fs.map (plF P):=by
  rw [List.map_map];refine List.map_congr_left fun f hf=>?_
  obtain ⟨hF,_,hr⟩:=hbs f hf;obtain ⟨b,hF',ho',hr',hp'⟩:=h.pl hS hf;have hm:f.r.headD 0 ∈ aH P N f.n (bs f):=by
   obtain ⟨h1,h2⟩:=Face.ring_hd hS hF;have:f.r.headD 0 ∈ f.r:=by
    rw [← hr] at h2
    cases hr':f.r with
    | nil=>exact absurd hr' h2
    | cons x l=>simp
   exact ((hF.ring_mem hS _).mp (hr ▸ this)).1
  exact (oD hF hm).symm
 rw [← e];exact pI hp hfull
def LtR (a b:List Nat):Prop:=bT (a.map fun (i:Nat)=>(i:Int)) (b.map fun (i:Nat)=>(i:Int))<0
end Dowel
namespace Dowel
open V
theorem nB:∀ {a b:List Int},bT a b=0→a=b
 | [],[],_=>rfl
 | [],_ :: _,h=>by rw [bT] at h;cases h
 | _ :: _,[],h=>by rw [bT] at h;cases h
 | x :: a,y :: b,h=>by
  rw [bT] at h
  split at h
  ·cases h
  ·split at h
   ·cases h
   ·rw [nB h,show x=y by omega]
theorem nC:∀ a:List Int,bT a a=0
 | []=>by rw [bT]
 | x :: a=>by rw [bT,if_neg ω,if_neg ω];exact nC a
theorem nD:∀ {a b:List Int},bT a b<0→¬ bT b a<0
 | [],[],h=>by rw [bT] at h;omega
 | [],_ :: _,_=>by rw [bT];omega
 | _ :: _,[],h=>by rw [bT] at h;omega
 | x :: a,y :: b,h=>by
  rw [bT] at h ⊢
  split at h
  ·rw [if_neg ω,if_pos ω];omega
  ·split at h
   ·omega
   ·rw [if_neg ω,if_neg ω];exact nD h
theorem LtR.irrefl (a:List Nat):¬ LtR a a:=by unfold LtR;rw [nC];omega
theorem LtR.asym (a b:List Nat) (h:LtR a b):¬ LtR b a:=nD h
theorem mapI_inj {a b:List Nat} (h:(a.map fun (i:Nat)=>(i:Int))=b.map fun (i:Nat)=>(i:Int)):a=b:=by
 induction a generalizing b with
 | nil=>cases b with
  | nil=>rfl
  | cons y b=>simp at h
 | cons x a ih=>cases b with
  | nil=>simp at h
  | cons y b =>
   simp only [List.map_cons,List.cons.injEq] at h;rw [ih h.2,show x=y by omega]
theorem LtR.of_le {a b:List Nat} (h:bT (a.map fun (i:Nat)=>(i:Int)) (b.map fun (i:Nat)=>(i:Int))≤0) (hne:a≠b):LtR a b:=by
 unfold LtR;refine Classical.byContradiction fun hc=>hne (mapI_inj (nB ω))
variable {P : Nat → V} {N E : Nat} {fs : List RF}
theorem RingsOk.strict (h:RingsOk P N fs E) (hS:Sorted P N) (hE:∀ v,v<N→Top P N v):fs.Pairwise fun f g=>LtR f.r g.r:=by
 have hn:=h.nodup;rw [List.nodup_iff_pairwise_ne,List.pairwise_map] at hn;refine (hn.and h.sorted).imp_of_mem fun {f g} hf hg ⟨h1,h2⟩=>LtR.of_le h2 fun e=>h1 ?_
 obtain ⟨b,hF,ho,hr⟩:=h.ok f hf;obtain ⟨b',hF',ho',hr'⟩:=h.ok g hg;rw [ho,ho'];unfold cH;refine ip _ _ N fun i hi=>?_
 have key:∀ {n:V} {c:Nat} (hG:Face P N n c),i ∈ ring P (aH P N n c) n↔i ∈ aH P N n c:=fun hG=>by
  rw [hG.ring_mem hS];exact ⟨fun h=>h.1,fun h=>Face.vert_all hE h⟩
 have e1:=key hF;have e2:=key hF';rw [← hr,e,hr',e2,aD,aD] at e1;rw [decide_eq_decide];exact ⟨fun h=>(e1.mpr ⟨hi,h⟩).2,fun h=>(e1.mp ⟨hi,h⟩).2⟩
theorem RingsOk.rings (h:RingsOk P N fs E) (hS:Sorted P N) (hfull:fG P N) (hE:∀ v,v<N→Top P N v) (rs:List (List Nat)) (h1:rs.Pairwise LtR) (h2:∀ r,r ∈ rs↔∃ m ∈ bD P N,r=iO P N m):fs.map RF.r=rs:=by
 refine ju LtR LtR.irrefl LtR.asym _ _ ?_ h1 fun r=>?_
 ·rw [List.pairwise_map];exact h.strict hS hE
 ·rw [h2,List.mem_map]
  constructor
  ·rintro ⟨f,hf,rfl⟩
   exact ⟨plF P f,((h.planes hS hfull).2 _).mpr (List.mem_map.mpr ⟨f,hf,rfl⟩),(h.face hS hf).2⟩
  ·rintro ⟨m,hm,rfl⟩
   obtain ⟨f,hf,rfl⟩:=List.mem_map.mp (((h.planes hS hfull).2 m).mp hm);exact ⟨f,hf,(h.face hS hf).2⟩
end Dowel
end

section
namespace Dowel
open V
theorem dC:Valid tet 4:=by
 have hS:Sorted tet 4:=⟨fun p q h1 h2=>by
  have hp:p=0∨p=1∨p=2:=ω;have hq:q=1∨q=2∨q=3:=ω;unfold Lex
  rcases hp with rfl | rfl | rfl <;> rcases hq with rfl | rfl | rfl <;> first | omega | decide,fun p hp=>by
  have hp:p=0∨p=1∨p=2∨p=3:=ω;unfold jc
  rcases hp with rfl | rfl | rfl | rfl <;> decide⟩
 have h4:dq tet 4:=⟨0,1,2,3,by omega,by omega,by omega,by omega,by decide⟩;refine ⟨by omega,by omega,hS,h4,fun v hv=>Top.extr ?_ hv hS.inj h4.full⟩;have hv':v=0∨v=1∨v=2∨v=3:=ω;have key:∀ g:V,(∀ q ∈ [0,1,2,3],q≠v→0<dot g (tet q - tet v))→Top tet 4 v:=fun g h=>⟨g,fun q hq hne=>h q (by
  have:q=0∨q=1∨q=2∨q=3:=ω
  simpa using this) hne⟩
 rcases hv' with rfl | rfl | rfl | rfl
 ·exact key ⟨1,1,1⟩ ν
 ·exact key ⟨0,0,-1⟩ ν
 ·exact key ⟨0,-1,0⟩ ν
 ·exact key ⟨-1,0,0⟩ ν
theorem kI {fs:List RF} {E:Nat} (h:RingsOk tet 4 fs E):fs.map RF.r=[[0,1,2],[0,2,3],[0,3,1],[1,3,2]]:=by
 refine h.rings dC.sorted dC.full dC.top _ ?_ fun r=>?_
 ·show List.Pairwise (fun (a b:List Nat)=>bT (a.map fun (i:Nat)=>(i:Int)) (b.map fun (i:Nat)=>(i:Int))<0) _
  decide +kernel
 ·rw [mA]
  constructor
  ·intro hr
   simp only [List.mem_cons,List.not_mem_nil,or_false] at hr
   rcases hr with rfl | rfl | rfl | rfl
   ·exact ⟨_,by simp,tet_r0.symm⟩
   ·exact ⟨⟨⟨0,0,-1⟩,0⟩,by simp,tet_r2.symm⟩
   ·exact ⟨⟨⟨0,-1,0⟩,0⟩,by simp,tet_r1.symm⟩
   ·exact ⟨⟨⟨1,1,1⟩,1⟩,by simp,tet_r3.symm⟩
  ·rintro ⟨m,hm,rfl⟩
   simp only [List.mem_cons,List.not_mem_nil,or_false] at hm
   rcases hm with rfl | rfl | rfl | rfl
   ·rw [tet_r0];simp
   ·rw [tet_r1];simp
   ·rw [tet_r2];simp
   ·rw [tet_r3];simp
theorem tet_face {fs:List RF} {E:Nat} (h:RingsOk tet 4 fs E):∃ f,fs[3]?=some f∧fs.length=4∧f.r=[1,3,2]∧gM tet f=(⟨1,1,1⟩,1):=by
 have hr:=kI h;have hl:fs.length=4:=by have:=congrArg List.length hr;simpa using this
 obtain ⟨f,hf⟩:∃ f,fs[3]?=some f:=⟨_,List.getElem?_eq_getElem ω⟩;have hfr:f.r=[1,3,2]:=by
  have:=congrArg (fun l:List (List Nat)=>l[3]?) hr;simp only [List.getElem?_map,hf,Option.map_some] at this;exact Option.some.inj this
 have hfm:=List.mem_of_getElem? hf;obtain ⟨h1,h2⟩:=h.face dC.sorted hfm;refine ⟨f,hf,hl,hfr,?_⟩;have hp:=((h.planes dC.sorted dC.full).2 (plF tet f)).mpr (List.mem_map.mpr ⟨f,hfm,rfl⟩);rw [mA] at hp;rw [hfr] at h2;rw [h1];generalize plF tet f=m at *;simp only [List.mem_cons,List.not_mem_nil,or_false] at hp
 rcases hp with rfl | rfl | rfl | rfl
 ·rw [tet_r0] at h2;simp at h2
 ·rw [tet_r1] at h2;simp at h2
 ·rw [tet_r2] at h2;simp at h2
 ·rfl
theorem tet_edges {es:List ED} (h:EdgesOk [[0,1,2],[0,2,3],[0,3,1],[1,3,2]] es):es.length=6:=by
 have hp:(es.map ED.key).Perm [(0,1),(1,2),(0,2),(2,3),(0,3),(1,3)]:=by
  refine (List.perm_ext_iff_of_nodup h.nodup ν).mpr fun t=>?_
  rw [h.mem];have e:([[0,1,2],[0,2,3],[0,3,1],[1,3,2]].flatMap db).map ft=[(0,1),(1,2),(0,2),(0,2),(2,3),(0,3),(0,3),(1,3),(0,1),(1,3),(2,3),(1,2)]:=by decide +kernel
  have h1:(∃ r ∈ [[0,1,2],[0,2,3],[0,3,1],[1,3,2]],∃ s ∈ db r,t=ft s)↔t ∈ ([[0,1,2],[0,2,3],[0,3,1],[1,3,2]].flatMap db).map ft:=by
   rw [List.mem_map]
   constructor
   ·rintro ⟨r,h1,s,h2,e⟩;exact ⟨s,List.mem_flatMap.mpr ⟨r,h1,h2⟩,e.symm⟩
   ·rintro ⟨s,h1,e⟩
    obtain ⟨r,h2,h3⟩:=List.mem_flatMap.mp h1;exact ⟨r,h2,s,h3,e.symm⟩
  rw [h1,e];simp only [List.mem_cons,List.not_mem_nil,or_false]
  grind
 have:=hp.length_eq
 simpa using this
end Dowel
end

section
namespace Dowel
open V
instance (a b : List Nat) : Decidable (LtR a b) := by unfold LtR; infer_instance
abbrev PF:=Pl × List Nat
variable {P : Nat → V} {N E : Nat} {fs : List RF}
end Dowel
end
