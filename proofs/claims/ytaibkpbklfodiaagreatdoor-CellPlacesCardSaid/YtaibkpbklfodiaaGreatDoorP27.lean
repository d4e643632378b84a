/- A range over an iterator whose values are read in the world in which they come. -/
import Derived.Test.YtaibkpbklfodiaaGreatDoorPA
import Derived.RangeFuncWrites
set_option linter.all false
set_option maxHeartbeats 100000000
section
namespace Dowel
open Go Go.RowKit
variable {F : Fence} {n : Nat} {P : Program}
structure KeepC (n0:Nat) (X:Nat→Prop) (W W':World):Prop where
 bel:Below n0 W W'
 same:∀ (k:Nat) (cs:Array Value) (t:TypeId) (z:Nat × Nat),¬ X k→W.heap[k]?=some (.cells cs t z)→W'.heap[k]?=some (.cells cs t z)
theorem KeepC.refl (n0:Nat) (X:Nat→Prop) (W:World):KeepC n0 X W W:=⟨Below.refl _ _,fun _ _ _ _ _ h=>h⟩
theorem KeepC.trans {n0:Nat} {X:Nat→Prop} {A B C:World} (h:KeepC n0 X A B) (k:KeepC n0 X B C):KeepC n0 X A C:=
 ⟨h.bel.trans k.bel,fun i cs t z hi hA=>k.same i cs t z hi (h.same i cs t z hi hA)⟩
theorem KeepC.putObj {n0:Nat} (X:Nat→Prop) {W:World} {l:Nat} {o:Obj} (o':Obj) (hl:n0≤l) (ho:W.heap[l]?=some o) (hc:o.isCells=false):KeepC n0 X W (W.putObj l o'):=
 ⟨(Below.refl n0 W).grown (grownBy_putObj' W l o') (by have:=(Array.getElem?_eq_some_iff.1 ho).1;omega) (fun k e=>by cases e;exact hl),fun k cs t z _ hk=>by
  rw [World.putObj_heap_other (fun e=>by subst e;rw [hk] at ho;cases ho;cases hc)];exact hk⟩
theorem KeepC.grown {n0:Nat} {X:Nat→Prop} {W W':World} {row:Option Nat} (hg:W.grownBy W' row) (hn:n0≤W.heap.size) (hr:∀ r,row=some r→n0≤r∧(X r∨∀ cs t z,W.heap[r]?≠some (.cells cs t z))):KeepC n0 X W W':=
 ⟨(Below.refl n0 W).grown hg hn (fun k e=>(hr k e).1),fun k cs t z hk hc=>(hg.block k (Array.getElem?_eq_some_iff.1 hc).1 (fun e=>by
  rcases (hr k e.symm).2 with h | h
  ·exact hk h
  ·exact h _ _ _ hc)).trans hc⟩
theorem KeepC.below {n0:Nat} {X:Nat→Prop} {W W':World} (hb:Below W.heap.size W W') (hn:n0≤W.heap.size):KeepC n0 X W W':=
 ⟨hb.mono hn,fun k cs t z _ hc=>(hb.block k (Array.getElem?_eq_some_iff.1 hc).1).trans hc⟩
theorem KeepC.size {n0:Nat} {X:Nat→Prop} {W W':World} (h:KeepC n0 X W W'):W.heap.size≤W'.heap.size:=h.bel.size
def AbL {β:Type} (B:Nat) (J:β→World→Prop):Prop:=∀ s W W',J s W→KeepC B (fun _=>False) W W'→J s W'
theorem AbL.mono {β:Type} {B B':Nat} {J:β→World→Prop} (h:AbL B J) (hB:B≤B'):AbL B' J:=
 fun s W W' hj hk=>h s W W' hj ⟨hk.bel.mono hB,hk.same⟩
theorem AbL.and {β:Type} {B:Nat} {J J':β→World→Prop} (h:AbL B J) (h':AbL B J'):AbL B (fun s W=>J s W∧J' s W):=
 fun s W W' hj hk=>⟨h s W W' hj.1 hk,h' s W W' hj.2 hk⟩
theorem AbL.putObj {β:Type} {B:Nat} {J:β→World→Prop} (h:AbL B J) {s:β} {W:World} {l:Nat} {o:Obj} (o':Obj) (hs:J s W) (hB:B≤l) (ho:W.heap[l]?=some o) (hc:o.isCells=false):J s (W.putObj l o'):=
 h s W _ hs (KeepC.putObj _ o' hB ho hc)
theorem AbL.alloc {β:Type} {B:Nat} {J:β→World→Prop} (h:AbL B J) {s:β} {W:World} (o:Obj) (hs:J s W) (hB:B≤W.heap.size):J s (W.alloc o):=
 h s W _ hs (KeepC.below ((Below.refl _ W).alloc ρ o) hB)
theorem AbL.below {β:Type} {B:Nat} {J:β→World→Prop} (h:AbL B J) {s:β} {W W':World} (hs:J s W) (hb:Below W.heap.size W W') (hB:B≤W.heap.size):J s W':=
 h s W _ hs (KeepC.below hb hB)
def SeqV {α:Type} (F:Fence) (n:Nat) (P:Program) (g:Nat) (lb:Array Value) (encs:α→Array Value) (V:α→World→Prop) (n0:Nat) (X:Nat→Prop) (S:List α→Prop) (N:Nat) (w:World):Prop:=
 ∀ (l:Nat) (J:List α→World→Prop) (W:World),Below w.heap.size w W→AbL W.heap.size J →
  (∀ pre x W1,J pre W1→V x W1→pre.length<N→YieldAt F (n - 1) P l (encs x) W1 fun e W'=>e=.returned (.bool true)∧J (pre ++ [x]) W'∧KeepC n0 X W1 W') →
  J [] W →
  CallsIn F n P g (#[.func (.yield l) #[] #[]] ++ lb) W fun e W'=>(∃ v,e=.returned v)∧∃ xs,S xs∧J xs W'
theorem iF {α:Type} {g:Operand} {ps:Array Tmp} {assign body:Code} {Q:Exit→Act→World→Prop} {a:Act} {w:World}
  (hro:F.round=none) (h1:1≤n) {gf:Nat} {lb:Array Value} (hg:a.eval g=.func (.func gf) #[] lb) (hFg:F.fn gf) (eg:∀ args w,(callFunc gf args).run P w=.ok (.enter gf args) w)
  {encs:α→Array Value} {V:α→World→Prop} {n0:Nat} {X:Nat→Prop} {S:List α→Prop} {N:Nat} {w0:World} (hseq:SeqV F (n - 1) P gf lb encs V n0 X S N w0) (hn0:n0≤w.heap.size) (hb0:Below w0.heap.size w0 w) (hps:∀ x,(encs x).size=ps.size)
  (I:List α→World→Prop) (hI:AbL w.heap.size I) (hV:∀ x,AbL w.heap.size (fun (_:Unit) W=>V x W)) (h0:I [] w) (Ax:α→Act→World→Prop) (hAx:∀ x a',AbL w.heap.size (fun (_:Unit) W=>Ax x a' W))
  (hassign:∀ (l:Nat) (pre:List α) (x:α) (W:World) (K:Act→World→Prop),I pre W→V x W →
   (∀ a' W',KeepsFrom w.heap.size W W'→KeepC n0 X W W'→I pre W'→V x W'→Ax x a' W'→K a' W') →
   assign.wpIn (F.inRound l) (n - 1 - 1) P (Exit.then K (fun _ _ _=>False)) { tmps:=(ps.zip (encs x)).foldl (fun t (p,v)=>t.setIfInBounds p v) a.tmps,defers:=[] } W)
  (hbody:∀ (l:Nat) (pre:List α) (x:α) (a':Act) (W:World),I pre W→V x W→Ax x a' W→pre.length<N →
   body.wpIn (F.inRound l) (n - 1 - 1) P (Exit.then (fun _ W'=>KeepsFrom w.heap.size W W'∧KeepC n0 X W W'∧I (pre ++ [x]) W') (fun _ _ _=>False)) a' W)
  (hdone:∀ (D:Nat) (xs:List α) (W:World),w.heap.size≤D→S xs→I xs W→W.heap[D]?=some (.deferred (some []))→Q .normal { a with defers:={ target:=.collected D,args:=#[] } :: a.defers } W) :
  (Code.rangeFunc g ps assign body).wpIn F n P Q a w:=by
 refine wpIn_rangeFunc fun fn hfn=>?_
 rw [hro];have hrec:∃ rec:LoopState→Loop,rec=fun st=>{ state:=st,pending:=none,fn,tmps:=a.tmps,params:=ps,assign,body,defers:=w.heap.size }:=⟨_,rfl⟩
 obtain ⟨rec,hrec⟩:=hrec;obtain ⟨W1,hW1⟩:∃ W1,(w.alloc (.deferred (some []))).alloc (.loop (rec .ready))=W1:=⟨_,rfl⟩;have hsz:W1.heap.size=w.heap.size+2:=by rw [← hW1];simp
 have hl1:W1.heap[w.heap.size+1]?=some (.loop (rec .ready)):=by
  rw [← hW1];have:=World.alloc_heap_new (w.alloc (.deferred (some []))) (.loop (rec .ready));rwa [World.size_alloc] at this
 have hd1:W1.heap[w.heap.size]?=some (.deferred (some [])):=by
  rw [← hW1];exact (Below.heap_alloc _ _ _ (by simp)).trans (World.alloc_heap_new w _)
 have hb1:Below w0.heap.size w0 W1:=by
  rw [← hW1];exact hb0.trans ((((Below.refl _ w).alloc ρ _).alloc (by simp) _).mono hb0.size)
 have hi1:I [] W1:=by rw [← hW1];exact hI.alloc _ (hI.alloc _ h0 ρ) (by simp)
 have hown:∀ (st:LoopState),AbL W1.heap.size (fun (_:List α) W=>W.heap[w.heap.size+1]?=some (.loop (rec st))∧W.heap[w.heap.size]?=some (.deferred (some []))):=by
  rintro st _ A B ⟨h2,h3⟩ hk;exact ⟨(hk.bel.block _ ω).trans h2,(hk.bel.block _ ω).trans h3⟩
 refine ⟨w.heap.size+1,[{ target:=.collected w.heap.size,args:=#[] }],W1,{ target:=.fn (.func gf) lb,args:=#[.func (.yield (w.heap.size+1)) #[] #[]] },W1,gf,
  #[.func (.yield (w.heap.size+1)) #[] #[]] ++ lb,W1,?_,?_,?_,?_,fun _=>h1,?_⟩
 ·rw [← hW1,hrec];exact run_enterLoop_outer _ _ _ _ _
 ·simp only [resolve,hg];simp [go_sem]
 ·intro f' hf';simp [Target.leads] at hf';subst hf';exact hFg
 ·simp [invoke,go_sem,eg]
 refine (hseq (w.heap.size+1) (fun pre W=>I pre W∧(W.heap[w.heap.size+1]?=some (.loop (rec .ready))∧W.heap[w.heap.size]?=some (.deferred (some [])))) W1 hb1
  ((hI.mono ω).and (hown .ready)) ?_ ⟨hi1,hl1,hd1⟩).mono ?_
 ·rintro pre x W ⟨hi,hl,hd⟩ hv hlen
  have hlt:w.heap.size+1<W.heap.size:=(Array.getElem?_eq_some_iff.1 hl).1;have hy:=run_yield (P:=P) (args:=encs x) hl (by rw [hrec];exact hps x);rw [hrec] at hy;refine ⟨fn,_,assign,body,hy,roundIn_of_wpIn hfn (hassign _ pre x W _ hi hv ?_)⟩;intro a' Wa hk0 hc0 hia hva hax;have hla:=hk0.same _ _ ω hl rfl;have hda:=hk0.same _ _ ρ hd rfl;have hlta:w.heap.size+1<Wa.heap.size:=(Array.getElem?_eq_some_iff.1 hla).1;refine ⟨_,run_beginRound hla (by rw [hrec]),?_⟩;obtain ⟨Wb,hWb⟩:∃ Wb,Wa.putObj (w.heap.size+1) (.loop { rec .ready with state:=.busy })=Wb:=⟨_,rfl⟩;rw [hWb];have hlb:Wb.heap[w.heap.size+1]?=some (.loop { rec .ready with state:=.busy }):=by rw [← hWb];exact World.putObj_heap_same hlta
  have hdb:Wb.heap[w.heap.size]?=some (.deferred (some [])):=by rw [← hWb];exact (World.putObj_heap_other ω).trans hda
  have hcb:KeepC n0 X Wa Wb:=by rw [← hWb];exact KeepC.putObj X _ ω hla rfl
  have hib:I pre Wb:=by rw [← hWb];exact hI.putObj _ hia ω hla rfl
  have hvb:V x Wb:=by rw [← hWb];exact (hV x).putObj (s:=()) _ hva ω hla rfl
  have hab:Ax x a' Wb:=by rw [← hWb];exact (hAx x a').putObj (s:=()) _ hax ω hla rfl
  refine wpIn_mono (hbody _ pre x a' Wb hib hvb hab hlen) ?_;rintro e a3 W3 hp
  cases e with
  | normal =>
   obtain ⟨hk3,hc3,hi3⟩:=hp;have hl3:=hk3.same _ _ ω hlb rfl;have hd3:=hk3.same _ _ ρ hdb rfl;have hr:=run_endRound (P:=P) none hl3;refine ⟨_,_,hr,rfl,⟨hI.putObj _ hi3 ω hl3 rfl,?_,(World.putObj_heap_other ω).trans hd3⟩,((hc0.trans hcb).trans hc3).trans (KeepC.putObj X _ ω hl3 rfl)⟩;rw [World.putObj_heap_same (Array.getElem?_eq_some_iff.1 hl3).1,hrec]
   rfl
  | ret=>exact hp.elim
  | exit id=>exact hp.elim
  | goto t=>exact hp.elim
  | panic ch=>exact hp.elim
  | outgrown=>exact hp.elim
 ·rintro e W2 ⟨⟨v,rfl⟩,xs,hS,hi,hl,hd⟩
  refine ⟨none,_,(by have h:=run_endLoop (P:=P) hl (by rw [hrec];simp);rw [hrec] at h;exact h),hdone _ xs _ ρ hS (hI.putObj _ hi ω hl rfl) ((World.putObj_heap_other ω).trans hd)⟩
end Dowel
end
