/- Lemmas. -/
import Derived.Test.YtodehkjinmgflaaGreatDoorEA
import Derived.RangeFuncWrites
set_option linter.all false
set_option maxHeartbeats 0
set_option maxRecDepth 99999
namespace Go.Proofs.Υ
open Go Go.RowKit
section
variable {F : Fence} {n : Nat} {P : Program}
structure KeepC (n0:Nat) (X:Nat→Prop) (W W':World):Prop where
 bel:Below n0 W W'
 same:∀ (k:Nat) (cs:Array Value) (t:TypeId) (z:Nat × Nat),¬ X k→W.heap[k]?=some (.cells cs t z)→W'.heap[k]?=some (.cells cs t z)
theorem KeepC.refl(n0:Nat)(X:Nat->Prop)(W:World):KeepC n0 X W W:=⟨Below.refl _ _,fun _ _ _ _ _ h=>h⟩
theorem KeepC.trans{n0:Nat}{X:Nat->Prop}{A B C:World}(h:KeepC n0 X A B)(k:KeepC n0 X B C):KeepC n0 X A C:=
 ⟨h.bel.trans k.bel,fun i cs t z hi hA=>k.same i cs t z hi (h.same i cs t z hi hA)⟩
theorem KeepC.putObj{n0:Nat}(X:Nat->Prop){W:World}{l:Nat}{o:Obj}(A:Obj)(C:n0<=l)(j:W.heap[l]?=some o)(hc:o.isCells=false):KeepC n0 X W (W.putObj l A):=
 ⟨(Below.refl n0 W).grown (grownBy_putObj' W l A) (by have:=(Array.getElem?_eq_some_iff.1 j).1;omega) (fun k e=>by cases e;exact C),fun k cs t z _ u=>by
  rw[World.putObj_heap_other (fun e=>by subst e;rw[u]at j;cases j;cases hc)];exact u⟩
theorem KeepC.grown{n0:Nat}{X:Nat->Prop}{W W':World}{row:Option Nat}(j:W.grownBy W' row)(C:n0<=W.heap.size)(u:∀r,row=some r->n0<=r/\(X r\/∀cs t z,W.heap[r]?≠some (.cells cs t z))):KeepC n0 X W W':=
 ⟨(Below.refl n0 W).grown j C (fun k e=>(u k e).1),fun k cs t z A hc=>(j.block k (Array.getElem?_eq_some_iff.1 hc).1 (fun e=>by
  rcases(u k e.symm).2 with h|h
  ·exact A h
  ·exact h _ _ _ hc)).trans hc⟩
theorem KeepC.below{n0:Nat}{X:Nat->Prop}{W W':World}(hb:Bl W W')(e:n0<=W.heap.size):KeepC n0 X W W':=
 ⟨hb.mono e,fun k cs t z _ hc=>(hb.block k (Array.getElem?_eq_some_iff.1 hc).1).trans hc⟩
theorem KeepC.size{n0:Nat}{X:Nat->Prop}{W W':World}(h:KeepC n0 X W W'):W.heap.size<=W'.heap.size:=h.bel.size
def AbL{β:Type}(B:Nat)(J:β->World->Prop):Prop:=∀s W W',J s W->KeepC B (fun _=>False) W W'->J s W'
theorem AbL.mono{β:Type}{B e:Nat}{J:β->World->Prop}(h:AbL B J)(u:B<=e):AbL e J:=
 fun s W W' A j=>h s W W' A ⟨j.bel.mono u,j.same⟩
theorem AbL.and{β:Type}{B:Nat}{J e:β->World->Prop}(h:AbL B J)(A:AbL B e):AbL B (fun s W=>J s W/\e s W):=
 fun s W W' j u=>⟨h s W W' j.1 u,A s W W' j.2 u⟩
theorem AbL.putObj{β:Type}{B:Nat}{J:β->World->Prop}(h:AbL B J){s:β}{W:World}{l:Nat}{o:Obj}(e:Obj)(A:J s W)(j:B<=l)(u:W.heap[l]?=some o)(hc:o.isCells=false):J s (W.putObj l e):=
 h s W _ A (KeepC.putObj _ e j u hc)
theorem AbL.alloc{β:Type}{B:Nat}{J:β->World->Prop}(h:AbL B J){s:β}{W:World}(o:Obj)(j:J s W)(e:B<=W.heap.size):J s (W.alloc o):=
 h s W _ j (KeepC.below ((Below.refl _ W).alloc ρ o) e)
theorem AbL.below{β:Type}{B:Nat}{J:β->World->Prop}(h:AbL B J){s:β}{W W':World}(j:J s W)(hb:Bl W W')(e:B<=W.heap.size):J s W':=
 h s W _ j (KeepC.below hb e)
def SeqV{α:Type}(F:Fence)(n:Nat)(P:Program)(g:Nat)(lb:Array Value)(encs:α->Array Value)(V:α->World->Prop)(n0:Nat)(X:Nat->Prop)(S:List α->Prop)(N:Nat)(w:World):Prop:=
 ∀(l:Nat) (J:List α->World->Prop) (W:World),Bl w W->AbL W.heap.size J ->
  (∀pre x W1,J pre W1->V x W1->pre.length<N->YieldAt F (n-1) P l (encs x) W1 fun e W'=>e=.returned (.bool true)/\J (pre++[x]) W'/\KeepC n0 X W1 W') ->
  J [] W ->
  CallsIn F n P g (#[.func (.yield l) #[] #[]]++lb) W fun e W'=>(∃v,e=.returned v)/\∃xs,S xs/\J xs W'
theorem jX{Y:Type}{g:Operand}{ps:Array Tmp}{assign body:Code}{Q:Exit->Act->World->Prop}{a:Act}{w:World}(bl:F.round=none)(h1:1<=n){gf:Nat}{lb:Array Value}(hg:a.eval g=.func (.func gf) #[] lb)(aw:F.fn gf)(eg:∀args w,(callFunc gf args).run P w=.ok (.enter gf args) w){G:Y->Array Value}{V:Y->World->Prop}{n0:Nat}{X:Nat->Prop}{S:List Y->Prop}{N:Nat}{w0:World}(au:SeqV F (n-1) P gf lb G V n0 X S N w0)(bs:n0<=w.heap.size)(ad:Bl w0 w)(bk:∀x,(G x).size=ps.size)(bu:List Y->World->Prop)(hI:AbL w.heap.size bu)(hV:∀x,AbL w.heap.size (fun(_:Unit) W=>V x W))(h0:bu [] w)(Ax:Y->Act->World->Prop)(av:∀x R,AbL w.heap.size (fun(_:Unit) W=>Ax x R W))(U:∀(l:Nat) (u:List Y) (x:Y) (W:World) (K:Act->World->Prop),bu u W->V x W ->
  (∀R W',KeepsFrom w.heap.size W W'->KeepC n0 X W W'->bu u W'->V x W'->Ax x R W'->K R W') ->
  assign.wpIn (F.inRound l) (n-1-1) P (Exit.then K (fun _ _ _=>False)) { tmps:=(ps.zip (G x)).foldl (fun t (p,v)=>t.setIfInBounds p v) a.tmps,defers:=[] } W)(ab:∀(l:Nat) (u:List Y) (x:Y) (R:Act) (W:World),bu u W->V x W->Ax x R W->u.length<N ->
  body.wpIn (F.inRound l) (n-1-1) P (Exit.then (fun _ W'=>KeepsFrom w.heap.size W W'/\KeepC n0 X W W'/\bu (u++[x]) W') (fun _ _ _=>False)) R W)(ac:∀(D:Nat) (xs:List Y) (W:World),w.heap.size<=D->S xs->bu xs W->W.heap[D]?=some (.deferred (some []))->Q .normal { a with defers:={ target:=.collected D,args:=#[] }::a.defers } W):
 (Code.rangeFunc g ps assign body).wpIn F n P Q a w:=by
 refine wpIn_rangeFunc fun fn a9=>?_
 rw[bl];have j:∃C:LoopState->Loop,C=fun st=>{ state:=st,pending:=none,fn,tmps:=a.tmps,params:=ps,assign,body,defers:=w.heap.size }:=⟨_,rfl⟩
 obtain⟨C,j⟩:=j;obtain⟨L,H⟩:=χ ((w.alloc (.deferred (some []))).alloc (.loop (C .ready)));have bt:L.heap.size=w.heap.size+2:=by rw[<-H];simp
 have bg:L.heap[w.heap.size+1]?=some (.loop (C .ready)):=by
  rw[<-H];have:=World.alloc_heap_new (w.alloc (.deferred (some []))) (.loop (C .ready));rwa [World.size_alloc]at this
 have a5:L.heap[w.heap.size]?=some (.deferred (some [])):=by
  rw[<-H];exact(Below.heap_alloc _ _ _ (by simp)).trans (World.alloc_heap_new w _)
 have a0:Bl w0 L:=by
  rw[<-H];exact ad.trans ((((Below.refl _ w).alloc ρ _).alloc (by simp) _).mono ad.size)
 have ba:bu [] L:=by rw[<-H];exact hI.alloc _ (hI.alloc _ h0 ρ) (by simp)
 have ar:∀(st:LoopState),AbL L.heap.size (fun(_:List Y) W=>W.heap[w.heap.size+1]?=some (.loop (C st))/\W.heap[w.heap.size]?=some (.deferred (some []))):=by
  rintro st _ A B ⟨h2,h3⟩ hk;exact⟨(hk.bel.block _ I).trans h2,(hk.bel.block _ I).trans h3⟩
 refine⟨w.heap.size+1,[{ target:=.collected w.heap.size,args:=#[] }],L,{ target:=.fn (.func gf) lb,args:=#[.func (.yield (w.heap.size+1)) #[] #[]] },L,gf,
  #[.func (.yield (w.heap.size+1)) #[] #[]]++lb,L,?_,?_,?_,?_,fun _=>h1,?_⟩
 ·rw[<-H,j];exact run_enterLoop_outer _ _ _ _ _
 ·simp only[resolve,hg];simp[go_sem]
 ·intro f' af;simp[Target.leads]at af;subst af;exact aw
 ·simp[invoke,go_sem,eg]
 refine(au (w.heap.size+1) (fun u W=>bu u W/\(W.heap[w.heap.size+1]?=some (.loop (C .ready))/\W.heap[w.heap.size]?=some (.deferred (some [])))) L a0
  ((hI.mono I).and (ar .ready)) ?_ ⟨ba,bg,a5⟩).mono ?_
 ·rintro u x W ⟨hi,hl,hd⟩ hv ao
  have br:w.heap.size+1<W.heap.size:=(Array.getElem?_eq_some_iff.1 hl).1;have hy:=run_yield (P:=P) (args:=G x) hl (by rw[j];exact bk x);rw[j]at hy;refine⟨fn,_,assign,body,hy,roundIn_of_wpIn a9 (U _ u x W _ hi hv ?_)⟩;intro R Wa ag a1 be bm az;have J:=ag.same _ _ I hl rfl;have a7:=ag.same _ _ ρ hd rfl;have ap:w.heap.size+1<Wa.heap.size:=(Array.getElem?_eq_some_iff.1 J).1;refine⟨_,run_beginRound J (by rw[j]),?_⟩;obtain⟨Wb,E⟩:=χ (Wa.putObj (w.heap.size+1) (.loop { C .ready with state:=.busy }));rw[E];have bi:Wb.heap[w.heap.size+1]?=some (.loop { C .ready with state:=.busy }):=by rw[<-E];exact World.putObj_heap_same ap
  have a8:Wb.heap[w.heap.size]?=some (.deferred (some [])):=by rw[<-E];exact(World.putObj_heap_other I).trans a7
  have a4:KeepC n0 X Wa Wb:=by rw[<-E];exact KeepC.putObj X _ I J rfl
  have bf:bu u Wb:=by rw[<-E];exact hI.putObj _ be I J rfl
  have bp:V x Wb:=by rw[<-E];exact(hV x).putObj (s:=()) _ bm I J rfl
  have ay:Ax x R Wb:=by rw[<-E];exact(av x R).putObj (s:=()) _ az I J rfl
  refine wpIn_mono (ab _ u x R Wb bf bp ay ao) ?_;rintro e a3 W3 hp
  cases e with
  | normal =>
   obtain⟨an,a2,bc⟩:=hp;have aa:=an.same _ _ I bi rfl;have a6:=an.same _ _ ρ a8 rfl;have hr:=run_endRound (P:=P) none aa;refine⟨_,_,hr,rfl,⟨hI.putObj _ bc I aa rfl,?_,(World.putObj_heap_other I).trans a6⟩,((a1.trans a4).trans a2).trans (KeepC.putObj X _ I aa rfl)⟩;rw[World.putObj_heap_same (Array.getElem?_eq_some_iff.1 aa).1,j]
   rfl
  | ret=>exact hp.elim
  | exit id=>exact hp.elim
  | goto t=>exact hp.elim
  | panic ch=>exact hp.elim
  | outgrown=>exact hp.elim
 ·rintro e W2 ⟨⟨v,rfl⟩,xs,hS,hi,hl,hd⟩
  refine⟨none,_,(by have h:=run_endLoop (P:=P) hl (by rw[j];simp);rw[j]at h;exact h),ac _ xs _ ρ hS (hI.putObj _ hi I hl rfl) ((World.putObj_heap_other I).trans hd)⟩
end
end Go.Proofs.Υ
