/- Lemmas. -/
import Derived.Test.YtodehkjinmgflaaGreatDoorVA
import Derived.RangeFuncWrites
set_option linter.all false
set_option maxHeartbeats 0
set_option maxRecDepth 99999
namespace Go.Proofs.Υ
open Go Go.RowKit
section
variable {F : Fence} {n : Nat} {P : Program}
structure KeepC (n0:Nat) (X:Nat→Prop) (W W':World):Prop where
 bel:Below n0 W W'
 same:∀ (k:Nat) (cs:Array Value) (t:TypeId) (z:Nat × Nat),¬ X k→W.heap[k]?=some (.cells cs t z)→W'.heap[k]?=some (.cells cs t z)
theorem KeepC.refl(n0:Nat)(X:Nat->Prop)(W:World):KeepC n0 X W W:=⟨Below.refl _ _,fun _ _ _ _ _ h=>h⟩
theorem KeepC.trans{n0:Nat}{X:Nat->Prop}{A B C:World}(h:KeepC n0 X A B)(k:KeepC n0 X B C):KeepC n0 X A C:=
 ⟨h.bel.trans k.bel,fun i cs t z hi hA=>k.same i cs t z hi (h.same i cs t z hi hA)⟩
theorem KeepC.putObj{n0:Nat}(X:Nat->Prop){W:World}{l:Nat}{o:Obj}(u:Obj)(A:n0<=l)(i:W.heap[l]?=some o)(hc:o.isCells=false):KeepC n0 X W (W.putObj l u):=
 ⟨(Below.refl n0 W).grown (grownBy_putObj' W l u) (by have:=(Array.getElem?_eq_some_iff.1 i).1;omega) (fun k e=>by cases e;exact A),fun k cs t z _ j=>by
  rw[World.putObj_heap_other (fun e=>by subst e;rw[j]at i;cases i;cases hc)];exact j⟩
theorem KeepC.grown{n0:Nat}{X:Nat->Prop}{W W':World}{row:Option Nat}(i:W.grownBy W' row)(A:n0<=W.heap.size)(j:∀r,row=some r->n0<=r/\(X r\/∀cs t z,W.heap[r]?≠some (.cells cs t z))):KeepC n0 X W W':=
 ⟨(Below.refl n0 W).grown i A (fun k e=>(j k e).1),fun k cs t z u hc=>(i.block k (Array.getElem?_eq_some_iff.1 hc).1 (fun e=>by
  rcases(j k e.symm).2 with h|h
  ·exact u h
  ·exact h _ _ _ hc)).trans hc⟩
theorem KeepC.below{n0:Nat}{X:Nat->Prop}{W W':World}(hb:Bl W W')(e:n0<=W.heap.size):KeepC n0 X W W':=
 ⟨hb.mono e,fun k cs t z _ hc=>(hb.block k (Array.getElem?_eq_some_iff.1 hc).1).trans hc⟩
theorem KeepC.size{n0:Nat}{X:Nat->Prop}{W W':World}(h:KeepC n0 X W W'):W.heap.size<=W'.heap.size:=h.bel.size
def AbL{β:Type}(B:Nat)(J:β->World->Prop):Prop:=∀s W W',J s W->KeepC B (fun _=>False) W W'->J s W'
theorem AbL.mono{β:Type}{B e:Nat}{J:β->World->Prop}(h:AbL B J)(j:B<=e):AbL e J:=
 fun s W W' u i=>h s W W' u ⟨i.bel.mono j,i.same⟩
theorem AbL.and{β:Type}{B:Nat}{J e:β->World->Prop}(h:AbL B J)(u:AbL B e):AbL B (fun s W=>J s W/\e s W):=
 fun s W W' i j=>⟨h s W W' i.1 j,u s W W' i.2 j⟩
theorem AbL.putObj{β:Type}{B:Nat}{J:β->World->Prop}(h:AbL B J){s:β}{W:World}{l:Nat}{o:Obj}(e:Obj)(u:J s W)(i:B<=l)(j:W.heap[l]?=some o)(hc:o.isCells=false):J s (W.putObj l e):=
 h s W _ u (KeepC.putObj _ e i j hc)
theorem AbL.alloc{β:Type}{B:Nat}{J:β->World->Prop}(h:AbL B J){s:β}{W:World}(o:Obj)(i:J s W)(e:B<=W.heap.size):J s (W.alloc o):=
 h s W _ i (KeepC.below ((Below.refl _ W).alloc ρ o) e)
theorem AbL.below{β:Type}{B:Nat}{J:β->World->Prop}(h:AbL B J){s:β}{W W':World}(i:J s W)(hb:Bl W W')(e:B<=W.heap.size):J s W':=
 h s W _ i (KeepC.below hb e)
def SeqV{α:Type}(F:Fence)(n:Nat)(P:Program)(g:Nat)(lb:Array Value)(encs:α->Array Value)(V:α->World->Prop)(n0:Nat)(X:Nat->Prop)(S:List α->Prop)(N:Nat)(w:World):Prop:=
 ∀(l:Nat) (J:List α->World->Prop) (W:World),Bl w W->AbL W.heap.size J ->
  (∀pre x W1,J pre W1->V x W1->pre.length<N->YieldAt F (n-1) P l (encs x) W1 fun e W'=>e=.returned (.bool true)/\J (pre++[x]) W'/\KeepC n0 X W1 W') ->
  J [] W ->
  CallsIn F n P g (#[.func (.yield l) #[] #[]]++lb) W fun e W'=>(∃v,e=.returned v)/\∃xs,S xs/\J xs W'
theorem jQ{U:Type}{g:Operand}{ps:Array Tmp}{assign body:Code}{Q:Exit->Act->World->Prop}{a:Act}{w:World}(bl:F.round=none)(h1:1<=n){gf:Nat}{lb:Array Value}(hg:a.eval g=.func (.func gf) #[] lb)(aw:F.fn gf)(eg:∀args w,(callFunc gf args).run P w=.ok (.enter gf args) w){E:U->Array Value}{V:U->World->Prop}{n0:Nat}{X:Nat->Prop}{S:List U->Prop}{N:Nat}{w0:World}(au:SeqV F (n-1) P gf lb E V n0 X S N w0)(bs:n0<=w.heap.size)(ad:Bl w0 w)(bk:∀x,(E x).size=ps.size)(bu:List U->World->Prop)(hI:AbL w.heap.size bu)(hV:∀x,AbL w.heap.size (fun(_:Unit) W=>V x W))(h0:bu [] w)(Ax:U->Act->World->Prop)(av:∀x L,AbL w.heap.size (fun(_:Unit) W=>Ax x L W))(R:∀(l:Nat) (j:List U) (x:U) (W:World) (K:Act->World->Prop),bu j W->V x W ->
  (∀L W',KeepsFrom w.heap.size W W'->KeepC n0 X W W'->bu j W'->V x W'->Ax x L W'->K L W') ->
  assign.wpIn (F.inRound l) (n-1-1) P (Exit.then K (fun _ _ _=>False)) { tmps:=(ps.zip (E x)).foldl (fun t (p,v)=>t.setIfInBounds p v) a.tmps,defers:=[] } W)(ab:∀(l:Nat) (j:List U) (x:U) (L:Act) (W:World),bu j W->V x W->Ax x L W->j.length<N ->
  body.wpIn (F.inRound l) (n-1-1) P (Exit.then (fun _ W'=>KeepsFrom w.heap.size W W'/\KeepC n0 X W W'/\bu (j++[x]) W') (fun _ _ _=>False)) L W)(ac:∀(D:Nat) (xs:List U) (W:World),w.heap.size<=D->S xs->bu xs W->W.heap[D]?=some (.deferred (some []))->Q .normal { a with defers:={ target:=.collected D,args:=#[] }::a.defers } W):
 (Code.rangeFunc g ps assign body).wpIn F n P Q a w:=by
 refine wpIn_rangeFunc fun fn a9=>?_
 rw[bl];have i:∃u:LoopState->Loop,u=fun st=>{ state:=st,pending:=none,fn,tmps:=a.tmps,params:=ps,assign,body,defers:=w.heap.size }:=⟨_,rfl⟩
 obtain⟨u,i⟩:=i;obtain⟨J,G⟩:=χ ((w.alloc (.deferred (some []))).alloc (.loop (u .ready)));have bt:J.heap.size=w.heap.size+2:=by rw[<-G];simp
 have bg:J.heap[w.heap.size+1]?=some (.loop (u .ready)):=by
  rw[<-G];have:=World.alloc_heap_new (w.alloc (.deferred (some []))) (.loop (u .ready));rwa [World.size_alloc]at this
 have a5:J.heap[w.heap.size]?=some (.deferred (some [])):=by
  rw[<-G];exact(Below.heap_alloc _ _ _ (by simp)).trans (World.alloc_heap_new w _)
 have a0:Bl w0 J:=by
  rw[<-G];exact ad.trans ((((Below.refl _ w).alloc ρ _).alloc (by simp) _).mono ad.size)
 have ba:bu [] J:=by rw[<-G];exact hI.alloc _ (hI.alloc _ h0 ρ) (by simp)
 have ar:∀(st:LoopState),AbL J.heap.size (fun(_:List U) W=>W.heap[w.heap.size+1]?=some (.loop (u st))/\W.heap[w.heap.size]?=some (.deferred (some []))):=by
  rintro st _ A B ⟨h2,h3⟩ hk;exact⟨(hk.bel.block _ I).trans h2,(hk.bel.block _ I).trans h3⟩
 refine⟨w.heap.size+1,[{ target:=.collected w.heap.size,args:=#[] }],J,{ target:=.fn (.func gf) lb,args:=#[.func (.yield (w.heap.size+1)) #[] #[]] },J,gf,
  #[.func (.yield (w.heap.size+1)) #[] #[]]++lb,J,?_,?_,?_,?_,fun _=>h1,?_⟩
 ·rw[<-G,i];exact run_enterLoop_outer _ _ _ _ _
 ·simp only[resolve,hg];simp[go_sem]
 ·intro f' af;simp[Target.leads]at af;subst af;exact aw
 ·simp[invoke,go_sem,eg]
 refine(au (w.heap.size+1) (fun j W=>bu j W/\(W.heap[w.heap.size+1]?=some (.loop (u .ready))/\W.heap[w.heap.size]?=some (.deferred (some [])))) J a0
  ((hI.mono I).and (ar .ready)) ?_ ⟨ba,bg,a5⟩).mono ?_
 ·rintro j x W ⟨hi,hl,hd⟩ hv ao
  have br:w.heap.size+1<W.heap.size:=(Array.getElem?_eq_some_iff.1 hl).1;have hy:=run_yield (P:=P) (args:=E x) hl (by rw[i];exact bk x);rw[i]at hy;refine⟨fn,_,assign,body,hy,roundIn_of_wpIn a9 (R _ j x W _ hi hv ?_)⟩;intro L Wa ag a1 be bm az;have H:=ag.same _ _ I hl rfl;have a7:=ag.same _ _ ρ hd rfl;have ap:w.heap.size+1<Wa.heap.size:=(Array.getElem?_eq_some_iff.1 H).1;refine⟨_,run_beginRound H (by rw[i]),?_⟩;obtain⟨Y,C⟩:=χ (Wa.putObj (w.heap.size+1) (.loop { u .ready with state:=.busy }));rw[C];have bi:Y.heap[w.heap.size+1]?=some (.loop { u .ready with state:=.busy }):=by rw[<-C];exact World.putObj_heap_same ap
  have a8:Y.heap[w.heap.size]?=some (.deferred (some [])):=by rw[<-C];exact(World.putObj_heap_other I).trans a7
  have a4:KeepC n0 X Wa Y:=by rw[<-C];exact KeepC.putObj X _ I H rfl
  have bf:bu j Y:=by rw[<-C];exact hI.putObj _ be I H rfl
  have bp:V x Y:=by rw[<-C];exact(hV x).putObj (s:=()) _ bm I H rfl
  have ay:Ax x L Y:=by rw[<-C];exact(av x L).putObj (s:=()) _ az I H rfl
  refine wpIn_mono (ab _ j x L Y bf bp ay ao) ?_;rintro e a3 W3 hp
  cases e with
  | normal =>
   obtain⟨an,a2,bc⟩:=hp;have aa:=an.same _ _ I bi rfl;have a6:=an.same _ _ ρ a8 rfl;have hr:=run_endRound (P:=P) none aa;refine⟨_,_,hr,rfl,⟨hI.putObj _ bc I aa rfl,?_,(World.putObj_heap_other I).trans a6⟩,((a1.trans a4).trans a2).trans (KeepC.putObj X _ I aa rfl)⟩;rw[World.putObj_heap_same (Array.getElem?_eq_some_iff.1 aa).1,i]
   rfl
  | ret=>exact hp.elim
  | exit id=>exact hp.elim
  | goto t=>exact hp.elim
  | panic ch=>exact hp.elim
  | outgrown=>exact hp.elim
 ·rintro e W2 ⟨⟨v,rfl⟩,xs,hS,hi,hl,hd⟩
  refine⟨none,_,(by have h:=run_endLoop (P:=P) hl (by rw[i];simp);rw[i]at h;exact h),ac _ xs _ ρ hS (hI.putObj _ hi I hl rfl) ((World.putObj_heap_other I).trans hd)⟩
end
end Go.Proofs.Υ
