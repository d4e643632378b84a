/- Lemmas. -/
import Derived.Test.YtodehkjinmgflaaGreatDoorV20
import Derived.RangeFuncNested
set_option linter.all false
set_option maxHeartbeats 0
set_option maxRecDepth 99999
namespace Go.Proofs.Υ
open Go Go.RowKit
section
variable {F : Fence} {n : Nat} {P : Program}
def SeqR(F:Fence)(n:Nat)(P:Program)(g:Nat)(lb:Array Value)(encs:Nat->Array Value)(s n0:Nat)(X:Nat->Prop)(w:World):Prop:=
 ∀(l:Nat) (J:Nat->World->Prop) (Jx:World->Prop) (W:World),Bl w W->AbL W.heap.size J ->
  (∀i W1,J i W1->i<=s->YieldAt F (n-1) P l (encs i) W1 fun e W'=>(e=.returned (.bool true)/\i≠s/\J (i+1) W'/\KeepC n0 X W1 W')\/(e=.returned (.bool false)/\Jx W')) ->
  J 0 W ->
  CallsIn F n P g (#[.func (.yield l) #[] #[]]++lb) W fun e W'=>(∃v,e=.returned v)/\Jx W'
theorem o6{g:Operand}{ps:Array Tmp}{assign body:Code}{Q:Exit->Act->World->Prop}{a:Act}{w:World}(bl:F.round=none)(h1:1<=n){gf:Nat}{lb:Array Value}(hg:a.eval g=.func (.func gf) #[] lb)(a0:F.fn gf)(eg:∀args w,(callFunc gf args).run P w=.ok (.enter gf args) w){E:Nat->Array Value}{s n0:Nat}{X:Nat->Prop}{w0:World}(ay:SeqR F (n-1) P gf lb E s n0 X w0)(bp:n0<=w.heap.size)(ag:Bl w0 w)(bk:∀x,(E x).size=ps.size)(bs:Nat->World->Prop)(hI:AbL w.heap.size bs)(Ix:World->Prop)(af:AbL w.heap.size (fun(_:Unit) W=>Ix W))(h0:bs 0 w)(Ax:Nat->Act->World->Prop)(az:∀x L,AbL w.heap.size (fun(_:Unit) W=>Ax x L W))(R:∀(l:Nat) (i:Nat) (W:World) (K:Act->World->Prop),i<=s->bs i W ->
  (∀L W',KeepsFrom w.heap.size W W'->KeepC n0 X W W'->bs i W'->Ax i L W'->K L W') ->
  assign.wpIn (F.inRound l) (n-1-1) P (Exit.then K (fun _ _ _=>False)) { tmps:=(ps.zip (E i)).foldl (fun t (p,v)=>t.setIfInBounds p v) a.tmps,defers:=[] } W)(aa:∀(l:Nat) (i:Nat) (L:Act) (W:World),i<=s->bs i W->Ax i L W ->
  body.wpIn (F.inRound l) (n-1-1) P (fun e _ W'=>match e with
   | .normal=>KeepsFrom w.heap.size W W'/\KeepC n0 X W W'/\i≠s/\bs (i+1) W'
   | .ret=>KeepsFrom w.heap.size W W'/\Ix W'
   | _=>False) L W)(ad:∀(D:Nat) (W:World),w.heap.size<=D->Ix W->W.heap[D]?=some (.deferred (some []))->(Code.ret).wpIn F n P Q { a with defers:={ target:=.collected D,args:=#[] }::a.defers } W):
 (Code.rangeFunc g ps assign body).wpIn F n P Q a w:=by
 refine wpIn_rangeFunc fun fn ba=>?_
 rw[bl];obtain⟨u,j⟩:∃u:LoopState->Option Code->Loop,u=fun st pe=>{ state:=st,pending:=pe,fn,tmps:=a.tmps,params:=ps,assign,body,defers:=w.heap.size }:=⟨_,rfl⟩
 obtain⟨J,G⟩:=χ ((w.alloc (.deferred (some []))).alloc (.loop (u .ready none)));have br:J.heap.size=w.heap.size+2:=by rw[<-G];simp
 have bg:J.heap[w.heap.size+1]?=some (.loop (u .ready none)):=by
  rw[<-G];have:=World.alloc_heap_new (w.alloc (.deferred (some []))) (.loop (u .ready none));rwa [World.size_alloc]at this
 have a8:J.heap[w.heap.size]?=some (.deferred (some [])):=by
  rw[<-G];exact(Below.heap_alloc _ _ _ (by simp)).trans (World.alloc_heap_new w _)
 have a4:Bl w0 J:=by
  rw[<-G];exact ag.trans ((((Below.refl _ w).alloc ρ _).alloc (by simp) _).mono ag.size)
 have bc:bs 0 J:=by rw[<-G];exact hI.alloc _ (hI.alloc _ h0 ρ) (by simp)
 have aw:∀(st:LoopState),AbL J.heap.size (fun(_:Nat) W=>W.heap[w.heap.size+1]?=some (.loop (u st none))/\W.heap[w.heap.size]?=some (.deferred (some []))):=by
  rintro st _ A B ⟨h2,h3⟩ hk;exact⟨(hk.bel.block _ I).trans h2,(hk.bel.block _ I).trans h3⟩
 refine⟨w.heap.size+1,[{ target:=.collected w.heap.size,args:=#[] }],J,{ target:=.fn (.func gf) lb,args:=#[.func (.yield (w.heap.size+1)) #[] #[]] },J,gf,
  #[.func (.yield (w.heap.size+1)) #[] #[]]++lb,J,?_,?_,?_,?_,fun _=>h1,?_⟩
 ·rw[<-G,j];exact run_enterLoop_outer _ _ _ _ _
 ·simp only[resolve,hg];simp[go_sem]
 ·intro f' ao;simp[Target.leads]at ao;subst ao;exact a0
 ·simp[invoke,go_sem,eg]
 refine(ay (w.heap.size+1) (fun i W=>bs i W/\(W.heap[w.heap.size+1]?=some (.loop (u .ready none))/\W.heap[w.heap.size]?=some (.deferred (some []))))
  (fun W=>Ix W/\W.heap[w.heap.size+1]?=some (.loop (u .done (some .ret)))/\W.heap[w.heap.size]?=some (.deferred (some []))) J a4
  ((hI.mono I).and (aw .ready)) ?_ ⟨bc,bg,a8⟩).mono ?_
 ·rintro i W ⟨hi,hl,hd⟩ ap
  have bm:w.heap.size+1<W.heap.size:=(Array.getElem?_eq_some_iff.1 hl).1;have hy:=run_yield (P:=P) (args:=E i) hl (by rw[j];exact bk i);rw[j]at hy;refine⟨fn,_,assign,body,hy,roundIn_of_wpIn ba (R _ i W _ ap hi ?_)⟩;intro L Wa ar a5 be a2;have Y:=ar.same _ _ I hl rfl;have a9:=ar.same _ _ ρ hd rfl;have av:w.heap.size+1<Wa.heap.size:=(Array.getElem?_eq_some_iff.1 Y).1;refine⟨_,run_beginRound Y (by rw[j]),?_⟩;obtain⟨Wb,H⟩:=χ (Wa.putObj (w.heap.size+1) (.loop { u .ready none with state:=.busy }));rw[H];have au:Wb.heap[w.heap.size+1]?=some (.loop { u .ready none with state:=.busy }):=by rw[<-H];exact World.putObj_heap_same av
  have an:Wb.heap[w.heap.size]?=some (.deferred (some [])):=by rw[<-H];exact(World.putObj_heap_other I).trans a9
  have a7:KeepC n0 X Wa Wb:=by rw[<-H];exact KeepC.putObj X _ I Y rfl
  have bf:bs i Wb:=by rw[<-H];exact hI.putObj _ be I Y rfl
  have a1:Ax i L Wb:=by rw[<-H];exact(az i L).putObj (s:=()) _ a2 I Y rfl
  refine wpIn_mono (aa _ i L Wb ap bf a1) ?_;rintro e a3 W3 hp
  cases e with
  | normal =>
   obtain⟨U,a6,bi,ac⟩:=hp;have C:=U.same _ _ I au rfl;have ab:=U.same _ _ ρ an rfl;have hr:=run_endRound (P:=P) none C;refine⟨_,_,hr,.inl ⟨rfl,bi,⟨hI.putObj _ ac I C rfl,?_,(World.putObj_heap_other I).trans ab⟩,((a5.trans a7).trans a6).trans (KeepC.putObj X _ I C rfl)⟩⟩;rw[World.putObj_heap_same (Array.getElem?_eq_some_iff.1 C).1,j]
   rfl
  | ret =>
   obtain⟨U,ac⟩:=hp;have C:=U.same _ _ I au rfl;have ab:=U.same _ _ ρ an rfl;have hr:=run_endRound (P:=P) (some .ret) C;refine⟨_,_,hr,.inr ⟨rfl,af.putObj (s:=()) _ ac I C rfl,?_,(World.putObj_heap_other I).trans ab⟩⟩;rw[World.putObj_heap_same (Array.getElem?_eq_some_iff.1 C).1,j]
   rfl
  | exit id=>exact hp.elim
  | goto t=>exact hp.elim
  | panic ch=>exact hp.elim
  | outgrown=>exact hp.elim
 ·rintro e W2 ⟨⟨v,rfl⟩,hi,hl,hd⟩
  exact⟨some .ret,_,(by have h:=run_endLoop (P:=P) hl (by rw[j];simp);rw[j]at h;exact h),ad _ _ ρ (af.putObj (s:=()) _ hi I hl rfl) ((World.putObj_heap_other I).trans hd)⟩
end
end Go.Proofs.Υ
