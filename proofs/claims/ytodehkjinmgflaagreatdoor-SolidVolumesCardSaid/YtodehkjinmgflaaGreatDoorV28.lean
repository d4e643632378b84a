/- Lemmas. -/
import Derived.Test.YtodehkjinmgflaaGreatDoorV27
import Derived.Maps.OwnIn
set_option linter.all false
set_option maxHeartbeats 0
set_option maxRecDepth 99999
namespace Go.Proofs.Υ
open Go Go.RowKit Tryz
open Go.Maps (Keyed)
def keyV(s:Nat×Nat):Value:=.agg #[.int .i64 (s.1:Int),.int .i64 (s.2:Int)]
def jL(s:Nat×Nat):Lit:=.string (keyBytes [.int .i64 (s.1:Int),.int .i64 (s.2:Int)])
def ED.key(e:ED):Nat×Nat:=(e.a,e.b)
def dN(s:Nat×Nat):Nat×Nat:=(min s.1 s.2,max s.1 s.2)
def iU(ks:List (Nat×Nat))(s:Nat×Nat):List (Nat×Nat):=if dN s∈ks then ks else ks++[dN s]
def bN(ks:List (Nat×Nat))(l:List (Nat×Nat)):List (Nat×Nat):=l.foldl iU ks
theorem rB(e l:List (Nat×Nat))(s:Nat×Nat):bN e (l++[s])=iU (bN e l) s:=by simp[bN]
theorem oF(e l i:List (Nat×Nat)):bN e (l++i)=bN (bN e l) i:=by simp[bN]
theorem mem_addKey{e:List (Nat×Nat)}{s t:Nat×Nat}:t∈iU e s↔t∈e\/t=dN s:=by
 unfold iU
 split
 ·rename_i h
  constructor
  ·exact .inl
  ·rintro(i|rfl)
   ·exact i
   ·exact h
 ·simp
theorem tD{i:List (Nat×Nat)}{s:Nat×Nat}(h:i.Nodup):(iU i s).Nodup:=by
 unfold iU
 split
 ·exact h
 ·rename_i j
  refine List.nodup_append.mpr ⟨h,by simp,?_⟩;intro a ha b hb e;rw[List.mem_singleton]at hb;subst hb;subst e;exact j ha
theorem tE{l:List (Nat×Nat)}:∀{i:List (Nat×Nat)} {t:Nat×Nat},t∈bN i l↔t∈i\/∃s∈l,t=dN s:=by
 induction l with
 | nil=>intro i t;simp[bN]
 | cons s l ih =>
  intro i t;show t∈bN (iU i s) l↔_;rw[ih,mem_addKey]
  constructor
  ·rintro((h|h)|⟨u,e,j⟩)
   ·exact .inl h
   ·exact .inr ⟨s,by simp,h⟩
   ·exact .inr ⟨u,by simp[e],j⟩
  ·rintro(h|⟨u,e,j⟩)
   ·exact .inl (.inl h)
   ·rcases List.mem_cons.mp e with rfl|e
    ·exact .inl (.inr j)
    ·exact .inr ⟨u,e,j⟩
theorem qh{l:List (Nat×Nat)}:∀{e:List (Nat×Nat)},e.Nodup->(bN e l).Nodup:=by
 induction l with
 | nil=>intro e h;exact h
 | cons s l ih=>intro e h;exact ih (tD h)
def tZ(ks:List (Nat×Nat)):Prop:=∀s∈ks,s.1<64/\s.2<64
theorem kA{u:List (Nat×Nat)}(h:tZ u)(J:u.Nodup):u.length<=4096:=by
 have G:(u.map fun s=>s.1*64+s.2).Nodup:=by
  rw[List.Nodup,List.pairwise_map];refine(List.pairwise_iff_getElem.mpr ?_);intro i j hi F A;have C:=(List.pairwise_iff_getElem.mp J) i j hi F A;have a:=h _ (List.getElem_mem hi);have b:=h _ (List.getElem_mem F);intro e;exact C (Prod.ext I I)
 have H:=fz _ (List.range 4096) G (fun x Q=>by
  obtain⟨s,L,rfl⟩:=List.mem_map.mp Q;have:=h s L;exact List.mem_range.mpr I)
 simpa using H
def nK(P:Program)(w:World)(kt et:TypeId)(b n:Nat)(ks:List (Nat×Nat)):Prop:=
 ∃D:DataW Unit,w.ownsMap P kt (plainElem P et) b n D/\Go.Maps.IsMap D/\∀s:Nat×Nat,s.1<64->s.2<64 ->
  Go.Maps.has D (jL s)=decide (s∈ks)/\∀i:Nat,ks[i]?=some s->D.atKey (jL s) (.lit (.int .i64 0))=.lit (.int .i64 (i:Int))
theorem nK.made(P:Program)(w:World)(j e:TypeId):nK P (w.alloc (.map #[] 0)) j e w.heap.size 0 []:=
 ⟨.map [],World.ownsMap_made _ _ _ _,⟨_,rfl⟩,fun s _ _=>⟨by simp[Go.Maps.has],fun i h=>by simp at h⟩⟩
theorem nK.kept{P:Program}{w w':World}{u i:TypeId}{b n:Nat}{j:List (Nat×Nat)}(h:nK P w u i b n j){row:Option Nat}(A:w.grownBy w' row)(e:some b≠row):nK P w' u i b n j:=by
 obtain⟨D,G,F,C⟩:=h;exact⟨D,G.kept A e,F,C⟩
theorem i64_wf(x:Nat)(h:x<9223372036854775808):(Lit.int .i64 (x:Int)).wf=true:=by
 simp only[Lit.wf,Bool.and_eq_true,decide_eq_true_eq];refine⟨?_,?_⟩
 ·show(-9223372036854775808:Int)<=x;omega
 ·show(x:Int)<=9223372036854775807;omega
theorem keyL_inj{P:Program}{F:TypeId}(K:Keyed P F)(C:∀s:Nat×Nat,s.1<64->s.2<64->keyOf P F (keyV s)=some (jL s)){s t:Nat×Nat}(e:s.1<64)(i:s.2<64)(j:t.1<64)(u:t.2<64)(H:jL t=jL s):t=s:=by
 have G:=C s e i;have A:=C t j u;rw[H]at A;have:=K.inj A G;unfold keyV at this;simp at this;exact Prod.ext I I
theorem nK.put{P:Program}{w w':World}{J Q:TypeId}{b n U:Nat}{j:List (Nat×Nat)}{D:DataW Unit}(K:Keyed P J)(R:∀s:Nat×Nat,s.1<64->s.2<64->keyOf P J (keyV s)=some (jL s))(L:Go.Maps.IsMap D)(ha:∀s:Nat×Nat,s.1<64->s.2<64->Go.Maps.has D (jL s)=decide (s∈j)/\∀i:Nat,j[i]?=some s->D.atKey (jL s) (.lit (.int .i64 0))=.lit (.int .i64 (i:Int)))(s:Nat×Nat)(G:s.1<64)(H:s.2<64)(W:s∉j)(X:w'.ownsMap P J (plainElem P Q) b U (D.put (jL s) (.lit (.int .i64 (j.length:Int))))):nK P w' J Q b U (j++[s]):=by
 have C:WideAt.IsKeyLit (jL s):=K.key (R s G H);refine⟨_,X,L.put _ _,fun t u A=>?_⟩;by_cases e:t=s
 ·subst e
  refine⟨by rw[Go.Maps.has_put_same L C];simp,fun i hi=>?_⟩;rw[Go.Maps.atKey_put_same L C];have:i=j.length:=by
   rcases Nat.lt_trichotomy i j.length with h|h|h
   ·rw[List.getElem?_append_left h]at hi
    exact absurd (List.mem_of_getElem? hi) W
   ·exact h
   ·rw[List.getElem?_eq_none (by simp;omega)]at hi;cases hi
  rw[this]
 ·have F:jL t≠jL s:=fun h=>e (keyL_inj K R G H u A h)
  refine⟨by rw[Go.Maps.has_put_other F,(ha t u A).1];simp[e],fun i hi=>?_⟩;rw[Go.Maps.atKey_put_other F];refine(ha t u A).2 i ?_
  rcases Nat.lt_trichotomy i j.length with h|h|h
  ·rwa [List.getElem?_append_left h]at hi
  ·subst h
   rw[List.getElem?_append_right ρ,Nat.sub_self]at hi;simp at hi;exact absurd hi.symm e
  ·rw[List.getElem?_eq_none (by simp;omega)]at hi;cases hi
theorem arr94:WideMaps.ArrKey prog 151 3 2:=⟨underlying151,by kernel_rfl,by kernel_rfl,by kernel_rfl⟩
theorem oS:Go.Maps.Keyed prog 151:=Go.Maps.Keyed.of_law arr94.law
theorem key94(s:Nat×Nat)(e:s.1<64)(i:s.2<64):keyOf prog 151 (keyV s)=some (jL s):=
 WideMaps.keyOf_pair arr94 underlying3 ⟨prog.types.size-1,by kernel_rfl⟩ (i64_wf _ I) (i64_wf _ I)
structure EI (B0:Nat) (w W:World) (ks:List (Nat × Nat)) (ev:Value) (es:List ED):Prop where
 b1:Box W (B0+1) #[.map (some B0)] 255
 b2:Box W (B0+2) #[ev] 84
 own:eI W (B0+3) ev es
 keys:es.map ED.key=ks
 map:nK Proofs.Tryz.prog W 151 3 B0 ks.length ks
 bel:Below B0 w W
 nod:ks.Nodup
 small:tZ ks
theorem EI.lt{e:Nat}{w W:World}{j:List (Nat×Nat)}{i:Value}{es:List ED}(h:EI e w W j i es):e+2<W.heap.size:=h.b2.lt
theorem EI.grown{i:Nat}{w W W':World}{F:List (Nat×Nat)}{u:Value}{es:List ED}(h:EI i w W F u es){row:Option Nat}(j:W.grownBy W' row)(C:∀r,row=some r->i+2<r/\u.ownBlock≠some r)(G:i<=w.heap.size):EI i w W' F u es:=by
 have ne:∀k,k<=i+2->some k≠row:=fun k H e=>by have:=(C k e.symm).1;omega
 exact⟨h.b1.grown j (ne _ I),h.b2.grown j (ne _ I),World.ownsRow.kept h.own j (by
  rcases hv:u.ownBlock with _|g
  ·exact .inl rfl
  ·exact .inr (fun e=>(C g e.symm).2 hv)),h.keys,h.map.kept j (ne _ I),h.bel.grown j (Nat.le_trans G h.bel.size) (fun g A=>by have:=(C g A).1;omega),h.nod,h.small⟩
theorem EI.from{i:Nat}{w W W':World}{A:List (Nat×Nat)}{j:Value}{es:List ED}(h:EI i w W A j es){B:Nat}(Q:i+2<B){row:Option Nat}(F:W.grownBy W' row)(H:∀r,row=some r->B<=r/\∃o:Obj,W.heap[r]?=some o/\o.isCells=false)(J:i<=w.heap.size):EI i w W' A j es:=
 h.grown F (fun r e=>by
  obtain⟨L,o,G,hc⟩:=H r e;refine⟨by omega,fun C=>?_⟩;obtain⟨cs,u⟩:=fP h.own r C;rw[G]at u;cases u;cases hc) J
theorem EI.alloc{i:Nat}{w W:World}{u:List (Nat×Nat)}{j:Value}{es:List ED}(h:EI i w W u j es)(A:i<=w.heap.size)(o:Obj):EI i w (W.alloc o) u j es:=
 h.grown (World.grownBy_alloc W o none) (fun r e=>by cases e) A
theorem EI.drew{i:Nat}{w W:World}{u:List (Nat×Nat)}{j:Value}{es:List ED}(h:EI i w W u j es)(A:i<=w.heap.size):EI i w W.drew u j es:=
 h.grown (row:=none) ⟨rfl,rfl,rfl,Nat.le_refl _,fun _ _ _=>rfl⟩ (fun r e=>by cases e) A
def g9(W:World)(lo:Nat)(Ds:List Nat):Prop:=Ds.Nodup/\∀D∈Ds,lo<=D/\W.heap[D]?=some (.deferred (some []))
def mark(D:Nat):Deferred:={ target:=.collected D,args:=#[] }
theorem g9.lt{W:World}{lo:Nat}{e:List Nat}(h:g9 W lo e):∀D∈e,D<W.heap.size:=fun D hD=>(Array.getElem?_eq_some_iff.1 (h.2 D hD).2).1
theorem g9.grown{W W':World}{lo:Nat}{i:List Nat}(h:g9 W lo i){row:Option Nat}(j:W.grownBy W' row)(u:∀r,row=some r->r∉i):g9 W' lo i:=
 ⟨h.1,fun D hD=>⟨(h.2 D hD).1,by rw[j.block D (h.lt D hD) (fun e=>u D e.symm hD)];exact(h.2 D hD).2⟩⟩
theorem g9.alloc{W:World}{lo:Nat}{i:List Nat}(h:g9 W lo i)(o:Obj):g9 (W.alloc o) lo i:=h.grown (World.grownBy_alloc W o none) (fun r e=>by cases e)
theorem mw{P:Program}{F:Fence}{n:Nat}{C:Func}{i:Array Value}{R:Ending->World->Prop}{lo:Nat}(J:World->Prop)(G:∀W D,lo<=D->W.heap[D]?=some (.deferred (some []))->J W->J (W.putObj D (.deferred none))):
 ∀(j:List Nat) (W:World),g9 W lo j->J W->(∀W',J W'->LeavesIn F n P C i R [] .returning W')->LeavesInM F n P C i R (j.map mark) .returning W
 | [],W,_,hW,h=>h W hW
 | D::j,W,hM,hW,h=>by
  have hD:=hM.2 D (by simp);refine⟨by simp,.inl ⟨D,_,rfl,run_takeDeferred hD.2,?_⟩⟩;refine mw J G j _ ⟨(List.nodup_cons.mp hM.1).2,fun E u=>⟨(hM.2 E (by simp[u])).1,?_⟩⟩ (G W D hD.1 hD.2 hW) h;have A:E≠D:=fun e=>(List.nodup_cons.mp hM.1).1 (e▸u)
  rw[World.putObj_heap_other A];exact(hM.2 E (by simp[u])).2
theorem flat_set{A:Type}(f:A->List Value)(k:Nat)(e:∀x,(f x).length=k):∀(l:List A) (i j:Nat) (x:A) (y:A) (u:Value),l[i]?=some x->j<k->f y=(f x).set j u->(l.flatMap f).set (i*k+j) u=(l.set i y).flatMap f
 | [],i,j,x,y,u,h,_,_=>by simp at h
 | a::l,0,j,x,y,u,h,hj,hy=>by
  simp at h;subst h;simp only[List.flatMap_cons,List.set_cons_zero,Nat.zero_mul,Nat.zero_add];rw[List.set_append_left _ _ (by rw[e];exact hj),hy]
 | a::l,i+1,j,x,y,u,h,hj,hy=>by
  have C:l[i]?=some x:=by simpa using h
  simp only[List.flatMap_cons,List.set_cons_succ];rw[List.set_append_right _ _ (by rw[e,Nat.succ_mul];omega),e,show(i+1)*k+j-k=i*k+j by rw[Nat.succ_mul];omega,flat_set f k e l i j x y u C hj hy]
theorem EI.found{G:Nat}{w W:World}{Q:List (Nat×Nat)}{g A:Nat}{es:List ED}(h:EI G w W Q (.slice (some ⟨g,0,none⟩) es.length A) es)(U:G<=w.heap.size)(i:Nat)(e:ED)(F:es[i]?=some e)(f:Int):
 EI G w (W.setCell ⟨g,i*4+3,none⟩ (.int .i64 f)) Q (.slice (some ⟨g,0,none⟩) es.length A) (es.set i { e with g:=f }):=by
 have hb:=cz h.own g rfl;have u:=bE W g (i*4+3) (.int .i64 f);refine⟨h.b1.grown u (fun e=>by cases e;omega),h.b2.grown u (fun e=>by cases e;omega),?_,?_,h.map.kept u (fun e=>by cases e;omega),h.bel.grown u (Nat.le_trans U h.bel.size) (fun g' H=>by cases H;omega),h.nod,h.small⟩
 ·have J:=(World.ownsRow.stored h.own (i*4+3) (.int .i64 f)).1
  unfold eI;rw[List.length_set,<-flat_set cx 4 (fun _=>rfl) es i 3 e { e with g:=f } (.int .i64 f) F I rfl];exact J
 ·rw[<-h.keys,List.map_set]
  apply List.ext_getElem?;intro j;rw[List.getElem?_set];by_cases C:i=j
  ·subst C
   have L:i<es.length:=(List.getElem?_eq_some_iff.1 F).1;have R:es[i]=e:=by rw[List.getElem?_eq_getElem L]at F;exact Option.some.inj F
   simp[L,R];rfl
  ·simp[C]
theorem EI.mapped{i:Nat}{w W W':World}{C:List (Nat×Nat)}{j:Value}{es:List ED}(h:EI i w W C j es){s:Nat×Nat}(G:nK Proofs.Tryz.prog W' 151 3 i (C.length+1) (C++[s]))(u:W.grownBy W' (some i))(F:i<=w.heap.size):
 Box W' (i+1) #[.map (some i)] 255/\Box W' (i+2) #[j] 84/\eI W' (i+3) j es/\Below i w W':=
 ⟨h.b1.grown u (fun e=>by simp at e),h.b2.grown u (fun e=>by simp at e),World.ownsRow.kept h.own u (by
  rcases hv:j.ownBlock with _|g
  ·exact .inl rfl
  ·refine .inr (fun e=>?_)
   have:=cz h.own g hv;cases e;omega),h.bel.grown u (Nat.le_trans F h.bel.size) (fun g A=>by cases A;exact Nat.le_refl _)⟩
theorem eI.form{W:World}{base:Nat}{e:Value}{es:List ED}(h:eI W base e es):∃p c,e=.slice p es.length c/\(es=[]\/∃g,p=some ⟨g,0,none⟩/\g<W.heap.size):=by
 obtain⟨_,⟨rfl,h0⟩|⟨g,c,_,rfl,_,i,_⟩⟩:=h
 ·have:es=[]:=List.length_eq_zero_iff.1 h0
  subst this;exact⟨none,0,rfl,.inl rfl⟩
 ·exact⟨_,_,rfl,.inr ⟨g,rfl,(Array.getElem?_eq_some_iff.1 i).1⟩⟩
theorem own_low{w:World}{base e k:Nat}{v:Value}{n:Nat}{xs:List Value}(h:w.ownsRow base e k v n xs){g:Nat}(i:g<base):v.ownBlock=none\/v.ownBlock≠some g:=by
 rcases hv:v.ownBlock with _|g'
 ·exact .inl rfl
 ·refine .inr (fun e=>?_)
  have:=cz h g' hv;cases e;omega
theorem EI.new{j:Nat}{w W H J:World}{G:List (Nat×Nat)}{L F:Value}{es:List ED}(h:EI j w W G L es)(hw:j<=w.heap.size){s:Nat×Nat}(aa:s.1<64)(ab:s.2<64)(hn:s∉G)(hm:nK Proofs.Tryz.prog H 151 3 j (G.length+1) (G++[s]))(C:W.grownBy H (some j))(o:Obj){e:ED}(he:e.key=s)(A:J.ownsRow (j+3) 153 4 F (es.length+1) (es.flatMap cx++cx e))(i:(H.alloc o).grownBy J L.ownBlock):
 EI j w (J.setCell ⟨j+2,0,none⟩ F) (G++[s]) F (es++[e]) /\
 ∀k,k<W.heap.size->k≠j->k≠j+2->some k≠L.ownBlock->(J.setCell ⟨j+2,0,none⟩ F).heap[k]?=W.heap[k]? := by
 have ac:=h.lt;have R:∀k,k<=j+2->some k≠L.ownBlock:=fun k hk e=>by have:=cz h.own k e.symm;omega
 have U:some (j+2)≠F.ownBlock:=fun e=>by have:=cz A _ e.symm;omega
 obtain⟨c1,c2,c3,c4⟩:=h.mapped hm C hw;have X:=(c1.old o).grown i (R _ I);have Y:=(c2.old o).grown i (R _ I);have u:=bE J (j+2) 0 F;have ad:=C.size;refine⟨⟨X.grown u (fun e=>by simp at e),Y.set 0 F,?_,by rw[List.map_append,h.keys,List.map_singleton,he],?_,?_,?_,?_⟩,?_⟩
 ·have:=World.ownsRow.kept A u (.inr (fun e=>U e.symm))
  unfold eI;rw[List.length_append,List.flatMap_append]
  simpa using this
 ·rw[List.length_append]
  exact((hm.kept (World.grownBy_alloc H o none) (by simp)).kept i (R _ I)).kept u (fun e=>by simp at e)
 ·exact((c4.alloc I o).grown i (by have:=c4.size;simp;omega) (fun g hg=>by have:=cz h.own g hg;omega)).grown u (by have:=c4.size;have:=i.size;simp at this;omega) (fun g hg=>by cases hg;omega)
 ·refine List.nodup_append.mpr ⟨h.nod,by simp,?_⟩
  intro a ha b hb e;rw[List.mem_singleton]at hb;subst hb;subst e;exact hn ha
 ·intro t ht
  rcases List.mem_append.mp ht with Q|Q
  ·exact h.small t Q
  ·rw[List.mem_singleton]at Q;subst Q;exact⟨aa,ab⟩
 ·intro k hk h1 h2 h3
  rw[u.block k (by have:=i.size;simp at this;omega) (fun e=>by simp at e;omega),i.block k (by simp;omega) h3,(World.grownBy_alloc H o none).block k I (by simp),C.block k hk (fun e=>by simp at e;omega)]
theorem EI.keeps{j:Nat}{w W W':World}{ks:List (Nat×Nat)}{H:Value}{es:List ED}(h:EI j w W ks H es)(R:W.heap.size<=W'.heap.size)(i:∀k,k<W.heap.size->k≠j->k≠j+2->some k≠H.ownBlock->W'.heap[k]?=W.heap[k]?){B g F A lo:Nat}{c5 cs:Array Value}{U:List Nat}(hB:j+2<B)(J:Box W F c5 3)(aa:j+2<F)(Q:Box W A cs 63)(ad:j+2<A)(hg:g<j)(G:g9 W lo U)(ab:j+3<=lo):
 KeepsFrom B W W'/\iA A g W W'/\Box W' F c5 3/\Box W' A cs 63/\g9 W' lo U:=by
 have u:∀k,some k=H.ownBlock->j+3<=k/\∃cs,W.heap[k]?=some (.cells cs 153 (0,0)):=fun k e=>⟨cz h.own k e.symm,fP h.own k e.symm⟩
 have Y:=i F J.lt I I (aH h.own J ν);have es:=i A Q.lt I I (aH h.own Q ν);have ac:=h.lt;refine⟨⟨R,fun k o hk L hc=>?_⟩,⟨es,?_⟩,by unfold Box;rw[Y];exact J,by unfold Box;rw[es];exact Q,⟨G.1,fun D hD=>⟨(G.2 D hD).1,?_⟩⟩⟩
 ·rw[i k (Array.getElem?_eq_some_iff.1 L).1 I I (fun e=>?_)]
  ·exact L
  ·obtain⟨_,cs,C⟩:=u k e
   rw[L]at C;cases C;cases hc
 ·exact i g I I I (fun e=>by have:=(u g e).1;omega)
 ·have C:=G.2 D hD
  rw[i D (G.lt D hD) I I (fun e=>?_)]
  ·exact C.2
  ·obtain⟨_,cs,X⟩:=u D e
   rw[C.2]at X;cases X
theorem FRow.at_{w:World}{base:Nat}{v:Value}{qs:List (Q3×Rat)}{rs:List FR}(h:FRow w base v qs rs)(i:Nat)(hi:i<rs.length):
 ∃b e r,v=.slice (some ⟨b,0,none⟩) rs.length e/\b<w.heap.size/\rs[i]?=some r/\∀j,j<17->w.cell? ⟨b,i*17+j,none⟩=(cI r)[j]? := by
 obtain⟨J,⟨_,h0⟩|⟨g,e,C,rfl,H,F,Q,L,R,U⟩⟩:=h.own
 ·omega
 ·obtain⟨r,A⟩:∃r,rs[i]?=some r:=⟨_,List.getElem?_eq_getElem hi⟩
  refine⟨g,e,r,rfl,(Array.getElem?_eq_some_iff.1 F).1,A,fun j G=>?_⟩;have u:i*17+j<rs.length*17:=I;rw[World.ownsRow.cellAt h.own (i*17+j) u];exact dQ cI 17 qA rs i j r A G
structure EdgesOk (rs:List (List Nat)) (es:List ED):Prop where
 nodup:(es.map ED.key).Nodup
 small:tZ (es.map ED.key)
 mem:∀ t,t ∈ es.map ED.key↔∃ r ∈ rs,∃ s ∈ cX r,t=dN s
def RetEdges(rs:List (List Nat))(base:Nat)(w':World)(e:Ending):Prop:=∃ev es,e=.returned ev/\eI w' base ev es/\EdgesOk rs es
def EdgesI(v:Value)(len:Nat)(w:World)(rs:List (List Nat))(a':Act)(w':World):Prop:=
 ∃(i:Nat) (Ds:List Nat) (ev:Value) (es:List ED) (u5 u6 u7 u8 u9 u10 u11 u16 u17 u18 u19 u20 u21 u22 u23 u24 u25 u26 u27 u28 u29 u30 u31 u32 u33 u34 u35 u36 u37 u38 u39 u40 u41 u42 u43 u44 u45 u46 u47 u48 u49 u50 u51 u52 u53 u54 u55 u56 u57 u58 u59 u60:Value),i<=len/\Hid (g9 w' (w.heap.size+3) Ds)/\Hid (EI w.heap.size w w' (bN [] ((rs.take i).flatMap cX)) ev es) /\
  a'={ tmps:=List.toArray (v::undef::.slice none 0 0::.pointer (some ⟨w.heap.size+1,0,none⟩)::.pointer (some ⟨w.heap.size+2,0,none⟩)::u5::u6::u7::u8::u9::u10::u11::.map (some w.heap.size)::v::.int .i64 (len:Nat)::.int .i64 (i:Nat)::u16::u17::u18::u19::u20::u21::u22::u23::u24::u25::u26::u27::u28::u29::u30::u31::u32::u33::u34::u35::u36::u37::u38::u39::u40::u41::u42::u43::u44::u45::u46::u47::u48::u49::u50::u51::u52::u53::u54::u55::u56::u57::u58::u59::u60::undef::undef::undef::[]),defers:=Ds.map mark }
theorem infoEdge:(prog.info? 153).map (fun i=>(i.zero,i.size,i.bytes))=some (some (.agg #[.int .i64 0,.int .i64 0,.int .i64 0,.int .i64 0]),4,32):=by kernel_rfl
theorem edges_any(v:Value)(len:Nat)(qs:List (Q3×Rat))(aa:List FR)(rs:List (List Nat))(base br:Nat)(w:World)(ad:len=aa.length)(ek:len<=262144)(hF:FRow w base v qs aa)(hr:rs.length=len)(hI:∀(i:Nat) (f:FR) (r:List Nat),aa[i]?=some f->rs[i]?=some r->bo w br f.v r)(h64:∀r∈rs,r.length<=64/\r≠[]/\∀i∈r,i<64):
 Calls prog 139 #[v] w fun e w'=>RetEdges rs w.heap.size w' e/\Bl w w':=by
 have eD:=@run_makeMap prog;obtain⟨pa,ao,hv⟩:∃pa ao,v=.slice pa len ao:=by
  obtain⟨_,⟨rfl,h0⟩|⟨g,c,_,rfl,_⟩⟩:=hF.own
  ·exact⟨none,0,by rw[ad,h0]⟩
  ·exact⟨_,_,by rw[ad]⟩
 obtain⟨HF,HI,c6,ca,HR⟩:=η5 hF hI h64 ad hr;clear hF hI h64 ad hr;subst hv;refine(callsIn_wide (n:=9)).1 ?_;refine callsIn_of_wp_marks func139 rfl trivial ?_ rfl;simp only[ntmps139,List.size_toArray,List.length_cons,List.length_nil,Nat.reduceAdd,Nat.reduceSub,Array.replicate_succ,Array.replicate_zero,List.push_toArray,List.append_toArray,List.nil_append,List.cons_append]
 gi_wp2_with fail
 refine wpIn_loop (EdgesI (.slice pa len ao) len w rs) (fun a' _=>len-(intOf (a'.tmps.getD 15 undef)).toNat) ?_ ?_
 ·refine⟨0,[],.slice none 0 0,[],_,_,_,_,_,_,_,_,_,_,_,_,_,_,_,_,_,_,_,_,_,_,_,_,_,_,_,_,_,_,_,_,_,_,_,_,_,_,_,_,_,_,_,_,_,_,_,_,_,_,_,_,Nat.zero_le _,⟨List.nodup_nil,by simp⟩,?_,rfl⟩
  exact⟨(Box.new2 _ _ _ _).old _,Box.new _ _ _ _ (by simp),World.ownsRow_nil _ _ _ _,rfl,((nK.made _ _ _ _).kept (World.grownBy_alloc _ _ none) (by simp)).kept (World.grownBy_alloc _ _ none) (by simp),((((Below.refl _ w).alloc ρ _).alloc (by simp) _).alloc (by simp;omega) _),List.nodup_nil,fun s hs=>by cases hs⟩
 ·rintro _ wr ⟨i,Ds,ev,es,u5,u6,u7,u8,u9,u10,u11,u16,u17,u18,u19,u20,u21,u22,u23,u24,u25,u26,u27,u28,u29,u30,u31,u32,u33,u34,u35,u36,u37,u38,u39,u40,u41,u42,u43,u44,u45,u46,u47,u48,u49,u50,u51,u52,u53,u54,u55,u56,u57,u58,u59,u60,hi,HM,Y,rfl⟩
  by_cases h0:i=len
  ·have hn:¬ (i:Int)<(len:Int):=I
   have bF:wr.cell? ⟨w.heap.size+2,0,none⟩=some ev:=(Y.o.b2.cell 0).trans rfl;have dd:=O h0;clear h0
   gi_wp2_with fail
   refine⟨trivial,?_⟩;have a7:es.length<=262144:=by
    have:=kA Y.o.small Y.o.nod;rw[<-Y.o.keys,List.length_map]at this;omega
   refine(callsIn_wide.2 (rm ev es (w.heap.size+3) wr Y.o.own a7)).mono ?_;rintro e w2 ⟨rfl,⟨bs,a0,ay⟩,a8⟩;have cU:=cz Y.o.own;have be:=Y.o.b2.grown a8 (fun e=>by have:=cU _ e.symm;omega);have er:w2.cell? ⟨w.heap.size+2,0,none⟩=some ev:=(be.cell 0).trans rfl;obtain⟨HP,HO⟩:=η2 a0 ay;have de:=O (show g9 w2 (w.heap.size+3) Ds from HM.o.grown a8 (fun r e hD=>by
    obtain⟨cs,G⟩:=fP Y.o.own r e;rw[(HM.o.2 r hD).2]at G;cases G))
   have c7:=O (show Bl w w2 from Y.o.bel.grown a8 Y.o.bel.size (fun g hg=>by have:=cU g hg;omega));clear a0 ay a8 be bF
   gi_wp2_with fail
   refine mw (lo:=w.heap.size+3) (fun W=>eI W w.heap.size ev bs/\Bl w W) ?_ Ds w2 de.o ⟨bX HO.o I,c7.o⟩ ?_
   ·rintro W D hD hW ⟨G,h2⟩
    refine⟨World.ownsRow.kept G (grownBy_putObj' W D _) (.inr (fun e=>?_)),h2.grown (grownBy_putObj' W D _) h2.size (fun k e=>by cases e;omega)⟩;obtain⟨cs,h3⟩:=fP G D e;rw[hW]at h3;cases h3
   ·rintro W' ⟨G,h2⟩
    refine⟨_,results_tmp rfl _ _ _,⟨ev,bs,rfl,G,?_⟩,h2⟩;have hk:(bs.map ED.key).Perm (bN [] ((rs.take i).flatMap cX)):=by rw[<-Y.o.keys];exact HP.o.map _
    have ht:rs.take i=rs:=List.take_of_length_le (by rw[HR.o];exact Nat.le_of_eq dd.o.symm);rw[ht]at hk;refine⟨hk.nodup_iff.mpr (qh List.nodup_nil),fun s hs=>Y.o.small s (by rw[ht];exact hk.mem_iff.mp hs),fun t=>?_⟩;rw[hk.mem_iff,tE]
    constructor
    ·rintro(h|⟨s,hs,e⟩)
     ·cases h
     ·obtain⟨r,G,h2⟩:=List.mem_flatMap.mp hs
      exact⟨r,G,s,h2,e⟩
    ·rintro⟨r,G,s,h2,e⟩
     exact .inr ⟨s,List.mem_flatMap.mpr ⟨r,G,h2⟩,e⟩
  ·have eb:(i:Int)<(len:Int):=I
   have ey:i<len:=I;obtain⟨b,ej,fr,e,hb,cF,hc⟩:=HF.o.at_ i (ψ ca.o);cases e;have F:∀j,j<17->wr.cell? ⟨b,i*17+j,none⟩=(cI fr)[j]? := fun j hj=>(Y.o.bel.cell (p:=⟨b,i*17+j,none⟩) hb).trans (hc j hj)
   obtain⟨r,hr⟩:∃r,rs[i]?=some r:=⟨_,List.getElem?_eq_getElem (ψ HR.o)⟩;have aw:=HI.o i fr r cF hr;obtain⟨⟨n0,X,R⟩,ro,em⟩:=fr;simp only[]at aw;obtain⟨q1,q2,rfl,av⟩:=bo.ints aw;have b8:=c6.o r (List.mem_of_getElem? hr);obtain⟨g,og,rfl,hg,dA,bI⟩:=av.cells (by have:=List.length_pos_iff.mpr b8.2.1;omega);obtain⟨N,hN⟩:=χ r.length;rw[hN]at F bI dA;obtain⟨dk,dl,cc,db⟩:=η4 hr b8 hN bI;have d0:=F 0 I;have d1:=F 1 I;have d2:=F 2 I;have d3:=F 3 I;have d4:=F 4 I;have d5:=F 5 I;have d6:=F 6 I;have d7:=F 7 I;have d8:=F 8 I;have d9:=F 9 I;have ch:=F 10 I;have ci:=F 11 I;have d12:=F 12 I;have cl:=F 13 I;have cm:=F 14 I;have cq:=F 15 I;have cr:=F 16 I;simp only[cI,bQ,ah,rc4,List.cons_append,List.nil_append,List.getElem?_cons_zero,List.getElem?_cons_succ,Nat.add_zero]at d0 d1 d2 d3 d4 d5 d6 d7 d8 d9 ch ci d12 cl cm cq cr;clear hc F hr b8 bI aw av cF hN;obtain⟨Wc,a4,b5,b6,du,cB⟩:=bU wr #[.int .i64 (i:Nat)] #[.bool n0.s,.slice n0.a n0.n n0.c,.bool n0.t,.slice n0.b n0.m n0.d,.bool X.s,.slice X.a X.n X.c,.bool X.t,.slice X.b X.m X.d,.bool R.s,.slice R.a R.n R.c,.bool R.t,.slice R.b R.m R.d,.bool ro.s,.slice ro.a ro.n ro.c,.bool ro.t,.slice ro.b ro.m ro.d,.slice (some ⟨g,og,none⟩) N q2] 3 155;have bl:=O (show EI w.heap.size w Wc _ ev es from by rw[<-a4];exact(Y.o.alloc ρ _).alloc ρ _);have bp:=O (show g9 Wc _ Ds from by rw[<-a4];exact(HM.o.alloc _).alloc _);have B5:=O b5;have e3:Wc.cell? ⟨wr.heap.size+1,16,none⟩=some (.slice (some ⟨g,og,none⟩) N q2):=(b6.cell 16).trans rfl;have SC:=O cB;clear b5 b6 du cB
   gi_wp2_with fail
   try rw[a4]
   clear d0 d1 d2 d3 d4 d5 d6 d7 d8 d9 ch ci d12 cl cm cq cr a4;refine⟨trivial,?_⟩;refine(callsIn_wide.2 (sides_any _ _ _ _)).mono ?_;rintro e w' ⟨rfl,rfl⟩
   gi_wp2_with fail
   have bz:=dl.o;have e0:w.heap.size+2<Wc.heap.size:=bl.o.lt;refine wpIn_rangeFunc_ownG rfl I (gf:=220) (lb:=#[.pointer (some ⟨Wc.heap.size,0,none⟩)]) rfl trivial (enters_of func220 Z rfl)
    (sides_stops 8 I Wc.heap.size g og q2 r bz.2.2 bz.1 _ (by simp) (by simp;omega) ?hBs ?hcs) iA.trans ?hKb β (fun _=>rfl)
    (fun an W=>∃ev es,EI w.heap.size w W (bN (bN [] ((rs.take i).flatMap cX)) (an.map fun x=>(x.1.val,x.2.val))) ev es/\Box W wr.heap.size #[.int .i64 (i:Nat)] 3/\Box W Wc.heap.size #[.slice (some ⟨g,og,none⟩) N q2] 63/\g9 W (w.heap.size+3) Ds)
    (fun _ _ _=>False) ?hI (fun _ _ _ _ _ hs _ _=>hs) ?h0 (fun x=>{ tmps:=List.toArray ((.slice (some ⟨b,0,none⟩) aa.length ao)::undef::.slice none 0 0::.pointer (some ⟨w.heap.size+1,0,none⟩)::.pointer (some ⟨w.heap.size+2,0,none⟩)::.pointer (some ⟨wr.heap.size,0,none⟩)::.pointer (some ⟨wr.heap.size+1,0,none⟩)::.int .i64 (x.1.val:Int)::.int .i64 (x.2.val:Int)::u9::u10::u11::.map (some w.heap.size)::(.slice (some ⟨b,0,none⟩) aa.length ao)::.int .i64 (aa.length:Nat)::.int .i64 (i:Nat)::.bool true::.int .i64 (i:Nat)::.pointer (some ⟨b,i*17,none⟩)::.agg #[.bool n0.s,.slice n0.a n0.n n0.c,.bool n0.t,.slice n0.b n0.m n0.d,.bool X.s,.slice X.a X.n X.c,.bool X.t,.slice X.b X.m X.d,.bool R.s,.slice R.a R.n R.c,.bool R.t,.slice R.b R.m R.d,.bool ro.s,.slice ro.a ro.n ro.c,.bool ro.t,.slice ro.b ro.m ro.d,.slice (some ⟨g,og,none⟩) N q2]::.pointer (some ⟨wr.heap.size+1,16,none⟩)::.slice (some ⟨g,og,none⟩) N q2::.func (.func 220) #[] #[.pointer (some ⟨Wc.heap.size,0,none⟩)]::.int .i64 (x.1.val:Int)::.int .i64 (x.2.val:Int)::u25::u26::u27::u28::u29::u30::u31::u32::u33::u34::u35::u36::u37::u38::u39::u40::u41::u42::u43::u44::u45::u46::u47::u48::u49::u50::u51::u52::u53::u54::u55::u56::u57::u58::u59::u60::undef::undef::undef::[]),defers:=[] }) ?assign ?body ?done ?stop
   case hBs=>rw[cc.o];exact(Box.new1 _ _ _).cell 0
   case hcs =>
    intro j hj;have G:=db.o j (ψ cc.o);have dy:Bl w (Wc.alloc (.cells #[.slice (some ⟨g,og,none⟩) N q2] 63)):=bl.o.bel.alloc I _;rw[dy.cell (p:=⟨g,og+j,none⟩) hg,G]
    congr 2
    rw[List.getD_eq_getElem?_getD,List.getD_eq_getElem?_getD,List.getElem?_map];cases r[j]?<;>rfl
   case hKb =>
    intro W l o o' hl _ _ _;simp at hl;exact⟨World.putObj_heap_other I,World.putObj_heap_other I⟩
   case hI =>
    rintro s A B row ⟨ev,es,G,h2,h3,h4⟩ hg hr;have ac:∀r,row=some r->Wc.heap.size+1<=r:=fun r e=>by have:=(hr r e).1;simpa using this
    refine⟨ev,es,G.from (B:=Wc.heap.size+1) I hg (fun r e=>⟨ac r e,(hr r e).2⟩) ρ,h2.grown hg ?_,h3.grown hg ?_,h4.grown hg ?_⟩
    ·intro e;have:=ac _ e.symm;have:=B5.o.lt;omega
    ·intro e;have:=ac _ e.symm;omega
    ·intro r e hD;have:=ac r e;have:=bp.o.lt r hD;omega
   case h0=>exact⟨ev,es,bl.o.alloc ρ _,B5.o.old _,Box.new1 _ _ _,bp.o.alloc _⟩
   case assign =>
    intro l x W K hK;have c2:=@Oper.semAt_some l;simp only[sideV]
    gi_wp2
    with_reducible exact hK
   case body =>
    rintro l an ⟨⟨xa,ha⟩,⟨xc,hc⟩⟩ W ⟨ev,es,hE,h5,hs,hM⟩ eb;dsimp only at *;have c2:=@Oper.semAt_some l;obtain⟨p,cp,rfl,au⟩:=hE.own.form;obtain⟨D,hD,cu,a2⟩:=hE.map;obtain⟨ks,c1⟩:=χ (bN (bN [] ((rs.take i).flatMap cX)) (an.map fun x=>(x.1.val,x.2.val)));rw[c1]at hE hD a2;have KS:=O c1;obtain⟨lo,ac⟩:∃lo:Nat,min xa xc=lo:=⟨_,rfl⟩;obtain⟨H,c4⟩:∃H:Nat,max xa xc=H:=⟨_,rfl⟩;have L:lo<64:=I;have Q:H<64:=I;have bg:dN (xa,xc)=(lo,H):=by unfold dN;simp only[];rw[ac,c4]
    have el:min (xa:Int) (xc:Int)=(lo:Int):=I;have ee:max (xa:Int) (xc:Int)=(H:Int):=I;clear ac c4;obtain⟨a9,b0⟩:=a2 (lo,H) L Q;have b3:=key94 (lo,H) L Q;have bi:∀ys,bN (bN [] ((rs.take i).flatMap cX)) (ys++[(xa,xc)])=iU (bN (bN [] ((rs.take i).flatMap cX)) ys) (xa,xc):=fun ys=>rB _ _ _
    obtain⟨ba,bc⟩:=η2 bg bi;clear bg bi;obtain⟨U,ag,bk,bu,ep⟩:=aB W #[.int .i64 (lo:Nat),.int .i64 (H:Nat)] 151;have a3:EI w.heap.size w U ks (.slice p es.length cp) es:=by rw[<-ag];exact hE.alloc ρ _
    have bt:Box U wr.heap.size #[.int .i64 (i:Nat)] 3:=by rw[<-ag];exact h5.old _
    have c3:Box U Wc.heap.size #[.slice (some ⟨g,og,none⟩) N q2] 63:=by rw[<-ag];exact hs.old _
    have cv:g9 U (w.heap.size+3) Ds:=by rw[<-ag];exact hM.alloc _
    have bv:U.ownsMap prog 151 (plainElem prog 3) w.heap.size ks.length D:=by rw[<-ag];exact hD.alloc _
    have eq:U.cell? ⟨w.heap.size+1,0,none⟩=some (.map (some w.heap.size)):=(a3.b1.cell 0).trans rfl;have bF:U.cell? ⟨w.heap.size+2,0,none⟩=some (.slice p es.length cp):=(a3.b2.cell 0).trans rfl;have dz:U.cell? ⟨wr.heap.size,0,none⟩=some (.int .i64 (i:Nat)):=(bt.cell 0).trans rfl;have dB:U.cell? ⟨W.heap.size,0,none⟩=some (.int .i64 (lo:Nat)):=(bk.cell 0).trans rfl;have c0:U.cell? ⟨W.heap.size,1,none⟩=some (.int .i64 (H:Nat)):=(bk.cell 1).trans rfl;obtain⟨ES,EK,K5,cd,KM,DM,DK,da,BK⟩:=η9 hE a3 bt c3 cv cu a2 au bk;have KW:=O (show KeepsFrom (Wc.alloc (.cells #[.slice (some ⟨g,og,none⟩) N q2] 63)).heap.size W U from by rw[<-ag];exact(KeepsOthers.alloc _ _).from _);have ce:=O (show iA Wc.heap.size g W U from⟨bu.block _ hs.lt,bu.block _ (ψ hE.lt)⟩);clear hE a3 bt c3 cv cu a2 hM hs h5 au bk bu;by_cases ab:(lo,H)∈ks
    ·have cV:Maps.has D (jL (lo,H))=true:=by rw[a9];simp[ab]
     obtain⟨ix,bV⟩:=List.getElem?_of_mem ab;have cD:=b0 ix bV;clear a9 b0;obtain⟨ed,a6⟩:∃ed,es[ix]?=some ed:=by
      have G:=bV;rw[<-EK.o.keys,List.getElem?_map]at G
      cases he:es[ix]? with
      | none=>rw[he]at G;cases G
      | some ed=>exact⟨ed,rfl⟩
     have bf:ix<es.length:=(List.getElem?_eq_some_iff.1 a6).1;obtain⟨gE,rfl,ex⟩:∃gE,p=some ⟨gE,0,none⟩/\gE<W.heap.size:=by
      rcases da.o with h|h
      ·rw[h]at bf;simp at bf
      ·exact h
     have ar:∀j,j<4->U.cell? ⟨gE,ix*4+j,none⟩=(cx ed)[j]? := fun j hj=>by
      rw[World.ownsRow.cellAt EK.o.own (ix*4+j) I];exact dQ cx 4 (fun _=>rfl) es ix j ed a6 hj
     have et:U.cell? ⟨gE,ix*4+3,none⟩=some (.int .i64 ed.g):=ar 3 I;have eu:U.frozen? ⟨gE,ix*4+3,none⟩=false:=World.ownsRow.frozenAt EK.o.own _;have eT:prog.follows .mixedOrders=true:=by kernel_rfl
     have c8:=O a6;have bm:=O (show bN (bN [] ((rs.take i).flatMap cX)) (List.map (fun x:Side=>(x.1.val,x.2.val)) (an++[(⟨xa,ha⟩,⟨xc,hc⟩)]))=ks from by
      rw[List.map_append,List.map_singleton,bc.o,KS.o];unfold iU;rw[ba.o,if_pos ab])
     clear a6 bV ar
     gi_wp2_with (gi_at_lookup;refine wpListIn_lookup_own_ok_int _ rfl _ _ 255 rfl 151 3 .i64 oS underlying255 underlying3 (zeroValue3 _) w.heap.size ks.length D rfl bv (keyV (lo,H)) (jL (lo,H)) rfl b3 ?_;intro c a5 b9;rw[cD]at a5;injection a5 with hat1;injection hat1 with _ ap;subst ap;clear b9)
     gi_region_with_o fail
     all_goals gi_wp2
     all_goals
      obtain⟨k1,k2,k3,k4,k5⟩:=EK.o.keeps (W':=(U.setCell ⟨gE,ix*4+2+1,none⟩ (.int .i64 (i:Nat))).drew) (B:=(Wc.alloc (.cells #[.slice (some ⟨g,og,none⟩) N q2] 63)).heap.size) (g:=g) (by simp) (fun k G _ _ h4=>(bE U gE (ix*4+3) (.int .i64 (i:Nat))).block k G (fun e=>h4 (by cases e;rfl))) (by simp;omega) K5.o (ψ Y.o.lt) cd.o I hg KM.o ρ;refine⟨KW.o.trans k1,ce.o.trans k2,.slice (some ⟨gE,0,none⟩) es.length cp,es.set ix { ed with g:=((i:Nat):Int) },?_,k3,k4,k5⟩;rw[bm.o];exact(EK.o.found ρ ix ed c8.o ((i:Nat):Int)).drew ρ
    ·have cV:Maps.has D (jL (lo,H))=false:=by rw[a9];simp[ab]
     clear a9 b0;have a7:es.length=ks.length:=by rw[<-EK.o.keys];simp
     have ez:ks.length<=4096:=kA EK.o.small EK.o.nod;obtain⟨j0,c5,ef,eg,ei⟩:=info_parts infoEdge;have a1:=EK.o.own;have c9:=O a7;have eB:es.length<=4096:=I;clear a7;have X:wr.heap.size≠w.heap.size:=by have:=Y.o.lt;omega
     have R:W.heap.size≠w.heap.size:=by have:=ES.o.lt;omega
     have bm:=O (show bN (bN [] ((rs.take i).flatMap cX)) (List.map (fun x:Side=>(x.1.val,x.2.val)) (an++[(⟨xa,ha⟩,⟨xc,hc⟩)]))=ks++[(lo,H)] from by
      rw[List.map_append,List.map_singleton,bc.o,KS.o];unfold iU;rw[ba.o,if_neg ab])
     gi_wp2_with (first
      | (gi_at_lookup;refine wpListIn_lookup_own_ok_int _ rfl _ _ 255 rfl 151 3 .i64 oS underlying255 underlying3 (zeroValue3 _) w.heap.size ks.length D rfl bv (keyV (lo,H)) (jL (lo,H)) rfl b3 ?_;intro c a5 b9;clear a5 b9)
      | (gi_at_mapUpdate;refine wpListIn_mapUpdate_own _ rfl _ _ _ 255 rfl 151 3 oS underlying255 _ w.heap.size ks.length D rfl bv (by unfold maxLen;omega) _ _ (jL (lo,H)) rfl rfl b3 _ [] (plainElem_int underlying3 (i64_wf _ I)) ?_;intro w1 b7 C;have g2:=World.grownBy.cell C bF (by simp);have g5:=World.grownBy.cell C dz (by simpa using X);have en:=World.grownBy.cell C dB (by simpa using R);have eo:=World.grownBy.cell C c0 (by simpa using R))
      | (gi_at_builtin;refine wpListIn_append_own_at _ rfl _ _ 84 rfl (w.heap.size+3) 153 j0 (.agg #[.int .i64 0,.int .i64 0,.int .i64 0,.int .i64 0]) 4 32 underlying84 c5 ef eg ei rfl ν _ _ _ rfl (World.ownsRow.alloc (World.ownsRow.kept a1 C (own_low a1 I)) _) ⟨w1.heap.size,0,none⟩ 1 1 [.int .i64 (lo:Int),.int .i64 (H:Int),.int .i64 (i:Int),.int .i64 (i:Int)] rfl rfl (fun j u hj=>Box.news (Box.new1 _ _ _) j u hj) (by simp[Value.oneCell']) (by unfold maxLen;omega) I (by have:=EK.o.lt;have:=C.size;simp;omega) ?_;intro v' w2 az J b4 ap;clear b4 ap;obtain⟨gn,cn,rfl⟩:=ownsRow_succ az;have cg:=((EK.o.b2.grown C (by simp)).old (.cells #[.int .i64 (lo:Int),.int .i64 (H:Int),.int .i64 (i:Int),.int .i64 (i:Int)] 153)).grown J (fun e=>by have:=cz a1 _ e.symm;omega);have e2:=cg.cell 0;have f2:=cg.free 0))
     have ec:nK prog w1 151 3 w.heap.size (ks.length+1) (ks++[(lo,H)]):=by
      have af:=b7;rw[c9.o]at af;exact nK.put (w:=U) (n:=ks.length) oS key94 DM.o DK.o (lo,H) L Q ab af
     obtain⟨cy,dx⟩:=EK.o.new ρ L Q ab ec C _ (e:=⟨lo,H,i,i⟩) rfl az J;obtain⟨k1,k2,k3,k4,k5⟩:=EK.o.keeps (B:=(Wc.alloc (.cells #[.slice (some ⟨g,og,none⟩) N q2] 63)).heap.size) (g:=g) (by have G:=C.size;have h2:=J.size;simp at h2⊢;omega) dx (by simp;omega) K5.o (ψ Y.o.lt) cd.o I hg KM.o ρ;rw[<-bm.o]at cy;exact⟨KW.o.trans k1,ce.o.trans k2,_,_,cy,k3,k4,k5⟩
   case done =>
    rintro D ys W hD rfl ⟨ds,dm,G,h2,h3,h4⟩ hK;obtain⟨H1,H4⟩:=η2 G h4;clear G h2 h3 h4
    gi_wp2
    refine⟨⟨i+1,D::Ds,ds,dm,_,_,_,_,_,_,_,_,_,_,_,_,_,_,_,_,_,_,_,_,_,_,_,_,_,_,_,_,_,_,_,_,_,_,_,_,_,_,_,_,_,_,_,_,_,_,_,_,_,_,_,_,?_,?_,?_,rfl⟩,?_⟩
    ·omega
    ·refine⟨List.nodup_cons.mpr ⟨fun dv=>?_,H4.o.1⟩,fun E hE=>?_⟩
     ·have:=bp.o.lt D dv;simp at hD;omega
     ·rcases List.mem_cons.mp hE with rfl|hE
      ·exact⟨by simp at hD;omega,hK⟩
      ·exact H4.o.2 E hE
    ·have e1:(rs.take (i+1)).flatMap cX=(rs.take i).flatMap cX++cX r:=by rw[dw dk.o];simp
     rw[e1,oF,<-uptoS_all bz.2.2];exact H1.o
    ·show aa.length-((i:Int)+1).toNat<aa.length-(i:Int).toNat;omega
   case stop =>
    rintro D c an W _ _ h _;exact h.elim
def ptQ(p:V):Q3:=⟨(p.x:Rat),(p.y:Rat),(p.z:Rat)⟩
def cR(P:Nat->V)(k:Nat):List Q3:=(List.range k).map fun i=>ptQ (P i)
theorem ptsQ_succ(P:Nat->V)(k:Nat):cR P (k+1)=cR P k++[ptQ (P k)]:=by
 unfold cR;rw[List.range_succ,List.map_append];rfl
def fj(P:Nat->V)(f:RF):Q3×Rat:=(cE (ptQ f.n),aT (cE (ptQ f.n)) (ptQ (P (f.r.headD 0))))
theorem tK{P:Nat->V}{N:Nat}(A:∀i,i<N->LeV 4096 (P i)){n:V}{b:Nat}(h:Face P N n b):LeV 134217728 n:=by
 obtain⟨i,j,k,H,J,C,-,G,-⟩:=h.three;have F:=((A j I).sub (A i C)).cross ((A k I).sub (A i C));have u:=F.mono (show 2*((4096+4096)*(4096+4096))<=(134217728:Int) by omega)
 rcases G with e|e<;>rw[e]
 ·exact u
 ·exact u.neg
theorem Face.ring_hd{P:Nat->V}{N:Nat}(hS:Sorted P N){n:V}{b:Nat}(h:Face P N n b):(ring P (aI P N n b) n).headD 0<N/\ring P (aI P N n b) n≠[]:=by
 have i:=(h.ring_mem hS _).mpr (h.head hS);have e:ring P (aI P N n b) n≠[]:=List.ne_nil_of_mem i;refine⟨?_,e⟩;have:(ring P (aI P N n b) n).headD 0∈ring P (aI P N n b) n:=by
  cases hr:ring P (aI P N n b) n with
  | nil=>exact absurd hr e
  | cons x l=>simp
 exact(aG.mp ((h.ring_mem hS _).mp this).1).1
theorem ownS_at{w:World}{base:Nat}{v:Value}{l:List Value}(h:OwnS w base v l)(H:0<l.length):∃g e,v=.slice (some ⟨g,0,none⟩) l.length e/\g<w.heap.size/\∀k x,l[k]?=some x->w.cell? ⟨g,k,none⟩=some x:=by
 have C:=h;obtain⟨u,⟨rfl,h0⟩|⟨g,e,A,rfl,G,i,r⟩⟩:=h
 ·omega
 ·refine⟨g,e,rfl,(Array.getElem?_eq_some_iff.1 i).1,fun k x j=>?_⟩
  have F:k<l.length:=(List.getElem?_eq_some_iff.1 j).1;exact(World.ownsRow.cellAt C k I).trans j
theorem jG{p:V}(h:LeV 9007199254740992 p):BdV 2 (ptQ p):=by
 have k:∀x:Int,Le 9007199254740992 x->Bd 2 (x:Rat):=fun x e=>Bd.int x (by unfold B;unfold Le at e;omega)
 exact⟨k _ h.1,k _ h.2.1,k _ h.2.2⟩
theorem bd_primQ{a:Q3}(h:BdV 2 a/\a≠⟨0,0,0⟩):BdV 18 (cE a):=by
 obtain⟨j,h0⟩:=h;have R:=fY j 3 I;have u:Bd 7 (bT a 3:Rat):=⟨R.2,by show 1<B ^ 7;unfold B;omega⟩;have i:BdV 9 ⟨(bT a 3:Rat)*a.x,(bT a 3:Rat)*a.y,(bT a 3:Rat)*a.z⟩:=⟨u.mul j.1,u.mul j.2.1,u.mul j.2.2⟩;have Q:0<gR ⟨(bT a 3:Rat)*a.x,(bT a 3:Rat)*a.y,(bT a 3:Rat)*a.z⟩ 3:=qt fun e=>h0 (by
  have C:(bT a 3:Rat)≠0:=fun h=>by
   have U:bT a 3=0:=by exact_mod_cast h
   omega
  have H:=congrArg Q3.x e;have J:=congrArg Q3.y e;have L:=congrArg Q3.z e;have z:∀t:Rat,(bT a 3:Rat)*t=0->t=0:=fun t h=>(Rat.mul_eq_zero.mp h).resolve_left C
  generalize(bT a 3:Rat)=D at *;obtain⟨ax,F,G⟩:=a;rw[show ax=0 from z _ H,show F=0 from z _ J,show G=0 from z _ L])
 have A:Bd 9 (Rat.divInt 1 (gR ⟨(bT a 3:Rat)*a.x,(bT a 3:Rat)*a.y,(bT a 3:Rat)*a.z⟩ 3:Nat)):=eX (by show 1<B ^ 9;unfold B;omega) (oU i 3) I;exact⟨A.mul i.1,A.mul i.2.1,A.mul i.2.2⟩
theorem hfs_len{P:Nat->V}{N:Nat}{fs:List RF}{E:Nat}(h:RingsOk P N fs E)(i:N<=16):fs.length<=262144:=by
 have e:=fz (fs.map RF.o) (List.range 65536) h.nodup (fun x A=>by
  obtain⟨f,j,rfl⟩:=List.mem_map.mp A;obtain⟨b,_,u,_⟩:=h.ok f j;rw[List.mem_range,u];unfold cA;have a:=mr (fun q=>decide (V.dot f.n (P q-P b)=0)) N;have c:(2:Nat) ^ N<=2 ^ 16:=Nat.pow_le_pow_right I i;omega)
 rw[List.length_map,List.length_range]at e;omega
theorem VRow.base{w:World}{base e:Nat}{v:Value}{qs:List Q3}{rs:List (RC×RC×RC)}(h:VRow w base v qs rs)(hb:e<=base):VRow w e v qs rs:=⟨bX h.own hb,h.len,h.vec⟩
theorem FRow.base{w:World}{base e:Nat}{v:Value}{fs:List (Q3×Rat)}{rs:List FR}(h:FRow w base v fs rs)(hb:e<=base):FRow w e v fs rs:=⟨bX h.own hb,h.len,h.vec⟩
structure ShapeOk (P:Nat→V) (len base:Nat) (w:World) (v0 v1 v2:Value) (fs:List RF) (E:Nat) (vrs:List (RC × RC × RC)) (frs:List FR) (es:List ED):Prop where
 vs:VRow w base v0 (cR P len) vrs
 fcs:FRow w base v1 (fs.map (fj P)) frs
 val:frs.map FR.v=fs.map RF.v
 rows:Faces w base fs
 eds:eI w base v2 es
 edg:EdgesOk (fs.map RF.r) es
 ok:RingsOk P len fs E
theorem eE{w:World}{base e k:Nat}{v:Value}{n:Nat}{xs:List Value}(h:w.ownsRow base e k v n xs){g:Nat}{cs:Array Value}{t:TypeId}(hb:Box w g cs t)(j:e≠t)(i:Nat)(u:Value):(w.setCell ⟨g,i,none⟩ u).ownsRow base e k v n xs:=
 World.ownsRow.kept h (bE w g i u) (.inr (fun e=>aH h hb j e.symm))
theorem ShapeOk.set{P:Nat->V}{len base:Nat}{w:World}{A C F:Value}{fs:List RF}{E:Nat}{j:List (RC×RC×RC)}{e:List FR}{es:List ED}(h:ShapeOk P len base w A C F fs E j e es){g:Nat}{cs:Array Value}(hb:Box w g cs 86)(i:Nat)(u:Value):
 ShapeOk P len base (w.setCell ⟨g,i,none⟩ u) A C F fs E j e es:=
 ⟨h.vs.set hb ν ν i u,h.fcs.set hb ν ν i u,h.val,⟨fun f G=>eE (h.rows.own f G) hb ν i u,h.rows.short⟩,eE h.eds hb ν i u,h.edg,h.ok⟩
def RetShape(P:Nat->V)(len base:Nat)(w:World)(e:Ending):Prop:=
 ∃v0 v1 v2 fs E vrs frs es,e=.returned (.tuple #[.agg #[v0,v1,v2],.int .i64 0])/\ShapeOk P len base w v0 v1 v2 fs E vrs frs es
theorem infoFace:(prog.info? 155).map (fun i=>(i.zero,i.size,i.bytes))=some (some (.agg #[.bool false,.slice none 0 0,.bool false,.slice none 0 0,.bool false,.slice none 0 0,.bool false,.slice none 0 0,.bool false,.slice none 0 0,.bool false,.slice none 0 0,.bool false,.slice none 0 0,.bool false,.slice none 0 0,.slice none 0 0]),17,280):=by kernel_rfl
theorem m9:(prog.info? 86).map (·.size)=some 3:=by kernel_rfl
theorem infoVecR:(prog.info? 57).map (fun i=>(i.zero,i.size,i.bytes))=some (some (.agg (ah RC.zero RC.zero RC.zero)),12,192):=by kernel_rfl
theorem of_any(a:Option Addr)(len bk:Nat)(P:Nat->V)(w:World)(hP:Pts w a len bk P)(kz:len<=16)(b3:∀i,i<len->LeV 4096 (P i))(hT:Tab w)(e0:Sorted P len)(ez:iC P len)(fc:∀v,Bl w v->Calls prog 138 #[.agg #[.slice a len bk]] v fun e w'=>e=.returned (.int .i64 0)/\Bl v w'):
 Calls prog 88 #[.agg #[.slice a len bk]] w fun e w'=>RetShape P len w.heap.size w' e/\Bl w w':=by
 obtain⟨W,hW,b1,b2,hB,hS⟩:=bU w #[.slice a len bk] #[.slice none 0 0,.slice none 0 0,.slice none 0 0] 102 86;obtain⟨B1,R2,gB,HT,ca,g3,HP,HN,HB⟩:=η9 b1 b2 fc (hT.below hB hT.1) e0 ez (hP.below hB) b3 hB;have ej:=O hS;obtain⟨x0,-⟩:=b1.one;obtain⟨i0,f9,i9,jk,jv⟩:=info_parts infoVecR;clear b1 b2 fc hP b3 hB hS hT e0 ez
 go_enter func88,ntmps88
 go_wp2_with fail
 refine(gB.o _ HB.o).mono ?_;rintro e J ⟨rfl,U⟩;have B2:=B1.o.below U (B1.o.lt);obtain⟨d5,R3⟩:=η2 B2 (R2.o.to U);have hy:=O (show w.heap.size+2<=J.heap.size from by have:=U.size;have:=ej.o;omega);obtain⟨d4,ed,ek⟩:=η3 (ae HB.o U (ψ ej.o)) (HP.o.below U) (HT.o.below U HT.o.1);obtain⟨x1,-⟩:=(B2.old (.cells #[.slice none 0 0,.slice none 0 0,.slice none 0 0] 86)).one;clear U
 go_wp2_with fail
 go_loopw [24] (fun iv wr=>∃k,k<=len/\iv=.int .i64 (k:Nat)/\∃vv rs,Hid (Box wr J.heap.size #[vv,.slice none 0 0,.slice none 0 0] 86)/\Hid (VRow wr (J.heap.size+1) vv (cR P k) rs)/\Hid (Bl J wr)) (fun iv _=>len-(intOf iv).toNat)
 case atStart=>exact⟨0,Nat.zero_le _,rfl,_,[],Box.new _ _ _ _ rfl,VRow.nil _ _,β.alloc ρ _⟩
 case round =>
  obtain⟨k,hk,rfl,vv,rs,R,HV,HR⟩:=hrel;obtain⟨wk,rfl⟩:=φ wr;have hl:=O (show rs.length=k from by rw[HV.o.len];simp[cR]);by_cases h0:k=len
  ·have hn:¬ (k:Int)<(len:Int):=I
   obtain⟨x0,-⟩:=(d5.o.to HR.o).one;have H0:=O h0;clear h0
   go_wp2_with fail
   refine(mV a len bk P wk (ek.o.below HR.o ek.o.1) (ed.o.below HR.o) I HN.o ca.o g3.o).mono ?_;rintro e w5 ⟨⟨pv,rv,fs,E,rfl,cm,cn,fq,gd⟩,ci⟩;obtain⟨ap,cp,rfl,i4⟩:=Sl.of_owns cm;obtain⟨ar,cr,rfl,i8⟩:=Sl.of_owns cn;have ga:(fs.map fun f=>(f.n,f.o)).length=fs.length:=List.length_map ..;have gb:(fs.map RF.v).length=fs.length:=List.length_map ..;obtain⟨ee,da,bc,b8,ad⟩:=η5 cm cn fq gd (R.o.to ci);have V5:=O (show VRow w5 (J.heap.size+1) vv (cR P len) rs from by rw[<-H0.o];exact HV.o.below ci);obtain⟨H5,g6,en,eo,eq⟩:=η5 (ae HR.o ci ρ) HR.o.size (aH cm ad.o ν) (aH cn ad.o ν) (aH V5.o.own ad.o ν);have it:fs.length<=262144:=hfs_len b8.o I;rw[ga]at ee en⊢;rw[gb]at da eo⊢;clear cm cn fq gd i4 i8 ga gb ci x0
   go_wp2_with fail
   go_loopw [45] (fun iv wr=>∃i,i<=fs.length/\iv=.int .i64 (i:Nat)/\∃fv F,Hid (Box wr J.heap.size #[vv,fv,.slice none 0 0] 86)/\Hid (FRow wr w5.heap.size fv ((fs.take i).map (fj P)) F)/\Hid (F.map FR.v=(fs.take i).map RF.v)/\Hid (w5.grownBy wr (some J.heap.size))) (fun iv _=>fs.length-(intOf iv).toNat)
   case atStart=>exact⟨0,Nat.zero_le _,rfl,_,[],ad.o,FRow.nil _ _,rfl,World.grownBy.refl _ _⟩
   case round =>
    clear HV R HR;obtain⟨i,hi,rfl,fv,F,R,HF,b6,HG⟩:=hrel;obtain⟨w6,rfl⟩:=φ wr;by_cases h1:i=fs.length
    ·have k2:¬ (i:Int)<(fs.length:Int):=I
     have cD:Hid (FRow w6 w5.heap.size fv (fs.map (fj P)) F):=by have h:=HF.o;rw[h1,List.take_length]at h;exact h
     have cc:Hid (F.map FR.v=fs.map RF.v):=by have h:=b6.o;rw[h1,List.take_length]at h;exact h
     have gE:=O (show F.length=fs.length from by have h:=congrArg List.length cc.o;simpa using h);have eb:Hid (∀f∈fs,bo w6 wk.heap.size f.v f.r):=fun f hf=>World.ownsRow.kept (bc.o.own f hf) HG.o (.inr (fun e=>aH (bc.o.own f hf) ad.o ν e.symm))
     clear h1 HF b6;have c1:=R.o.cell 1;have c2:=R.o.cell 0
     go_wp2_with fail
     refine(edges_any fv fs.length (fs.map (fj P)) F (fs.map RF.r) w5.heap.size wk.heap.size w6 gE.o.symm it cD.o (by simp) ?hI ?h64).mono ?_
     case hI =>
      intro i f r h1 h2;have h3:=congrArg (fun l:List Value=>l[i]?) cc.o;simp only[List.getElem?_map,h1,Option.map_some]at h3;rw[List.getElem?_map]at h2;obtain⟨g,f4,i1⟩:=Option.map_eq_some_iff.mp h2;rw[f4,Option.map_some]at h3;have h4:=eb.o g (List.mem_of_getElem? f4);rw[<-Option.some.inj h3,i1]at h4;exact h4
     case h64 =>
      intro r hr;obtain⟨f,hf,rfl⟩:=List.mem_map.mp hr;obtain⟨bF,H,-,bv⟩:=b8.o.ok f hf;refine⟨bc.o.short f hf,by rw[bv];exact(Face.ring_hd ca.o H).2,fun x hx=>?_⟩;rw[bv]at hx;have:=(aG.mp ((H.ring_mem ca.o _).mp hx).1).1;omega
     rintro e w7 ⟨⟨ev,es,rfl,dz,fl⟩,ds⟩;obtain⟨pe,ce,ih,-⟩:=eI.form dz;subst ih;generalize ks:es.length=el at *;obtain⟨av,be,go,-⟩:=Sl.of_owns V5.o.own;subst go;obtain⟨af,bm,f3,-⟩:=Sl.of_owns cD.o.own;subst f3;obtain⟨bi,au,g7,gD⟩:=η4 (R.o.to ds) ds dz fl;clear c1 c2 dz fl ds;have kl:=d4.o.size;have kp:=H5.o.size;have kn:=HG.o.size;have kq:=hy.o;have R7:=O (((R3.o.to H5.o).grown HG.o (fun e=>by injection e with e;omega)).below au.o (by have:=HG.o.size;have:=H5.o.size;have:=R3.o.lt;omega));have eu:ShapeOk P len w.heap.size w7 (.slice av rs.length be) (.slice af F.length bm) (.slice pe el ce) fs E rs F es:=
      ⟨((V5.o.other HG.o (eH ad.o ν) (.inr (fun e=>eq.o e.symm))).below au.o).base I,(cD.o.below au.o).base I,cc.o,⟨fun f hf=>bX (aC (eb.o f hf) au.o) (ψ g6.o),bc.o.short⟩,bX g7.o I,gD.o,b8.o⟩
     have hw:=O (eu.set bi.o 2 (.slice pe el ce));have R8:=O (R7.o.other (p:=⟨J.heap.size,2,none⟩) (by show w.heap.size+1≠J.heap.size;omega) (.slice pe el ce));have gv:=O (show Bl w (w7.setCell ⟨J.heap.size,2,none⟩ (.slice pe el ce))from by
      have cl:J.grownBy w7 (some J.heap.size):=ig (ig (qq H5.o _) HG.o (fun g hg=>.inr hg)) (qq au.o none) (fun g hg=>by cases hg);exact d4.o.grown (ig cl (bE w7 J.heap.size 2 (.slice pe el ce)) (fun g hg=>.inr hg)) I (fun g hg=>by cases hg;omega))
     have d0:=bi.o.cell 0;have d1:=bi.o.cell 1;have d2:=bi.o.cell 2;have f2:=bi.o.free 2;have r0:=R7.o.cell 0;have r1:=R7.o.cell 1;have r2:=R7.o.cell 2;have g0:=R7.o.free 0;have g1:=R7.o.free 1;have g2:=R7.o.free 2;have k4:J.heap.size≠w.heap.size+1:=I;have k5:w.heap.size+1≠J.heap.size:=I;clear kl kp kn kq eu
     go_wp2_with fail
     have O9:=(((hw.o.set R8.o 0 (.slice av rs.length be)).set (R8.o.set 0 (.slice av rs.length be)) 1 (.slice af F.length bm)).set ((R8.o.set 0 (.slice av rs.length be)).set 1 (.slice af F.length bm)) 2 (.slice pe el ce));have B9:=((gv.o.setCell (p:=⟨w.heap.size+1,0,none⟩) (by show w.heap.size<=w.heap.size+1;omega) (.slice av rs.length be)).setCell (p:=⟨w.heap.size+1,1,none⟩) (by show w.heap.size<=w.heap.size+1;omega) (.slice af F.length bm)).setCell (p:=⟨w.heap.size+1,2,none⟩) (by show w.heap.size<=w.heap.size+1;omega) (.slice pe el ce);exact bS results88 (w.heap.size+1) ((R8.o.set3 (.slice av rs.length be) (.slice af F.length bm) (.slice pe el ce))) _ rfl underlying86 rfl m9 rfl ⟨⟨_,_,_,fs,E,rs,F,es,rfl,O9⟩,B9⟩
    have i3:(i:Int)<(fs.length:Int):=I;have f8:i<fs.length:=I;have cU:=O f8;clear h1;obtain⟨f,hf⟩:∃f,fs[i]?=some f:=⟨fs[i],List.getElem?_eq_getElem f8⟩;have P6:gN w6 wk.heap.size (.slice ap fs.length cp) (fs.map fun f=>(f.n,f.o)):=World.ownsRow.kept ee.o HG.o (.inr (fun e=>en.o e.symm));have R6:OwnS w6 wk.heap.size (.slice ar fs.length cr) (fs.map RF.v):=World.ownsRow.kept da.o HG.o (.inr (fun e=>eo.o e.symm));obtain⟨gp,k0,ep,-,i2,ge⟩:=P6.at_ (by rw[List.length_map];omega);have h7:=(Value.slice.inj ep).1;subst h7;obtain⟨p0,p1,p2,p3⟩:=ge i (f.n,f.o) (by rw[List.getElem?_map,hf];rfl);obtain⟨gr,k1,er,cl,gf⟩:=ownS_at R6 (by rw[List.length_map];omega);have h8:=(Value.slice.inj er).1;subst h8;have dB:=gf i f.v (by rw[List.getElem?_map,hf];rfl);have du:f∈fs:=List.mem_of_getElem? hf;obtain⟨bF,H,ix,bv⟩:=b8.o.ok f du;have dy:f.n≠V.zero:=H.n0;have ba:LeV 134217728 f.n:=tK HN.o H;have aw:f.r.headD 0<len/\f.r≠[]:=by rw[bv];exact Face.ring_hd ca.o H
    have dk:=bc.o.own f du;have em:=aH dk ad.o ν;have eD:bo w6 wk.heap.size f.v f.r:=World.ownsRow.kept dk HG.o (.inr (fun e=>em e.symm));obtain⟨av,cv,hv,bI⟩:=bo.ints eD;obtain⟨gi,oi,ei,f5,fb,f7⟩:=bI.cells (List.length_pos_iff.mpr aw.2);have dv:=f7 0 (List.length_pos_iff.mpr aw.2);obtain⟨hd,an⟩:=χ (f.r.headD 0);have f6:(f.r.map fun(i:Nat)=>(i:Int)).getD 0 0=(hd:Int):=by
     rw[<-an]
     cases hfr':f.r with
     | nil=>exact absurd hfr' aw.2
     | cons x t=>simp
    rw[f6]at dv;rw[hv,ei]at dB;have V6:VRow w6 (J.heap.size+1) vv (cR P len) rs:=V5.o.other HG.o (eH ad.o ν) (.inr (fun e=>eq.o e.symm));obtain⟨bV,bl,rV,bg,e8,bu,bt,i5,b5,az⟩:=V6.at_ hd (ptQ (P hd)) (by unfold cR;rw[List.getElem?_map,List.getElem?_range (by rw[<-an];exact aw.1)];rfl);obtain⟨g5,cc,d8,ef,d6,ho,hq⟩:=η7 an V6 (And.intro dv (And.intro f5 fb)) (And.intro dB cl) (And.intro az e8) b5 (And.intro bg (And.intro bt bu));have d7:=O (show hd<len from by rw[<-an];exact aw.1);obtain⟨eg,cF⟩:=η2 (List.length_pos_iff.mpr aw.2) hf;have cu:=O (hv.trans (by rw[ei]));obtain⟨fn,fo,de,fr⟩:=f;dsimp only at p0 p1 p2 p3 dy ba;have cV:=O (fun v=>oY fn v (ba.mono I));have dA:ptQ fn≠⟨0,0,0⟩:=fun e=>dy (by
     have e1:=congrArg Q3.x e;have e2:=congrArg Q3.y e;have e3:=congrArg Q3.z e;refine V.ext' ?_ ?_ ?_
     ·show fn.x=0;have:(fn.x:Rat)=0:=e1;exact_mod_cast this
     ·show fn.y=0;have:(fn.y:Rat)=0:=e2;exact_mod_cast this
     ·show fn.z=0;have:(fn.z:Rat)=0:=e3;exact_mod_cast this)
    have bf:BdV 2 (ptQ fn):=jG (ba.mono I);have gA:Hid (BdV 2 (ptQ fn)/\ptQ fn≠⟨0,0,0⟩):=⟨bf,dA⟩;have hh:=O (fun x v h=>sV x (ptQ fn) 2 v h bf I dA);clear ge gf dB aw dv f6 an b5 az bg bt bu e8 f5 fb cl f7 bI bv H ix du dk eD em P6 R6 V6 dy ba dA bf hf hv ei ep er i5
    go_upto_region 14 with fail
    obtain⟨W7,e4,b7,ex,ia⟩:=aB w6 #[.int .i64 fn.x,.int .i64 fn.y,.int .i64 fn.z,.int .u64 (fo:Int)] 212;rw[e4];have au:=O ex;obtain⟨z0,z1,z2,z3,-⟩:=b7.four;clear e4 b7 ia ex p0 p1 p2 p3 i2
    go_wp2_with fail
    refine(cV.o _).mono ?_;rintro e w8 ⟨⟨v8,rfl,gm⟩,e6⟩;have gw:=O (ae au.o e6 ρ);clear e6 z0 z1 z2 z3
    go_wp2_with fail
    refine(hh.o _ _ gm).mono ?_;rintro e G ⟨⟨v9,rfl,gn⟩,e7⟩;obtain⟨n0,L,Q,rfl,gc⟩:=gn.rcv;obtain⟨ec,gx⟩:=η2 gc (ae gw.o e7 ρ);clear gm gn gc e7
    go_upto_region 15 with fail
    obtain⟨ag,bs,hC,br,eT⟩:=aB G (ah n0 L Q) 57;unfold ah at bs;rw[bs];obtain⟨NB,aa⟩:=η2 hC (ae gx.o br ρ);obtain⟨ay,cs,gz⟩:=η3 (R.o.to aa.o) (HF.o.below aa.o) (show w5.heap.size<=ag.heap.size from Nat.le_trans HG.o.size aa.o.size);obtain⟨bg,bt,bu⟩:=hq.o;rw[show(cR P len).length=len by simp[cR]]at bg bu;obtain⟨u0,u1,u2⟩:=rV;have LT:Hid (gr<w5.heap.size/\gi<w5.heap.size/\bV<w5.heap.size):=
     ⟨(World.ownsRow.lt da.o gr rfl).2,(World.ownsRow.lt (bc.o.own _ (List.mem_of_getElem? cF.o)) gi (by rw[cu.o];rfl)).2,(World.ownsRow.lt V5.o.own bV bt).2⟩
    have bf:BdV 18 (cE (ptQ fn)):=bd_primQ gA.o;have e9:BdV 2 (ptQ (P hd)):=jG ((HN.o hd d7.o).mono I);obtain⟨gC,db⟩:=η2 (fun v x y h1 h2=>ji x y (cE (ptQ fn)) (ptQ (P hd)) 18 2 v h1 h2 bf e9 I) (ho.o.below aa.o);have kt:F.length<=262144:=by have:=congrArg List.length b6.o;rw[List.length_map,List.length_map,List.length_take]at this;omega
    obtain⟨j0,gq,j1,j2,kc⟩:=info_parts infoFace;have KP:Hid (∀w',Bl ag w'->w'.cell? ⟨J.heap.size,0,none⟩=some (.slice (some ⟨bV,0,none⟩) len bl)/\w'.cell? ⟨J.heap.size,1,none⟩=some fv/\w'.cell? ⟨G.heap.size,0,none⟩=some (.bool n0.s)/\w'.cell? ⟨G.heap.size,1,none⟩=some (.slice n0.a n0.n n0.c)/\w'.cell? ⟨G.heap.size,2,none⟩=some (.bool n0.t)/\w'.cell? ⟨G.heap.size,3,none⟩=some (.slice n0.b n0.m n0.d)/\w'.cell? ⟨G.heap.size,4,none⟩=some (.bool L.s)/\w'.cell? ⟨G.heap.size,5,none⟩=some (.slice L.a L.n L.c)/\w'.cell? ⟨G.heap.size,6,none⟩=some (.bool L.t)/\w'.cell? ⟨G.heap.size,7,none⟩=some (.slice L.b L.m L.d)/\w'.cell? ⟨G.heap.size,8,none⟩=some (.bool Q.s)/\w'.cell? ⟨G.heap.size,9,none⟩=some (.slice Q.a Q.n Q.c)/\w'.cell? ⟨G.heap.size,10,none⟩=some (.bool Q.t)/\w'.cell? ⟨G.heap.size,11,none⟩=some (.slice Q.b Q.m Q.d)/\w'.cell? ⟨gr,i,none⟩=some (.slice (some ⟨gi,oi,none⟩) fr.length cv)/\w'.cell? ⟨gi,oi,none⟩=some (.int .i64 (hd:Nat))/\Λ w' bV (hd*12) u0 u1 u2):=fun w' h=>by
     have h6:=ae aa.o h (ψ aa.o.size);have sb:=ay.o.to h;have nb:=NB.o.to h;obtain⟨a0,a1,a2,a3⟩:=nb.p0.1;obtain⟨a4,a5,a6,a7⟩:=nb.p1.1;obtain⟨a8,a9,hz,hA⟩:=nb.p2.1;have C:=fun(j:Nat) (v:Value) (hj:j<12) (he:(bQ (u0,u1,u2))[j]?=some v)=>keepC (p:=⟨bV,hd*12+j,none⟩) ((d6.o.1 j hj).trans he) h6 d6.o.2
     refine⟨(sb.cell 0).trans (by rw[bg];rfl),sb.cell 1,a0,a1,a2,a3,a4,a5,a6,a7,a8,a9,hz,hA,keepC ef.o.1 h6 ef.o.2,keepC d8.o.1 h6 d8.o.2.1,C 0 _ I rfl,C 1 _ I rfl,C 2 _ I rfl,C 3 _ I rfl,C 4 _ I rfl,C 5 _ I rfl,C 6 _ I rfl,C 7 _ I rfl,C 8 _ I rfl,C 9 _ I rfl,C 10 _ I rfl,C 11 _ I rfl⟩
    have h9:=KP.o ag.drew β.drew;have kv:(i:Int)<(fs.length:Int):=by have:=cU.o;omega
    have kw:(hd:Int)<(len:Int):=by have:=d7.o;omega
    have kx:(0:Int)<(fr.length:Int):=by have:0<fr.length:=eg.o;omega
    have ky:0<fr.length:=eg.o;clear bg bt bu bf e9 bs eT;refine gO (S:=fun w'=>w'.cell? ⟨J.heap.size,0,none⟩=some (.slice (some ⟨bV,0,none⟩) len bl)/\w'.cell? ⟨J.heap.size,1,none⟩=some fv/\w'.cell? ⟨G.heap.size,0,none⟩=some (.bool n0.s)/\w'.cell? ⟨G.heap.size,1,none⟩=some (.slice n0.a n0.n n0.c)/\w'.cell? ⟨G.heap.size,2,none⟩=some (.bool n0.t)/\w'.cell? ⟨G.heap.size,3,none⟩=some (.slice n0.b n0.m n0.d)/\w'.cell? ⟨G.heap.size,4,none⟩=some (.bool L.s)/\w'.cell? ⟨G.heap.size,5,none⟩=some (.slice L.a L.n L.c)/\w'.cell? ⟨G.heap.size,6,none⟩=some (.bool L.t)/\w'.cell? ⟨G.heap.size,7,none⟩=some (.slice L.b L.m L.d)/\w'.cell? ⟨G.heap.size,8,none⟩=some (.bool Q.s)/\w'.cell? ⟨G.heap.size,9,none⟩=some (.slice Q.a Q.n Q.c)/\w'.cell? ⟨G.heap.size,10,none⟩=some (.bool Q.t)/\w'.cell? ⟨G.heap.size,11,none⟩=some (.slice Q.b Q.m Q.d)/\w'.cell? ⟨gr,i,none⟩=some (.slice (some ⟨gi,oi,none⟩) fr.length cv)/\w'.cell? ⟨gi,oi,none⟩=some (.int .i64 (hd:Nat))/\Λ w' bV (hd*12) u0 u1 u2) (by simp) Z Z ?_;dsimp only[List.dropLast,List.getLast];refine cQ 0 ?_;try simp only[Act.put,σ]
    refine cQ 1 ?_;try simp only[Act.put,σ]
    refine cQ 2 ?_;try simp only[Act.put,σ]
    refine cQ 3 ?_;try simp only[Act.put,σ]
    refine cQ 4 ?_;try simp only[Act.put,σ]
    refine cQ 5 ?_;try simp only[Act.put,σ]
    refine cQ 6 ?_;try simp only[Act.put,σ]
    refine cQ 7 ?_;try simp only[Act.put,σ]
    refine cQ 8 ?_;try simp only[Act.put,σ]
    refine cQ 9 ?_;try simp only[Act.put,σ]
    refine cQ 10 ?_;try simp only[Act.put,σ]
    refine cQ 11 ?_;try simp only[Act.put,σ]
    refine cQ 12 ?_;try simp only[Act.put,σ]
    refine cQ 13 ?_;try simp only[Act.put,σ]
    refine cQ 15 ?_;try simp only[Act.put,σ]
    refine cQ 16 ?_;try simp only[Act.put,σ]
    refine cQ 17 ?_;try simp only[Act.put,σ]
    refine cQ 18 ?_;try simp only[Act.put,σ]
    refine wpAnyH_ready (rs:=[14]) Z (by simp) ?_;refine AllReadyH.cons rfl (fun K hK=>?_) AllReadyH.nil;go_simp
    go_at_call 65;refine(gC.o _ _ _ (ec.o.below (ae br β.drew ρ)) (db.o.below β.drew)).mono ?_;rintro e y1 ⟨⟨v1,rfl,b4⟩,U⟩
    obtain⟨ro,rfl,gl⟩:=b4.rcv;obtain⟨hm,N1⟩:=η2 gl (show Bl ag y1 from ae β.drew U ρ);clear b4 gl U;refine hK.out _ _ ?hS (fun ab=>?rest)
    case hS=>(try dsimp only);exact KP.o _ N1.o
    case rest =>
    clear hK K
    try simp only[Act.put,σ]
    refine cQ 19 ?_;try simp only[Act.put,σ]
    refine wpAnyH_ready (rs:=[20]) Z (by simp) ?_;refine AllReadyH.cons rfl (fun K hK=>?_) AllReadyH.nil;go_simp;refine hK.out _ _ ?hS (fun ab=>?rest)
    case hS=>(try dsimp only);exact KP.o _ (N1.o.alloc N1.o.size _)
    case rest =>
    clear hK K
    try simp only[Act.put,σ]
    refine wpAnyH_ready (rs:=[21]) Z (by simp) ?_;refine AllReadyH.cons rfl (fun K hK=>?_) AllReadyH.nil;refine step_append_lies _ rfl (.tmp 58) (.tmp 77) 83 rfl w5.heap.size 155 j0 (.agg #[.bool false,.slice none 0 0,.bool false,.slice none 0 0,.bool false,.slice none 0 0,.bool false,.slice none 0 0,.bool false,.slice none 0 0,.bool false,.slice none 0 0,.bool false,.slice none 0 0,.bool false,.slice none 0 0,.slice none 0 0]) 17 280 underlying83 gq j1 j2 kc rfl ν fv F.length (F.flatMap cI) (by simp[Act.eval,Act.put]) (World.ownsRow.alloc (cs.o.below N1.o).own _) _ 1 1 (cI ⟨(n0,L,Q),ro,.slice (some ⟨gi,oi,none⟩) fr.length cv⟩) (by simp[Act.eval,Act.put]) rfl (fun j u hj=>Box.news (Box.new1 _ _ _) j u hj) (by intro u hu;simp[cI,bQ,ah,rc4]at hu;rcases hu with rfl|rfl|rfl|rfl|rfl|rfl|rfl|rfl|rfl|rfl|rfl|rfl|rfl|rfl|rfl|rfl|rfl<;>rfl) I (by unfold maxLen;omega) I (by have:=N1.o.size;have:=gz.o;simp;omega) _ rfl ?_;intro g cg wB ao A dm b0;obtain⟨YA,dl⟩:=χ (y1.alloc (.cells (cI ⟨(n0,L,Q),ro,.slice (some ⟨gi,oi,none⟩) fr.length cv⟩).toArray 155));have ch:Bl y1 YA:=by rw[<-dl];exact β.alloc ρ _
    replace A:YA.grownBy wB fv.ownBlock:=by rw[<-dl];exact A
    have N2:Bl ag YA:=ae N1.o ch ρ;have FA:=(cs.o.below N1.o).below ch;have FB:=O (FRow.app (r:=⟨(n0,L,Q),ro,.slice (some ⟨gi,oi,none⟩) fr.length cv⟩) (q:=(cE (ptQ fn),aT (cE (ptQ fn)) (ptQ (P hd)))) FA (ec.o.below (ae br N2 ρ)) (hm.o.below ch) ao A);have SA:=(ay.o.to N2);have NA:=(NB.o.to N2);have cq:=aH FA.own SA ν;have X:=aH FA.own NA ν;have bz:=cz FA.own;have gu:some gr≠fv.ownBlock:=fun e=>by have:=bz gr e.symm;have:=LT.o.1;omega
    have gs:some gi≠fv.ownBlock:=fun e=>by have:=bz gi e.symm;have:=LT.o.2.1;omega
    have Y:some bV≠fv.ownBlock:=fun e=>by have:=bz bV e.symm;have:=LT.o.2.2;omega
    have ac:=O (SA.grown A cq);have eB:w5.grownBy wB (some J.heap.size):=ig (ig HG.o (qq (ae aa.o N2 (ψ aa.o.size)) _) (fun g hg=>.inr hg)) A (fun g hg=>.inl (by have:=bz g hg;exact this));have g4:=O eB;have KS:Hid (wB.cell? ⟨J.heap.size,0,none⟩=some (.slice (some ⟨bV,0,none⟩) len bl)/\wB.cell? ⟨J.heap.size,1,none⟩=some fv/\wB.cell? ⟨G.heap.size,0,none⟩=some (.bool n0.s)/\wB.cell? ⟨G.heap.size,1,none⟩=some (.slice n0.a n0.n n0.c)/\wB.cell? ⟨G.heap.size,2,none⟩=some (.bool n0.t)/\wB.cell? ⟨G.heap.size,3,none⟩=some (.slice n0.b n0.m n0.d)/\wB.cell? ⟨G.heap.size,4,none⟩=some (.bool L.s)/\wB.cell? ⟨G.heap.size,5,none⟩=some (.slice L.a L.n L.c)/\wB.cell? ⟨G.heap.size,6,none⟩=some (.bool L.t)/\wB.cell? ⟨G.heap.size,7,none⟩=some (.slice L.b L.m L.d)/\wB.cell? ⟨G.heap.size,8,none⟩=some (.bool Q.s)/\wB.cell? ⟨G.heap.size,9,none⟩=some (.slice Q.a Q.n Q.c)/\wB.cell? ⟨G.heap.size,10,none⟩=some (.bool Q.t)/\wB.cell? ⟨G.heap.size,11,none⟩=some (.slice Q.b Q.m Q.d)/\wB.cell? ⟨gr,i,none⟩=some (.slice (some ⟨gi,oi,none⟩) fr.length cv)/\wB.cell? ⟨gi,oi,none⟩=some (.int .i64 (hd:Nat))/\Λ wB bV (hd*12) u0 u1 u2):=by
     obtain⟨c0,c1,c2,c3,c4,c5,c6,c7,c8,c9,hD,hE,hF,hG,hH,hJ,hL,hM,hN,hO,hQ,hR,hU,hV,hX,hY,hZ,h5⟩:=KP.o _ N2;exact⟨World.grownBy.cell A c0 cq,World.grownBy.cell A c1 cq,World.grownBy.cell A c2 X,World.grownBy.cell A c3 X,World.grownBy.cell A c4 X,World.grownBy.cell A c5 X,World.grownBy.cell A c6 X,World.grownBy.cell A c7 X,World.grownBy.cell A c8 X,World.grownBy.cell A c9 X,World.grownBy.cell A hD X,World.grownBy.cell A hE X,World.grownBy.cell A hF X,World.grownBy.cell A hG X,World.grownBy.cell A hH gu,World.grownBy.cell A hJ gs,World.grownBy.cell A hL Y,World.grownBy.cell A hM Y,World.grownBy.cell A hN Y,World.grownBy.cell A hO Y,World.grownBy.cell A hQ Y,World.grownBy.cell A hR Y,World.grownBy.cell A hU Y,World.grownBy.cell A hV Y,World.grownBy.cell A hX Y,World.grownBy.cell A hY Y,World.grownBy.cell A hZ Y,World.grownBy.cell A h5 Y⟩
    clear ao A dm b0 dl ch N2 FA SA NA cq X bz gu gs Y eB;refine hK.out _ _ ?hS (fun ab=>?rest)
    case hS=>(try dsimp only);exact KS.o
    case rest =>
    clear hK K
    try simp only[Act.put,σ]
    refine cQ 22 ?_;try simp only[Act.put,σ]
    refine wpAnyH_done Z ?_ _;show Oper.wp _ _ _ _ _ _;have f1:=ac.o.free 1;have e1:=ac.o.cell 1;go_simp;clear f1 e1;go_wp2;go_round
    case rel =>
     refine⟨i+1,by have:=cU.o;omega,rfl,_,F++[⟨(n0,L,Q),ro,.slice (some ⟨gi,oi,none⟩) fr.length cv⟩],ac.o.set 1 _,?_,?_,ig g4.o (bE _ _ _ _) (fun g hg=>.inr hg)⟩
     ·show FRow _ _ _ _ _
      rw[dw cF.o,List.map_append];have e:[(⟨fn,fo,de,fr⟩:RF)].map (fj P)=[(cE (ptQ fn),aT (cE (ptQ fn)) (ptQ (P hd)))]:=by
       show[fj P ⟨fn,fo,de,fr⟩]=_;unfold fj;rw[g5.o]
      rw[e];exact FB.o.set ac.o ν ν 1 _
     ·show _=_
      rw[dw cF.o,List.map_append,List.map_append,b6.o];show _++[_]=_++[de];rw[cu.o]
    case measure=>exact μ (ψ cU.o)
  have i3:(k:Int)<(len:Int):=I;have dx:k<len:=I;have d9:=O dx;clear h0;obtain⟨b,off,rfl,hb,hc,fa⟩:=(ed.o.below HR.o).cells I;obtain⟨q0,q1,q2⟩:=fa k dx;have LP:=O ((HN.o k dx).mono (show(4096:Int)<=9007199254740992 by omega));obtain⟨p,hp⟩:=χ (P k);rw[hp]at q0 q1 q2 LP;have g8:=O hp;clear fa hp
  go_upto_region 8 with fail
  obtain⟨Wp,e5,bp,cd,ib⟩:=aB wk #[.int .i64 p.x,.int .i64 p.y,.int .i64 p.z] 77;rw[e5];obtain⟨PB,SB,VR,b9,GS⟩:=η5 bp (R.o.to cd) (HV.o.below cd) (ae HR.o cd ρ) (show J.heap.size<wk.heap.size from R.o.lt);have cB:some J.heap.size≠vv.ownBlock:=aH VR.o.own SB.o ν;have cy:some wk.heap.size≠vv.ownBlock:=aH VR.o.own PB.o ν;obtain⟨ht,hs,cV⟩:=η3 cB cy (fun v=>oY p v LP.o);have k3:rs.length<=16:=by have:=hl.o;omega
  clear e5 bp cd ib q0 q1 q2 hb cB cy;have h9:Γ4 Wp.drew J.heap.size 0 vv wk.heap.size 0 (.int .i64 p.x) wk.heap.size 1 (.int .i64 p.y) wk.heap.size 2 (.int .i64 p.z):=by
   obtain⟨p0,p1,p2,-⟩:=PB.o.three;have s0:=SB.o.cell 0;exact⟨s0,p0,p1,p2⟩
  refine gO (S:=fun w'=>Γ4 w' J.heap.size 0 vv wk.heap.size 0 (.int .i64 p.x) wk.heap.size 1 (.int .i64 p.y) wk.heap.size 2 (.int .i64 p.z)) (by simp) Z Z ?_;dsimp only[List.dropLast,List.getLast];refine cQ 0 ?_;try simp only[Act.put,σ]
  refine cQ 1 ?_;try simp only[Act.put,σ]
  refine cQ 2 ?_;try simp only[Act.put,σ]
  refine wpAnyH_ready (rs:=[3]) Z (by simp) ?_;refine AllReadyH.cons rfl (fun K hK=>?_) AllReadyH.nil;go_simp
  go_at_call 22;refine(cV.o _).mono ?_;rintro e y1 ⟨⟨v1,rfl,b4⟩,U⟩
  obtain⟨r0,r1,r2,rfl,hr⟩:=b4.rcv;obtain⟨R1,N1⟩:=η2 hr (show Bl Wp y1 from ae β.drew U ρ);clear b4 hr U;refine hK.out _ _ ?hS (fun ab=>?rest)
  case hS=>(try dsimp only);exact⟨(SB.o.to N1.o).cell 0,((PB.o.to N1.o).three).1,((PB.o.to N1.o).three).2.1,((PB.o.to N1.o).three).2.2.1⟩
  case rest =>
  clear hK K
  try simp only[Act.put,σ]
  refine wpAnyH_ready (rs:=[4]) Z (by simp) ?_;refine AllReadyH.cons rfl (fun K hK=>?_) AllReadyH.nil;go_simp;refine hK.out _ _ ?hS (fun ab=>?rest)
  case hS=>(try dsimp only);exact⟨((SB.o.to N1.o).old _).cell 0,(((PB.o.to N1.o).old _).three).1,(((PB.o.to N1.o).old _).three).2.1,(((PB.o.to N1.o).old _).three).2.2.1⟩
  case rest =>
  clear hK K
  try simp only[Act.put,σ]
  refine wpAnyH_ready (rs:=[5]) Z (by simp) ?_;refine AllReadyH.cons rfl (fun K hK=>?_) AllReadyH.nil;refine step_append_lies _ rfl (.tmp 29) (.tmp 32) 82 rfl (J.heap.size+1) 57 i0 (.agg (ah RC.zero RC.zero RC.zero)) 12 192 underlying82 f9 i9 jk jv rfl ν vv rs.length (rs.flatMap bQ) (by simp[Act.eval,Act.put]) (World.ownsRow.alloc (VR.o.below N1.o).own _) _ 1 1 (bQ (r0,r1,r2)) (by simp[Act.eval,Act.put]) rfl (fun j u hj=>Box.news (Box.new1 _ _ _) j u hj) (by intro u hu;simp[bQ,ah]at hu;rcases hu with rfl|rfl|rfl|rfl|rfl|rfl|rfl|rfl|rfl|rfl|rfl|rfl<;>rfl) I (by unfold maxLen;omega) I (by have:=N1.o.size;have:=GS.o;have:=PB.o.lt;simp;omega) _ rfl ?_;intro g cg wB ao A dm b0;have V1:=(VR.o.below N1.o).below ((Below.refl y1.heap.size y1).alloc ρ (.cells (ah r0 r1 r2) 57));obtain⟨VB,ac,dd⟩:=η3 (VRow.app (r:=(r0,r1,r2)) V1 (R1.o.below ((Below.refl y1.heap.size y1).alloc ρ (.cells (ah r0 r1 r2) 57))) ao A) (((SB.o.to N1.o).old (.cells (ah r0 r1 r2) 57)).grown A ht.o) (((PB.o.to N1.o).old (.cells (ah r0 r1 r2) 57)).grown A hs.o);have et:=cz VR.o.own;have ey:Bl J wB:=((ae b9.o N1.o (ψ b9.o.size)).alloc (by have:=b9.o.size;have:=N1.o.size;omega) (.cells (ah r0 r1 r2) 57)).grown A (by have:=b9.o.size;have:=N1.o.size;simp;omega) (fun g hg=>by have:=et g hg;omega);have gy:=O ey;clear V1 et ey ao A dm b0;refine hK.out _ _ ?hS (fun ab=>?rest)
  case hS=>(try dsimp only);exact⟨ac.o.cell 0,dd.o.three.1,dd.o.three.2.1,dd.o.three.2.2.1⟩
  case rest =>
  clear hK K
  try simp only[Act.put,σ]
  refine cQ 6 ?_;try simp only[Act.put,σ]
  refine wpAnyH_done Z ?_ _;show Oper.wp _ _ _ _ _ _;have f0:=ac.o.free 0;have c0:=ac.o.cell 0;go_simp;clear f0 c0;go_wp2;go_round
  case rel=>exact⟨k+1,by have:=d9.o;omega,rfl,_,_,ac.o.set 0 _,by
   show VRow _ _ _ _ _;rw[ptsQ_succ,g8.o];exact VB.o.set ac.o ν ν 0 _,gy.o.setCell ρ _⟩
  case measure=>exact μ (ψ d9.o)
section
open V
theorem oM(a b:V):aT (ptQ a) (ptQ b)=((dot a b:Int):Rat):=by
 unfold aT ptQ dot;simp only[Rat.intCast_add,Rat.intCast_mul]
theorem fX{g x y:Int}(i:g≠0)(h:x=g*y):Rat.divInt 1 g*(x:Rat)=(y:Rat):=by
 have h0:(g:Rat)≠0:=fun e=>i (by exact_mod_cast e)
 rw[h,Rat.divInt_eq_div,Rat.intCast_mul,Rat.div_def,<-Rat.mul_assoc,Rat.mul_assoc _ _ (g:Rat),Rat.inv_mul_cancel _ h0];simp
theorem pW{a:V}(h:a≠V.zero):cE (ptQ a)=ptQ (aR a):=by
 have A:bT (ptQ a) 3=1:=by
  have e:∀i,((ptQ a).at i).den=1:=fun i=>by
   match i with
   | 0=>rfl
   | 1=>rfl
   | _+2=>rfl
  unfold bT bT bT bT;rw[e,e,e]
  decide
 have u:∀t:Rat,((1:Int):Rat)*t=t:=fun t=>by rw[Rat.intCast_one,Rat.one_mul]
 have C:gR (ptQ a) 3=cO a:=by
  unfold gR gR gR gR cO Q3.at ptQ;simp[Int.gcd]
 have F:=fB h;obtain⟨G,H,J⟩:=i7 a;unfold cE;rw[A];simp only[u];rw[show(⟨(ptQ a).x,(ptQ a).y,(ptQ a).z⟩:Q3)=ptQ a from rfl,C];have j:(cO a:Int)≠0:=I;show(⟨_,_,_⟩:Q3)=⟨_,_,_⟩;rw[show(ptQ a).x=(a.x:Rat)from rfl,show(ptQ a).y=(a.y:Rat)from rfl,show(ptQ a).z=(a.z:Rat)from rfl,fX j G,fX j H,fX j J]
variable {P : Nat → V} {N E : Nat} {fs : List RF}
def plF(P:Nat->V)(f:RF):Pl:=⟨aR f.n,dot (aR f.n) (P (f.r.headD 0))⟩
theorem RingsOk.pl(h:RingsOk P N fs E)(hS:Sorted P N){f:RF}(j:f∈fs):∃b,Face P N f.n b/\f.o=cA P N f.n b/\f.r=ring P (aI P N f.n b) f.n/\plF P f=mX P (f.n,b):=by
 obtain⟨b,hF,A,e⟩:=h.ok f j;refine⟨b,hF,A,e,?_⟩;have u:f.r.headD 0∈aI P N f.n b:=by
  obtain⟨C,i⟩:=Face.ring_hd hS hF;have:f.r.headD 0∈f.r:=by
   rw[<-e]at i
   cases hr':f.r with
   | nil=>exact absurd hr' i
   | cons x l=>simp
  exact((hF.ring_mem hS _).mp (e▸this)).1
 exact sf hF u
theorem RingsOk.face(h:RingsOk P N fs E)(hS:Sorted P N){f:RF}(e:f∈fs):fj P f=(ptQ (plF P f).n,((plF P f).o:Rat))/\f.r=fy P N (plF P f):=by
 obtain⟨b,hF,_,j,i⟩:=h.pl hS e;refine⟨?_,?_⟩
 ·unfold fj plF
  rw[pW hF.n0,oM]
 ·rw[i,ringPl_plOf (f:=(f.n,b)) hF];exact j
theorem RingsOk.polys(h:RingsOk P N fs E):∃F:RF->Nat,(∀f∈fs,Face P N f.n (F f)/\f.o=cA P N f.n (F f)/\f.r=ring P (aI P N f.n (F f)) f.n)/\Polys P N (fs.map fun f=>(f.n,F f)):=by
 have hb:∀f:RF,∃b,f∈fs->Face P N f.n b/\f.o=cA P N f.n b/\f.r=ring P (aI P N f.n b) f.n:=fun f=>by
  by_cases u:f∈fs
  ·obtain⟨b,G⟩:=h.ok f u;exact⟨b,fun _=>G⟩
  ·exact⟨0,fun h=>absurd h u⟩
 obtain⟨F,j⟩:=Classical.axiomOfChoice hb;have R:∀{n C:V} {b A:Nat},cA P N n b=cA P N C A->aI P N n b=aI P N C A:=fun e=>by
  unfold aI;exact List.filter_congr fun i hi=>mask_inj _ _ N e i (List.mem_range.mp hi)
 have J:∀{n C:V} {b A:Nat},aI P N n b=aI P N C A->cA P N n b=cA P N C A:=fun{n C b A} e=>by
  unfold cA;refine jw _ _ N fun i hi=>?_
  have G:i∈aI P N n b↔i∈aI P N C A:=by rw[e]
  rw[aG,aG]at G;rw[decide_eq_decide];exact⟨fun h=>(G.mp ⟨hi,h⟩).2,fun h=>(G.mpr ⟨hi,h⟩).2⟩
 refine⟨F,j,fun g H=>?_,fun n b hF=>?_,?_⟩
 ·obtain⟨f,u,rfl⟩:=List.mem_map.mp H
  exact(j f u).1
 ·obtain⟨f,u,U⟩:=h.all n b hF
  exact⟨_,List.mem_map.mpr ⟨f,u,rfl⟩,R ((j f u).2.1.symm.trans U)⟩
 ·rw[List.pairwise_map]
  have Q:=h.nodup;rw[List.nodup_iff_pairwise_ne,List.pairwise_map]at Q;refine Q.imp_of_mem fun{f g} u H L e=>L ?_
  rw[(j f u).2.1,(j g H).2.1];exact J e
theorem RingsOk.planes(h:RingsOk P N fs E)(hS:Sorted P N)(i:iC P N):(fs.map (plF P)).Nodup/\∀m,m∈cw P N↔m∈fs.map (plF P):=by
 obtain⟨A,u,Q⟩:=h.polys;have e:(fs.map fun f=>(f.n,A f)).map (mX P)=fs.map (plF P):=by
  rw[List.map_map];refine List.map_congr_left fun f F=>?_
  obtain⟨hF,_,G⟩:=u f F;obtain⟨b,H,L,j,R⟩:=h.pl hS F;have J:f.r.headD 0∈aI P N f.n (A f):=by
   obtain⟨U,C⟩:=Face.ring_hd hS hF;have:f.r.headD 0∈f.r:=by
    rw[<-G]at C
    cases j:f.r with
    | nil=>exact absurd j C
    | cons x l=>simp
   exact((hF.ring_mem hS _).mp (G▸this)).1
  exact(sf hF J).symm
 rw[<-e];exact mh Q i
def LtR(a b:List Nat):Prop:=bK (a.map fun(i:Nat)=>(i:Int)) (b.map fun(i:Nat)=>(i:Int))<0
end
section
open V
theorem qM:∀{a b:List Int},bK a b=0->a=b
 | [],[],_=>rfl
 | [],_::_,h=>by rw[bK]at h;cases h
 | _::_,[],h=>by rw[bK]at h;cases h
 | x::a,y::b,h=>by
  rw[bK]at h
  split at h
  ·cases h
  ·split at h
   ·cases h
   ·rw[qM h,show x=y by omega]
theorem qN:∀a:List Int,bK a a=0
 | []=>by rw[bK]
 | x::a=>by rw[bK,if_neg I,if_neg I];exact qN a
theorem qO:∀{a b:List Int},bK a b<0->¬ bK b a<0
 | [],[],h=>by rw[bK]at h;omega
 | [],_::_,_=>by rw[bK];omega
 | _::_,[],h=>by rw[bK]at h;omega
 | x::a,y::b,h=>by
  rw[bK]at h⊢
  split at h
  ·rw[if_neg I,if_pos I];omega
  ·split at h
   ·omega
   ·rw[if_neg I,if_neg I];exact qO h
theorem LtR.irrefl(a:List Nat):¬ LtR a a:=by unfold LtR;rw[qN];omega
theorem LtR.asym(a b:List Nat)(h:LtR a b):¬ LtR b a:=qO h
theorem mapI_inj{a b:List Nat}(h:(a.map fun(i:Nat)=>(i:Int))=b.map fun(i:Nat)=>(i:Int)):a=b:=by
 induction a generalizing b with
 | nil=>cases b with
  | nil=>rfl
  | cons y b=>simp at h
 | cons x a ih=>cases b with
  | nil=>simp at h
  | cons y b =>
   simp only[List.map_cons,List.cons.injEq]at h;rw[ih h.2,show x=y by omega]
theorem LtR.of_le{a b:List Nat}(h:bK (a.map fun(i:Nat)=>(i:Int)) (b.map fun(i:Nat)=>(i:Int))<=0)(e:a≠b):LtR a b:=by
 unfold LtR;refine Classical.byContradiction fun hc=>e (mapI_inj (qM I))
variable {P : Nat → V} {N E : Nat} {fs : List RF}
theorem RingsOk.strict(h:RingsOk P N fs E)(hS:Sorted P N)(Q:∀v,v<N->Top P N v):fs.Pairwise fun f g=>LtR f.r g.r:=by
 have G:=h.nodup;rw[List.nodup_iff_pairwise_ne,List.pairwise_map]at G;refine(G.and h.sorted).imp_of_mem fun{f g} R U ⟨J,L⟩=>LtR.of_le L fun e=>J ?_
 obtain⟨b,hF,W,X⟩:=h.ok f R;obtain⟨Y,u,A,C⟩:=h.ok g U;rw[W,A];unfold cA;refine jw _ _ N fun i hi=>?_
 have key:∀{n:V} {c:Nat} (F:Face P N n c),i∈ring P (aI P N n c) n↔i∈aI P N n c:=fun F=>by
  rw[F.ring_mem hS];exact⟨fun h=>h.1,fun h=>Face.vert_all Q h⟩
 have j:=key hF;have H:=key u;rw[<-X,e,C,H,aG,aG]at j;rw[decide_eq_decide];exact⟨fun h=>(j.mpr ⟨hi,h⟩).2,fun h=>(j.mp ⟨hi,h⟩).2⟩
end
section
open V
end
section
open V
theorem sR:∀a b:List Int,bK a b<0\/a=b\/bK b a<0
 | [],[]=>.inr (.inl rfl)
 | [],_::_=>.inl (by rw[bK];omega)
 | _::_,[]=>.inr (.inr (by rw[bK];omega))
 | x::a,y::b=>by
  rw[bK,bK];by_cases h:x<y
  ·rw[if_pos h];exact .inl I
  ·by_cases j:y<x
   ·exact .inr (.inr (by rw[if_pos j];omega))
   ·rw[if_neg h,if_neg j,if_neg j,if_neg h]
    have e:x=y:=I;subst e
    rcases sR a b with i|i|i
    ·exact .inl i
    ·exact .inr (.inl (by rw[i]))
    ·exact .inr (.inr i)
theorem oz:∀{a b c:List Int},bK a b<0->bK b c<0->bK a c<0
 | [],[],_,h,_=>by rw[bK]at h;omega
 | _::_,[],_,h,_=>by rw[bK]at h;omega
 | [],_::_,[],_,h=>by rw[bK]at h;omega
 | _::_,_::_,[],_,h=>by rw[bK]at h;omega
 | [],_::_,_::_,_,_=>by rw[bK];omega
 | x::a,y::b,z::c,h1,h2=>by
  rw[bK]at h1 h2⊢;by_cases u:x<y
  ·by_cases i:y<z
   ·rw[if_pos I];omega
   ·rw[if_neg i]at h2
    by_cases e:z<y
    ·rw[if_pos e]at h2;omega
    ·rw[if_pos I];omega
  ·rw[if_neg u]at h1
   by_cases j:y<x
   ·rw[if_pos j]at h1;omega
   ·rw[if_neg j]at h1
    by_cases i:y<z
    ·rw[if_pos I];omega
    ·rw[if_neg i]at h2
     by_cases e:z<y
     ·rw[if_pos e]at h2;omega
     ·rw[if_neg e]at h2
      rw[if_neg I,if_neg I];exact oz h1 h2
instance (a b : List Nat) : Decidable (LtR a b) := by unfold LtR; infer_instance
theorem LtR.trans{a b c:List Nat}(h:LtR a b)(e:LtR b c):LtR a c:=oz h e
theorem LtR.tri(a b:List Nat)(h:¬ LtR a b)(j:a≠b):LtR b a:=by
 rcases sR (a.map fun(i:Nat)=>(i:Int)) (b.map fun(i:Nat)=>(i:Int))with e|e|e
 ·exact absurd e h
 ·exact absurd (mapI_inj e) j
 ·exact e
abbrev PF:=Pl×List Nat
def LtF(x y:PF):Prop:=LtR x.2 y.2
def rO(P:Nat->V)(N:Nat)(out:List PF)(m:Pl):List PF:=insG (fun q=>decide (LtR q.2 (fy P N m))) (m,fy P N m) out
def facesR(P:Nat->V)(N:Nat):List PF:=(cw P N).foldl (rO P N) []
variable {P : Nat → V} {N E : Nat} {fs : List RF}
theorem sL:∀(l:List Pl) (out:List PF),out.Pairwise LtF->(∀m∈l,∀x∈out,x.2≠fy P N m)->(l.Pairwise fun m e=>fy P N m≠fy P N e) ->
 (l.foldl (rO P N) out).Pairwise LtF/\∀x,x∈l.foldl (rO P N) out↔x∈out\/∃m∈l,x=(m,fy P N m)
 | [],out,h1,_,_=>⟨h1,fun x=>by simp⟩
 | m::l,out,h1,h2,h3=>by
  obtain⟨p1,p2⟩:=List.pairwise_cons.mp h3;have G:(rO P N out m).Pairwise LtF:=nQ LtF (fun q:PF=>decide (LtR q.2 (fy P N m))) (m,fy P N m) (fun y=>by simp[LtF]) (fun a b c j u=>LtR.trans j u) h1 fun y H F=>LtR.tri _ _ F (h2 m (List.mem_cons_self ..) y H)
  have C:∀x,x∈rO P N out m↔x=(m,fy P N m)\/x∈out:=fun x=>qj
  obtain⟨J,L⟩:=sL l (rO P N out m) G (fun e i x A=>by
   rcases(C x).mp A with rfl|A
   ·exact p1 e i
   ·exact h2 e (List.mem_cons_of_mem _ i) x A) p2
  refine⟨J,fun x=>?_⟩;rw[List.foldl_cons,L,C]
  constructor
  ·rintro((rfl|h)|⟨e,h,rfl⟩)
   ·exact .inr ⟨m,List.mem_cons_self ..,rfl⟩
   ·exact .inl h
   ·exact .inr ⟨e,List.mem_cons_of_mem _ h,rfl⟩
  ·rintro(h|⟨e,h,rfl⟩)
   ·exact .inl (.inr h)
   ·rcases List.mem_cons.mp h with rfl|h
    ·exact .inl (.inl rfl)
    ·exact .inr ⟨e,h,rfl⟩
theorem RingsOk.ring_ne(h:RingsOk P N fs E)(hS:Sorted P N)(u:iC P N)(hE:∀v,v<N->Top P N v):(cw P N).Pairwise fun m U=>fy P N m≠fy P N U:=by
 have hn:(cw P N).Nodup:=rx;rw[List.nodup_iff_pairwise_ne]at hn;refine hn.imp_of_mem fun{m U} hm L Q H=>Q ?_
 obtain⟨f,W,rfl⟩:=List.mem_map.mp (((h.planes hS u).2 m).mp hm);obtain⟨g,X,rfl⟩:=List.mem_map.mp (((h.planes hS u).2 U).mp L);rw[<-(h.face hS W).2,<-(h.face hS X).2]at H;have R:=h.strict hS hE;obtain⟨i,hi,A⟩:=List.mem_iff_getElem.mp W;obtain⟨j,Y,C⟩:=List.mem_iff_getElem.mp X;have key:∀a b (ha:a<fs.length) (hb:b<fs.length),a<b->fs[a].r≠fs[b].r:=fun a b ha hb G e=>by
  have:=List.pairwise_iff_getElem.mp R a b ha hb G;rw[e]at this;exact LtR.irrefl _ this
 have:i=j:=by
  refine Classical.byContradiction fun J=>?_
  rcases Nat.lt_or_gt_of_ne J with F|F
  ·exact key i j hi Y F (by rw[A,C];exact H)
  ·exact key j i Y hi F (by rw[A,C];exact H.symm)
 subst this;rw[<-A,<-C]
theorem RingsOk.facesR(h:RingsOk P N fs E)(hS:Sorted P N)(e:iC P N)(j:∀v,v<N->Top P N v):facesR P N=fs.map fun f=>(plF P f,f.r):=by
 obtain⟨u,A⟩:=sL (P:=P) (N:=N) (cw P N) [] List.Pairwise.nil (fun _ _ _ h=>by cases h) (h.ring_ne hS e j);refine gk LtF (fun a=>LtR.irrefl _) (fun a b=>LtR.asym _ _) _ _ u ?_ fun x=>?_
 ·rw[List.pairwise_map];exact h.strict hS j
 ·unfold Υ.facesR
  rw[A,List.mem_map]
  constructor
  ·rintro(h|⟨m,C,rfl⟩)
   ·cases h
   ·obtain⟨f,i,rfl⟩:=List.mem_map.mp (((h.planes hS e).2 m).mp C)
    exact⟨f,i,by rw[(h.face hS i).2]⟩
  ·rintro⟨f,i,rfl⟩
   exact .inr ⟨plF P f,((h.planes hS e).2 _).mpr (List.mem_map.mpr ⟨f,i,rfl⟩),by rw[(h.face hS i).2]⟩
end
section
open V
def sD(k:Nat)(e:V):Bool:=
 !(k == 2&&decide (1<e.x+e.y) || k == 3&&decide (e.x+e.y<1) || k == 4&&decide (1<e.x+e.y+e.z) || k == 5&&decide (e.x+e.y+e.z<2))
def cubeB:List V:=(List.range 8).map fun(m:Nat)=>⟨((m / 4:Nat):Int),((m / 2 % 2:Nat):Int),((m % 2:Nat):Int)⟩
def bR(k:Nat):List V:=cubeB.filter (sD k)
def atB(a s e:V):V:=⟨a.x+e.x*s.x,a.y+e.y*s.y,a.z+e.z*s.z⟩
def lf(k:Nat)(a s:V):List V:=(bR k).map (atB a s)
def V.co(v:V)(t:Nat):Int:=if t=0 then v.x else if t=1 then v.y else v.z
def axV(t:Nat)(z:Int):V:=⟨if t=0 then z else 0,if t=1 then z else 0,if t=2 then z else 0⟩
def gsB:List V:=(List.range 27).map fun(m:Nat)=>⟨((m / 9:Nat):Int)-1,((m / 3 % 3:Nat):Int)-1,((m % 3:Nat):Int)-1⟩
structure UnitOk (U:Nat→V) (N:Nat):Prop where
 four:4<=N/\N<=8
 one:∀ q ∈ List.range N,0<=(U q).x/\(U q).x<=1/\0<=(U q).y/\(U q).y<=1/\0<=(U q).z/\(U q).z<=1
 lex:∀ q ∈ List.range N,∀ p ∈ List.range q,(U p).x<(U q).x\/(U p).x=(U q).x/\((U p).y<(U q).y\/(U p).y=(U q).y/\(U p).z<(U q).z)
 full:∃ i ∈ List.range N,∃ j ∈ List.range N,∃ l ∈ List.range N,∃ m ∈ List.range N,dot (tri U i j l) (U m - U i)≠0
 top:∀ v ∈ List.range N,∃ g ∈ gsB,∀ q ∈ List.range N,q=v\/0<dot g (U q - U v)
 ax:∀ t ∈ List.range 3,∃ i ∈ List.range N,∃ j ∈ List.range i,∃ l ∈ List.range j,∃ z ∈ [(1:Int),-1],(tri U i j l).co t≠0/\tri U i j l=axV t ((tri U i j l).co t)/\∀ q ∈ List.range N,z*(U q - U i).co t<=0
theorem unitOk(k:Nat)(e:k<6):UnitOk (ofL (bR k)) (bR k).length:=by
 have u:∀k∈List.range 6,4<=(bR k).length/\(bR k).length<=8:=by decide +kernel
 have A:∀k∈List.range 6,∀q∈List.range (bR k).length,0<=(ofL (bR k) q).x/\(ofL (bR k) q).x<=1/\0<=(ofL (bR k) q).y/\(ofL (bR k) q).y<=1/\0<=(ofL (bR k) q).z/\(ofL (bR k) q).z<=1:=by decide +kernel
 have C:∀k∈List.range 6,∀q∈List.range (bR k).length,∀p∈List.range q,(ofL (bR k) p).x<(ofL (bR k) q).x\/(ofL (bR k) p).x=(ofL (bR k) q).x/\((ofL (bR k) p).y<(ofL (bR k) q).y\/(ofL (bR k) p).y=(ofL (bR k) q).y/\(ofL (bR k) p).z<(ofL (bR k) q).z):=by decide +kernel
 have F:∀k∈List.range 6,∃i∈List.range (bR k).length,∃j∈List.range (bR k).length,∃l∈List.range (bR k).length,∃m∈List.range (bR k).length,dot (tri (ofL (bR k)) i j l) (ofL (bR k) m-ofL (bR k) i)≠0:=by decide +kernel
 have G:∀k∈List.range 6,∀v∈List.range (bR k).length,∃g∈gsB,∀q∈List.range (bR k).length,q=v\/0<dot g (ofL (bR k) q-ofL (bR k) v):=by decide +kernel
 have H:∀k∈List.range 6,∀t∈List.range 3,∃i∈List.range (bR k).length,∃j∈List.range i,∃l∈List.range j,∃z∈[(1:Int),-1],(tri (ofL (bR k)) i j l).co t≠0/\tri (ofL (bR k)) i j l=axV t ((tri (ofL (bR k)) i j l).co t)/\∀q∈List.range (bR k).length,z*(ofL (bR k) q-ofL (bR k) i).co t<=0:=by decide +kernel
 have e:=List.mem_range.mpr e;exact⟨u k e,A k e,C k e,F k e,G k e,H k e⟩
theorem ofL_map(f:V->V)(l:List V)(i:Nat)(hi:i<l.length):ofL (l.map f) i=f (ofL l i):=by
 unfold ofL;simp[List.getD,hi]
theorem atB_sub(a s e f:V):atB a s e-atB a s f=⟨(e-f).x*s.x,(e-f).y*s.y,(e-f).z*s.z⟩:=by
 apply V.ext'<;>simp only[atB,sub_x,sub_y,sub_z]<;>grind
structure BlkOk (P:Nat→V) (N:Nat) (a s:V):Prop where
 valid:Valid P N
 within:∀ q,q<N→(a.x<=(P q).x/\(P q).x<=a.x+s.x)/\(a.y<=(P q).y/\(P q).y<=a.y+s.y)/\(a.z<=(P q).z/\(P q).z<=a.z+s.z)
 ax:∀ t,t<3→∃ z:Int,(z=1\/z=-1)/\∃ o,(⟨axV t z,o⟩:Pl) ∈ cw P N
theorem primV_ax(t:Nat)(j:t<3)(c:Int)(hc:c≠0):aR (axV t c)=axV t c.sign:=by
 have e:(c.tdiv (c.natAbs:Int))=c.sign:=by
  rcases Int.lt_trichotomy c 0 with h|h|h
  ·rw[Int.sign_eq_neg_one_of_neg h,show(c.natAbs:Int)=-c by omega,Int.tdiv_neg,Int.tdiv_self hc]
  ·omega
  ·rw[Int.sign_eq_one_of_pos h,show(c.natAbs:Int)=c by omega,Int.tdiv_self hc]
 have i:t=0\/t=1\/t=2:=I
 rcases i with rfl|rfl|rfl<;>simp[aR,cO,axV,e]
theorem blk_ok(k:Nat)(hk:k<6)(a s:V)(ha:(0<=a.x/\a.x<=100)/\(0<=a.y/\a.y<=100)/\(0<=a.z/\a.z<=100))(hs:(0<s.x/\s.x<=100)/\(0<s.y/\s.y<=100)/\(0<s.z/\s.z<=100)):
 BlkOk (ofL (lf k a s)) (lf k a s).length a s:=by
 have G:=unitOk k hk;have hN:(lf k a s).length=(bR k).length:=by simp[lf]
 rw[hN];generalize X:(bR k).length=N at G;have L:∀i,i<N->ofL (lf k a s) i=atB a s (ofL (bR k) i):=fun i hi=>ofL_map _ _ i (by rw[X];exact hi)
 generalize ofL (lf k a s)=P at L;generalize ofL (bR k)=U at G L;clear hN X;obtain⟨⟨a1,a2⟩,⟨a3,a4⟩,a5,a6⟩:=ha;obtain⟨⟨s1,s2⟩,⟨s3,s4⟩,W,s6⟩:=hs;have hb:∀e c:Int,0<=e->e<=1->0<c->0<=e*c/\e*c<=c:=fun e c h1 h2 hc=>by
  rcases show e=0\/e=1 by omega with rfl|rfl<;>omega
 have hw:∀q,q<N->(a.x<=(P q).x/\(P q).x<=a.x+s.x)/\(a.y<=(P q).y/\(P q).y<=a.y+s.y)/\(a.z<=(P q).z/\(P q).z<=a.z+s.z):=fun q C=>by
  obtain⟨h1,h2,R,h4,h5,h6⟩:=G.one q (List.mem_range.mpr C);rw[L q C];have:=hb _ _ h1 h2 s1;have:=hb _ _ R h4 s3;have:=hb _ _ h5 h6 W;simp only[atB];omega
 have u:∀i j,i<N->j<N->P i-P j=⟨(U i-U j).x*s.x,(U i-U j).y*s.y,(U i-U j).z*s.z⟩:=fun i j hi F=>by
  rw[L i hi,L j F,atB_sub]
 have J:∀i j l,i<N->j<N->l<N->tri P i j l=⟨(tri U i j l).x*(s.y*s.z),(tri U i j l).y*(s.x*s.z),(tri U i j l).z*(s.x*s.y)⟩:=fun i j l hi F H=>by
  unfold tri;rw[u j i F hi,u l i H hi];apply V.ext'<;>simp only[cross]<;>grind
 have ad:=Int.mul_pos s3 W;have ac:=Int.mul_pos s1 W;have Q:=Int.mul_pos s1 s3;have ab:=Int.mul_pos Q W;have lt:∀p q,p<q->q<N->Lex (P p) (P q):=fun p q ap C=>by
  have h:=G.lex q (List.mem_range.mpr C) p (List.mem_range.mpr ap);rw[L p I,L q C];unfold Lex atB;dsimp only;have m1:∀x y c:Int,0<c->x<y->x*c<y*c:=fun x y c hc h=>Int.mul_lt_mul_of_pos_right h hc
  rcases h with h|⟨e1,h|⟨e2,h⟩⟩
  ·left;have:=m1 _ _ _ s1 h;omega
  ·right;rw[e1];refine⟨rfl,?_⟩;left;have:=m1 _ _ _ s3 h;omega
  ·right;rw[e1,e2];refine⟨rfl,?_⟩;right;refine⟨rfl,?_⟩;have:=m1 _ _ _ W h;omega
 have hS:Sorted P N:=⟨lt,fun p hp=>by have:=hw p hp;unfold mP;omega⟩;have h4:eA P N:=by
  obtain⟨i,hi,j,F,l,H,m,hm,h0⟩:=G.full;rw[List.mem_range]at hi F H hm;refine⟨i,j,l,m,hi,F,H,hm,fun e=>h0 ?_⟩;rw[J i j l hi F H,u m i hm hi]at e;have:dot (tri U i j l) (U m-U i)*(s.x*s.y*s.z)=0:=by rw[<-e];simp only[dot];grind
  exact(Int.mul_eq_zero.mp this).resolve_right I
 have ag:∀v,v<N->nJ P N v:=fun v hv=>by
  refine Top.extr ?_ hv hS.inj h4.full;obtain⟨g,-,hg⟩:=G.top v (List.mem_range.mpr hv);refine⟨⟨g.x*(s.y*s.z),g.y*(s.x*s.z),g.z*(s.x*s.y)⟩,fun q C ao=>?_⟩;have h:=(hg q (List.mem_range.mpr C)).resolve_left ao;rw[u q v C hv];have e:=Int.mul_pos h ab;rw[show dot g (U q-U v)*(s.x*s.y*s.z)=dot ⟨g.x*(s.y*s.z),g.y*(s.x*s.z),g.z*(s.x*s.y)⟩ ⟨(U q-U v).x*s.x,(U q-U v).y*s.y,(U q-U v).z*s.z⟩ by simp only[dot];grind]at e;exact e
 refine⟨⟨by have:=G.four;omega,G.four.1,hS,h4,ag⟩,hw,fun t ht=>?_⟩;obtain⟨i,hi,j,F,l,H,z,hz,hc,he,an⟩:=G.ax t (List.mem_range.mpr ht);rw[List.mem_range]at hi F H;have aa:z=1\/z=-1:=by simpa using hz
 generalize ar:(tri U i j l).co t=c at hc he;have R:t=0\/t=1\/t=2:=I;obtain⟨d,hd,af,Y⟩:∃d:Int,d≠0/\d.sign=c.sign/\tri P i j l=axV t d:=by
  have A:∀m:Int,0<m->(c*m).sign=c.sign/\c*m≠0:=fun m hm=>by
   rw[Int.sign_mul,Int.sign_eq_one_of_pos hm,Int.mul_one];exact⟨rfl,Int.mul_ne_zero hc I⟩
  rw[J i j l hi I I,he]
  rcases R with rfl|rfl|rfl
  ·exact⟨_,(A _ ad).2,(A _ ad).1,by apply V.ext'<;>simp[axV]⟩
  ·exact⟨_,(A _ ac).2,(A _ ac).1,by apply V.ext'<;>simp[axV]⟩
  ·exact⟨_,(A _ Q).2,(A _ Q).1,by apply V.ext'<;>simp[axV]⟩
 have hp:aR (tri P i j l)=axV t c.sign:=by rw[Y,primV_ax t ht d hd,af]
 have hn:axV t z=aR (tri P i j l)\/axV t z=-aR (tri P i j l):=by
  rw[hp];have hs:c.sign=1\/c.sign=-1:=by
   rcases Int.lt_trichotomy c 0 with h|h|h
   ·exact .inr (Int.sign_eq_neg_one_of_neg h)
   ·omega
   ·exact .inl (Int.sign_eq_one_of_pos h)
  rcases R with rfl|rfl|rfl<;>rcases aa with rfl|rfl<;>rcases hs with e|e<;>rw[e]<;>first|exact .inl rfl|exact .inr rfl
 refine⟨z,aa,dot (axV t z) (P i),dI.mpr ⟨i,j,l,H,F,hi,?_,hn,rfl,fun q C=>?_⟩⟩
 ·show tri P i j l≠V.zero
  rw[Y];intro e
  rcases R with rfl|rfl|rfl<;>simp[axV,V.zero]at e<;>exact hd e
 ·have h:=an q (List.mem_range.mpr C)
  have e:dot (axV t z) (P q)-dot (axV t z) (P i)=dot (axV t z) (P q-P i):=(bn _ _ _).symm;rw[u q i C hi]at e;have m2:∀x y:Int,x<=0->0<y->x*y<=0:=fun x y h1 h2=>Int.mul_nonpos_of_nonpos_of_nonneg h1 I
  rcases R with rfl|rfl|rfl
  ·have:=m2 _ _ h s1;simp only[dot,axV,V.co]at *;simp at *;grind
  ·have:=m2 _ _ h s3;simp only[dot,axV,V.co]at *;simp at *;grind
  ·have:=m2 _ _ h W;simp only[dot,axV,V.co]at *;simp at *;grind
end
end Go.Proofs.Υ
