/- Lemmas. -/
import Derived.Test.YtodehkjinmgflaaGreatDoorV19
import Derived.Lib.SlicesCompact
set_option linter.all false
set_option maxHeartbeats 0
set_option maxRecDepth 99999
namespace Go.Proofs.Υ
open Go Go.RowKit Tryz
section
open Go.Sort Go.Lib
section
variable {w : World} {base g n cap k : Nat} {t : TypeId} {xs : List Value}
theorem owns_prefix(h:w.ownsRow base t k (.slice (some ⟨g,0,none⟩) n cap) n xs){m:Nat}(G:m<=n):w.ownsRow base t k (.slice (some ⟨g,0,none⟩) m cap) m (xs.take (m*k)):=by
 obtain⟨F,⟨e,_⟩|⟨g',u,i,e,C,E,L,j,H,J⟩⟩:=h
 ·cases e
 ·cases e
  have A:=Nat.mul_le_mul_right k G;exact⟨by rw[List.length_take,F,Nat.min_eq_left A],.inr ⟨_,_,i,rfl,C,E,by omega,j,H,by rw[<-J,List.take_take,Nat.min_eq_left A]⟩⟩
theorem mj(h:w.ownsRow base t k (.slice (some ⟨g,0,none⟩) n cap) n xs)(j:Nat)(u:Value):(w.setCell ⟨g,j,none⟩ u).ownsRow base t k (.slice (some ⟨g,0,none⟩) n cap) n (xs.set j u):=by
 obtain⟨G,⟨e,_⟩|⟨g',C,i,e,E,F,H,A,J,L⟩⟩:=h
 ·cases e
 ·cases e
  refine⟨by rw[List.length_set,G],.inr ⟨_,_,i.setIfInBounds j u,rfl,E,heap_setCell_same w g j i t u F,H,A,by simp[J],?_⟩⟩;rw[Array.toList_setIfInBounds,List.take_set,L]
theorem owns_hi(h:w.ownsRow base t k (.slice (some ⟨g,0,none⟩) n cap) n xs){j:Nat}(e:n*k<=j)(u:Value):(w.setCell ⟨g,j,none⟩ u).ownsRow base t k (.slice (some ⟨g,0,none⟩) n cap) n xs:=by
 have:=mj h j u
 rwa [List.set_eq_of_length_le (by rw[h.1];exact e)]at this
theorem ru(vs:List Value):∀{w:World} {o:Nat},w.ownsRow base t k (.slice (some ⟨g,0,none⟩) n cap) n xs->n*k<=o->(w.setCells g o vs).ownsRow base t k (.slice (some ⟨g,0,none⟩) n cap) n xs:=by
 induction vs with
 | nil=>intro w o h _;exact h
 | cons v r ih=>intro w o h e;exact ih (owns_hi h e v) I
theorem qR{a:World}(vs:List Value):∀{w:World} {o:Nat},Go.RowKit.Below base a w->base<=g->Go.RowKit.Below base a (w.setCells g o vs):=by
 induction vs with
 | nil=>intro w o h _;exact h
 | cons v r ih=>intro w o h e;exact ih (h.setCell (p:=⟨g,o,none⟩) e v) e
end
theorem sI:∀(L:List V) (i:Nat) (p:V),i<L.length->(((L.flatMap v3).set (i*3) (.int .i64 p.x)).set (i*3+1) (.int .i64 p.y)).set (i*3+2) (.int .i64 p.z)=(L.set i p).flatMap v3
 | [],_,_,h=>by simp at h
 | q::L,0,p,_=>rfl
 | q::L,i+1,p,h=>by
  have e:=sI L i p (by simpa using h);rw[List.set_cons_succ,List.flatMap_cons,List.flatMap_cons,<-e,show(i+1)*3=i*3+3 by omega]
  rfl
theorem bM.len{w:World}{base g n cap:Nat}{L:List V}(h:bM w base (.slice (some ⟨g,0,none⟩) n cap) L):n=L.length:=by
 obtain⟨_,⟨e,_⟩|⟨g',i,j,e,_⟩⟩:=h
 ·cases e
 ·cases e;rfl
theorem bM.free{w:World}{base g n cap:Nat}{L:List V}(h:bM w base (.slice (some ⟨g,0,none⟩) n cap) L)(j:Nat):w.frozen? ⟨g,j,none⟩=false:=by
 obtain⟨_,⟨e,_⟩|⟨g',u,i,e,_,A,_⟩⟩:=h
 ·cases e
 ·cases e;exact frozen_of_row w g j i _ A
theorem bM.put{w:World}{base g n cap:Nat}{L:List V}(h:bM w base (.slice (some ⟨g,0,none⟩) n cap) L){i:Nat}(hi:i<L.length)(p:V):
 bM (((w.setCell ⟨g,i*3,none⟩ (.int .i64 p.x)).setCell ⟨g,i*3+1,none⟩ (.int .i64 p.y)).setCell ⟨g,i*3+2,none⟩ (.int .i64 p.z)) base (.slice (some ⟨g,0,none⟩) n cap) (L.set i p):=by
 obtain rfl:=h.len;unfold bM bL;rw[<-sI L i p hi,List.length_set];exact mj (mj (mj h _ _) _ _) _ _
theorem bM.cut{w:World}{base g n cap:Nat}{L:List V}(h:bM w base (.slice (some ⟨g,0,none⟩) n cap) L){m:Nat}(e:m<=n)(vs:List Value):bM (w.setCells g (m*3) vs) base (.slice (some ⟨g,0,none⟩) m cap) (L.take m):=by
 obtain rfl:=h.len;have i:=ru vs (owns_prefix h e) ρ;unfold bM bL;rw[List.length_take,Nat.min_eq_left e,sH jr];exact i
theorem pM{P:Program}(w:World)(t e ty:TypeId)(z:Value)(k:Nat)(F:P.underlying t=some (.slice e))(G:∀w,(zeroValue e).run P w=.ok z w)(C:∀(m:Nat) (u:Value),u∈(Builtin.zeroCells z.cells m).toList->u.oneCell'=true)(i:∀m,(Builtin.zeroCells z.cells m).size=m*k)(b o n c:Nat)(H:0<n)(hc:∀j,j<n*k->(w.cell? ⟨b,o+j,none⟩).isSome=true)(E:∀j,j<n*k->w.frozen? ⟨b,o+j,none⟩=false):
 (Builtin.clear_ #[t] ty #[.slice (some ⟨b,o,none⟩) n c]).run P w=.ok (.tuple #[]) (w.setCells b o (Builtin.zeroCells z.cells n).toList):=by
 have A:=run_storeCells_cells (P:=P) b o (Builtin.zeroCells z.cells n).toList 0 w (by rw[Array.length_toList,i];simpa using hc) (by rw[Array.length_toList,i];simpa using E) (C n);simp only[Nat.add_zero]at A;obtain⟨m,rfl⟩:∃m,n=m+1:=⟨n-1,by omega⟩;simp[Builtin.clear_,run_underlying F,G,A]
theorem bM.cellAt{w:World}{base g n cap:Nat}{L:List V}(h:bM w base (.slice (some ⟨g,0,none⟩) n cap) L){i:Nat}(hi:i<L.length):
 Γ3 w g (i*3) (.int .i64 (L.getD i default).x) g (i*3+1) (.int .i64 (L.getD i default).y) g (i*3+2) (.int .i64 (L.getD i default).z):=by
 obtain⟨b1,_,e,-,-,-,c1⟩:=bL.at_ jr h i _ (getD_some default hi);cases e;exact⟨c1 0 I,c1 1 I,c1 2 I⟩
theorem rH{l:List V}(h:l.length<2):Lib.compact l=l:=by
 match l,h with
 | [],_=>rfl
 | [x],_=>rfl
theorem keepsA{l:List V}{k:Nat}(e:k+1<l.length):(l.toArray)[k+1]! = l.getD (k+1) default/\(l.toArray)[k+1-1]! = l.getD k default:=by
 constructor
 ·simp[e]
 ·have:k<l.length:=I
  simp[this]
end
section
open Go.Lib
theorem zero46(w:World):(zeroValue 77).run prog w=.ok (.agg #[.int .i64 0,.int .i64 0,.int .i64 0]) w:=by
 obtain⟨j,e,i,-,-⟩:=info_parts infoVz;simp[zeroValue,typeInfo,e,i]
theorem clear_pts(w:World)(g o n c:Nat)(E:0<n)(hc:∀j,j<n*3->(w.cell? ⟨g,o+j,none⟩).isSome=true)(C:∀j,j<n*3->w.frozen? ⟨g,o+j,none⟩=false):
 ∃vs,∀ty,(Builtin.clear_ #[100] ty #[.slice (some ⟨g,o,none⟩) n c]).run prog w=.ok (.tuple #[]) (w.setCells g o vs):=
 ⟨_,fun ty=>pM w _ _ ty _ 3 underlying100 zero46 (fun m u A=>by
  simp only[Builtin.zeroCells,Array.toList_map,List.mem_map]at A;obtain⟨i,-,rfl⟩:=A;have e:i % 3<3:=Nat.mod_lt _ I;show((#[Value.int .i64 0,.int .i64 0,.int .i64 0]:Array Value)[i % 3]!).oneCell'=true;generalize i % 3=r at e
  match r,e with
  | 0,_=>rfl
  | 1,_=>rfl
  | 2,_=>rfl) (fun m=>by simp[Builtin.zeroCells,Value.cells]) g o n c E hc C⟩
theorem qL(v:Value)(l:List V)(base:Nat)(w:World)(hO:bM w base v l)(hl:l.length<=262144):
 Calls prog 129 #[v] w fun e w'=>(∃v',e=.returned v'/\bM w' base v' (Lib.compact l))/\Go.RowKit.Below base w w':=by
 obtain⟨a,cap,rfl,hc,hm,hf⟩:=hO.form;obtain⟨N,hN⟩:=χ l.length;by_cases h2:N<2
 ·have HR:=O (show bM w base (.slice a N cap) (Lib.compact l)from by rw[rH I,<-hN];exact hO)
  rw[hN];clear hO hf hN hc hm;have az:(N:Int)<2:=I
  go_enter func129,ntmps129
  go_wp2;exact bodyPost_ret (results_tmp results129 _ _ _) rfl ⟨⟨_,rfl,HR.o⟩,Go.RowKit.Below.refl _ _⟩
 have az:¬ (N:Int)<2:=I;obtain⟨g,rfl,hg,ag,-⟩:∃g,a=some ⟨g,0,none⟩/\g<w.heap.size/\base<=g/\True:=by
  rcases hf with⟨_,h,_⟩|⟨g,X,h3,h4,_⟩
  ·subst h;simp at hN;omega
  ·exact⟨g,X,h3,h4,trivial⟩
 have HO:=O hO;have W:=O (show l.length<=N/\N<=l.length from⟨by omega,by omega⟩);have R:=O ag;rw[hN]at HO hc⊢;clear hO hN hf hg ag;have a8:=eq46
 go_enter func129,ntmps129
 go_wp2_with fail
 go_loopw [3] (fun kv wr=>∃k:Nat,k+1<=N/\kv=.int .i64 ((k+1:Nat):Int)/\Hid (∀j,j<k+1->keeps l.toArray j=true)/\Hid (bM wr base (.slice (some ⟨g,0,none⟩) N cap) l)/\Hid (Go.RowKit.Below base w wr)) (fun kv _=>N-(intOf kv).toNat)
 case atStart=>exact⟨0,by omega,rfl,keeps_lt_one _,HO.o,Go.RowKit.Below.refl _ _⟩
 case round =>
  obtain⟨k,hk,rfl,HK,J,Y⟩:=hrel;obtain⟨w1,rfl⟩:=φ wr;by_cases h0:k+1=N
  ·have bk:¬ ((k+1:Nat):Int)<(N:Int):=I
   have HR:=O (show bM w1 base (.slice (some ⟨g,0,none⟩) N cap) (Lib.compact l)from by
    have e:Lib.compact l=l:=by
     unfold Lib.compact;rw[compactUpTo_all _ _ (fun j hj=>HK.o j (ψ W.o))];refine List.ext_getElem (by simp) fun i X h2=>?_
     have:i<l.length:=by simpa using X
     simp[this]
    rw[e];exact J.o)
   clear h0;go_wp2;exact bodyPost_ret (results_tmp results129 _ _ _) rfl ⟨⟨_,rfl,HR.o⟩,Y.o⟩
  ·have a0:k+1<N:=I
   have bi:((k+1:Nat):Int)<(N:Int):=I;have ab:=O a0;obtain⟨p0,p1,p2⟩:=bM.cellAt J.o (show k+1<l.length by have:=W.o;omega);obtain⟨q0,q1,q2⟩:=bM.cellAt J.o (show k<l.length by have:=W.o;omega);obtain⟨p,hp⟩:=χ (l.getD (k+1) default);obtain⟨q,hq⟩:=χ (l.getD k default);rw[hp]at p0 p1 p2;rw[hq]at q0 q1 q2;have U:=O (show l.toArray[k+1]! = p/\l.toArray[k+1-1]! = q from by
    obtain⟨X,h2⟩:=keepsA (l:=l) (k:=k) (ψ W.o);exact⟨X.trans hp,h2.trans hq⟩)
   have bc:k<262144:=by have:=W.o;omega
   clear hp hq h0;by_cases H:p=q
   ·have ad:(p.x == q.x&&p.y == q.y&&p.z == q.z)=true:=by rw[H];simp
    have ac:=O H;clear H
    go_wp2_with fail
    go_region;have ap:=O (aF Y.o 1)
    have ay:=O (bL.below J.o (aF (Go.RowKit.Below.refl _ _) 1));clear p0 p1 p2 q0 q1 q2;have a9:k+1<=cap:=I
    go_wp2_with fail
    go_loopw [3,5] (fun kv jv wr=>∃(kk u:Nat) (A:Array V),kv=.int .i64 (kk:Nat)/\jv=.int .i64 ((u+1:Nat):Int)/\k+1+(u+1)<=N/\Hid (CompInv l.toArray (k+1+(u+1)) kk A)/\Hid (bM wr base (.slice (some ⟨g,0,none⟩) N cap) A.toList)/\Hid (Go.RowKit.Below base w wr)) (fun _ jv _=>N-(intOf jv).toNat)
    case atStart=>exact⟨k+1,0,l.toArray,rfl,rfl,by have:=ab.o;omega,CompInv.start HK.o (keeps_neg I (by rw[U.o.1,U.o.2];exact ac.o)),ay.o,ap.o⟩
    case round =>
     obtain⟨kk,u,A,rfl,rfl,bg,Q,C,aa⟩:=hrel;obtain⟨w3,rfl⟩:=φ wr;have F:=O (show A.toList.length<=N/\N<=A.toList.length from by have X:=Q.o.size;have h2:=W.o;rw[Array.length_toList];simp at X;omega);have a3:u<262144:=by have:=W.o;omega
     have bf:=Q.o.lt;have a4:kk<262144:=by have:=W.o;omega
     by_cases hend:k+1+(u+1)=N
     ·have a7:¬ ((u+1:Nat):Int)<((N-(k+1):Nat):Int):=I
      have a1:kk<N:=I;have au:=O (show A.toList.take kk=Lib.compact l from by
       have X:=Q.o.len;have h2:=Q.o.low;have h3:=Q.o.size;have a2:k+1+(u+1)=l.length:=by have:=W.o;omega
       rw[a2]at X h2;refine List.ext_getElem? fun j=>?_
       by_cases hj:j<kk
       ·rw[List.getElem?_take_of_lt hj,show(Lib.compact l)[j]?=some A[j]! from h2 j hj]
        have:j<A.size:=by have:=F.o;rw[Array.length_toList]at this;omega
        simp[this]
       ·rw[List.getElem?_eq_none (by rw[List.length_take];omega),List.getElem?_eq_none (by show(compactUpTo _ _).length<=j;omega)])
      have af:(A.toList.flatMap v3).length=A.toList.length*3:=qx jr _;obtain⟨vs,ba⟩:=clear_pts w3 g (kk*3) (N-kk) (cap-kk) I (fun j hj=>by
       have an:kk*3+j<A.toList.length*3:=by have:=F.o;rw[Nat.sub_mul]at hj;omega
       have h:=C.o;have hn:=bM.len h;rw[hn]at h;rw[World.ownsRow.cellAt (show World.ownsRow _ _ _ _ _ _ _ from h) (kk*3+j) an,List.getElem?_eq_getElem (by rw[af];exact an)]
       rfl) (fun j _=>bM.free C.o _)
      have av:=O (show bM (w3.setCells g (kk*3) vs) base (.slice (some ⟨g,0,none⟩) kk cap) (Lib.compact l)from by
       rw[<-au.o];exact bM.cut C.o I vs)
      have ar:=O (qR (g:=g) (o:=kk*3) vs aa.o R.o);have be:kk<cap:=I;clear af hend;go_wp2;exact bodyPost_ret (results_tmp results129 _ _ _) rfl ⟨⟨_,rfl,av.o⟩,ar.o⟩
     ·have hm:k+1+(u+1)<N:=I
      have a6:((u+1:Nat):Int)<((N-(k+1):Nat):Int):=I;obtain⟨c0,c1,c2⟩:=bM.cellAt C.o (show k+1+(u+1)<A.toList.length by have:=F.o;omega);obtain⟨d0,d1,d2⟩:=bM.cellAt C.o (show k+1+u<A.toList.length by have:=F.o;omega);have G:=O (show l.toArray[k+1+(u+1)]! = A.toList.getD (k+1+(u+1)) default/\l.toArray[k+1+(u+1)-1]! = A.toList.getD (k+1+u) default from by
       have hs:=F.o;rw[Array.length_toList]at hs;refine⟨?_,?_⟩
       ·rw[<-Q.o.high (k+1+(u+1)) I];simp[show k+1+(u+1)<A.size by omega]
       ·rw[<-Q.o.high (k+1+(u+1)-1) I,show k+1+(u+1)-1=k+1+u by omega];simp[show k+1+u<A.size by omega])
      obtain⟨p,hp⟩:=χ (A.toList.getD (k+1+(u+1)) default);obtain⟨q,hq⟩:=χ (A.toList.getD (k+1+u) default);rw[hp]at c0 c1 c2 G;rw[hq]at d0 d1 d2 G;rw[show(k+1+(u+1))*3=(k+1)*3+(u+1)*3 by omega]at c0 c1 c2;rw[show(k+1+u)*3=(k+1)*3+u*3 by omega]at d0 d1 d2;clear hp hq hend;by_cases E:p=q
      ·have ad:(p.x == q.x&&p.y == q.y&&p.z == q.z)=true:=by rw[E];simp
       have L:=O E;clear E
       go_wp2_with fail
       go_region;go_wp2
       go_round
       case rel=>exact⟨kk,u+1,A,rfl,rfl,by omega,Q.o.skip (keeps_neg I (by rw[G.o.1,G.o.2];exact L.o)),bL.below C.o (aF (Go.RowKit.Below.refl _ _) _),aF aa.o _⟩
       case measure=>simp[intOf];omega
      ·have ad:(p.x == q.x&&p.y == q.y&&p.z == q.z)=false:=by
        refine Bool.eq_false_iff.mpr fun h=>E ?_
        simp only[Bool.and_eq_true,beq_iff_eq]at h;exact V.ext' h.1.1 h.1.2 h.2
       have L:=O E;clear E;obtain⟨r0,r1,r2⟩:=bM.cellAt C.o (show kk<A.toList.length by have:=F.o;omega);have g0:=bM.free C.o (kk*3);have g1:=bM.free C.o (kk*3+1);have g2:=bM.free C.o (kk*3+2);generalize A.toList.getD kk default=old at r0 r1 r2;have a1:kk<N:=I;have a5:(kk:Int)<(N:Int):=I;have ao:kk<A.toList.length:=by have:=F.o;omega
       have aw:=O ao;clear ao
       go_wp2_with fail
       go_region
       go_wp2_with fail
       go_round
       case rel=>exact⟨kk+1,u+1,A.setIfInBounds kk p,rfl,rfl,by omega,by
        have h:=Q.o.keep (by have:=F.o;have h4:=Q.o.size;rw[Array.length_toList]at this;omega) (keeps_pos (by rw[G.o.1,G.o.2];exact L.o));rw[G.o.1]at h;exact h,by
        rw[Array.toList_setIfInBounds];exact bL.below (bM.put C.o aw.o p) ((Go.RowKit.Below.refl _ _).drew),(((aa.o.setCell (p:=⟨g,kk*3,none⟩) R.o _).setCell (p:=⟨g,kk*3+1,none⟩) R.o _).setCell (p:=⟨g,kk*3+2,none⟩) R.o _).drew⟩
       case measure=>simp[intOf];omega
   ·have ad:(p.x == q.x&&p.y == q.y&&p.z == q.z)=false:=by
     refine Bool.eq_false_iff.mpr fun h=>H ?_
     simp only[Bool.and_eq_true,beq_iff_eq]at h;exact V.ext' h.1.1 h.1.2 h.2
    have ac:=O H;clear H
    go_wp2_with fail
    go_region;go_wp2
    go_round
    case rel=>exact⟨k+1,by have:=ab.o;omega,rfl,(fun j hj=>by
     by_cases e:j=k+1
     ·subst e
      refine keeps_pos ?_;rw[U.o.1,U.o.2];exact ac.o
     ·exact HK.o j I),bL.below J.o (aF (Go.RowKit.Below.refl _ _) _),aF Y.o _⟩
    case measure=>have:=ab.o;simp[intOf];omega
end
section
open V Go.Lib
def kj(E:Nat)(L:List V)(k:Nat):List V:=(bw E k).map (ofL L)
theorem bitV_succ{E k:Nat}{L:List V}:kj E L (k+1)=if E.testBit k=true then kj E L k++[ofL L k] else kj E L k:=by
 unfold kj bw;rw[List.range_succ,List.filter_append]
 split<;>rename_i h
 ·rw[List.filter_cons_of_pos h];simp
 ·rw[List.filter_cons_of_neg h];simp
theorem bitV_hull{P:Nat->V}{len E:Nat}{fs:List RF}(R:∀i,i<len->mP (P i))(L:eA P len)(h:RingsOk (ofL (ff P len)) (ff P len).length fs E):kj E (ff P len) (ff P len).length=dJ P len:=by
 have A:=pL P len;have hS:=l6 R;have hF:=(A.symm.full4 L).full;refine gk Lex Lex.irrefl (fun a b C F=>Lex.irrefl _ (kF C F)) _ _ ?_ (fu _) fun x=>?_
 ·unfold kj bw
  rw[List.pairwise_map];refine List.Pairwise.imp_of_mem ?_ (List.Pairwise.sublist List.filter_sublist (List.pairwise_lt_range (n:=(ff P len).length)));intro i j hi Q G;exact hS.lt i j G (List.mem_range.mp (List.mem_filter.mp Q).1)
 ·unfold dJ
  rw[fR];unfold kj bw;rw[List.mem_map]
  constructor
  ·rintro⟨v,u,rfl⟩
   obtain⟨C,F⟩:=List.mem_filter.mp u;have u:=List.mem_range.mp C;obtain⟨i,hi,e⟩:=(A _).mp ⟨v,u,rfl⟩;refine⟨i,hi,e,?_⟩;rw[<-A.extreme];exact(mB hS.inj v u).mpr ((h.bit hS hF v).mp F).2
  ·rintro⟨i,hi,e,J⟩
   obtain⟨v,u,H⟩:=(A x).mpr ⟨i,hi,e⟩;rw[<-A.extreme,<-H]at J;exact⟨v,List.mem_filter.mpr ⟨List.mem_range.mpr u,(h.bit hS hF v).mpr ⟨u,(mB hS.inj v u).mp J⟩⟩,H⟩
theorem bitV_length{E:Nat}{L:List V}(e:∀v,E.testBit v=true->v<L.length)(j:L.length<=64):(bw E 64).length=(kj E L L.length).length:=by
 unfold kj;rw[List.length_map,jF E L.length 64 j fun i u _=>by
  cases hb:E.testBit i
  ·rfl
  ·exact absurd (e i hb) I]
theorem cmpV_le{a b:V}(h:iy a b<=0):a=b\/Lex a b:=by
 rcases lex_tri a b with e|e|e
 ·exact .inr e
 ·exact .inl e
 ·have i:=(cmpV_lt b a).mpr e
  have j:=sP a b;omega
theorem kh(d:Array V)(U:∀i j,i<j->j<d.size->iy d[i]! d[j]!<=0):∀m,m<=d.size ->
 (compactUpTo d m).Pairwise Lex/\(∀x,x∈compactUpTo d m↔∃j,j<m/\d[j]! = x)/\∀x∈compactUpTo d m,x=d[m-1]!\/Lex x d[m-1]!
 | 0,_=>by
  have e:compactUpTo d 0=[]:=rfl;rw[e];exact⟨List.Pairwise.nil,fun x=>⟨fun h=>absurd h (by simp),fun⟨j,u,_⟩=>absurd u I⟩,fun x h=>absurd h (by simp)⟩
 | m+1,hm=>by
  obtain⟨J,G,L⟩:=kh d U m I;rw[compactUpTo_succ,Nat.add_sub_cancel];by_cases C:keeps d m=true
  ·rw[if_pos C]
   have E:∀x∈compactUpTo d m,Lex x d[m]! := fun x A=>by
    have F:m≠0:=fun e=>by
     subst e;obtain⟨j,u,_⟩:=(G x).mp A;omega
    have H:d[m]!≠d[m-1]! := by
     have:=of_decide_eq_true C
     rcases this with h|h
     ·exact absurd h F
     ·exact h
    have R:Lex d[m-1]! d[m]! := by
     rcases cmpV_le (U (m-1) m I I)with h|h
     ·exact absurd h.symm H
     ·exact h
    rcases L x A with h|h
    ·rw[h];exact R
    ·exact kF h R
   refine⟨List.pairwise_append.mpr ⟨J,List.pairwise_singleton _ _,fun a ha b hb=>by rw[List.mem_singleton.mp hb];exact E a ha⟩,fun x=>?_,fun x A=>?_⟩
   ·rw[List.mem_append,List.mem_singleton,G]
    constructor
    ·rintro(⟨j,u,e⟩|e)
     ·exact⟨j,by omega,e⟩
     ·exact⟨m,by omega,e.symm⟩
    ·rintro⟨j,u,e⟩
     by_cases h:j=m
     ·subst h;exact .inr e.symm
     ·exact .inl ⟨j,by omega,e⟩
   ·rcases List.mem_append.mp A with h|h
    ·exact .inr (E x h)
    ·exact .inl (List.mem_singleton.mp h)
  ·rw[if_neg C,List.append_nil]
   have F:0<m:=by
    rcases Nat.eq_zero_or_pos m with h|h
    ·subst h;exact absurd (keeps_lt_one d 0 I) C
    ·exact h
   have Q:d[m]! = d[m-1]! := Classical.byContradiction fun h=>C (keeps_pos h)
   refine⟨J,fun x=>?_,fun x A=>by rw[Q];exact L x A⟩;rw[G]
   constructor
   ·rintro⟨j,u,e⟩;exact⟨j,by omega,e⟩
   ·rintro⟨j,u,e⟩
    by_cases h:j=m
    ·subst h;exact⟨j-1,by omega,by rw[<-Q];exact e⟩
    ·exact⟨j,by omega,e⟩
theorem qK{l u:List V}(L:u.Perm l)(Q:u.Pairwise fun a b=>iy a b<=0):Lib.compact u=ff (ofL l) l.length:=by
 have J:∀i j,i<j->j<u.toArray.size->iy u.toArray[i]! u.toArray[j]!<=0:=fun i j H A=>by
  have E:j<u.length:=by simpa using A
  have C:i<u.length:=I;have:=List.pairwise_iff_getElem.mp Q i j C E H
  simpa[C,E]using this
 obtain⟨F,G,-⟩:=kh u.toArray J u.length (by simp);refine gk Lex Lex.irrefl (fun a b F G=>Lex.irrefl _ (kF F G)) _ _ F (fu _) fun x=>?_
 unfold ff;rw[fR];refine(G x).trans ?_;have e:(∃j,j<u.length/\u.toArray[j]! = x)↔x∈u:=by
  rw[List.mem_iff_getElem]
  constructor
  ·rintro⟨j,A,e⟩;exact⟨j,A,by simpa[A]using e⟩
  ·rintro⟨j,A,e⟩;exact⟨j,A,by simpa[A]using e⟩
 rw[e,L.mem_iff,oR];exact⟨fun⟨i,hi,e⟩=>⟨i,hi,e,rfl⟩,fun⟨i,hi,e,_⟩=>⟨i,hi,e⟩⟩
theorem sortV_congr{P Q:Nat->V}{n:Nat}(h:∀i,i<n->P i=Q i):ff P n=ff Q n:=by
 unfold ff;have key:∀k,k<=n->gX P (fun _=>true) k=gX Q (fun _=>true) k:=fun k=>by
  induction k with
  | zero=>intro _;rfl
  | succ k ih =>
   intro e;unfold gX;rw[ih I,h k I]
 exact key n ρ
end
end Go.Proofs.Υ
