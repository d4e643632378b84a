/- Lemmas. -/
import Derived.Test.YtodehkjinmgflaaGreatDoorV19
import Derived.RangeFuncNested
import Derived.RangeFuncBound
import Derived.Shelf.RegionOpen
import Derived.OwnWalkIn
import Derived.LoopNIn
import Derived.LoopIn
set_option linter.all false
set_option maxHeartbeats 0
set_option maxRecDepth 99999
namespace Go.Proofs.Υ
open Go Go.RowKit Tryz
def iA(i j:Nat)(W W':World):Prop:=W'.heap[i]?=W.heap[i]?/\W'.heap[j]?=W.heap[j]?
theorem iA.refl(i j:Nat)(W:World):iA i j W W:=⟨rfl,rfl⟩
theorem iA.trans{i j:Nat}{A B C:World}(h:iA i j A B)(k:iA i j B C):iA i j A C:=⟨k.1.trans h.1,k.2.trans h.2⟩
theorem mF{A B:World}{p:Addr}(h:B.heap[p.block]?=A.heap[p.block]?):B.cell? p=A.cell? p:=by unfold World.cell?;rw[h]
abbrev Side:=Fin 64×Fin 64
def sideV(x:Side):Array Value:=#[.int .i64 (x.1.val:Int),.int .i64 (x.2.val:Int)]
def fin64(n:Nat):Fin 64:=⟨n % 64,Nat.mod_lt _ I⟩
def iM(r:List Nat)(j:Nat):Side:=(fin64 (r.getD j 0),fin64 (r.getD ((j+1) % r.length) 0))
def gW(r:List Nat)(k:Nat):List Side:=(List.range k).map (iM r)
theorem ph(r:List Nat)(k:Nat):gW r (k+1)=gW r k++[iM r k]:=by simp[gW,List.range_succ]
theorem tc(r:List Nat)(k:Nat):(gW r k).length=k:=by simp[gW]
theorem kM{n:Nat}(h:n<64):(fin64 n).val=n:=Nat.mod_eq_of_lt h
theorem kL{r:List Nat}(h:∀i∈r,i<64)(j:Nat):r.getD j 0<64:=by
 rw[List.getD_eq_getElem?_getD];by_cases e:j<r.length
 ·rw[List.getElem?_eq_getElem e];exact h _ (List.getElem_mem e)
 ·rw[List.getElem?_eq_none I];decide
theorem uptoS_all{r:List Nat}(h:∀i∈r,i<64):(gW r r.length).map (fun x=>(x.1.val,x.2.val))=cX r:=by
 unfold gW cX;rw[List.map_map];refine List.map_congr_left fun i _=>?_
 simp only[Function.comp,iM];rw[kM (kL h _),kM (kL h _)]
theorem sides1_in(n:Nat)(hn:1<=n)(l E b off af:Nat)(r:List Nat)(N:Nat)(hN:r.length=N)(h64:∀i∈r,i<64)(an:N<=64)(J Jx:List Side->World->Prop)(hD:∀s A,J s A->J s A.drew)(hY:∀u x W,J u W->u.length<N->YieldAt Fence.wide (n-1) prog l (sideV x) W fun e W' =>
  (e=.returned (.bool true)/\J (u++[x]) W'/\iA E b W W')\/(e=.returned (.bool false)/\Jx (u++[x]) W'))(W:World)(hBs:W.cell? ⟨E,0,none⟩=some (.slice (some ⟨b,off,none⟩) N af))(hc:∀j,j<N->W.cell? ⟨b,off+j,none⟩=some (.int .i64 (r.getD j 0:Nat)))(h0:J [] W):
 CallsIn Fence.wide n prog 220 #[.func (.yield l) #[] #[],.pointer (some ⟨E,0,none⟩)] W fun e W'=>(∃v,e=.returned v) /\
  ((∃ys,ys=gW r N/\J ys W')\/(∃u,(∃k,k<=N/\u=gW r k)/\Jx u W')):=by
 refine callsIn_of_wp func220 rfl trivial ?_ rfl;simp only[ntmps220,List.size_toArray,List.length_cons,List.length_nil,Nat.reduceAdd,Nat.reduceSub,Array.replicate_succ,Array.replicate_zero,List.push_toArray,List.append_toArray,List.nil_append,List.cons_append]
 gi_wp2
 gi_loopw [7] (fun i wr=>∃k:Nat,k<=N/\i=.int .i64 k/\J (gW r k) wr/\iA E b W wr)
  (fun i _=>N-(intOf i).toNat)
 case atStart=>exact⟨0,Nat.zero_le _,rfl,h0,iA.refl _ _ _⟩
 case round =>
  obtain⟨k,hk,rfl,X,H⟩:=hrel;have ag:=(mF (p:=⟨E,0,none⟩) H.1).trans hBs;have F:∀j,j<N->wr.cell? ⟨b,off+j,none⟩=some (.int .i64 (r.getD j 0:Nat)):=fun j h=>(mF (p:=⟨b,off+j,none⟩) H.2).trans (hc j h)
  by_cases aa:k<N
  ·obtain⟨fn,ao,assign,body,hy,hR⟩:=hY _ (iM r k) wr.drew (hD _ _ X) (by rw[tc];exact aa)
   have hm:(k+1) % N<N:=Nat.mod_lt _ I;obtain⟨m,ab⟩:=χ ((k+1) % N);have ad:IntKind.i64.wrap ((k:Int)+1)=(k:Int)+1:=IntWalk.i64_in _ ⟨by omega,by omega⟩;have Q:((k:Int)+1) % (N:Int)=(m:Int):=by rw[<-ab];exact(Int.natCast_emod (k+1) N).symm
   have ac:((k:Int)+1).tmod (N:Int)=(m:Int):=by rw[<-Q];exact Int.tmod_eq_emod_of_nonneg I
   have av:(IntKind.i64.wrap ((k:Int)+1)).tmod (N:Int)=(m:Int):=by rw[ad,ac]
   obtain⟨x,hx⟩:=χ (r.getD k 0);obtain⟨y,R⟩:=χ (r.getD m 0);have ex:sideV (iM r k)=#[.int .i64 (x:Int),.int .i64 (y:Int)]:=by
    unfold sideV iM;simp only[];rw[hN];rw[kM (kL h64 _),kM (kL h64 _),ab,hx,R]
   rw[ex]at hy;have q1:=F k aa;have q2:=F m I;rw[hx]at q1;rw[R]at q2;have au:prog.follows .mixedOrders=true:=by kernel_rfl
   have ap:¬ N=0:=I;have ar:m<N:=I;clear F hc hBs hx R ex hm ad;have L:Hid (∀(e:Ending) (W':World),(e=.returned (.bool true)/\J (gW r k++[iM r k]) W'/\iA E b wr.drew W')\/(e=.returned (.bool false)/\Jx (gW r k++[iM r k]) W')->∃bb,e=.returned (.bool bb)/\Hid ((bb=true/\J (gW r k++[iM r k]) W'/\iA E b wr.drew W')\/(bb=false/\Jx (gW r k++[iM r k]) W'))):=by
    rintro e W' (⟨rfl,h⟩|⟨rfl,h⟩)
    ·exact⟨true,rfl,O (.inl ⟨rfl,h⟩)⟩
    ·exact⟨false,rfl,O (.inr ⟨rfl,h⟩)⟩
   gi_wp2
   gi_region_with_o (with_reducible refine hR.mono ?_;intro e W3 hh;obtain⟨bb,rfl,G⟩:=L.o e W3 hh;clear hh)
   all_goals
    rcases G.o with⟨rfl,U,Y⟩|⟨rfl,C⟩
    ·have HA:=O U
     have HB:=O Y;clear G U Y hR hy L
     gi_wp2
     go_roundw
     case rel=>exact⟨k+1,by omega,by simp,by rw[ph];exact HA.o,H.trans HB.o⟩
     case measure=>simp[intOf];omega
    ·have HA:=O C
     clear G C hR hy L
     gi_wp2
     refine bodyPost_ret (results_none rfl _ _ _) rfl ?_;exact⟨⟨_,rfl⟩,.inr ⟨_,⟨k+1,by omega,(ph _ _).symm⟩,HA.o⟩⟩
  ·obtain rfl:k=N:=I
   gi_wp2
   go_end0
   exact⟨⟨_,rfl⟩,.inl ⟨_,rfl,X⟩⟩
theorem sides_stops(n:Nat)(X:1<=n)(u b off C:Nat)(r:List Nat)(h64:∀i∈r,i<64)(E:r.length<=64)(w:World)(L:u<w.heap.size)(hb:b<w.heap.size)(hBs:w.cell? ⟨u,0,none⟩=some (.slice (some ⟨b,off,none⟩) r.length C))(hc:∀j,j<r.length->w.cell? ⟨b,off+j,none⟩=some (.int .i64 (r.getD j 0:Nat))):
 SeqStopsK Fence.wide n prog 220 #[.pointer (some ⟨u,0,none⟩)] sideV (iA u b) (fun Y=>Y=gW r r.length) (fun F=>∃k,k<=r.length/\F=gW r k) r.length w:=fun l J H W G Q _ R h0 =>
 sides1_in n X l u b off C r r.length rfl h64 E J H (fun s A h=>Q s A _ none h ⟨rfl,rfl,rfl,Nat.le_refl _,fun _ _ _=>rfl⟩ (fun r e=>by cases e)) R W
  ((G.cell (p:=⟨u,0,none⟩) L).trans hBs) (fun j U=>(G.cell (p:=⟨b,off+j,none⟩) hb).trans (hc j U)) h0
theorem sides_any(a:Option Addr)(len i:Nat)(w:World):
 Calls prog 178 #[.slice a len i] w fun e w'=>e=.returned (.func (.func 220) #[] #[.pointer (some ⟨w.heap.size,0,none⟩)])/\w'=w.alloc (.cells #[.slice a len i] 63):=by
 go_enter func178,ntmps178
 go_wp2_with fail
 go_ret;exact⟨rfl,rfl⟩
end Go.Proofs.Υ
