/- The sides of a ring as an iterator. -/
import Derived.Test.YtaibkpbklfodiaaGreatDoorP19
import Derived.Test.YtaibkpbklfodiaaGreatDoorP2
import Derived.RangeFuncNested
import Derived.RangeFuncBound
import Derived.RangeFuncCalls
import Derived.RangeFuncLeaves
import Derived.Shelf.Abstract
import Derived.Shelf.RegionOpen
import Derived.WalkKit
import Derived.OwnWalkIn
import Derived.TacticsInMore
import Derived.LoopNIn
import Derived.LoopIn
set_option linter.all false
set_option maxHeartbeats 100000000
section
namespace Dowel
open Go Go.RowKit
def gG (i j:Nat) (W W':World):Prop:=W'.heap[i]?=W.heap[i]?∧W'.heap[j]?=W.heap[j]?
theorem gG.refl (i j:Nat) (W:World):gG i j W W:=⟨rfl,rfl⟩
theorem gG.trans {i j:Nat} {A B C:World} (h:gG i j A B) (k:gG i j B C):gG i j A C:=⟨k.1.trans h.1,k.2.trans h.2⟩
theorem kh {A B:World} {p:Addr} (h:B.heap[p.block]?=A.heap[p.block]?):B.cell? p=A.cell? p:=by unfold World.cell?;rw [h]
abbrev Side:=Fin 64 × Fin 64
def sideV (x:Side):Array Value:=#[.int .i64 (x.1.val:Int),.int .i64 (x.2.val:Int)]
def fin64 (n:Nat):Fin 64:=⟨n % 64,Nat.mod_lt _ ω⟩
def gR (r:List Nat) (j:Nat):Side:=(fin64 (r.getD j 0),fin64 (r.getD ((j+1) % r.length) 0))
def fK (r:List Nat) (k:Nat):List Side:=(List.range k).map (gR r)
theorem mx (r:List Nat) (k:Nat):fK r (k+1)=fK r k ++ [gR r k]:=by simp [fK,List.range_succ]
theorem pd (r:List Nat) (k:Nat):(fK r k).length=k:=by simp [fK]
theorem jn {n:Nat} (h:n<64):(fin64 n).val=n:=Nat.mod_eq_of_lt h
theorem jm {r:List Nat} (h:∀ i ∈ r,i<64) (j:Nat):r.getD j 0<64:=by
 rw [List.getD_eq_getElem?_getD];by_cases hj:j<r.length
 ·rw [List.getElem?_eq_getElem hj];exact h _ (List.getElem_mem hj)
 ·rw [List.getElem?_eq_none ω];decide
theorem uptoS_all {r:List Nat} (h:∀ i ∈ r,i<64):(fK r r.length).map (fun x=>(x.1.val,x.2.val))=db r:=by
 unfold fK db;rw [List.map_map];refine List.map_congr_left fun i _=>?_
 simp only [Function.comp,gR];rw [jn (jm h _),jn (jm h _)]
end Dowel
namespace Go.Proofs.Υ
open Go.RowKit Dowel
set_option maxRecDepth 100000 in
theorem sides1_in (n:Nat) (hn:1≤n) (l Bs b off cap:Nat) (r:List Nat) (N:Nat) (hN:r.length=N) (h64:∀ i ∈ r,i<64) (hlen:N≤64) (J Jx:List Side→World→Prop) (hD:∀ s A,J s A→J s A.drew)
  (hY:∀ pre x W,J pre W→pre.length<N→YieldAt Fence.wide (n - 1) Tryz.prog l (sideV x) W fun e W' =>
   (e=.returned (.bool true)∧J (pre ++ [x]) W'∧gG Bs b W W')∨(e=.returned (.bool false)∧Jx (pre ++ [x]) W'))
  (W:World) (hBs:W.cell? ⟨Bs,0,none⟩=some (.slice (some ⟨b,off,none⟩) N cap)) (hc:∀ j,j<N→W.cell? ⟨b,off+j,none⟩=some (.int .i64 (r.getD j 0:Nat))) (h0:J [] W) :
  CallsIn Fence.wide n Tryz.prog 146 #[.func (.yield l) #[] #[],.pointer (some ⟨Bs,0,none⟩)] W fun e W'=>(∃ v,e=.returned v) ∧
   ((∃ ys,ys=fK r N∧J ys W')∨(∃ pre,(∃ k,k≤N∧pre=fK r k)∧Jx pre W')):=by
 refine callsIn_of_wp Tryz.func146 rfl trivial ?_ rfl;simp only [Tryz.ntmps146,List.size_toArray,List.length_cons,List.length_nil,Nat.reduceAdd,Nat.reduceSub,Array.replicate_succ,Array.replicate_zero,List.push_toArray,List.append_toArray,List.nil_append,List.cons_append]
 gi_wp2
 gi_loopw [7] (fun i wr=>∃ k:Nat,k≤N∧i=.int .i64 k∧J (fK r k) wr∧gG Bs b W wr)
  (fun i _=>N - (intOf i).toNat)
 case atStart=>exact ⟨0,Nat.zero_le _,rfl,h0,gG.refl _ _ _⟩
 case round =>
  obtain ⟨k,hk,rfl,hJs,hnx⟩:=hrel;have hBs':=(kh (p:=⟨Bs,0,none⟩) hnx.1).trans hBs;have hcx:∀ j,j<N→wr.cell? ⟨b,off+j,none⟩=some (.int .i64 (r.getD j 0:Nat)):=fun j h=>(kh (p:=⟨b,off+j,none⟩) hnx.2).trans (hc j h)
  by_cases hlt:k<N
  ·obtain ⟨fn,tmps,assign,body,hy,hR⟩:=hY _ (gR r k) wr.drew (hD _ _ hJs) (by rw [pd];exact hlt)
   have hm:(k+1) % N<N:=Nat.mod_lt _ ω;obtain ⟨m,hmm⟩:∃ m,(k+1) % N=m:=⟨_,rfl⟩;have hw1:IntKind.i64.wrap ((k:Int)+1)=(k:Int)+1:=IntWalk.i64_in _ ⟨by omega,by omega⟩;have hrem0:((k:Int)+1) % (N:Int)=(m:Int):=by rw [← hmm];exact (Int.natCast_emod (k+1) N).symm
   have hrem:((k:Int)+1).tmod (N:Int)=(m:Int):=by rw [← hrem0];exact Int.tmod_eq_emod_of_nonneg ω
   have hrw:(IntKind.i64.wrap ((k:Int)+1)).tmod (N:Int)=(m:Int):=by rw [hw1,hrem]
   obtain ⟨x,hx⟩:∃ x,r.getD k 0=x:=⟨_,rfl⟩;obtain ⟨y,hy2⟩:∃ y,r.getD m 0=y:=⟨_,rfl⟩;have ex:sideV (gR r k)=#[.int .i64 (x:Int),.int .i64 (y:Int)]:=by
    unfold sideV gR;simp only [];rw [hN];rw [jn (jm h64 _),jn (jm h64 _),hmm,hx,hy2]
   rw [ex] at hy;have q1:=hcx k hlt;have q2:=hcx m ω;rw [hx] at q1;rw [hy2] at q2;have hmx:Tryz.prog.follows .mixedOrders=true:=by kernel_rfl
   have hl0:¬ N=0:=ω;have hmr:m<N:=ω;clear hcx hc hBs hx hy2 ex hm hw1;have hq1:Hid (∀ (e:Ending) (W':World),(e=.returned (.bool true)∧J (fK r k ++ [gR r k]) W'∧gG Bs b wr.drew W')∨(e=.returned (.bool false)∧Jx (fK r k ++ [gR r k]) W')→∃ bb,e=.returned (.bool bb)∧Hid ((bb=true∧J (fK r k ++ [gR r k]) W'∧gG Bs b wr.drew W')∨(bb=false∧Jx (fK r k ++ [gR r k]) W'))):=by
    rintro e W' (⟨rfl,h⟩ | ⟨rfl,h⟩)
    ·exact ⟨true,rfl,η (.inl ⟨rfl,h⟩)⟩
    ·exact ⟨false,rfl,η (.inr ⟨rfl,h⟩)⟩
   gi_wp2
   gi_region_with_o (with_reducible refine hR.mono ?_;intro e W3 hh;obtain ⟨bb,rfl,hh2⟩:=hq1.out e W3 hh;clear hh)
   all_goals
    rcases hh2.out with ⟨rfl,hJ3,hk3⟩ | ⟨rfl,hJx3⟩
    ·have HA:=η hJ3
     have HB:=η hk3;clear hh2 hJ3 hk3 hR hy hq1
     gi_wp2
     go_roundw
     case rel=>exact ⟨k+1,by omega,by simp,by rw [mx];exact HA.out,hnx.trans HB.out⟩
     case measure=>simp [intOf];omega
    ·have HA:=η hJx3
     clear hh2 hJx3 hR hy hq1
     gi_wp2
     refine bodyPost_ret (results_none rfl _ _ _) rfl ?_;exact ⟨⟨_,rfl⟩,.inr ⟨_,⟨k+1,by omega,(mx _ _).symm⟩,HA.out⟩⟩
  ·obtain rfl:k=N:=ω
   gi_wp2
   go_end0
   exact ⟨⟨_,rfl⟩,.inl ⟨_,rfl,hJs⟩⟩
theorem sides_stops (n:Nat) (hn:1≤n) (Bs b off cap:Nat) (r:List Nat) (h64:∀ i ∈ r,i<64) (hlen:r.length≤64) (w:World) (hB:Bs<w.heap.size) (hb:b<w.heap.size)
  (hBs:w.cell? ⟨Bs,0,none⟩=some (.slice (some ⟨b,off,none⟩) r.length cap)) (hc:∀ j,j<r.length→w.cell? ⟨b,off+j,none⟩=some (.int .i64 (r.getD j 0:Nat))) :
  SeqStopsK Fence.wide n Tryz.prog 146 #[.pointer (some ⟨Bs,0,none⟩)] sideV (gG Bs b) (fun ys=>ys=fK r r.length) (fun pre=>∃ k,k≤r.length∧pre=fK r k) r.length w:=fun l J Jx W hW hJ _ hY h0 =>
 sides1_in n hn l Bs b off cap r r.length rfl h64 hlen J Jx (fun s A h=>hJ s A _ none h ⟨rfl,rfl,rfl,Nat.le_refl _,fun _ _ _=>rfl⟩ (fun r e=>by cases e)) hY W
  ((hW.cell (p:=⟨Bs,0,none⟩) hB).trans hBs) (fun j hj=>(hW.cell (p:=⟨b,off+j,none⟩) hb).trans (hc j hj)) h0
theorem sides_any (a:Option Addr) (len cap:Nat) (w:World) :
  Calls Tryz.prog 105 #[.slice a len cap] w fun e w'=>e=.returned (.func (.func 146) #[] #[.pointer (some ⟨w.heap.size,0,none⟩)])∧w'=w.alloc (.cells #[.slice a len cap] 43):=by
 go_enter Tryz.func105,Tryz.ntmps105
 go_wp2_with fail
 go_ret;exact ⟨rfl,rfl⟩
end Go.Proofs.Υ
end
