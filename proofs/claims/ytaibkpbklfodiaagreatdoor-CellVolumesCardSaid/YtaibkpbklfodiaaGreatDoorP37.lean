/- The library's Insert of one element into a row of vectors of rationals. -/
import Derived.Test.YtaibkpbklfodiaaGreatDoorP36
import Derived.Test.YtaibkpbklfodiaaGreatDoorP29
import Derived.Test.YtaibkpbklfodiaaGreatDoorP21
set_option linter.all false
set_option maxHeartbeats 100000000
section
namespace Dowel
open Go Go.RowKit Go.Proofs.Υ
theorem Box.shape {w:World} {g:Nat} {cs:Array Value} {t:TypeId} (h:Box w g cs t):w.shape? g=some (t,cs.size):=by
 unfold Box at h;simp [World.shape?,h]
theorem jc (r:RC × RC × RC):∀ u ∈ bq r,u.oneCell'=true:=fun u hu=>by
 have:=jY r.1 r.2.1 r.2.2;rw [Array.all_eq_true_iff_forall_mem] at this;exact this u (by unfold bq at hu;simpa using hu)
theorem Box.src12 {w:World} {g:Nat} {r:RC × RC × RC} {t:TypeId} (h:Box w g (ai r.1 r.2.1 r.2.2) t) (j:Nat) (u:Value) (hu:(bq r)[j]?=some u):w.cell? ⟨g,j,none⟩=some u:=by
 rw [h.cell,← hu];unfold bq;rw [Array.getElem?_toList]
def ir (w:World) (base:Nat) (v:Value) (n:Nat) (ys:List Value) (w':World) (e:Ending):Prop:=∃ v',e=.returned v'∧w'.ownsRow base 58 12 v' (n+1) ys∧w.grownBy w' v.ownBlock
end Dowel
namespace Go.Proofs.Υ
open Go.RowKit Dowel
set_option maxRecDepth 100000 in
theorem insEndV_any (v:Value) (n:Nat) (xs:List Value) (r:RC × RC × RC) (base vb vc:Nat) (w:World) (hO:w.ownsRow base 58 12 v n xs) (hb:Box w vb (ai r.1 r.2.1 r.2.2) 58) (hbase:base≤w.heap.size) (hn:n≤262144) :
  Calls Tryz.prog 81 #[v,.int .i64 (n:Nat),.slice (some ⟨vb,0,none⟩) 1 vc] w fun e w'=>ir w base v n (xs ++ bq r) w' e:=by
 obtain ⟨i0,hinf,hz0,hz1,hz2⟩:=info_parts kr;have HS:Hid (ja w 12 (some ⟨vb,0,none⟩) 1 (bq r)):=⟨rfl,.inr ⟨_,rfl,fun j u h=>by rw [i9,Nat.zero_add];exact hb.src12 j u h⟩⟩;have H1:=η (jc r);have HO:=η hO;have HBS:=η hbase;obtain ⟨_,hO2⟩:=hO
 rcases hO2 with ⟨rfl,rfl⟩ | ⟨g,cap,cur,rfl,hg,hh,hnc,hm,hs,ht⟩
 ·clear hb hbase hn
  go_enter Tryz.func81,Tryz.ntmps81
  go_wp2_with (at_builtin;refine aL _ rfl _ _ 28 rfl base 58 i0 (.agg (ai RC.zero RC.zero RC.zero)) 12 192 Tryz.underlying28 hinf hz0 hz1 hz2 rfl ν _ _ _ rfl HO.out _ _ _ _ rfl HS.out H1.out (by unfold maxLen;omega) ω HBS.out ?_)
  intro v1 w1 ho1 hg1;have R:=η (show ir w base (.slice none 0 0) 0 (xs ++ bq r) w1 (.returned v1) from ⟨v1,rfl,ho1,hg1⟩);clear ho1 hg1;go_wp2;exact bodyPost_ret (results_tmp Tryz.results81 _ _ _) rfl R.out
 ·by_cases hcn:cap=n
  ·clear hb hbase hg hh hm hs ht
   go_enter Tryz.func81,Tryz.ntmps81
   go_wp2_with (at_builtin;refine aL _ rfl _ _ 28 rfl base 58 i0 (.agg (ai RC.zero RC.zero RC.zero)) 12 192 Tryz.underlying28 hinf hz0 hz1 hz2 rfl ν _ _ _ rfl HO.out _ _ _ _ rfl HS.out H1.out (by unfold maxLen;omega) ω HBS.out ?_)
   intro v1 w1 ho1 hg1;have R:=η (show ir w base (.slice (some ⟨g,0,none⟩) n cap) n (xs ++ bq r) w1 (.returned v1) from ⟨v1,rfl,ho1,hg1⟩);clear ho1 hg1;go_wp2;exact bodyPost_ret (results_tmp Tryz.results81 _ _ _) rfl R.out
  ·clear hb hbase hg hh hm hs ht
   go_enter Tryz.func81,Tryz.ntmps81
   go_wp2_with (at_builtin;refine aL _ rfl _ _ 28 rfl base 58 i0 (.agg (ai RC.zero RC.zero RC.zero)) 12 192 Tryz.underlying28 hinf hz0 hz1 hz2 rfl ν _ _ _ rfl HO.out _ _ _ _ rfl HS.out H1.out (by unfold maxLen;omega) ω HBS.out ?_)
   intro v1 w1 ho1 hg1;have R:=η (show ir w base (.slice (some ⟨g,0,none⟩) n cap) n (xs ++ bq r) w1 (.returned v1) from ⟨v1,rfl,ho1,hg1⟩);clear ho1 hg1;go_wp2;exact bodyPost_ret (results_tmp Tryz.results81 _ _ _) rfl R.out
set_option maxRecDepth 100000 in
theorem ox (g n cap i:Nat) (cur:Array Value) (xs:List Value) (r:RC × RC × RC) (base vb vc:Nat) (w:World) (hbg:base≤g) (hh:w.heap[g]?=some (.cells cur 58 (0,0))) (hm:cap≤maxLen) (hs:cur.size=cap*12) (ht:cur.toList.take (n*12)=xs)
  (hb:Box w vb (ai r.1 r.2.1 r.2.2) 58) (hne:vb≠g) (hi:i<n) (hroom:n+1≤cap) (hn:n≤262144) (h1x:∀ u ∈ xs,u.oneCell'=true) :
  Calls Tryz.prog 81 #[.slice (some ⟨g,0,none⟩) n cap,.int .i64 (i:Nat),.slice (some ⟨vb,0,none⟩) 1 vc] w fun e w'=>ir w base (.slice (some ⟨g,0,none⟩) n cap) n (xs.take (i*12) ++ bq r ++ xs.drop (i*12)) w' e:=by
 obtain ⟨i0,hinf,hz0,hz1,hz2⟩:=info_parts kr;have hsz:(Tryz.prog.info? 58).map (·.size)=some 12:=by rw [hinf];simp [hz1]
 have hxl:xs.length=n*12:=by rw [← ht,List.length_take,Array.length_toList,hs];omega
 have hcell:∀ j u,xs[j]?=some u→w.cell? ⟨g,j,none⟩=some u:=fun j u h=>by
  rw [cell_of_row w g j cur _ (0,0) hh];rw [← ht,List.getElem?_take] at h
  split at h
  ·simpa using h
  ·cases h
 have hov:∀ lb cb,(callFunc 128 #[.slice (some ⟨vb,0,none⟩) 1 vc,.slice (some ⟨g,(i+1)*12,none⟩) lb cb]).run Tryz.prog w=.ok (.value (.bool false)) w:=fun lb cb=>by
  rw [run_callFunc_extern Tryz.func128 κ κ κ (e:=Extern.SlicesOverlaps.overlaps #[28,28] #[4]) κ,
   Lib.run_overlaps_apart w 28 4 58 Tryz.underlying28 12 (fun w=>by simp [Go.sizeOf,typeInfo,hinf,hz1]) ⟨vb,0,none⟩ ⟨g,(i+1)*12,none⟩ 1 vc lb cb hne 58 58 12 cur.size hb.shape (by simp [World.shape?,hh]) ω (hb.free 0) (hb.free 12)]
  rfl
 obtain ⟨c1,hc1⟩:∃ c1,c1=cur.toList.take (i*12+12) ++ xs.drop (i*12) ++ cur.toList.drop (i*12+12+(xs.drop (i*12)).length):=⟨_,rfl⟩;have hdl:(xs.drop (i*12)).length=(n - i)*12:=by rw [List.length_drop,hxl];omega
 have hc1l:c1.length=cap*12:=by
  rw [hc1];simp only [List.length_append,List.length_take,List.length_drop,Array.length_toList,hs,hxl];omega
 obtain ⟨c2,hc2⟩:∃ c2,c2=xs.take (i*12) ++ bq r ++ xs.drop (i*12) ++ cur.toList.drop (n*12+12):=⟨_,rfl⟩;have hcp1:∀ W:World,W.heap=w.heap→∀ ty dl dc sl sc,Nat.min sl dl=n - i→(Builtin.copy_ #[28,28] ty #[.slice (some ⟨g,(i+1)*12,none⟩) dl dc,.slice (some ⟨g,i*12,none⟩) sl sc]).run Tryz.prog W=.ok (goInt (n - i:Nat)) (W.setRow g c1.toArray):=fun W hW ty dl dc sl sc hmn=>by
  have h:=eT (P:=Tryz.prog) W 28 28 ty 58 12 (n - i) g ((i+1)*12) dl dc ⟨g,i*12,none⟩ sl sc cur 58 (xs.drop (i*12)) Tryz.underlying28 hsz (by rw [hW];exact hh) hmn hdl
   (fun j u hu=>by
    rw [List.getElem?_drop] at hu;rw [i9];show W.cell? _=_;rw [World.cell?_of_block (w:=w) (a:=⟨g,i*12+j,none⟩) (by rw [hW])];exact hcell _ _ hu) (by rw [hdl,hs];omega) (fun u hu=>h1x u (List.mem_of_mem_drop hu))
  rw [h,hc1,show (i+1)*12=i*12+12 by omega]
 have hcp2:∀ W:World,W.heap=(w.setRow g c1.toArray).heap→∀ ty dl dc,Nat.min 1 dl=1→(Builtin.copy_ #[28,28] ty #[.slice (some ⟨g,i*12,none⟩) dl dc,.slice (some ⟨vb,0,none⟩) 1 vc]).run Tryz.prog W=.ok (goInt (1:Nat)) (W.setRow g c2.toArray):=fun W hW ty dl dc hmn=>by
  have hWg:W.heap[g]?=some (.cells c1.toArray 58 (0,0)):=by rw [hW];exact setRow_heap w g cur _ _ _ hh
  have h:=eT (P:=Tryz.prog) W 28 28 ty 58 12 1 g (i*12) dl dc ⟨vb,0,none⟩ 1 vc c1.toArray 58 (bq r) Tryz.underlying28 hsz hWg hmn rfl
   (fun j u hu=>by
    rw [i9,Nat.zero_add];rw [World.cell?_of_block (w:=w) (a:=⟨vb,j,none⟩) (by rw [hW];exact setRow_other w g vb _ hne)];exact hb.src12 j u hu) (by rw [fA];simp only [List.size_toArray,hc1l];omega) (jc r)
  rw [h,hc2,shift_list (xs:=xs) (cur:=cur.toList) (news:=bq r) (k:=12) (L:=n*12) ht (by rw [Array.length_toList,hs];omega) ω rfl hc1]
 have hfin:∀ W:World,W.heap=((w.setRow g c1.toArray).setRow g c2.toArray).heap→W.os=w.os→W.tape=w.tape→W.output=w.output→ir w base (.slice (some ⟨g,0,none⟩) n cap) n (xs.take (i*12) ++ bq r ++ xs.drop (i*12)) W (.returned (.slice (some ⟨g,0,none⟩) (n+1) cap)):=fun W hW ho hta hou=>by
  have hg2:=(ny w g c1.toArray).block;refine ⟨_,rfl,own_of (rest:=cur.toList.drop (n*12+12)) (by rw [hW,hc2];exact setRow_heap _ g c1.toArray _ _ _ (setRow_heap w g cur _ _ _ hh)) hbg (qb hxl ω rfl) ?_ hroom hm,?_⟩
  ·rw [List.length_append,qb hxl ω rfl,List.length_drop,Array.length_toList,hs];omega
  ·exact ⟨ho,hta,hou,by rw [hW];simp,fun k hk hne=>by rw [hW,setRow_other _ g k _ (fun e=>hne (by rw [e];rfl)),setRow_other _ g k _ (fun e=>hne (by rw [e];rfl))]⟩
 have HF:=η hfin;clear hfin hc2 hc1 hc1l hdl hcell hb hh hs ht hm hbg;have hw1:IntKind.i64.wrap ((i:Int)+1)=(i:Int)+1:=by rw [IntKind.wrap_i64];omega
 have hw2:IntKind.i64.wrap ((n:Int)+1)=(n:Int)+1:=by rw [IntKind.wrap_i64];omega
 have hq1:¬ ((i:Int)=(n:Int)):=ω;have hq2:¬ ((cap:Int)<(n:Int)+1):=ω;have hq3:¬ (cap=i+1):=ω;have hq4:¬ (cap=i):=ω;have hq5:i≤n:=ω;have hq6:((i:Int)+1).toNat=i+1:=ω;have hq7:((n:Int)+1).toNat=n+1:=ω;have hq8:i≤n+1:=ω;have hq9:(i:Int)≤(n:Int)+1:=ω;have hq11:(0:Int)≤(i:Int)+1:=ω;have mixed:Tryz.prog.follows .mixedOrders=true:=by kernel_rfl
 go_enter Tryz.func81,Tryz.ntmps81
 go_wp2_with (simp only [hov])
 go_region_law_o (refine jz rfl _ _ 28 28 rfl (.slice (some ⟨g,(i+1)*12,none⟩) (n - i) (cap - (i+1))) (.slice (some ⟨g,i*12,none⟩) (n+1 - i) (cap - i)) (by simp [Act.eval,Act.put]) (by simp [Act.eval,Act.put]) (hcp1 w.drew rfl _ _ _ _ _ (by simp only [Nat.min_def];split <;> omega)) ?_)
 go_wp2_with (refine iu _ rfl _ _ 28 28 rfl (.slice (some ⟨g,i*12,none⟩) (n+1 - i) (cap - i)) (.slice (some ⟨vb,0,none⟩) 1 vc) rfl rfl (hcp2 (w.drew.setRow g c1.toArray) rfl _ _ _ (by simp only [Nat.min_def];split <;> omega)) ?_)
 refine bodyPost_ret (results_tmp Tryz.results81 _ _ _) rfl ?_;exact HF.out ((w.drew.setRow g c1.toArray).setRow g c2.toArray) rfl rfl rfl rfl
theorem zeros12 (k:Nat):(Builtin.zeroCells (Value.agg (ai RC.zero RC.zero RC.zero)).cells k).toList.length=k*12:=by
 simp [Builtin.zeroCells,Value.cells,ai]
set_option maxRecDepth 100000 in
theorem pZ (g n cap i:Nat) (cur:Array Value) (xs:List Value) (r:RC × RC × RC) (base vb vc:Nat) (w:World) (hbase:base≤w.heap.size) (hh:w.heap[g]?=some (.cells cur 58 (0,0))) (hnc:n≤cap) (hs:cur.size=cap*12) (ht:cur.toList.take (n*12)=xs)
  (hb:Box w vb (ai r.1 r.2.1 r.2.2) 58) (hi:i<n) (hroom:cap<n+1) (hn:n≤262144) (h1x:∀ u ∈ xs,u.oneCell'=true) :
  Calls Tryz.prog 81 #[.slice (some ⟨g,0,none⟩) n cap,.int .i64 (i:Nat),.slice (some ⟨vb,0,none⟩) 1 vc] w fun e w'=>ir w base (.slice (some ⟨g,0,none⟩) n cap) n (xs.take (i*12) ++ bq r ++ xs.drop (i*12)) w' e:=by
 obtain ⟨i0,hinf,hz0,hz1,hz2⟩:=info_parts kr;have hsz:(Tryz.prog.info? 58).map (·.size)=some 12:=by rw [hinf];simp [hz1]
 have hxl:xs.length=n*12:=by rw [← ht,List.length_take,Array.length_toList,hs];omega
 have hgl:g<w.heap.size:=(Array.getElem?_eq_some_iff.1 hh).1;have hvl:vb<w.heap.size:=hb.lt;have hcell:∀ j u,xs[j]?=some u→w.cell? ⟨g,j,none⟩=some u:=fun j u h=>by
  rw [cell_of_row w g j cur _ (0,0) hh];rw [← ht,List.getElem?_take] at h
  split at h
  ·simpa using h
  ·cases h
 have htl:(xs.take (i*12)).length=i*12:=tk_len hxl ω;have hdl:(xs.drop (i*12)).length=(n - i)*12:=dr_len hxl;have hold:(Builtin.firstCells i0.size i (.slice (some ⟨g,0,none⟩) i cap)).run Tryz.prog w.drew=.ok (xs.take (i*12)).toArray w.drew:=by
  rw [hz1];exact run_firstCells_some w.drew 12 i ⟨g,0,none⟩ i cap _ htl (fun j u hj=>by
   rw [i9,Nat.zero_add];rw [List.getElem?_take] at hj
   split at hj
   ·exact hcell j u hj
   ·cases hj)
 obtain ⟨G,hG⟩:∃ G,G=grownCap w (n+1) cap 58:=⟨_,rfl⟩;obtain ⟨zs,hzs⟩:∃ zs,zs=(Builtin.zeroCells (Value.agg (ai RC.zero RC.zero RC.zero)).cells (n+1 - i)).toList ++ (Builtin.zeroCells (Value.agg (ai RC.zero RC.zero RC.zero)).cells (G - (n+1))).toList:=⟨_,rfl⟩;have hzl:zs.length=(n+1 - i)*12+(G - (n+1))*12:=by rw [hzs,List.length_append,zeros12,zeros12]
 have hGn:n+1≤G:=by rw [hG];exact grownCap_ge w _ _ _
 have hGm:G≤maxLen:=by rw [hG];exact grownCap_le_maxLen w (n+1) cap _ (by unfold maxLen;omega)
 have hrz:∀ ty,(Builtin.append_ #[28,3] ty #[.slice (some ⟨g,0,none⟩) i cap,.int .i64 ((n:Int)+1 - (i:Int))]).run Tryz.prog w =
   .ok (.slice (some ⟨w.heap.size,0,none⟩) (n+1) G) (w.drew.alloc (.cells (xs.take (i*12) ++ zs).toArray 58)):=fun ty=>by
  have h:=Lib.run_append_grow_zeros (P:=Tryz.prog) w 28 3 ty 58 i0 _ .i64 .i64 Tryz.underlying28 Tryz.underlying3 hinf hz0 (some ⟨g,0,none⟩) i cap _ hold (n+1 - i) ω (by rw [hz1];omega) ω ω (by rw [hz2];omega) (by rw [hz2];exact growslice_fits ω ω);rw [show i+(n+1 - i)=n+1 by omega,← hG] at h;rw [show (n:Int)+1 - (i:Int)=((n+1 - i:Nat):Int) by omega,h]
  congr 3
  rw [hzs];apply Array.ext';simp
 obtain ⟨c0,hc0⟩:∃ c0,c0=xs.take (i*12) ++ zs:=⟨_,rfl⟩;obtain ⟨c1,hc1⟩:∃ c1,c1=c0.take (i*12) ++ bq r ++ c0.drop (i*12+(bq r).length):=⟨_,rfl⟩;rw [← hc0] at hrz;have hc0l:c0.length=G*12:=by rw [hc0,List.length_append,htl,hzl];omega
 have hc1l:c1.length=G*12:=by
  rw [hc1];simp only [List.length_append,List.length_take,List.length_drop,fA,hc0l];omega
 obtain ⟨c2,hc2⟩:∃ c2,c2=xs.take (i*12) ++ bq r ++ xs.drop (i*12) ++ zs.drop (n*12+12 - i*12):=⟨_,rfl⟩;have hcpA:∀ W:World,W.heap=(w.alloc (.cells c0.toArray 58)).heap→∀ ty dl dc,Nat.min 1 dl=1→(Builtin.copy_ #[28,28] ty #[.slice (some ⟨w.heap.size,i*12,none⟩) dl dc,.slice (some ⟨vb,0,none⟩) 1 vc]).run Tryz.prog W=.ok (goInt (1:Nat)) (W.setRow w.heap.size c1.toArray):=fun W hW ty dl dc hmn=>by
  have hWg:W.heap[w.heap.size]?=some (.cells c0.toArray 58 (0,0)):=by rw [hW];exact heap_alloc_new w _
  have h:=eT (P:=Tryz.prog) W 28 28 ty 58 12 1 w.heap.size (i*12) dl dc ⟨vb,0,none⟩ 1 vc c0.toArray 58 (bq r) Tryz.underlying28 hsz hWg hmn rfl
   (fun j u hu=>by
    rw [i9,Nat.zero_add];rw [World.cell?_of_block (w:=w) (a:=⟨vb,j,none⟩) (by rw [hW];exact heap_alloc_old w _ hvl)];exact hb.src12 j u hu) (by rw [fA];simp only [List.size_toArray,hc0l];omega) (jc r)
  rw [h,hc1]
 have hcpB:∀ W:World,W.heap=((w.alloc (.cells c0.toArray 58)).setRow w.heap.size c1.toArray).heap→∀ ty dl dc sl sc,Nat.min sl dl=n - i→(Builtin.copy_ #[28,28] ty #[.slice (some ⟨w.heap.size,(i+1)*12,none⟩) dl dc,.slice (some ⟨g,i*12,none⟩) sl sc]).run Tryz.prog W=.ok (goInt (n - i:Nat)) (W.setRow w.heap.size c2.toArray):=fun W hW ty dl dc sl sc hmn=>by
  have hWg:W.heap[w.heap.size]?=some (.cells c1.toArray 58 (0,0)):=by rw [hW];exact setRow_heap _ _ c0.toArray _ _ _ (heap_alloc_new w _)
  have h:=eT (P:=Tryz.prog) W 28 28 ty 58 12 (n - i) w.heap.size ((i+1)*12) dl dc ⟨g,i*12,none⟩ sl sc c1.toArray 58 (xs.drop (i*12)) Tryz.underlying28 hsz hWg hmn hdl
   (fun j u hu=>by
    rw [List.getElem?_drop] at hu;rw [i9];rw [World.cell?_of_block (w:=w) (a:=⟨g,i*12+j,none⟩) (by rw [hW,setRow_other _ _ g _ ω];exact heap_alloc_old w _ hgl)];exact hcell _ _ hu) (by rw [hdl];simp only [List.size_toArray,hc1l];omega) (fun u hu=>h1x u (List.mem_of_mem_drop hu))
  rw [h,show (i+1)*12=i*12+12 by omega];rw [hc2,grow_list (xs:=xs) (zs:=zs) (news:=bq r) (k:=12) (L:=n*12) hxl ω rfl hc0 hc1]
 have hfin:∀ W:World,W.heap=(((w.alloc (.cells c0.toArray 58)).setRow w.heap.size c1.toArray).setRow w.heap.size c2.toArray).heap→W.os=w.os→W.tape=w.tape→W.output=w.output→ir w base (.slice (some ⟨g,0,none⟩) n cap) n (xs.take (i*12) ++ bq r ++ xs.drop (i*12)) W (.returned (.slice (some ⟨w.heap.size,0,none⟩) (n+1) G)):=fun W hW ho hta hou=>by
  refine ⟨_,rfl,own_of (rest:=zs.drop (n*12+12 - i*12)) (by rw [hW,hc2];exact setRow_heap _ _ c1.toArray _ _ _ (setRow_heap _ _ c0.toArray _ _ _ (heap_alloc_new w _))) hbase (qb hxl ω rfl) ?_ hGn hGm,?_⟩
  ·rw [List.length_append,qb hxl ω rfl,List.length_drop,hzl];omega
  ·exact ⟨ho,hta,hou,by rw [hW];simp,fun k hk hne=>by rw [hW,setRow_other _ _ k _ ω,setRow_other _ _ k _ ω];exact heap_alloc_old w _ hk⟩
 have HF:=η hfin;have hGi:¬ (G=i):=ω;have hGim:¬ (G=i+1):=ω;have hci:¬ (cap=i):=ω;clear hfin hc2 hc0 hc1 hc0l hc1l hdl htl hzl hzs hcell hb hh hs ht hbase hG hGm hGn hold;have hw1:IntKind.i64.wrap ((i:Int)+1)=(i:Int)+1:=by rw [IntKind.wrap_i64];omega
 have hw2:IntKind.i64.wrap ((n:Int)+1)=(n:Int)+1:=by rw [IntKind.wrap_i64];omega
 have hw3:IntKind.i64.wrap ((n:Int)+1 - (i:Int))=(n:Int)+1 - (i:Int):=by rw [IntKind.wrap_i64];omega
 have hq1:¬ ((i:Int)=(n:Int)):=ω;have hq2:(cap:Int)<(n:Int)+1:=ω;have hq5:i≤n:=ω;have hq6:((i:Int)+1).toNat=i+1:=ω;have hq8:i≤n+1:=ω;have hq9:(i:Int)≤(n:Int)+1:=ω;have hq11:(0:Int)≤(i:Int)+1:=ω;have mixed:Tryz.prog.follows .mixedOrders=true:=by kernel_rfl
 have hq10:i≤cap:=ω
 go_enter Tryz.func81,Tryz.ntmps81
 go_wp2_with (first
  | (at_builtin;refine Lib.wpList_append_run _ rfl _ _ _ _ rfl _ _ rfl rfl _ _ (hrz _) ?_)
  | (refine iu _ rfl _ _ 28 28 rfl (.slice (some ⟨w.heap.size,i*12,none⟩) (n+1 - i) (G - i)) (.slice (some ⟨vb,0,none⟩) 1 vc) rfl rfl (hcpA ((w.alloc (.cells c0.toArray 58)).drew) rfl _ _ _ (by simp only [Nat.min_def];split <;> omega)) ?_))
 go_region_law_o (refine jz rfl _ _ 28 28 rfl (.slice (some ⟨w.heap.size,(i+1)*12,none⟩) (n - i) (G - (i+1))) (.slice (some ⟨g,i*12,none⟩) (n - i) (cap - i)) (by simp [Act.eval,Act.put]) (by simp [Act.eval,Act.put]) (hcpB ((((w.alloc (.cells c0.toArray 58)).drew).setRow w.heap.size c1.toArray).drew) rfl _ _ _ _ _ (by simp only [Nat.min_def];split <;> omega)) ?_)
 go_wp2;refine bodyPost_ret (results_tmp Tryz.results81 _ _ _) rfl ?_
 exact HF.out ((((((w.alloc (.cells c0.toArray 58)).drew).setRow w.heap.size c1.toArray).drew)).setRow w.heap.size c2.toArray) rfl rfl rfl rfl
theorem insertV_any (v:Value) (n i:Nat) (xs:List Value) (r:RC × RC × RC) (base vb vc:Nat) (w:World) (hO:w.ownsRow base 58 12 v n xs) (h1x:∀ u ∈ xs,u.oneCell'=true) (hb:Box w vb (ai r.1 r.2.1 r.2.2) 58) (hne:v.ownBlock≠some vb) (hbase:base≤w.heap.size) (hi:i≤n) (hn:n≤262144) :
  Calls Tryz.prog 81 #[v,.int .i64 (i:Nat),.slice (some ⟨vb,0,none⟩) 1 vc] w fun e w'=>ir w base v n (xs.take (i*12) ++ bq r ++ xs.drop (i*12)) w' e:=by
 by_cases hin:i=n
 ·have hl:=hO.1
  rw [hin,List.take_of_length_le ω,List.drop_of_length_le ω,List.append_nil];exact insEndV_any v n xs r base vb vc w hO hb hbase hn
 ·rcases hO.2 with ⟨_,h0⟩ | ⟨g,cap,cur,rfl,hg,hh,hnc,hm,hs,ht⟩
  ·omega
  ·by_cases hroom:n+1≤cap
   ·exact ox g n cap i cur xs r base vb vc w hg hh hm hs ht hb (fun e=>hne (by rw [e];rfl)) ω hroom hn h1x
   ·exact pZ g n cap i cur xs r base vb vc w hbase hh hnc hs ht hb ω ω hn h1x
end Go.Proofs.Υ
end
