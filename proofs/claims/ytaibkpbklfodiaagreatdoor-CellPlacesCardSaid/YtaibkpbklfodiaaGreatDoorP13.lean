/- Package cell: rings, as far as the sort. What a sort does not touch; the closure by which faces are sorted. The faces sorted. -/
import Derived.Test.YtaibkpbklfodiaaGreatDoorP12
import Derived.Test.YtaibkpbklfodiaaGreatDoorPSort
import Derived.Shelf.SlSortCmp.NoneTotal
set_option linter.all false
set_option maxHeartbeats 100000000
section
namespace Dowel
open Go Go.RowKit
theorem lL:∀ (l:List (V × Nat)) (k:Nat) (p:V × Nat),l[k]?=some p →
  (cP l)[k*4]?=some (.int .i64 p.1.x)∧(cP l)[k*4+1]?=some (.int .i64 p.1.y)∧(cP l)[k*4+2]?=some (.int .i64 p.1.z)∧(cP l)[k*4+3]?=some (.int .u64 (p.2:Int))
 | [],k,p,h=>by simp at h
 | q :: l,0,p,h=>by
  have:q=p:=by simpa using h
  subst this;simp [cP]
 | q :: l,k+1,p,h=>by
  have:=lL l k p (by simpa using h);have e:cP (q :: l)=.int .i64 q.1.x :: .int .i64 q.1.y :: .int .i64 q.1.z :: .int .u64 (q.2:Int) :: cP l:=rfl;rw [e,show (k+1)*4=k*4+4 by omega];exact this
theorem fF.at_ {w:World} {base:Nat} {v:Value} {l:List (V × Nat)} (h:fF w base v l) (hl:0<l.length) :
  ∃ g cap,v=.slice (some ⟨g,0,none⟩) l.length cap∧base≤g∧g<w.heap.size∧∀ k p,l[k]?=some p →
   w.cell? ⟨g,k*4,none⟩=some (.int .i64 p.1.x)∧w.cell? ⟨g,k*4+1,none⟩=some (.int .i64 p.1.y)∧w.cell? ⟨g,k*4+2,none⟩=some (.int .i64 p.1.z)∧w.cell? ⟨g,k*4+3,none⟩=some (.int .u64 (p.2:Int)):=by
 have hh:=h;obtain ⟨hlen,⟨rfl,h0⟩ | ⟨g,cap,cur,rfl,hg,hh',r⟩⟩:=h
 ·omega
 ·refine ⟨g,cap,rfl,hg,(Array.getElem?_eq_some_iff.1 hh').1,fun k p hk=>?_⟩
  have hkl:k<l.length:=by
   rcases Nat.lt_or_ge k l.length with h | h
   ·exact h
   ·rw [List.getElem?_eq_none h] at hk;cases hk
  obtain ⟨p0,p1,p2,p3⟩:=lL l k p hk;exact ⟨(World.ownsRow.cellAt hh _ ω).trans p0,(World.ownsRow.cellAt hh _ ω).trans p1,(World.ownsRow.cellAt hh _ ω).trans p2,(World.ownsRow.cellAt hh _ ω).trans p3⟩
theorem io {w:World} {base base' e e' k k':Nat} {v v':Value} {n n':Nat} {xs xs':List Value} (h:w.ownsRow base e k v n xs) (h':w.ownsRow base' e' k' v' n' xs') (hne:e≠e'):v.ownBlock=none∨v.ownBlock≠v'.ownBlock:=by
 obtain ⟨_,⟨rfl,_⟩ | ⟨g,cap,cur,rfl,_,hh,_⟩⟩:=h
 ·exact .inl rfl
 ·right
  obtain ⟨_,⟨rfl,_⟩ | ⟨g',cap',cur',rfl,_,hh',_⟩⟩:=h'
  ·intro e;cases e
  ·intro e
   have:g=g':=by simpa [Value.ownBlock] using e
   subst this;rw [hh] at hh';have:=Option.some.inj hh';injection this with _ e2 _
   exact hne e2
structure RF where
 n:V
 o:Nat
 v:Value
 r:List Nat
def cA (f:RF):List Value:=[.int .i64 f.n.x,.int .i64 f.n.y,.int .i64 f.n.z,.int .u64 (f.o:Int),f.v]
def qt (w:World) (base:Nat) (v:Value) (l:List RF):Prop:=w.ownsRow base 171 5 v l.length (l.flatMap cA)
def FaceOk (P:Nat→V) (N:Nat) (f:RF):Prop:=∃ b,Face P N f.n b∧f.o=cH P N f.n b∧f.r=ring P (aH P N f.n b) f.n
def gO (E:Nat) (l:List RF):Prop:=E<18446744073709551616∧∀ v,E.testBit v=decide (∃ f ∈ l,v ∈ f.r)
theorem Face.small {P:Nat→V} {N:Nat} {n:V} {b:Nat} (h:Face P N n b) (hn:∀ i,i<N→LeV 4096 (P i)):LeV 200000000 n:=by
 obtain ⟨i,j,k,h1,h2,h3,_,he,_⟩:=h.three;have ht:LeV 200000000 (tri P i j k):=(((hn j ω).sub (hn i ω)).cross ((hn k ω).sub (hn i ω))).mono ω
 rcases he with rfl | rfl
 ·exact ht
 ·unfold LeV Le at *;simp only [V.neg_x,V.neg_y,V.neg_z];omega
end Dowel
namespace Go.Proofs.Υ
open Go.RowKit Dowel
theorem infoFc:(Tryz.prog.info? 171).map (fun i=>(i.zero,i.size,i.bytes))=some (some (.agg #[.int .i64 0,.int .i64 0,.int .i64 0,.int .u64 0,.slice none 0 0]),5,56):=by kernel_rfl
end Go.Proofs.Υ
end

section
namespace Dowel
open Go Go.RowKit Go.Proofs Go.Sort
section
variable {α : Type} [Inhabited α]
theorem eY (enc:α→List Value) (kk:Nat) (w:World) (blk off m:Nat) (dk:Array α) (os:Array Obj) (k:Nat) (h1:k≠blk) (h2:k<w.heap.size) :
  (sortWorldK enc kk w blk off m dk os).heap[k]?=w.heap[k]? := by
 have h3:(putRowK enc kk (Sort.ahead w m) blk off dk).heap[k]?=w.heap[k]? := by
  unfold putRowK putRow mapBlock;show (w.heap.modify blk _)[k]?=w.heap[k]?;rw [Array.getElem?_modify,if_neg (Ne.symm h1)]
 unfold sortWorldK grow;show ((putRowK enc kk (Sort.ahead w m) blk off dk).heap ++ os)[k]?=w.heap[k]?;rw [Array.getElem?_append_left (by show k<(w.heap.modify blk _).size;rw [Array.size_modify];exact h2),h3]
theorem kK (enc:α→List Value) (kk:Nat) (w:World) (blk off m:Nat) (dk:Array α) (os:Array Obj) (B:Nat) (h1:B≤blk) (h2:blk<w.heap.size) :
  Go.RowKit.Below B w (sortWorldK enc kk w blk off m dk os):=
 ⟨rfl,rfl,rfl,size_sortWorldK_c enc kk w blk off m dk os,fun k hk=>eY enc kk w blk off m dk os k ω ω⟩
theorem mV {w:World} {base e s:Nat} {v:Value} {n:Nat} {xs:List Value} (h:w.ownsRow base e s v n xs) (enc:α→List Value) (kk blk off m:Nat) (dk:Array α) (os:Array Obj) (hne:v.ownBlock≠some blk) :
  (sortWorldK enc kk w blk off m dk os).ownsRow base e s v n xs:=by
 obtain ⟨hl,h | ⟨g,cap,cur,rfl,hg,hh,hn,hm,hs,ht⟩⟩:=h
 ·exact ⟨hl,.inl h⟩
 ·refine ⟨hl,.inr ⟨g,cap,cur,rfl,hg,?_,hn,hm,hs,ht⟩⟩
  rw [eY enc kk w blk off m dk os g (fun e=>hne (by rw [e];rfl)) (Array.getElem?_eq_some_iff.1 hh).1];exact hh
end
end Dowel
namespace Go.Proofs.Υ
open Go.RowKit Dowel Go.Sort
theorem rings1_any (c1 c2 c3 c4 d1 d2 d3 d4:Value) (a b:Option Addr) (n m ca cb:Nat) (xs ys:List Int) (w:World) (ha:Ints w a n ca xs) (hb:Ints w b m cb ys) (hn:n≤4611686018427387904) (hm:m≤4611686018427387904) :
  Calls Tryz.prog 103 #[.agg #[c1,c2,c3,c4,.slice a n ca],.agg #[d1,d2,d3,d4,.slice b m cb]] w fun e w'=>e=.returned (.int .i64 (bT xs ys))∧∃ q os',w'=grow (w.drewN q) os':=by
 obtain ⟨W,hW,b1,b2,hB,hS⟩:=da w #[c1,c2,c3,c4,.slice a n ca] #[d1,d2,d3,d4,.slice b m cb] 171 171;have x0:W.cell? ⟨w.heap.size,4,none⟩=some (.slice a n ca):=(b1.cell 4).trans rfl;have y0:W.cell? ⟨w.heap.size+1,4,none⟩=some (.slice b m cb):=(b2.cell 4).trans rfl;have hc:=gI a b n ca m cb xs ys W (ha.below hB) (hb.below hB) hn hm;have HC:=η hc;have HW:=η hW;clear ha hb b1 b2 hB hS hc hW
 go_enter Tryz.func103,Tryz.ntmps103
 go_wp2_with fail
 rw [HW.out];refine HC.out.mono ?_;rintro e w1 ⟨rfl,rfl⟩;go_wp2;exact bodyPost_ret (results_tmp Tryz.results103 _ _ _) rfl ⟨rfl,0,_,by rw [← HW.out,alloc_eq_grow,alloc_eq_grow,grow_grow];rfl⟩
end Go.Proofs.Υ
end

section
namespace Dowel
open Go Go.RowKit Go.Proofs Go.Sort
section
variable {α : Type} [Inhabited α]
theorem flat_get (enc:α→List Value) (kk:Nat) (hk:∀ x,(enc x).length=kk) (hp:0<kk):∀ (l:List α) (j:Nat),j<l.length*kk→(l.flatMap enc)[j]?=(enc (l.getD (j / kk) default))[j % kk]?
 | [],j,h=>by simp at h
 | a :: l,j,h=>by
  rw [List.flatMap_cons];by_cases hj:j<kk
  ·rw [List.getElem?_append_left (by rw [hk];exact hj),Nat.div_eq_of_lt hj,Nat.mod_eq_of_lt hj];rfl
  ·have h1:kk≤j:=ω
   rw [List.getElem?_append_right (by rw [hk];exact h1),hk];have h2:j - kk<l.length*kk:=by rw [List.length_cons,Nat.add_mul,Nat.one_mul] at h;omega
   rw [flat_get enc kk hk hp l (j - kk) h2];have e1:j / kk=(j - kk) / kk+1:=by
    rw [← Nat.add_div_right _ hp,Nat.sub_add_cancel h1]
   have e2:(j - kk) % kk=j % kk:=(Nat.mod_eq_sub_mod h1).symm;rw [e1,e2];rfl
theorem oR (enc:α→List Value) (kk:Nat) (hk:∀ x,(enc x).length=kk) (hp:0<kk) (d:Array α) (j:Nat) (hj:j<d.size*kk):some ((flatK enc kk d)[j]!)=(d.toList.flatMap enc)[j]? := by
 rw [get_flatK enc kk d j hj,flat_get enc kk hk hp d.toList j (by simpa using hj)];have hd:j / kk<d.size:=Nat.div_lt_of_lt_mul (by rw [Nat.mul_comm];exact hj);have e:d[j / kk]! = d.toList.getD (j / kk) default:=by simp [hd]
 rw [← e];have hm:j % kk<(enc d[j / kk]!).length:=by rw [hk];exact Nat.mod_lt _ hp
 rw [List.getElem?_eq_getElem hm,getElem!_pos (enc d[j / kk]!) (j % kk) hm]
theorem m7 (enc:α→List Value) (kk:Nat) (hk:∀ x,(enc x).length=kk) (hp:0<kk) {w:World} {base e g cap n:Nat} {xs:List Value} (d:Array α) (hn:n=d.size) (hx:xs=d.toList.flatMap enc)
  (h:w.ownsRow base e kk (.slice (some ⟨g,0,none⟩) n cap) n xs):HoldsK enc kk w g 0 d:=by
 intro j hj;rw [size_flatK] at hj;rw [Nat.zero_add];refine ⟨?_,World.ownsRow.frozenAt h j⟩;rw [World.ownsRow.cellAt h j (by rw [hn];exact hj),hx,← oR enc kk hk hp d j hj];rfl
theorem mE (enc:α→List Value) (kk:Nat) (hk:∀ x,(enc x).length=kk) (hp:0<kk) {w:World} {base e g cap n:Nat} {cur:Array Value} (d:Array α) (hn:n=d.size) (m:Nat) (os:Array Obj)
  (hh:w.heap[g]?=some (.cells cur e (0,0))) (hg:base≤g) (hc:n≤cap) (hm:cap≤maxLen) (hs:cur.size=cap*kk) :
  (sortWorldK enc kk w g 0 m d os).ownsRow base e kk (.slice (some ⟨g,0,none⟩) n cap) n (d.toList.flatMap enc):=by
 have hgl:g<w.heap.size:=(Array.getElem?_eq_some_iff.1 hh).1;have hnc:n*kk≤cap*kk:=Nat.mul_le_mul_right _ hc;have hflen:(d.toList.flatMap enc).length=n*kk:=by
  rw [List.length_flatMap,List.map_congr_left (g:=fun _=>kk) (fun x _=>hk x),List.map_const',List.sum_replicate_nat];simp [hn]
 have hb:(sortWorldK enc kk w g 0 m d os).heap[g]?=some (.cells (putCells id 0 (flatK enc kk d) cur) e (0,0)):=by
  have h3:(putRowK enc kk (Sort.ahead w m) g 0 d).heap[g]?=some (.cells (putCells id 0 (flatK enc kk d) cur) e (0,0)):=by
   unfold putRowK putRow mapBlock;show (w.heap.modify g _)[g]?=_;rw [Array.getElem?_modify,if_pos rfl,hh];rfl
  unfold sortWorldK grow;show ((putRowK enc kk (Sort.ahead w m) g 0 d).heap ++ os)[g]?=_;rw [Array.getElem?_append_left (by show g<(w.heap.modify g _).size;rw [Array.size_modify];exact hgl),h3]
 refine ⟨hflen,.inr ⟨g,cap,_,rfl,hg,hb,hc,hm,by simp [putCells,hs],?_⟩⟩;refine List.ext_getElem? fun j=>?_
 by_cases hj:j<n*kk
 ·rw [List.getElem?_take_of_lt hj,Array.getElem?_toList,← oR enc kk hk hp d j (by rw [← hn];exact hj)]
  have hj2:j<cur.size:=ω;have hj3:j<d.size*kk:=by rw [← hn];exact hj
  simp [putCells,hj2,hj3]
 ·rw [List.getElem?_take_eq_none ω,List.getElem?_eq_none ω]
end
structure Faces (w:World) (base:Nat) (fs:List RF):Prop where
 own:∀ f ∈ fs,dr w base f.v f.r
 short:∀ f ∈ fs,f.r.length≤64
theorem jy:∀ (x y z:List Int),bT x y<0→bT y z<0→bT x z<0
 | [],[],_,h,_=>by simp [bT] at h
 | [],_ :: _,[],_,h=>by simp [bT] at h
 | [],_ :: _,_ :: _,_,_=>by simp [bT]
 | _ :: _,[],_,h,_=>by simp [bT] at h
 | _ :: _,_ :: _,[],_,h=>by simp [bT] at h
 | a :: x,b :: y,c :: z,h1,h2=>by
  have ih:=jy x y z;simp only [bT] at *
  split at h1 <;> split at h2 <;> (try split at h1) <;> (try split at h2) <;> (split <;> try split) <;> first | omega | (exact ih ω ω)
theorem jz:∀ (x y z:List Int),¬ bT x y<0→¬ bT y z<0→¬ bT x z<0
 | [],[],_,_,h=>h
 | [],_ :: _,_,h,_=>by simp [bT] at h
 | _ :: _,[],[],_,_=>by simp [bT]
 | _ :: _,[],_ :: _,_,h=>by simp [bT] at h
 | _ :: _,_ :: _,[],_,_=>by simp [bT]
 | a :: x,b :: y,c :: z,h1,h2=>by
  have ih:=jz x y z;simp only [bT] at *
  split at h1 <;> split at h2 <;> (try split at h1) <;> (try split at h2) <;> (split <;> try split) <;> first | omega | (exact ih ω ω)
theorem oX:∀ (x y:List Int),bT y x=- bT x y
 | [],[]=>rfl
 | [],_ :: _=>rfl
 | _ :: _,[]=>rfl
 | a :: x,b :: y=>by
  rw [bT,bT,oX x y]
  split <;> split <;> first | omega | rfl | (split <;> omega)
theorem oY:∀ x:List Int,bT x x=0
 | []=>rfl
 | a :: x=>by rw [bT,if_neg ω,if_neg ω,oY x]
end Dowel
namespace Go.Proofs.Υ
open Go.RowKit Dowel Go.Sort
theorem nV (v:Value) (fs:List RF) (base:Nat) (w:World) (hO:qt w base v fs) (hR:Faces w base fs) (hl:fs.length≤262144) :
  Calls Tryz.prog 102 #[v,.func (.func 103) #[] #[]] w fun e w'=>e=.returned (.tuple #[]) ∧
   (∃ fs',fs'.Perm fs∧fs'.Pairwise (fun f g=>bT (f.r.map fun (i:Nat)=>(i:Int)) (g.r.map fun (i:Nat)=>(i:Int))≤0)∧qt w' base v fs'∧Faces w' base fs')∧Go.RowKit.Below base w w':=by
 by_cases h0:fs.length=0
 ·have:fs=[]:=List.length_eq_zero_iff.1 h0
  subst this;obtain ⟨p,cap,rfl⟩:∃ p cap,v=.slice p 0 cap:=by
   obtain ⟨_,⟨rfl,_⟩ | ⟨g,c,_,rfl,_⟩⟩:=hO
   ·exact ⟨_,_,rfl⟩
   ·exact ⟨_,_,rfl⟩
  have hc:=AnyF.slices_SortFunc_none Tryz.sortFace p cap (.func (.func 103) #[] #[]) w;change Calls Tryz.prog 102 _ _ _ at hc;exact hc.mono fun e w' ⟨he,hw⟩=>⟨he,⟨[],List.Perm.refl _,List.Pairwise.nil,by rw [hw];exact hO,by rw [hw];exact hR⟩,by rw [hw];exact Go.RowKit.Below.refl _ _⟩
 ·have hpos:0<fs.length:=ω
  haveI:Inhabited (Fin fs.length):=⟨⟨0,hpos⟩⟩
  have hO':=hO;obtain ⟨hlen,⟨rfl,h1⟩ | ⟨g,cap,cur,rfl,hg,hh,hn,hm,hs,ht⟩⟩:=hO
  ·exact absurd h1 h0
  have hgl:g<w.heap.size:=(Array.getElem?_eq_some_iff.1 hh).1;have eg:∀ args w,(callFunc 103 args).run Tryz.prog w=.ok (.enter 103 args) w:=enters_of Tryz.func103 κ rfl;obtain ⟨d,hd⟩:∃ d:Array (Fin fs.length),d=Array.ofFn id:=⟨_,rfl⟩;have hds:fs.length=d.size:=by rw [hd];simp
  have hdl:d.toList.map (fun i=>fs.get i)=fs:=by
   rw [hd,Array.toList_ofFn];refine List.ext_getElem (by simp) fun i h1 h2=>by simp
  have hflat:∀ l:List (Fin fs.length),l.flatMap (fun i=>cA (fs.get i))=(l.map fun i=>fs.get i).flatMap cA:=fun l=>by rw [List.flatMap_map]
  have hk:∀ x:Fin fs.length,(cA (fs.get x)).length=5:=fun _=>rfl
  have hone:∀ x:Fin fs.length,∀ u ∈ cA (fs.get x),u.oneCell'=true:=by
   intro x u hu;obtain ⟨a,c,hv,_⟩:=(hR.own _ (List.get_mem fs x)).ints;simp only [cA,hv,List.mem_cons,List.not_mem_nil,or_false] at hu
   rcases hu with rfl | rfl | rfl | rfl | rfl <;> rfl
  have hH:HoldsK (fun i:Fin fs.length=>cA (fs.get i)) 5 w g 0 d:=
   m7 _ 5 hk ω d hds (by rw [hflat,hdl]) hO'
  have hne:∀ f ∈ fs,f.v.ownBlock≠some g:=fun f hf=>by
   rcases io (hR.own f hf) hO' ν with h | h
   ·rw [h];intro e;cases e
   ·exact h
  have hcmp:CmpLays Tryz.prog 103 #[] (fun i:Fin fs.length=>cA (fs.get i)) 5 (fun i j=>bT ((fs.get i).r.map fun (i:Nat)=>(i:Int)) ((fs.get j).r.map fun (i:Nat)=>(i:Int))) g 0 d.size w:=by
   intro m os dk _ x y;have key:∀ f ∈ fs,∃ a c,f.v=.slice a f.r.length c∧Ints (sortWorldK (fun i:Fin fs.length=>cA (fs.get i)) 5 w g 0 m dk os) a f.r.length c (f.r.map fun (i:Nat)=>(i:Int)):=fun f hf =>
    dr.ints (mV (hR.own f hf) _ _ _ _ _ _ _ (hne f hf))
   obtain ⟨a1,c1,e1,i1⟩:=key _ (List.get_mem fs x);obtain ⟨a2,c2,e2,i2⟩:=key _ (List.get_mem fs y);have s1:=hR.short _ (List.get_mem fs x);have s2:=hR.short _ (List.get_mem fs y);have:=rings1_any (.int .i64 (fs.get x).n.x) (.int .i64 (fs.get x).n.y) (.int .i64 (fs.get x).n.z) (.int .u64 ((fs.get x).o:Int)) (.int .i64 (fs.get y).n.x) (.int .i64 (fs.get y).n.y) (.int .i64 (fs.get y).n.z) (.int .u64 ((fs.get y).o:Int)) a1 a2 _ _ c1 c2 _ _ _ i1 i2 ω ω;rw [← e1,← e2] at this;exact this
  have hswo:SWO (ltOf fun i j:Fin fs.length=>bT ((fs.get i).r.map fun (i:Nat)=>(i:Int)) ((fs.get j).r.map fun (i:Nat)=>(i:Int))):=by
   refine ⟨fun x=>by simp [ltOf,oY],fun x y z h1 h2=>?_,fun x y z h1 h2=>?_⟩
   ·simp only [ltOf,decide_eq_true_eq] at *;exact jy _ _ _ h1 h2
   ·simp only [ltOf,decide_eq_false_iff_not] at *;exact jz _ _ _ h1 h2
  have hc:=AnyQ.slices_SortFunc Tryz.sortFace 5 Tryz.isAgg171 Tryz.sizeOf171 (fun i:Fin fs.length=>cA (fs.get i)) hk hone _ hswo 103 #[] g 0 cap d w eg hcmp hH hgl ω;change Calls Tryz.prog 102 _ _ _ at hc;rw [← hds] at hc;refine hc.mono fun e w' ⟨he,d',m,os,hp,hsd,hw⟩=>?_
  obtain ⟨hps,_,hpp⟩:=hp;have hd's:fs.length=d'.size:=by rw [hps];exact hds
  have hperm:(d'.toList.map (fun i=>fs.get i)).Perm fs:=by
   have ext:∀ (k:Nat) (x:Array (Fin fs.length)),k=x.size→x.extract 0 k=x:=fun k x hk=>by subst hk;simp
   have e1:=ext _ d' hd's;have e2:=ext _ d hds;rw [e1,e2] at hpp;have:=hpp.map (fun i=>fs.get i)
   rwa [hdl] at this
  refine ⟨he,⟨d'.toList.map (fun i=>fs.get i),?_,?_,?_,?_⟩,?_⟩
  ·exact hperm
  ·rw [List.pairwise_map,List.pairwise_iff_getElem]
   intro i j hi hj hij;have hj2:j<d'.size:=by simpa using hj
   have hi2:i<d'.size:=by simpa using hi
   have:=hsd i j (Nat.zero_le _) hij ω;simp only [ltOf,decide_eq_false_iff_not] at this;have e1:d'[j]! = d'.toList[j]:=by simp [hj2]
   have e2:d'[i]! = d'.toList[i]:=by simp [hi2]
   rw [e1,e2,oX] at this;omega
  ·rw [hw];unfold qt
   have hlen':d'.toList.length=fs.length:=by rw [Array.length_toList];exact hd's.symm
   rw [List.length_map,hlen',← hflat];exact mE _ 5 hk ω d' hd's m os hh hg hn hm hs
  ·rw [hw]
   refine ⟨fun f hf=>?_,fun f hf=>?_⟩
   ·obtain ⟨i,_,rfl⟩:=List.mem_map.mp hf
    exact mV (hR.own _ (List.get_mem fs i)) _ _ _ _ _ _ _ (hne _ (List.get_mem fs i))
   ·obtain ⟨i,_,rfl⟩:=List.mem_map.mp hf
    exact hR.short _ (List.get_mem fs i)
  ·rw [hw];exact kK _ 5 w g 0 m d' os base hg hgl
end Go.Proofs.Υ
end
