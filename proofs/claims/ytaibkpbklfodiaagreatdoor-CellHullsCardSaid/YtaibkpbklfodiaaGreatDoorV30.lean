/- A shape's tetrahedra; those of the first example. Volumes and centres of shapes of points (plain). What the statements over hulls share: the shape of a hull; lists of ints that are the same. The first example. Printed by gen/known.py. -/
import Derived.Test.YtaibkpbklfodiaaGreatDoorV27
import Derived.Test.YtaibkpbklfodiaaGreatDoorV29
import Derived.Test.YtaibkpbklfodiaaGreatDoorV2
import Derived.Test.YtaibkpbklfodiaaGreatDoorV22
import Derived.Test.YtaibkpbklfodiaaGreatDoorV14
import Derived.Test.YtaibkpbklfodiaaGreatDoorV25
import Derived.Test.YtaibkpbklfodiaaGreatDoorV31
import Derived.Test.YtaibkpbklfodiaaGreatDoorV34
import Derived.Test.YtaibkpbklfodiaaGreatDoorV5
set_option linter.all false
/- A shape's tetrahedra; those of the first example. -/
section
namespace Dowel
open V Go
theorem qAt_pts (P:Nat→V) (len i:Nat):qAt (ptsQ P len) i=if i<len then ptQ (P i) else ⟨0,0,0⟩:=by
 unfold qAt ptsQ
 rw [List.getD_eq_getElem?_getD,List.getElem?_map]
 by_cases h:i<len
 ·rw [List.getElem?_range h,if_pos h];rfl
 ·rw [List.getElem?_eq_none (by simp;omega),if_neg h];rfl
theorem frac_pt {p:V} (h:LeV 4096 p):FracV 1 4096 (ptQ p):=by
 obtain ⟨h1,h2,h3⟩:=h
 unfold Le at h1 h2 h3
 exact ⟨Frac.int _ _ (by omega),Frac.int _ _ (by omega),Frac.int _ _ (by omega)⟩
theorem ShapeOk.solid {P:Nat→V} {len base:Nat} {w:World} {v0 v1 v2:Value} {fs:List RF} {E:Nat} {vrs:List (RC × RC × RC)} {frs:List FR} {es:List ED} (h:ShapeOk P len base w v0 v1 v2 fs E vrs frs es)
  (h0:0<len) (h64:len≤64) (hf:fs.length≤262144) (hn:∀ i,i<len→LeV 4096 (P i)) (hr:∀ f ∈ fs,f.r≠[]∧∀ i ∈ f.r,i<len):SolidF w v0 v1 (ptsQ P len) frs (fs.map RF.r) 1 4096 where
 sol:={
  vs:=⟨_,_,h.vs⟩
  fs:=⟨_,_,h.fcs⟩
  rows:=fun i f r hi hri=>by
   rw [List.getElem?_map] at hri
   obtain ⟨g,hg,e⟩:=Option.map_eq_some_iff.mp hri
   have hv:=congrArg (fun l:List Value=>l[i]?) h.val
   simp only [List.getElem?_map,hi,hg,Option.map_some] at hv
   have:=h.rows.own g (List.mem_of_getElem? hg)
   rw [Option.some.inj hv,← e]
   exact ⟨_,this⟩
  len:=by have:=congrArg List.length h.val;simp only [List.length_map] at this;rw [List.length_map,this]
  max:=by have:=congrArg List.length h.val;simp only [List.length_map] at this;omega
  vmax:=by unfold ptsQ;simp;omega
  ring:=fun r hm=>by
   obtain ⟨f,hf,rfl⟩:=List.mem_map.mp hm
   refine ⟨h.rows.short f hf,(hr f hf).1,fun i hi=>?_⟩
   have:=(hr f hf).2 i hi
   unfold ptsQ;simpa using this
  bd:=fun q hq=>by
   unfold ptsQ at hq
   obtain ⟨i,hi,rfl⟩:=List.mem_map.mp hq
   exact (bd_ptQ ((hn i (List.mem_range.mp hi)).mono (by omega))).mono (by omega) }
 dpos:=by omega
 dmax:=by omega
 mmax:=by omega
 frac:=fun i=>by
  rw [qAt_pts]
  split
  ·exact frac_pt (hn i (by assumption))
  ·exact ⟨(Frac.zero 1).mono (by omega),(Frac.zero 1).mono (by omega),(Frac.zero 1).mono (by omega)⟩
theorem tet_sumD:sumD (piecesQ (qAt (ptsQ tet 4)) [[0,1,2],[0,2,3],[0,3,1],[1,3,2]])=1:=by decide +kernel
theorem tet_sumC:sumC (piecesQ (qAt (ptsQ tet 4)) [[0,1,2],[0,2,3],[0,3,1],[1,3,2]])=⟨1,1,1⟩:=by
 have h:(sumC (piecesQ (qAt (ptsQ tet 4)) [[0,1,2],[0,2,3],[0,3,1],[1,3,2]])).x=1∧(sumC (piecesQ (qAt (ptsQ tet 4)) [[0,1,2],[0,2,3],[0,3,1],[1,3,2]])).y=1∧(sumC (piecesQ (qAt (ptsQ tet 4)) [[0,1,2],[0,2,3],[0,3,1],[1,3,2]])).z=1:=by decide +kernel
 generalize sumC (piecesQ (qAt (ptsQ tet 4)) [[0,1,2],[0,2,3],[0,3,1],[1,3,2]])=q at *
 obtain ⟨x,y,z⟩:=q
 obtain ⟨rfl,rfl,rfl⟩:=h
 rfl
theorem tet_solid {base:Nat} {w:World} {v0 v1 v2:Value} {fs:List RF} {E:Nat} {vrs:List (RC × RC × RC)} {frs:List FR} {es:List ED} (h:ShapeOk tet 4 base w v0 v1 v2 fs E vrs frs es) :
  SolidF w v0 v1 (ptsQ tet 4) frs [[0,1,2],[0,2,3],[0,3,1],[1,3,2]] 1 4096:=by
 have hr:=tet_rings h.ok
 have:=h.solid (by omega) (by omega) (by have:=congrArg List.length hr;simp only [List.length_map] at this;rw [this];decide) (fun i hi=>by
  unfold tet LeV Le
  refine ⟨?_,?_,?_⟩
  ·show -4096≤(if i=3 then (1:Int) else 0)∧(if i=3 then (1:Int) else 0)≤4096;split <;> omega
  ·show -4096≤(if i=2 then (1:Int) else 0)∧(if i=2 then (1:Int) else 0)≤4096;split <;> omega
  ·show -4096≤(if i=1 then (1:Int) else 0)∧(if i=1 then (1:Int) else 0)≤4096;split <;> omega) (fun f hf=>by
  have hm:f.r ∈ fs.map RF.r:=List.mem_map.mpr ⟨f,hf,rfl⟩
  rw [hr] at hm
  generalize f.r=r at *
  revert r
  decide)
 rw [hr] at this
 exact this
end Dowel
end

/- Volumes and centres of shapes of points (plain). -/
section
namespace Dowel
open V
theorem qsub_pt (a b:V):qsub (ptQ a) (ptQ b)=ptQ (a - b):=by
 unfold qsub ptQ
 simp only [sub_x,sub_y,sub_z,Rat.intCast_sub]
theorem qcross_pt (a b:V):qcross (ptQ a) (ptQ b)=ptQ (cross a b):=by
 unfold qcross ptQ cross
 simp only [Rat.intCast_sub,Rat.intCast_mul]
theorem qdot_qadd (e a b:Q3):qdot e (qadd a b)=qdot e a+qdot e b:=by unfold qdot qadd;grind
theorem qdot_qscale (e a:Q3) (k:Rat):qdot e (qscale k a)=k*qdot e a:=by unfold qdot qscale;grind
theorem pieceD_pt (t a b c:V):pieceD (ptQ t) (ptQ a) (ptQ b) (ptQ c)=((dot (a - t) (cross (b - t) (c - t)):Int):Rat):=by
 unfold pieceD
 rw [qsub_pt,qsub_pt,qsub_pt,qcross_pt,qdot_pt]
theorem pieceC_pt (e t a b c:V):qdot (ptQ e) (pieceC (ptQ t) (ptQ a) (ptQ b) (ptQ c))=((dot e a+dot e b+(dot e c+dot e t):Int):Rat):=by
 unfold pieceC
 rw [qdot_qadd,qdot_qadd,qdot_qadd,qdot_pt,qdot_pt,qdot_pt,qdot_pt]
 simp only [Rat.intCast_add]
theorem sumD_append (l m:List (Rat × Q3)):sumD (l ++ m)=sumD l+sumD m:=by
 revert m
 refine snoc_ind ?_ ?_
 ·rw [List.append_nil,show sumD []=0 from rfl,Rat.add_zero]
 ·intro m x ih
  rw [← List.append_assoc,sumD_snoc,ih,sumD_snoc,Rat.add_assoc]
theorem sumC_dot (e:Q3):∀ l:List (Rat × Q3),qdot e (sumC l)=sumD (l.map fun x=>(x.1*qdot e x.2,x.2)):=by
 refine snoc_ind ?_ ?_
 ·show qdot e ⟨0,0,0⟩=0
  unfold qdot;grind
 ·intro l x ih
  rw [sumC_snoc,qdot_qadd,qdot_qscale,ih,List.map_append,List.map_cons,List.map_nil,sumD_snoc]
theorem sumD_range (f:Nat→Rat × Q3) (g:Nat→Int):∀ n,(∀ k,k<n→(f k).1=((g k:Int):Rat))→sumD ((List.range n).map f)=((((List.range n).map g).sum:Int):Rat)
 | 0,_=>by simp [sumD]
 | n+1,h=>by
  rw [List.range_succ,List.map_append,List.map_append,List.map_cons,List.map_nil,List.map_cons,List.map_nil,sumD_snoc,sumD_range f g n fun k hk=>h k (by omega),h n (by omega),sum_append,Rat.intCast_add]
  simp
theorem sumD_flat (F:List Nat→List (Rat × Q3)) (G:List Nat→Int):∀ rs:List (List Nat),(∀ r ∈ rs,sumD (F r)=((G r:Int):Rat))→sumD (rs.flatMap F)=(((rs.map G).sum:Int):Rat)
 | [],_=>by simp [sumD]
 | r :: rs,h=>by
  rw [List.flatMap_cons,sumD_append,h r (List.mem_cons_self ..),sumD_flat F G rs fun r hr=>h r (List.mem_cons_of_mem _ hr),List.map_cons,List.sum_cons,Rat.intCast_add]
variable {P : Nat → V} {N : Nat}
theorem getD_mem {r:List Nat} {k:Nat} (h:k<r.length):r.getD k 0 ∈ r:=by
 rw [show r.getD k 0=r[k] by simp [h]]
 exact List.getElem_mem h
theorem pieceOf_pts {r:List Nat} (hN:0<N) (hr:∀ i ∈ r,i<N) {k:Nat} (hk:k+2<r.length) :
  pieceOf (qAt (ptsQ P N)) r k=(((tetD P 0 (r.getD 0 0) (r.getD (k+1) 0) (r.getD (k+2) 0):Int):Rat),pieceC (ptQ (P 0)) (ptQ (P (r.getD 0 0))) (ptQ (P (r.getD (k+1) 0))) (ptQ (P (r.getD (k+2) 0)))):=by
 have h1:=hr _ (getD_mem (show 0<r.length by omega))
 have h2:=hr _ (getD_mem (show k+1<r.length by omega))
 have h3:=hr _ (getD_mem hk)
 unfold pieceOf
 rw [qAt_pts,qAt_pts,qAt_pts,qAt_pts,if_pos hN,if_pos h1,if_pos h2,if_pos h3,pieceD_pt]
 rfl
theorem sumD_pts {rs:List (List Nat)} (hN:0<N) (hr:∀ r ∈ rs,∀ i ∈ r,i<N):sumD (piecesQ (qAt (ptsQ P N)) rs)=(((rs.map (fan (tetD P 0))).sum:Int):Rat):=by
 unfold piecesQ
 refine sumD_flat _ _ rs fun r hm=>?_
 unfold fanQ fan
 refine sumD_range _ _ _ fun k hk=>?_
 rw [pieceOf_pts hN (hr r hm) (by omega)]
theorem sumC_pts {rs:List (List Nat)} (hN:0<N) (hr:∀ r ∈ rs,∀ i ∈ r,i<N) (e:V) :
  qdot (ptQ e) (sumC (piecesQ (qAt (ptsQ P N)) rs))=(((rs.map (fan fun a b d=>tetD P 0 a b d*(dot e (P a)+dot e (P b)+dot e (P d)+dot e (P 0)))).sum:Int):Rat):=by
 rw [sumC_dot]
 unfold piecesQ
 rw [List.map_flatMap]
 refine sumD_flat _ _ rs fun r hm=>?_
 unfold fanQ fan
 rw [List.map_map]
 refine sumD_range _ _ _ fun k hk=>?_
 simp only [Function.comp]
 rw [pieceOf_pts hN (hr r hm) (by omega)]
 dsimp only
 rw [pieceC_pt,← Rat.intCast_mul]
 congr 2
 omega
variable {fs : List RF} {E : Nat}
theorem RingsOk.fans (h:RingsOk P N fs E):∃ ps,Polys P N ps∧∀ g,((fs.map RF.r).map (fan g)).sum=fans P N ps g:=by
 obtain ⟨bs,hbs,hp⟩:=h.polys
 refine ⟨_,hp,fun g=>?_⟩
 unfold Dowel.fans
 rw [List.map_map,List.map_map]
 refine congrArg List.sum (List.map_congr_left fun f hf=>?_)
 simp only [Function.comp]
 rw [(hbs f hf).2.2]
end Dowel
end

/- What the statements over hulls share: the shape of a hull; lists of ints that are the same. -/
section
namespace Dowel
open V Go Go.RowKit Go.Proofs.YtaibkpbklfodiaaGreatDoor
theorem full4_four {P:Nat→V} {N:Nat} (h:Full4 P N):4≤N:=by
 obtain ⟨i,j,k,m,hi,hj,hk,hm,hne⟩:=h
 refine Classical.byContradiction fun hc=>hne ?_
 have hp:i=j∨i=k∨i=m∨j=k∨j=m∨k=m:=by omega
 unfold tri
 rcases hp with rfl | rfl | rfl | rfl | rfl | rfl <;> simp only [dot,cross,sub_x,sub_y,sub_z] <;> grind
theorem HullOk.valid {Q:Nat→V} {M:Nat} (h:HullOk Q M) (hN:(hullR Q M).length≤16):Valid (ofL (hullR Q M)) (hullR Q M).length:=
 ⟨hN,full4_four h.full,h.sorted,h.full,h.extr⟩
theorem ShapeOk.slices {P:Nat→V} {len base:Nat} {w:World} {v0 v1 v2:Value} {fs:List RF} {E:Nat} {vrs:List (RC × RC × RC)} {frs:List FR} {es:List ED} (h:ShapeOk P len base w v0 v1 v2 fs E vrs frs es):∀ r ∈ frs,∃ a n c,r.v=.slice a n c:=fun r hr=>by
 have hm:r.v ∈ frs.map FR.v:=List.mem_map.mpr ⟨r,hr,rfl⟩
 rw [h.val] at hm
 obtain ⟨f,hf,e⟩:=List.mem_map.mp hm
 obtain ⟨a,cap,hv,-⟩:=Sl.of_owns (h.rows.own f hf)
 exact ⟨_,_,_,by rw [← e];exact hv⟩
theorem ShapeOk.forms {P:Nat→V} {len base:Nat} {w:World} {v0 v1 v2:Value} {fs:List RF} {E:Nat} {vrs:List (RC × RC × RC)} {frs:List FR} {es:List ED} (h:ShapeOk P len base w v0 v1 v2 fs E vrs frs es) :
  (∃ p c,v0=.slice p len c)∧(∃ p c,v1=.slice p frs.length c)∧∃ p c,v2=.slice p es.length c:=by
 obtain ⟨a0,c0,h0,-⟩:=Sl.of_owns h.vs.own
 obtain ⟨a1,c1,h1,-⟩:=Sl.of_owns h.fcs.own
 obtain ⟨a2,c2,h2,-⟩:=Sl.of_owns h.eds
 have hl:vrs.length=len:=by rw [h.vs.len];simp [ptsQ]
 exact ⟨⟨a0,c0,by rw [h0,hl]⟩,⟨a1,c1,h1⟩,⟨a2,c2,h2⟩⟩
end Dowel
namespace Go.Proofs.YtaibkpbklfodiaaGreatDoor
open Go.RowKit Dowel
theorem hull_shape (Q:Nat→V) (M base:Nat) (v:Value) (w:World) (hT:Tab w) (hH:HullOk Q M) (hO:OwnV w base v (hullR Q M)) (hN:(hullR Q M).length≤10) :
  Calls Tryz.prog 12 #[.agg #[v]] w fun e w'=>RetShape (ofL (hullR Q M)) (hullR Q M).length w.heap.size w' e∧Below w.heap.size w w':=by
 obtain ⟨a,cap,rfl,hP⟩:=hO.pts
 have hV:=hH.valid (by omega)
 refine of_any a _ cap _ w hP hV.le (fun i hi=>(hV.sorted.near i hi).le) hT hV.sorted hV.full (fun v hv=>?_)
 have:=check_any a _ cap (ofL (hullR Q M)) v (hT.below hv hT.1) (hP.below hv) (by omega)
 rw [checkR_valid.mpr hV] at this
 exact this
set_option maxHeartbeats 1000000 in
theorem ints_own (v v':Value) (l:List Nat) (base base':Nat) (w:World) (h:OwnN w base v l) (h':OwnN w base' v' l) (hl:l.length<4611686018427387904) :
  Calls Tryz.prog 19 #[v,v'] w fun e w'=>e=.returned (.bool true)∧Below w.heap.size w w':=by
 obtain ⟨a,cap,rfl,hi⟩:=h.ints
 obtain ⟨a',cap',rfl,hi'⟩:=h'.ints
 by_cases h0:l.length=0
 ·rw [h0]
  clear h h' hi hi' hl h0
  go_enter Tryz.func19,Tryz.ntmps19
  go_wp2_with fail
  go_loopw [5] (fun iv wr=>iv=.int .i64 0∧wr=w) (fun iv _=>0)
  case atStart=>exact ⟨rfl,rfl⟩
  case round =>
   obtain ⟨rfl,rfl⟩:=hrel
   go_wp2_with fail
   go_ret
   exact ⟨rfl,Below.refl _ _⟩
 ·obtain ⟨b,off,rfl,hb,-,hc⟩:=hi.cells (by omega)
  obtain ⟨b',off',rfl,hb',-,hc'⟩:=hi'.cells (by omega)
  exact ints_same b off cap b' off' cap' l.length (fun j=>(l.map fun (i:Nat)=>(i:Int)).getD j 0) w (by omega) hb hb' (fun j hj=>hc j hj) (fun j hj=>hc' j hj)
end Go.Proofs.YtaibkpbklfodiaaGreatDoor
end

/- The first example. Printed by gen/known.py. -/
section
namespace Dowel
open Go Go.RowKit
theorem SolidF.below {w w':World} {v0 v1:Value} {qs:List Q3} {frs:List FR} {rs:List (List Nat)} {d M:Nat} (h:SolidF w v0 v1 qs frs rs d M) (hb:Below w.heap.size w w'):SolidF w' v0 v1 qs frs rs d M where
 sol:={
  vs:=by obtain ⟨base,vrs,hv⟩:=h.sol.vs;exact ⟨base,vrs,hv.below hb⟩
  fs:=by obtain ⟨base,fqs,hv⟩:=h.sol.fs;exact ⟨base,fqs,hv.below hb⟩
  rows:=fun i f r h1 h2=>by obtain ⟨base,ho⟩:=h.sol.rows i f r h1 h2;exact ⟨base,own_below ho hb⟩
  len:=h.sol.len
  max:=h.sol.max
  vmax:=h.sol.vmax
  ring:=h.sol.ring
  bd:=h.sol.bd }
 dpos:=h.dpos
 dmax:=h.dmax
 mmax:=h.mmax
 frac:=h.frac
theorem quarter:qscale (1 / (4*1)) ⟨1,1,1⟩=⟨1 / 4,1 / 4,1 / 4⟩:=by
 have h:(1 / (4*1):Rat)*1=1 / 4:=by decide +kernel
 unfold qscale
 rw [h]
theorem text1:(⟨(numText 1).toArray⟩:ByteArray)=⟨#[49]⟩:=by
 unfold numText
 rw [if_pos (by decide),show (1:Rat).num.toNat=1 by decide,Lib.decDigits_one (by decide)]
 rfl
theorem textQ (x:Rat) (k:Nat) (h1:x.num=1) (h2:x.den=k) (h3:1<k) (h4:k<10):(⟨(numText x).toArray⟩:ByteArray)=⟨#[49,47,UInt8.ofNat (48+k)]⟩:=by
 unfold numText
 rw [if_neg (by omega),h1,h2,show (1:Int).toNat=1 by decide,Lib.decDigits_one (show 1<10 by omega),Lib.decDigits_one h4]
 rfl
end Dowel
namespace Go.Proofs.YtaibkpbklfodiaaGreatDoor
open Go.RowKit Dowel
theorem N6 (v:Value) (w:World) (h:IsRat w v (1 / 6)):Calls Tryz.prog 46 #[v] w fun e w''=>e=.returned (.string ⟨#[49,47,54]⟩)∧Below w.heap.size w w'':=by
 have:=number_any v (1 / 6) w h (by decide +kernel) (by decide +kernel) (by decide +kernel)
 rw [textQ (1 / 6) 6 (by decide +kernel) (by decide +kernel) (by decide) (by decide)] at this
 exact this
theorem N4 (v:Value) (w:World) (h:IsVec w v ⟨1 / 4,1 / 4,1 / 4⟩):Calls Tryz.prog 47 #[v] w fun e w''=>e=.returned (.agg #[.string ⟨#[49,47,52]⟩,.string ⟨#[49,47,52]⟩,.string ⟨#[49,47,52]⟩])∧Below w.heap.size w w'':=by
 have hs:SmallR (1 / 4):=⟨by decide +kernel,by decide +kernel,by decide +kernel⟩
 have:=point_any v ⟨1 / 4,1 / 4,1 / 4⟩ w h hs hs hs
 rw [textQ (1 / 4) 4 (by decide +kernel) (by decide +kernel) (by decide) (by decide)] at this
 exact this
set_option maxRecDepth 100000 in
set_option maxHeartbeats 100000000 in
theorem known_any (w:World) (hT:Tab w) :
  Calls Tryz.prog 10 #[] w fun e w'=>e=.returned (.bool true)∧Below w.heap.size w w':=by
 have KT:Hid (∀ w',Below w.heap.size w w'→Tab w'):=fun w' h=>hT.below h hT.1
 clear hT
 go_enter Tryz.func10,Tryz.ntmps10
 go_wp2_with fail
 obtain ⟨W,hW,b1,hB,hS⟩:=boxes1 w #[.int .i64 0,.int .i64 0,.int .i64 0,.int .i64 0,.int .i64 0,.int .i64 1,.int .i64 0,.int .i64 1,.int .i64 0,.int .i64 1,.int .i64 0,.int .i64 0] 46
 rw [hW]
 have hP:Pts W (some ⟨w.heap.size,0,none⟩) 4 4 tet:=⟨Nat.le_refl _,(fun h=>by cases h),fun x hx=>by
  cases hx
  refine ⟨rfl,b1.lt,fun i hi=>?_⟩
  have:i=0∨i=1∨i=2∨i=3:=by omega
  rcases this with rfl | rfl | rfl | rfl <;> exact ⟨(b1.cell _).trans rfl,(b1.cell _).trans rfl,(b1.cell _).trans rfl⟩⟩
 refine (of_any (some ⟨w.heap.size,0,none⟩) 4 4 tet W hP (by omega) (fun i hi=>(tet_valid.sorted.near i hi).le) (KT.out W hB) tet_valid.sorted tet_valid.full (fun v hv=>by
  have:=check_any (some ⟨w.heap.size,0,none⟩) 4 4 tet v (KT.out v (below_call hB hv (Nat.le_refl _))) (hP.below hv) (by omega)
  rw [checkR_valid.mpr tet_valid] at this
  exact this)).mono ?_
 rintro e w1 ⟨⟨v0,v1,v2,fs,E,vrs,frs,es,rfl,hsh⟩,hb1⟩
 have L1:=Lib.hid (below_call hB hb1 (Nat.le_refl _))
 have SOL:=Lib.hid (tet_solid hsh)
 obtain ⟨f,hf,hfl,hfr,hfq⟩:=tet_face hsh.ok
 have hes:=tet_edges (by have:=hsh.edg;rw [tet_rings hsh.ok] at this;exact this)
 have hfrl:frs.length=4:=by have:=congrArg List.length hsh.val;simp only [List.length_map] at this;omega
 obtain ⟨b,cap1,fr,ev1,hb,hfr3,hcells⟩:=hsh.fcs.nth 3 (by omega)
 obtain ⟨bV,cV,rV,ev0,-,-,-,-,-,-⟩:=hsh.vs.at_ 0 (ptQ (tet 0)) rfl
 have hvl:(ptsQ tet 4).length=4:=rfl
 obtain ⟨p2,c2,ev2⟩:∃ p c,v2=.slice p 6 c:=by
  obtain ⟨_,⟨rfl,h0⟩ | ⟨g,cap,cur,rfl,_⟩⟩:=hsh.eds
  ·omega
  ·exact ⟨_,_,by rw [hes]⟩
 have hvec:=hsh.fcs.vec 3 fr (faceQ tet f) hfr3 (by rw [List.getElem?_map,hf];rfl)
 rw [hfq] at hvec
 have hfv:fr.v=f.v:=by
  have:=congrArg (fun l:List Value=>l[3]?) hsh.val
  simp only [List.getElem?_map,hf,hfr3,Option.map_some] at this
  exact Option.some.inj this
 have hown:=hsh.rows.own f (List.mem_of_getElem? hf)
 rw [← hfv,hfr] at hown
 rw [hfrl] at ev1
 rw [hvl] at ev0
 subst ev0 ev1 ev2
 obtain ⟨⟨n0,n1,n2⟩,ro,fvv⟩:=fr
 simp only [] at hown hvec
 obtain ⟨q1,q2,rfl,hints⟩:=OwnN.ints hown
 obtain ⟨g,og,rfl,hg,hgc,hgd⟩:=hints.cells (by decide)
 have VN:=Lib.hid hvec.1
 have VO:=Lib.hid hvec.2
 have HG:=Lib.hid hg
 have HGD:=Lib.hid hgd
 have HSH:=Lib.hid hsh
 have HC:=Lib.hid hcells
 have HB0:=Lib.hid hb
 clear hsh hvec hown hg hgd hints hf hfl hfr hfq hes hfrl hfr3 hfv hvl hcells hb1 hb hgc hP b1 hB hS hW
 go_upto_region 2 with fail
 obtain ⟨w2,hw2,bs,hB2,hS2⟩:=boxes1 w1 #[.slice (some ⟨bV,0,none⟩) 4 cV,.slice (some ⟨b,0,none⟩) 4 cap1,.slice p2 6 c2] 32
 rw [hw2]
 obtain ⟨x0,x1,x2,-⟩:=bs.three
 have DD:=Lib.hid (show ∀ j,j<17→w2.cell? ⟨b,3*17+j,none⟩=(cells17 n0 n1 n2 ro (some ⟨g,og,none⟩) 3 q2)[j]? from fun j hj=>((hB2.cell (p:=⟨b,3*17+j,none⟩) HB0.out).trans (HC.out j hj)).trans (Array.getElem?_toList (xs:=cells17 n0 n1 n2 ro (some ⟨g,og,none⟩) 3 q2)))
 have BS:=Lib.hid bs
 have H2:=Lib.hid hB2
 have SZ2:=Lib.hid hS2
 clear bs hB2 hS2 hw2
 go_upto_region 5 with (first | refine wpList_load_arr rfl _ _ rfl b (3*17) rfl (cells17 n0 n1 n2 ro (some ⟨g,og,none⟩) 3 q2) _ (fun j hj=>DD.out j hj) Tryz.underlying98 rfl infoF17 ?_ | refine wpList_store_new rfl _ _ _ rfl _ (cells17 n0 n1 n2 ro (some ⟨g,og,none⟩) 3 q2) rfl rfl infoF17 rfl (cells17_one ..) ?_)
 obtain ⟨w3,hw3,bf,hB3,hS3⟩:=boxes1 w2 (cells17 n0 n1 n2 ro (some ⟨g,og,none⟩) 3 q2) 98
 rw [hw3]
 clear x0 x1 x2
 have L2:=Lib.hid (below_call L1.out H2.out (Nat.le_refl _))
 have L3:=Lib.hid (below_call L2.out hB3 (Nat.le_refl _))
 have H13:=Lib.hid (below_call H2.out hB3 (Nat.le_refl _))
 have BF:=Lib.hid bf
 have BS3:=Lib.hid (BS.out.below hB3 BS.out.lt)
 clear bf hB3 hS3 hw3
 have KF:Hid (∀ w',Below w3.heap.size w3 w'→w'.cell? ⟨w2.heap.size,0,none⟩=some (.bool n0.s)∧w'.cell? ⟨w2.heap.size,1,none⟩=some (.slice n0.a n0.n n0.c)∧w'.cell? ⟨w2.heap.size,2,none⟩=some (.bool n0.t)∧w'.cell? ⟨w2.heap.size,3,none⟩=some (.slice n0.b n0.m n0.d)∧w'.cell? ⟨w2.heap.size,4,none⟩=some (.bool n1.s)∧w'.cell? ⟨w2.heap.size,5,none⟩=some (.slice n1.a n1.n n1.c)∧w'.cell? ⟨w2.heap.size,6,none⟩=some (.bool n1.t)∧w'.cell? ⟨w2.heap.size,7,none⟩=some (.slice n1.b n1.m n1.d)∧w'.cell? ⟨w2.heap.size,8,none⟩=some (.bool n2.s)∧w'.cell? ⟨w2.heap.size,9,none⟩=some (.slice n2.a n2.n n2.c)∧w'.cell? ⟨w2.heap.size,10,none⟩=some (.bool n2.t)∧w'.cell? ⟨w2.heap.size,11,none⟩=some (.slice n2.b n2.m n2.d)∧w'.cell? ⟨w2.heap.size,12,none⟩=some (.bool ro.s)∧w'.cell? ⟨w2.heap.size,13,none⟩=some (.slice ro.a ro.n ro.c)∧w'.cell? ⟨w2.heap.size,14,none⟩=some (.bool ro.t)∧w'.cell? ⟨w2.heap.size,15,none⟩=some (.slice ro.b ro.m ro.d)∧w'.cell? ⟨w2.heap.size,16,none⟩=some (.slice (some ⟨g,og,none⟩) 3 q2)):=fun w' h=>by
  have h:=BF.out.below h BF.out.lt
  exact ⟨(h.cell 0).trans rfl,(h.cell 1).trans rfl,(h.cell 2).trans rfl,(h.cell 3).trans rfl,(h.cell 4).trans rfl,(h.cell 5).trans rfl,(h.cell 6).trans rfl,(h.cell 7).trans rfl,(h.cell 8).trans rfl,(h.cell 9).trans rfl,(h.cell 10).trans rfl,(h.cell 11).trans rfl,(h.cell 12).trans rfl,(h.cell 13).trans rfl,(h.cell 14).trans rfl,(h.cell 15).trans rfl,(h.cell 16).trans rfl⟩
 have KS:Hid (∀ w',Below w3.heap.size w3 w'→w'.cell? ⟨w1.heap.size,0,none⟩=some (.slice (some ⟨bV,0,none⟩) 4 cV)∧w'.cell? ⟨w1.heap.size,1,none⟩=some (.slice (some ⟨b,0,none⟩) 4 cap1)∧w'.cell? ⟨w1.heap.size,2,none⟩=some (.slice p2 6 c2)):=fun w' h=>by
  have h:=BS3.out.below h BS3.out.lt
  exact ⟨(h.cell 0).trans rfl,(h.cell 1).trans rfl,(h.cell 2).trans rfl⟩
 have VN3:=Lib.hid (VN.out.below H13.out)
 have VO3:=Lib.hid (VO.out.below H13.out)
 have SOL3:=Lib.hid (SOL.out.below H13.out)
 have HGL:=Lib.hid (Nat.lt_of_lt_of_le HG.out H13.out.size)
 have KI:Hid (∀ w',Below w3.heap.size w3 w'→∀ j,j<3→w'.cell? ⟨g,og+j,none⟩=some (.int .i64 ([1,3,2].getD j 0))):=fun w' h j hj=>by
  rw [h.cell (p:=⟨g,og+j,none⟩) HGL.out,H13.out.cell (p:=⟨g,og+j,none⟩) HG.out,HGD.out j hj]
  have:j=0∨j=1∨j=2:=by omega
  rcases this with rfl | rfl | rfl <;> rfl
 have LE1:Hid (LeV 9007199254740992 (⟨1,1,1⟩:V)):=⟨⟨by decide,by decide⟩,⟨by decide,by decide⟩,⟨by decide,by decide⟩⟩
 have BQ:Hid (BdV 2 ⟨1,1,1⟩):=⟨bd1,bd1,bd1⟩
 have N1:Hid (∀ w',Below w3.heap.size w3 w'→Calls Tryz.prog 46 #[.agg #[.bool ro.s,.slice ro.a ro.n ro.c,.bool ro.t,.slice ro.b ro.m ro.d]] w' fun e w''=>e=.returned (.string ⟨#[49]⟩)∧Below w'.heap.size w' w''):=fun w' h=>by
  have:=number_any _ 1 w' (VO3.out.below h) (by decide) (by decide) (by decide)
  rw [text1] at this
  exact this
 have KV:Hid (∀ w',Below w3.heap.size w3 w'→Calls Tryz.prog 37 #[.agg #[.slice (some ⟨bV,0,none⟩) 4 cV,.slice (some ⟨b,0,none⟩) 4 cap1,.slice p2 6 c2]] w' fun e w''=>RetRat w'' e (1 / 6)∧Below w'.heap.size w' w''):=fun w' h=>by
  have:=volume_any _ _ (.slice p2 6 c2) _ _ _ _ _ w' (SOL3.out.below h)
  rw [tet_sumD] at this
  exact this
 have KC:Hid (∀ w',Below w3.heap.size w3 w'→Calls Tryz.prog 25 #[.agg #[.slice (some ⟨bV,0,none⟩) 4 cV,.slice (some ⟨b,0,none⟩) 4 cap1,.slice p2 6 c2]] w' fun e w''=>RetVec w'' e ⟨1 / 4,1 / 4,1 / 4⟩∧Below w'.heap.size w' w''):=fun w' h=>by
  have:=centre_any _ _ (.slice p2 6 c2) _ _ _ _ _ w' (SOL3.out.below h) (by rw [tet_sumD];decide)
  rw [tet_sumD,tet_sumC,quarter] at this
  exact this
 refine wp_region_b (rest:=0) [isV 0 (.pointer (some ⟨w2.heap.size,0,none⟩)),isV 1 (.agg #[.bool n0.s,.slice n0.a n0.n n0.c,.bool n0.t,.slice n0.b n0.m n0.d,.bool n1.s,.slice n1.a n1.n n1.c,.bool n1.t,.slice n1.b n1.m n1.d,.bool n2.s,.slice n2.a n2.n n2.c,.bool n2.t,.slice n2.b n2.m n2.d]),isV 2 (.agg #[.int .i64 1,.int .i64 1,.int .i64 1]),isP 3 (fun v w=>IsVec w v ⟨((1:Int):Rat),((1:Int):Rat),((1:Int):Rat)⟩),isV 4 (.bool true),isV 5 (.bool true),isV 6 (.pointer (some ⟨w2.heap.size,12,none⟩)),isV 7 (.agg #[.bool ro.s,.slice ro.a ro.n ro.c,.bool ro.t,.slice ro.b ro.m ro.d]),isV 8 (.string ⟨#[49]⟩),isV 9 (.bool true),isV 10 (.bool true),isV 11 (.bool true),isV 12 (.pointer (some ⟨w2.heap.size,16,none⟩)),isV 13 (.slice (some ⟨g,og,none⟩) 3 q2),isP 14 (fun v w=>∃ gb,v=.slice (some ⟨gb,0,none⟩) 3 3∧Box w gb #[.int .i64 1,.int .i64 3,.int .i64 2] 3),isV 15 (.bool true),isV 16 (.bool true),isV 17 (.bool true),isV 18 (.agg #[.slice (some ⟨bV,0,none⟩) 4 cV,.slice (some ⟨b,0,none⟩) 4 cap1,.slice p2 6 c2]),isP 19 (fun v w=>IsRat w v (1 / 6)),isV 20 (.string ⟨#[49,47,54]⟩),isV 21 (.bool true),isV 22 (.bool true),isV 23 (.bool true),isV 24 (.agg #[.slice (some ⟨bV,0,none⟩) 4 cV,.slice (some ⟨b,0,none⟩) 4 cap1,.slice p2 6 c2]),isP 25 (fun v w=>IsVec w v ⟨1 / 4,1 / 4,1 / 4⟩),isV 26 (.agg #[.string ⟨#[49,47,52]⟩,.string ⟨#[49,47,52]⟩,.string ⟨#[49,47,52]⟩]),isV 27 (.agg #[.string ⟨#[49,47,52]⟩,.string ⟨#[49,47,52]⟩,.string ⟨#[49,47,52]⟩]),isV 28 (.bool true),isV 29 (.bool true),isV 30 (.bool true)] [] ?A5 #[true,true,true,true,true,true,true,true,true,true,true,true,true,true,true,true,true,true,true,true,true,true,true,true,true,true,true,true,true,true,true] (by kernel_rfl) [0,1,2,3,4,5,6,7,8,9,10,11,12,13,14,15,16,17,18,19,20,21,22,23,24,25,26,27,28,29,30] (by kernel_rfl) (by kernel_rfl) (by kernel_rfl) (by kernel_rfl) (by kernel_rfl) (by kernel_rfl) ?st ?hA ?hop ?hend
 case hA =>
  intro y
  simp only [putAll,dstOf,List.getElem?_toArray,List.getElem?_cons_zero,List.getElem?_cons_succ,Option.bind_some,Act.put,List.setIfInBounds_toArray,List.set_cons_zero,List.set_cons_succ]
  exact rfl
 case st=>exact StabL.cons isV.stab (StabL.cons isV.stab (StabL.cons isV.stab (StabL.cons (isP.stab (fun _ _ _ h hv=>hv.below h)) (StabL.cons isV.stab (StabL.cons isV.stab (StabL.cons isV.stab (StabL.cons isV.stab (StabL.cons isV.stab (StabL.cons isV.stab (StabL.cons isV.stab (StabL.cons isV.stab (StabL.cons isV.stab (StabL.cons isV.stab (StabL.cons (isP.stab (fun _ _ _ h ⟨gb,e,hb⟩=>⟨gb,e,hb.below h hb.lt⟩)) (StabL.cons isV.stab (StabL.cons isV.stab (StabL.cons isV.stab (StabL.cons isV.stab (StabL.cons (isP.stab (fun _ _ _ h hv=>hv.below h)) (StabL.cons isV.stab (StabL.cons isV.stab (StabL.cons isV.stab (StabL.cons isV.stab (StabL.cons isV.stab (StabL.cons (isP.stab (fun _ _ _ h hv=>hv.below h)) (StabL.cons isV.stab (StabL.cons isV.stab (StabL.cons isV.stab (StabL.cons isV.stab (StabL.cons isV.stab (StabL.nil)))))))))))))))))))))))))))))))
 case hop =>
  refine OpsOk.cons (i:=0) rfl (fun y w' hS hD K hK=>?_) ?_
  ·as_aux_lemma =>
   go_simp
   exact hK.out _ w' hS (Below.refl _ _) isV.put (fun h=>absurd h (by decide))
  refine OpsOk.cons (i:=1) rfl (fun y w' hS hD K hK=>?_) ?_
  ·as_aux_lemma =>
   have e0:y 0=.pointer (some ⟨w2.heap.size,0,none⟩):=isV.get (i:=0) (c:=.pointer (some ⟨w2.heap.size,0,none⟩)) (hD 0 (by kernel_rfl))
   obtain ⟨c0,c1,c2,c3,c4,c5,c6,c7,c8,c9,c10,c11,c12,c13,c14,c15,c16⟩:=KF.out w' hS
   simp only [e0] at hK ⊢
   go_simp
   exact hK.out _ w' hS (Below.refl _ _) isV.put (fun h=>absurd h (by decide))
  refine OpsOk.cons (i:=2) rfl (fun y w' hS hD K hK=>?_) ?_
  ·as_aux_lemma =>
   go_simp
   exact hK.out _ w' hS (Below.refl _ _) isV.put (fun h=>absurd h (by decide))
  refine OpsOk.cons (i:=3) rfl (fun y w' hS hD K hK=>?_) ?_
  ·as_aux_lemma =>
   have e2:y 2=.agg #[.int .i64 1,.int .i64 1,.int .i64 1]:=isV.get (i:=2) (c:=.agg #[.int .i64 1,.int .i64 1,.int .i64 1]) (hD 2 (by kernel_rfl))
   simp only [e2] at hK ⊢
   go_simp
   refine (VOf_any ⟨1,1,1⟩ w' LE1.out).mono ?_
   rintro e w'' ⟨⟨v,rfl,hv⟩,hb⟩
   exact hK.out v w'' (below_call hS hb (Nat.le_refl _)) hb (isP.put hv) (fun h=>absurd h (by decide))
  refine OpsOk.cons (i:=4) rfl (fun y w' hS hD K hK=>?_) ?_
  ·as_aux_lemma =>
   have e1:y 1=.agg #[.bool n0.s,.slice n0.a n0.n n0.c,.bool n0.t,.slice n0.b n0.m n0.d,.bool n1.s,.slice n1.a n1.n n1.c,.bool n1.t,.slice n1.b n1.m n1.d,.bool n2.s,.slice n2.a n2.n n2.c,.bool n2.t,.slice n2.b n2.m n2.d]:=isV.get (i:=1) (c:=.agg #[.bool n0.s,.slice n0.a n0.n n0.c,.bool n0.t,.slice n0.b n0.m n0.d,.bool n1.s,.slice n1.a n1.n n1.c,.bool n1.t,.slice n1.b n1.m n1.d,.bool n2.s,.slice n2.a n2.n n2.c,.bool n2.t,.slice n2.b n2.m n2.d]) (hD 1 (by kernel_rfl))
   have e3:=isP.get (i:=3) (p:=fun v w=>IsVec w v ⟨((1:Int):Rat),((1:Int):Rat),((1:Int):Rat)⟩) (hD 3 (by kernel_rfl))
   simp only [e1] at hK ⊢
   go_simp
   refine (VEqual_any _ _ ⟨1,1,1⟩ ⟨((1:Int):Rat),((1:Int):Rat),((1:Int):Rat)⟩ 2 2 w' (VN3.out.below hS) e3 BQ.out BQ.out (by omega)).mono ?_
   rintro e w'' ⟨⟨r,rfl,hr⟩,hb⟩
   obtain rfl:=hr.mpr rfl
   exact hK.out _ w'' (below_call hS hb (Nat.le_refl _)) hb isV.put (fun h=>absurd h (by decide))
  refine OpsOk.cons (i:=5) rfl (fun y w' hS hD K hK=>?_) ?_
  ·as_aux_lemma =>
   have e4:y 4=.bool true:=isV.get (i:=4) (c:=.bool true) (hD 4 (by kernel_rfl))
   simp only [e4] at hK ⊢
   go_simp
   exact hK.out _ w' hS (Below.refl _ _) isV.put (fun h=>absurd h (by decide))
  refine OpsOk.cons (i:=6) rfl (fun y w' hS hD K hK=>?_) ?_
  ·as_aux_lemma =>
   have e5:y 5=.bool true:=isV.get (i:=5) (c:=.bool true) (hD 5 (by kernel_rfl))
   simp only [e5] at hK ⊢
   go_simp
   exact hK.out _ w' hS (Below.refl _ _) isV.put (fun h=>absurd h (by decide))
  refine OpsOk.cons (i:=7) rfl (fun y w' hS hD K hK=>?_) ?_
  ·as_aux_lemma =>
   have e5:y 5=.bool true:=isV.get (i:=5) (c:=.bool true) (hD 5 (by kernel_rfl))
   have e6:y 6=.pointer (some ⟨w2.heap.size,12,none⟩):=isV.get (i:=6) (c:=.pointer (some ⟨w2.heap.size,12,none⟩)) (hD 6 (by kernel_rfl))
   obtain ⟨c0,c1,c2,c3,c4,c5,c6,c7,c8,c9,c10,c11,c12,c13,c14,c15,c16⟩:=KF.out w' hS
   simp only [e5,e6] at hK ⊢
   go_simp
   exact hK.out _ w' hS (Below.refl _ _) isV.put (fun h=>absurd h (by decide))
  refine OpsOk.cons (i:=8) rfl (fun y w' hS hD K hK=>?_) ?_
  ·as_aux_lemma =>
   have e5:y 5=.bool true:=isV.get (i:=5) (c:=.bool true) (hD 5 (by kernel_rfl))
   have e7:y 7=.agg #[.bool ro.s,.slice ro.a ro.n ro.c,.bool ro.t,.slice ro.b ro.m ro.d]:=isV.get (i:=7) (c:=.agg #[.bool ro.s,.slice ro.a ro.n ro.c,.bool ro.t,.slice ro.b ro.m ro.d]) (hD 7 (by kernel_rfl))
   simp only [e5,e7] at hK ⊢
   go_simp
   refine (N1.out w' hS).mono ?_
   rintro e w'' ⟨rfl,hb⟩
   exact hK.out _ w'' (below_call hS hb (Nat.le_refl _)) hb isV.put (fun h=>absurd h (by decide))
  refine OpsOk.cons (i:=9) rfl (fun y w' hS hD K hK=>?_) ?_
  ·as_aux_lemma =>
   have e5:y 5=.bool true:=isV.get (i:=5) (c:=.bool true) (hD 5 (by kernel_rfl))
   have e8:y 8=.string ⟨#[49]⟩:=isV.get (i:=8) (c:=.string ⟨#[49]⟩) (hD 8 (by kernel_rfl))
   simp only [e5,e8] at hK ⊢
   go_simp
   exact hK.out _ w' hS (Below.refl _ _) isV.put (fun h=>absurd h (by decide))
  refine OpsOk.cons (i:=10) rfl (fun y w' hS hD K hK=>?_) ?_
  ·as_aux_lemma =>
   have e5:y 5=.bool true:=isV.get (i:=5) (c:=.bool true) (hD 5 (by kernel_rfl))
   have e9:y 9=.bool true:=isV.get (i:=9) (c:=.bool true) (hD 9 (by kernel_rfl))
   simp only [e5,e9] at hK ⊢
   go_simp
   exact hK.out _ w' hS (Below.refl _ _) isV.put (fun h=>absurd h (by decide))
  refine OpsOk.cons (i:=11) rfl (fun y w' hS hD K hK=>?_) ?_
  ·as_aux_lemma =>
   have e10:y 10=.bool true:=isV.get (i:=10) (c:=.bool true) (hD 10 (by kernel_rfl))
   simp only [e10] at hK ⊢
   go_simp
   exact hK.out _ w' hS (Below.refl _ _) isV.put (fun h=>absurd h (by decide))
  refine OpsOk.cons (i:=12) rfl (fun y w' hS hD K hK=>?_) ?_
  ·as_aux_lemma =>
   have e11:y 11=.bool true:=isV.get (i:=11) (c:=.bool true) (hD 11 (by kernel_rfl))
   simp only [e11] at hK ⊢
   go_simp
   exact hK.out _ w' hS (Below.refl _ _) isV.put (fun h=>absurd h (by decide))
  refine OpsOk.cons (i:=13) rfl (fun y w' hS hD K hK=>?_) ?_
  ·as_aux_lemma =>
   have e11:y 11=.bool true:=isV.get (i:=11) (c:=.bool true) (hD 11 (by kernel_rfl))
   have e12:y 12=.pointer (some ⟨w2.heap.size,16,none⟩):=isV.get (i:=12) (c:=.pointer (some ⟨w2.heap.size,16,none⟩)) (hD 12 (by kernel_rfl))
   obtain ⟨c0,c1,c2,c3,c4,c5,c6,c7,c8,c9,c10,c11,c12,c13,c14,c15,c16⟩:=KF.out w' hS
   simp only [e11,e12] at hK ⊢
   go_simp
   exact hK.out _ w' hS (Below.refl _ _) isV.put (fun h=>absurd h (by decide))
  refine OpsOk.cons (i:=14) rfl (fun y w' hS hD K hK=>?_) ?_
  ·as_aux_lemma =>
   have e11:y 11=.bool true:=isV.get (i:=11) (c:=.bool true) (hD 11 (by kernel_rfl))
   simp only [e11] at hK ⊢
   go_simp
   exact hK.out _ _ (hS.alloc hS.size _) ((Below.refl _ _).alloc (Nat.le_refl _) _) (isP.put ⟨_,rfl,Box.new _ _ _ _ rfl⟩) (fun h=>absurd h (by decide))
  refine OpsOk.cons (i:=15) rfl (fun y w' hS hD K hK=>?_) ?_
  ·as_aux_lemma =>
   have e11:y 11=.bool true:=isV.get (i:=11) (c:=.bool true) (hD 11 (by kernel_rfl))
   have e13:y 13=.slice (some ⟨g,og,none⟩) 3 q2:=isV.get (i:=13) (c:=.slice (some ⟨g,og,none⟩) 3 q2) (hD 13 (by kernel_rfl))
   have e14:=isP.get (i:=14) (p:=fun v w=>∃ gb,v=.slice (some ⟨gb,0,none⟩) 3 3∧Box w gb #[.int .i64 1,.int .i64 3,.int .i64 2] 3) (hD 14 (by kernel_rfl))
   obtain ⟨gb,eb,bb⟩:=e14
   simp only [e11,e13,eb] at hK ⊢
   go_simp
   refine (ints_same g og q2 gb 0 3 3 (fun j=>[1,3,2].getD j 0) w' (by omega) (Nat.lt_of_lt_of_le HGL.out hS.size) bb.lt (KI.out w' hS) (fun j hj=>?_)).mono ?_
   ·have:j=0∨j=1∨j=2:=by omega
    rcases this with rfl | rfl | rfl <;> exact (bb.cell _).trans rfl
   rintro e w'' ⟨rfl,hb⟩
   exact hK.out _ w'' (below_call hS hb (Nat.le_refl _)) hb isV.put (fun h=>absurd h (by decide))
  refine OpsOk.cons (i:=16) rfl (fun y w' hS hD K hK=>?_) ?_
  ·as_aux_lemma =>
   have e11:y 11=.bool true:=isV.get (i:=11) (c:=.bool true) (hD 11 (by kernel_rfl))
   have e15:y 15=.bool true:=isV.get (i:=15) (c:=.bool true) (hD 15 (by kernel_rfl))
   simp only [e11,e15] at hK ⊢
   go_simp
   exact hK.out _ w' hS (Below.refl _ _) isV.put (fun h=>absurd h (by decide))
  refine OpsOk.cons (i:=17) rfl (fun y w' hS hD K hK=>?_) ?_
  ·as_aux_lemma =>
   have e16:y 16=.bool true:=isV.get (i:=16) (c:=.bool true) (hD 16 (by kernel_rfl))
   simp only [e16] at hK ⊢
   go_simp
   exact hK.out _ w' hS (Below.refl _ _) isV.put (fun h=>absurd h (by decide))
  refine OpsOk.cons (i:=18) rfl (fun y w' hS hD K hK=>?_) ?_
  ·as_aux_lemma =>
   have e17:y 17=.bool true:=isV.get (i:=17) (c:=.bool true) (hD 17 (by kernel_rfl))
   obtain ⟨c0,c1,c2⟩:=KS.out w' hS
   simp only [e17] at hK ⊢
   go_simp
   exact hK.out _ w' hS (Below.refl _ _) isV.put (fun h=>absurd h (by decide))
  refine OpsOk.cons (i:=19) rfl (fun y w' hS hD K hK=>?_) ?_
  ·as_aux_lemma =>
   have e17:y 17=.bool true:=isV.get (i:=17) (c:=.bool true) (hD 17 (by kernel_rfl))
   have e18:y 18=.agg #[.slice (some ⟨bV,0,none⟩) 4 cV,.slice (some ⟨b,0,none⟩) 4 cap1,.slice p2 6 c2]:=isV.get (i:=18) (c:=.agg #[.slice (some ⟨bV,0,none⟩) 4 cV,.slice (some ⟨b,0,none⟩) 4 cap1,.slice p2 6 c2]) (hD 18 (by kernel_rfl))
   simp only [e17,e18] at hK ⊢
   go_simp
   refine (KV.out w' hS).mono ?_
   rintro e w'' ⟨⟨v,rfl,hv⟩,hb⟩
   exact hK.out v w'' (below_call hS hb (Nat.le_refl _)) hb (isP.put hv) (fun h=>absurd h (by decide))
  refine OpsOk.cons (i:=20) rfl (fun y w' hS hD K hK=>?_) ?_
  ·as_aux_lemma =>
   have e17:y 17=.bool true:=isV.get (i:=17) (c:=.bool true) (hD 17 (by kernel_rfl))
   have e19:=isP.get (i:=19) (p:=fun v w=>IsRat w v (1 / 6)) (hD 19 (by kernel_rfl))
   simp only [e17] at hK ⊢
   go_simp
   refine (N6 _ w' e19).mono ?_
   rintro e w'' ⟨rfl,hb⟩
   exact hK.out _ w'' (below_call hS hb (Nat.le_refl _)) hb isV.put (fun h=>absurd h (by decide))
  refine OpsOk.cons (i:=21) rfl (fun y w' hS hD K hK=>?_) ?_
  ·as_aux_lemma =>
   have e17:y 17=.bool true:=isV.get (i:=17) (c:=.bool true) (hD 17 (by kernel_rfl))
   have e20:y 20=.string ⟨#[49,47,54]⟩:=isV.get (i:=20) (c:=.string ⟨#[49,47,54]⟩) (hD 20 (by kernel_rfl))
   simp only [e17,e20] at hK ⊢
   go_simp
   exact hK.out _ w' hS (Below.refl _ _) isV.put (fun h=>absurd h (by decide))
  refine OpsOk.cons (i:=22) rfl (fun y w' hS hD K hK=>?_) ?_
  ·as_aux_lemma =>
   have e17:y 17=.bool true:=isV.get (i:=17) (c:=.bool true) (hD 17 (by kernel_rfl))
   have e21:y 21=.bool true:=isV.get (i:=21) (c:=.bool true) (hD 21 (by kernel_rfl))
   simp only [e17,e21] at hK ⊢
   go_simp
   exact hK.out _ w' hS (Below.refl _ _) isV.put (fun h=>absurd h (by decide))
  refine OpsOk.cons (i:=23) rfl (fun y w' hS hD K hK=>?_) ?_
  ·as_aux_lemma =>
   have e22:y 22=.bool true:=isV.get (i:=22) (c:=.bool true) (hD 22 (by kernel_rfl))
   simp only [e22] at hK ⊢
   go_simp
   exact hK.out _ w' hS (Below.refl _ _) isV.put (fun h=>absurd h (by decide))
  refine OpsOk.cons (i:=24) rfl (fun y w' hS hD K hK=>?_) ?_
  ·as_aux_lemma =>
   have e23:y 23=.bool true:=isV.get (i:=23) (c:=.bool true) (hD 23 (by kernel_rfl))
   obtain ⟨c0,c1,c2⟩:=KS.out w' hS
   simp only [e23] at hK ⊢
   go_simp
   exact hK.out _ w' hS (Below.refl _ _) isV.put (fun h=>absurd h (by decide))
  refine OpsOk.cons (i:=25) rfl (fun y w' hS hD K hK=>?_) ?_
  ·as_aux_lemma =>
   have e23:y 23=.bool true:=isV.get (i:=23) (c:=.bool true) (hD 23 (by kernel_rfl))
   have e24:y 24=.agg #[.slice (some ⟨bV,0,none⟩) 4 cV,.slice (some ⟨b,0,none⟩) 4 cap1,.slice p2 6 c2]:=isV.get (i:=24) (c:=.agg #[.slice (some ⟨bV,0,none⟩) 4 cV,.slice (some ⟨b,0,none⟩) 4 cap1,.slice p2 6 c2]) (hD 24 (by kernel_rfl))
   simp only [e23,e24] at hK ⊢
   go_simp
   refine (KC.out w' hS).mono ?_
   rintro e w'' ⟨⟨v,rfl,hv⟩,hb⟩
   exact hK.out v w'' (below_call hS hb (Nat.le_refl _)) hb (isP.put hv) (fun h=>absurd h (by decide))
  refine OpsOk.cons (i:=26) rfl (fun y w' hS hD K hK=>?_) ?_
  ·as_aux_lemma =>
   have e23:y 23=.bool true:=isV.get (i:=23) (c:=.bool true) (hD 23 (by kernel_rfl))
   have e25:=isP.get (i:=25) (p:=fun v w=>IsVec w v ⟨1 / 4,1 / 4,1 / 4⟩) (hD 25 (by kernel_rfl))
   simp only [e23] at hK ⊢
   go_simp
   refine (N4 _ w' e25).mono ?_
   rintro e w'' ⟨rfl,hb⟩
   exact hK.out _ w'' (below_call hS hb (Nat.le_refl _)) hb isV.put (fun h=>absurd h (by decide))
  refine OpsOk.cons (i:=27) rfl (fun y w' hS hD K hK=>?_) ?_
  ·as_aux_lemma =>
   have e23:y 23=.bool true:=isV.get (i:=23) (c:=.bool true) (hD 23 (by kernel_rfl))
   simp only [e23] at hK ⊢
   go_simp
   exact hK.out _ w' hS (Below.refl _ _) isV.put (fun h=>absurd h (by decide))
  refine OpsOk.cons (i:=28) rfl (fun y w' hS hD K hK=>?_) ?_
  ·as_aux_lemma =>
   have e23:y 23=.bool true:=isV.get (i:=23) (c:=.bool true) (hD 23 (by kernel_rfl))
   have e26:y 26=.agg #[.string ⟨#[49,47,52]⟩,.string ⟨#[49,47,52]⟩,.string ⟨#[49,47,52]⟩]:=isV.get (i:=26) (c:=.agg #[.string ⟨#[49,47,52]⟩,.string ⟨#[49,47,52]⟩,.string ⟨#[49,47,52]⟩]) (hD 26 (by kernel_rfl))
   have e27:y 27=.agg #[.string ⟨#[49,47,52]⟩,.string ⟨#[49,47,52]⟩,.string ⟨#[49,47,52]⟩]:=isV.get (i:=27) (c:=.agg #[.string ⟨#[49,47,52]⟩,.string ⟨#[49,47,52]⟩,.string ⟨#[49,47,52]⟩]) (hD 27 (by kernel_rfl))
   have eqp:=eqPoint ⟨#[49,47,52]⟩ ⟨#[49,47,52]⟩ ⟨#[49,47,52]⟩ w'
   simp only [e23,e26,e27] at hK ⊢
   go_simp
   exact hK.out _ w' hS (Below.refl _ _) isV.put (fun h=>absurd h (by decide))
  refine OpsOk.cons (i:=29) rfl (fun y w' hS hD K hK=>?_) ?_
  ·as_aux_lemma =>
   have e23:y 23=.bool true:=isV.get (i:=23) (c:=.bool true) (hD 23 (by kernel_rfl))
   have e28:y 28=.bool true:=isV.get (i:=28) (c:=.bool true) (hD 28 (by kernel_rfl))
   simp only [e23,e28] at hK ⊢
   go_simp
   exact hK.out _ w' hS (Below.refl _ _) isV.put (fun h=>absurd h (by decide))
  refine OpsOk.cons (i:=30) rfl (fun y w' hS hD K hK=>?_) ?_
  ·as_aux_lemma =>
   have e29:y 29=.bool true:=isV.get (i:=29) (c:=.bool true) (hD 29 (by kernel_rfl))
   simp only [e29] at hK ⊢
   go_simp
   exact hK.out _ w' hS (Below.refl _ _) isV.put (fun h=>absurd h (by decide))
  exact OpsOk.nil
 case hend =>
  intro y w' hS hR hF
  refine wpAny_over (by kernel_rfl) ?_
  have e30:y 30=.bool true:=isV.get (i:=30) (c:=.bool true) (hR 30 (by kernel_rfl))
  simp only [e30]
  have HS9:=Lib.hid (L3.out.trans (hS.mono L3.out.size))
  clear hS hR hF
  go_wp2_with fail
  go_ret
  exact ⟨rfl,HS9.out⟩
end Go.Proofs.YtaibkpbklfodiaaGreatDoor
end
