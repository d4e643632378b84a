/- A shape's tetrahedra; those of the first example. Volumes and centres of shapes of points (plain). What the statements over hulls share: the shape of a hull; lists of ints that are the same. Where the mean of the vertices, the centre of mass, a vertex and a point beyond it lie (plain). Bounds of the faces and of the points of a shape (plain). Package cell: Extent and Support. Printed by gen/extent.py. The library's BinarySearchFunc at vectors of rationals. The reference's walk around a face, and where it says that a point lies (plain). The reference's faces in memory: records of planes and lists of vertices. The reference: before, the order of lists of ints. The reference: follow. The reference: walk, from vertex to vertex around a face. Sums over the triangles of faces, step by step (plain). The first example. Printed by gen/known.py. -/
import Derived.Test.YtaibkpbklfodiaaGreatDoorP31
import Derived.Test.YtaibkpbklfodiaaGreatDoorP21
import Derived.Test.YtaibkpbklfodiaaGreatDoorP2
import Derived.Test.YtaibkpbklfodiaaGreatDoorP25
import Derived.Test.YtaibkpbklfodiaaGreatDoorP14
import Derived.Test.YtaibkpbklfodiaaGreatDoorP34
import Derived.Test.YtaibkpbklfodiaaGreatDoorP16
import Derived.Test.YtaibkpbklfodiaaGreatDoorP33
import Derived.Test.YtaibkpbklfodiaaGreatDoorP30
import Derived.Test.YtaibkpbklfodiaaGreatDoorP1
import Derived.Test.YtaibkpbklfodiaaGreatDoorP19
import Derived.Test.YtaibkpbklfodiaaGreatDoorP29
import Derived.Test.YtaibkpbklfodiaaGreatDoorP47
import Derived.Test.YtaibkpbklfodiaaGreatDoorP5
set_option linter.all false
set_option maxHeartbeats 100000000
section
namespace Dowel
open V Go
theorem ji (P:Nat→V) (len i:Nat):qAt (cG P len) i=if i<len then ptQ (P i) else ⟨0,0,0⟩:=by
 unfold qAt cG;rw [List.getD_eq_getElem?_getD,List.getElem?_map];by_cases h:i<len
 ·rw [List.getElem?_range h,if_pos h];rfl
 ·rw [List.getElem?_eq_none (by simp;omega),if_neg h];rfl
theorem frac_pt {p:V} (h:LeV 4096 p):bQ 1 4096 (ptQ p):=by
 obtain ⟨h1,h2,h3⟩:=h;unfold Le at h1 h2 h3;exact ⟨cL.int _ _ ω,cL.int _ _ ω,cL.int _ _ ω⟩
theorem ShapeOk.solid {P:Nat→V} {len base:Nat} {w:World} {v0 v1 v2:Value} {fs:List RF} {E:Nat} {vrs:List (RC × RC × RC)} {frs:List FR} {es:List ED} (h:ShapeOk P len base w v0 v1 v2 fs E vrs frs es)
  (h0:0<len) (h64:len≤64) (hf:fs.length≤262144) (hn:∀ i,i<len→LeV 4096 (P i)) (hr:∀ f ∈ fs,f.r≠[]∧∀ i ∈ f.r,i<len):SolidF w v0 v1 (cG P len) frs (fs.map RF.r) 1 4096 where
 sol:={
  vs:=⟨_,_,h.vs⟩
  fs:=⟨_,_,h.fcs⟩
  rows:=fun i f r hi hri=>by
   rw [List.getElem?_map] at hri;obtain ⟨g,hg,e⟩:=Option.map_eq_some_iff.mp hri;have hv:=congrArg (fun l:List Value=>l[i]?) h.val;simp only [List.getElem?_map,hi,hg,Option.map_some] at hv;have:=h.rows.own g (List.mem_of_getElem? hg);rw [Option.some.inj hv,← e];exact ⟨_,this⟩
  len:=by have:=congrArg List.length h.val;simp only [List.length_map] at this;rw [List.length_map,this]
  max:=by have:=congrArg List.length h.val;simp only [List.length_map] at this;omega
  vmax:=by unfold cG;simp;omega
  ring:=fun r hm=>by
   obtain ⟨f,hf,rfl⟩:=List.mem_map.mp hm;refine ⟨h.rows.short f hf,(hr f hf).1,fun i hi=>?_⟩;have:=(hr f hf).2 i hi;unfold cG;simpa using this
  bd:=fun q hq=>by
   unfold cG at hq;obtain ⟨i,hi,rfl⟩:=List.mem_map.mp hq;exact (gJ ((hn i (List.mem_range.mp hi)).mono ω)).mono ω }
 dpos:=ω
 dmax:=ω
 mmax:=ω
 frac:=fun i=>by
  rw [ji]
  split
  ·exact frac_pt (hn i (by assumption))
  ·exact ⟨(cL.zero 1).mono ω,(cL.zero 1).mono ω,(cL.zero 1).mono ω⟩
theorem mJ:bC (am (qAt (cG tet 4)) [[0,1,2],[0,2,3],[0,3,1],[1,3,2]])=1:=by decide +kernel
theorem tet_sumC:fJ (am (qAt (cG tet 4)) [[0,1,2],[0,2,3],[0,3,1],[1,3,2]])=⟨1,1,1⟩:=by
 have h:(fJ (am (qAt (cG tet 4)) [[0,1,2],[0,2,3],[0,3,1],[1,3,2]])).x=1∧(fJ (am (qAt (cG tet 4)) [[0,1,2],[0,2,3],[0,3,1],[1,3,2]])).y=1∧(fJ (am (qAt (cG tet 4)) [[0,1,2],[0,2,3],[0,3,1],[1,3,2]])).z=1:=by decide +kernel
 generalize fJ (am (qAt (cG tet 4)) [[0,1,2],[0,2,3],[0,3,1],[1,3,2]])=q at *;obtain ⟨x,y,z⟩:=q;obtain ⟨rfl,rfl,rfl⟩:=h
 rfl
theorem tet_solid {base:Nat} {w:World} {v0 v1 v2:Value} {fs:List RF} {E:Nat} {vrs:List (RC × RC × RC)} {frs:List FR} {es:List ED} (h:ShapeOk tet 4 base w v0 v1 v2 fs E vrs frs es) :
  SolidF w v0 v1 (cG tet 4) frs [[0,1,2],[0,2,3],[0,3,1],[1,3,2]] 1 4096:=by
 have hr:=kM h.ok
 have:=h.solid ω ω (by have:=congrArg List.length hr;simp only [List.length_map] at this;rw [this];decide) (fun i hi=>by
  unfold tet LeV Le;refine ⟨?_,?_,?_⟩
  ·show -4096≤(if i=3 then (1:Int) else 0)∧(if i=3 then (1:Int) else 0)≤4096;split <;> omega
  ·show -4096≤(if i=2 then (1:Int) else 0)∧(if i=2 then (1:Int) else 0)≤4096;split <;> omega
  ·show -4096≤(if i=1 then (1:Int) else 0)∧(if i=1 then (1:Int) else 0)≤4096;split <;> omega) (fun f hf=>by
  have hm:f.r ∈ fs.map RF.r:=List.mem_map.mpr ⟨f,hf,rfl⟩;rw [hr] at hm;generalize f.r=r at *;revert r
  decide)
 rw [hr] at this;exact this
end Dowel
end

section
namespace Dowel
open V
theorem mj (a b:V):qsub (ptQ a) (ptQ b)=ptQ (a - b):=by
 unfold qsub ptQ;simp only [sub_x,sub_y,sub_z,Rat.intCast_sub]
theorem qcross_pt (a b:V):iK (ptQ a) (ptQ b)=ptQ (cross a b):=by
 unfold iK ptQ cross;simp only [Rat.intCast_sub,Rat.intCast_mul]
theorem jg (e a b:Q3):dw e (qadd a b)=dw e a+dw e b:=by unfold dw qadd;grind
theorem lH (e a:Q3) (k:Rat):dw e (qscale k a)=k*dw e a:=by unfold dw qscale;grind
theorem pieceD_pt (t a b c:V):ib (ptQ t) (ptQ a) (ptQ b) (ptQ c)=((dot (a - t) (cross (b - t) (c - t)):Int):Rat):=by
 unfold ib;rw [mj,mj,mj,qcross_pt,jh]
theorem pieceC_pt (e t a b c:V):dw (ptQ e) (gH (ptQ t) (ptQ a) (ptQ b) (ptQ c))=((dot e a+dot e b+(dot e c+dot e t):Int):Rat):=by
 unfold gH;rw [jg,jg,jg,jh,jh,jh,jh];simp only [Rat.intCast_add]
theorem sumD_append (l m:List (Rat × Q3)):bC (l ++ m)=bC l+bC m:=by
 revert m;refine kd ?_ ?_
 ·rw [List.append_nil,show bC []=0 from rfl,Rat.add_zero]
 ·intro m x ih
  rw [← List.append_assoc,eE,ih,eE,Rat.add_assoc]
theorem sumC_dot (e:Q3):∀ l:List (Rat × Q3),dw e (fJ l)=bC (l.map fun x=>(x.1*dw e x.2,x.2)):=by
 refine kd ?_ ?_
 ·show dw e ⟨0,0,0⟩=0
  unfold dw;grind
 ·intro l x ih
  rw [kO,jg,lH,ih,List.map_append,List.map_cons,List.map_nil,eE]
theorem jI (f:Nat→Rat × Q3) (g:Nat→Int):∀ n,(∀ k,k<n→(f k).1=((g k:Int):Rat))→bC ((List.range n).map f)=((((List.range n).map g).sum:Int):Rat)
 | 0,_=>by simp [bC]
 | n+1,h=>by
  rw [List.range_succ,List.map_append,List.map_append,List.map_cons,List.map_nil,List.map_cons,List.map_nil,eE,jI f g n fun k hk=>h k ω,h n ω,dI,Rat.intCast_add];simp
theorem kN (F:List Nat→List (Rat × Q3)) (G:List Nat→Int):∀ rs:List (List Nat),(∀ r ∈ rs,bC (F r)=((G r:Int):Rat))→bC (rs.flatMap F)=(((rs.map G).sum:Int):Rat)
 | [],_=>by simp [bC]
 | r :: rs,h=>by
  rw [List.flatMap_cons,sumD_append,h r (List.mem_cons_self ..),kN F G rs fun r hr=>h r (List.mem_cons_of_mem _ hr),List.map_cons,List.sum_cons,Rat.intCast_add]
variable {P : Nat → V} {N : Nat}
theorem ku {r:List Nat} {k:Nat} (h:k<r.length):r.getD k 0 ∈ r:=by
 rw [show r.getD k 0=r[k] by simp [h]];exact List.getElem_mem h
theorem lO {r:List Nat} (hN:0<N) (hr:∀ i ∈ r,i<N) {k:Nat} (hk:k+2<r.length) :
  ia (qAt (cG P N)) r k=(((fI P 0 (r.getD 0 0) (r.getD (k+1) 0) (r.getD (k+2) 0):Int):Rat),gH (ptQ (P 0)) (ptQ (P (r.getD 0 0))) (ptQ (P (r.getD (k+1) 0))) (ptQ (P (r.getD (k+2) 0)))):=by
 have h1:=hr _ (ku (show 0<r.length by omega));have h2:=hr _ (ku (show k+1<r.length by omega));have h3:=hr _ (ku hk);unfold ia;rw [ji,ji,ji,ji,if_pos hN,if_pos h1,if_pos h2,if_pos h3,pieceD_pt]
 rfl
theorem sumD_pts {rs:List (List Nat)} (hN:0<N) (hr:∀ r ∈ rs,∀ i ∈ r,i<N):bC (am (qAt (cG P N)) rs)=(((rs.map (fan (fI P 0))).sum:Int):Rat):=by
 unfold am;refine kN _ _ rs fun r hm=>?_
 unfold l9 fan;refine jI _ _ _ fun k hk=>?_
 rw [lO hN (hr r hm) ω]
theorem sumC_pts {rs:List (List Nat)} (hN:0<N) (hr:∀ r ∈ rs,∀ i ∈ r,i<N) (e:V) :
  dw (ptQ e) (fJ (am (qAt (cG P N)) rs))=(((rs.map (fan fun a b d=>fI P 0 a b d*(dot e (P a)+dot e (P b)+dot e (P d)+dot e (P 0)))).sum:Int):Rat):=by
 rw [sumC_dot];unfold am;rw [List.map_flatMap];refine kN _ _ rs fun r hm=>?_
 unfold l9 fan;rw [List.map_map];refine jI _ _ _ fun k hk=>?_
 simp only [Function.comp];rw [lO hN (hr r hm) ω];dsimp only;rw [pieceC_pt,← Rat.intCast_mul]
 congr 2
 omega
variable {fs : List RF} {E : Nat}
theorem RingsOk.fans (h:RingsOk P N fs E):∃ ps,Polys P N ps∧∀ g,((fs.map RF.r).map (fan g)).sum=fans P N ps g:=by
 obtain ⟨bs,hbs,hp⟩:=h.polys;refine ⟨_,hp,fun g=>?_⟩;unfold Dowel.fans;rw [List.map_map,List.map_map];refine congrArg List.sum (List.map_congr_left fun f hf=>?_);simp only [Function.comp];rw [(hbs f hf).2.2]
end Dowel
end

section
namespace Dowel
open V Go Go.RowKit Go.Proofs.Υ
theorem full4_four {P:Nat→V} {N:Nat} (h:cR P N):4≤N:=by
 obtain ⟨i,j,k,m,hi,hj,hk,hm,hne⟩:=h;refine Classical.byContradiction fun hc=>hne ?_
 have hp:i=j∨i=k∨i=m∨j=k∨j=m∨k=m:=ω;unfold tri
 rcases hp with rfl | rfl | rfl | rfl | rfl | rfl <;> simp only [dot,cross,sub_x,sub_y,sub_z] <;> grind
theorem HullOk.valid {Q:Nat→V} {M:Nat} (h:HullOk Q M) (hN:(bZ Q M).length≤16):Valid (ofL (bZ Q M)) (bZ Q M).length:=
 ⟨hN,full4_four h.full,h.sorted,h.full,h.extr⟩
theorem ShapeOk.forms {P:Nat→V} {len base:Nat} {w:World} {v0 v1 v2:Value} {fs:List RF} {E:Nat} {vrs:List (RC × RC × RC)} {frs:List FR} {es:List ED} (h:ShapeOk P len base w v0 v1 v2 fs E vrs frs es) :
  (∃ p c,v0=.slice p len c)∧(∃ p c,v1=.slice p frs.length c)∧∃ p c,v2=.slice p es.length c:=by
 obtain ⟨a0,c0,h0,-⟩:=Sl.of_owns h.vs.own;obtain ⟨a1,c1,h1,-⟩:=Sl.of_owns h.fcs.own;obtain ⟨a2,c2,h2,-⟩:=Sl.of_owns h.eds;have hl:vrs.length=len:=by rw [h.vs.len];simp [cG]
 exact ⟨⟨a0,c0,by rw [h0,hl]⟩,⟨a1,c1,h1⟩,⟨a2,c2,h2⟩⟩
end Dowel
namespace Go.Proofs.Υ
open Go.RowKit Dowel
theorem hull_shape (Q:Nat→V) (M base:Nat) (v:Value) (w:World) (hT:Tab w) (hH:HullOk Q M) (hO:fR w base v (bZ Q M)) (hN:(bZ Q M).length≤10) :
  Calls Tryz.prog 12 #[.agg #[v]] w fun e w'=>RetShape (ofL (bZ Q M)) (bZ Q M).length w.heap.size w' e∧Below w.heap.size w w':=by
 obtain ⟨a,cap,rfl,hP⟩:=hO.pts;have hV:=hH.valid ω;refine of_any a _ cap _ w hP hV.le (fun i hi=>(hV.sorted.near i hi).le) hT hV.sorted hV.full (fun v hv=>?_);have:=pg a _ cap (ofL (bZ Q M)) v (hT.below hv hT.1) (hP.below hv) ω;rw [kC.mpr hV] at this;exact this
end Go.Proofs.Υ
end

section
namespace Dowel
open V
variable {P : Nat → V} {N E : Nat} {fs : List RF} {p : Q3}
def Within (P:Nat→V) (N:Nat) (p:Q3):Prop:=∀ n b,Face P N n b→dw (ptQ n) p<((dot n (P b):Int):Rat)
theorem lt_scale {g a b:Rat} (hg:0<g):g*a<g*b↔a<b:=Rat.mul_lt_mul_left hg
theorem oB (h:RingsOk P N fs E) (hV:Valid P N) (hr:∀ f ∈ fs,∀ i ∈ f.r,i<N) :
  bC (am (qAt (cG P N)) (fs.map RF.r))≠0∧Within P N (qscale (1 / (4*bC (am (qAt (cG P N)) (fs.map RF.r)))) (fJ (am (qAt (cG P N)) (fs.map RF.r)))):=by
 have h4:=hV.four;obtain ⟨ps,hps,hg⟩:=h.fans;have hr':∀ r ∈ fs.map RF.r,∀ i ∈ r,i<N:=fun r hm=>by
  obtain ⟨f,hf,rfl⟩:=List.mem_map.mp hm;exact hr f hf
 have e1:=sumD_pts (P:=P) (show 0<N by omega) hr';rw [hg] at e1;have hp:=fans_pos hps hV.sorted.inj hV.full hV.top (show 0<N by omega);have hpq:(0:Rat)<bC (am (qAt (cG P N)) (fs.map RF.r)):=by rw [e1];exact_mod_cast hp
 refine ⟨Rat.ne_of_gt hpq,fun n b hF=>?_⟩;have e2:=sumC_pts (P:=P) (show 0<N by omega) hr' n;rw [hg] at e2;have h5:=centre_in hps hV.sorted.inj hV.full hV.top (show 0<N by omega) hF;rw [lH,e2];have h6:((fans P N ps (fun a b d=>fI P 0 a b d*(dot n (P a)+dot n (P b)+dot n (P d)+dot n (P 0))):Int):Rat)<bC (am (qAt (cG P N)) (fs.map RF.r))*(4*((dot n (P b):Int):Rat)):=by rw [e1];exact_mod_cast h5
 generalize bC (am (qAt (cG P N)) (fs.map RF.r))=s at *;generalize ((fans P N ps (fun a b d=>fI P 0 a b d*(dot n (P a)+dot n (P b)+dot n (P d)+dot n (P 0))):Int):Rat)=x at *;have h7:(0:Rat)<4*s:=by grind
 refine (lt_scale h7).mp ?_;rw [Rat.div_def,Rat.one_mul,← Rat.mul_assoc,Rat.mul_inv_cancel _ (Rat.ne_of_gt h7),Rat.one_mul]
 grind
end Dowel
end

section
namespace Dowel
open V Go Go.Proofs.Υ
variable {P : Nat → V} {N E : Nat} {fs : List RF}
theorem RingsOk.few (h:RingsOk P N fs E) (hN:N≤16):fs.length≤65536:=by
 have h1:=cX (fs.map RF.o) (List.range 65536) h.nodup (fun x hx=>by
  obtain ⟨f,hf,rfl⟩:=List.mem_map.mp hx;obtain ⟨b,-,ho,-⟩:=h.ok f hf;rw [List.mem_range,ho];exact Nat.lt_of_lt_of_le (km _ _) (Nat.le_trans (Nat.pow_le_pow_right (n:=2) ω hN) ν))
 simpa using h1
theorem RingsOk.rows (h:RingsOk P N fs E) (hS:Sorted P N):∀ f ∈ fs,f.r≠[]∧∀ i ∈ f.r,i<N:=fun f hf=>by
 obtain ⟨b,hF,-,hr⟩:=h.ok f hf;rw [hr];exact ⟨(hF.ring_hd hS).2,fun i hi=>(aj.mp ((hF.ring_mem hS i).mp hi).1).1⟩
theorem bd_q3 {x y z t:Int} (hx:-9223372036854775808≤x∧x≤9223372036854775807) (hy:-9223372036854775808≤y∧y≤9223372036854775807) (hz:-9223372036854775808≤z∧z≤9223372036854775807) (ht:-9223372036854775808≤t∧t≤9223372036854775807) (h0:t≠0) :
  BdV 4 ⟨(x:Rat) / (t:Rat),(y:Rat) / (t:Rat),(z:Rat) / (t:Rat)⟩:=by
 have k:∀ n:Int,-9223372036854775808≤n∧n≤9223372036854775807→Bd 2 (n:Rat):=fun n h=>Bd.int n (by unfold B;omega)
 have h0':(t:Rat)≠0:=by exact_mod_cast h0
 exact ⟨Bd.div (k x hx) (k t ht) h0',Bd.div (k y hy) (k t ht) h0',Bd.div (k z hz) (k t ht) h0'⟩
end Dowel
end

section
namespace Dowel
open Go Go.RowKit Go.Proofs.Υ
theorem VRow.open12 {w:World} {base:Nat} {pa:Option Addr} {N cap:Nat} {qs:List Q3} {rs:List (RC × RC × RC)} (h:VRow w base (.slice pa N cap) qs rs) (i:Nat) (hi:i<qs.length) :
  ∃ (b:Nat) (n0 n1 n2:RC),pa=some ⟨b,0,none⟩∧b<w.heap.size∧aA w (.agg (ai n0 n1 n2)) (qAt qs i)∧∀ j,j<12→w.cell? ⟨b,i*12+j,none⟩=(ai n0 n1 n2)[j]? := by
 have hq:qs[i]?=some (qAt qs i):=by unfold qAt;simp [hi]
 obtain ⟨b,cap',⟨n0,n1,n2⟩,e,hb,-,-,hr,hv,hc⟩:=h.at_ i _ hq;cases e;exact ⟨b,n0,n1,n2,rfl,hb,hv,fun j hj=>(hc j hj).trans (Array.getElem?_toList (xs:=ai n0 n1 n2))⟩
structure ExtI (w:World) (base:Nat) (pa:Option Addr) (N cap:Nat) (qs:List Q3) (rs:List (RC × RC × RC)) (p0 p1 p2:RC) (n:Q3) (lr hr:RC) (lo hi:Rat) (wr:World):Prop where
 lb:Box wr (w.heap.size+2) (bN lr) 56
 hb:Box wr (w.heap.size+3) (bN hr) 56
 nb:Box wr (w.heap.size+1) (ai p0 p1 p2) 58
 l:ak wr lr.agg lo
 h:ak wr hr.agg hi
 v:VRow wr base (.slice pa N cap) qs rs
 n:aA wr (.agg (ai p0 p1 p2)) n
 bel:Below w.heap.size w wr
section
variable {w : World} {base : Nat} {pa : Option Addr} {N cap : Nat} {qs : List Q3} {rs : List (RC × RC × RC)} {p0 p1 p2 : RC} {n : Q3} {lr hr : RC} {lo hi : Rat} {wr wr' : World}
end
end Dowel
namespace Go.Proofs.Υ
open Go.RowKit Dowel
end Go.Proofs.Υ
end

section
namespace Dowel
open Go Go.RowKit Go.Proofs.Υ
def qw (qs:List Q3) (d:Q3) (e:Ending):Prop:=
 ∃ i:Nat,i≤qs.length∧e=.returned (.tuple #[.int .i64 (i:Nat),.bool (decide (i<qs.length) && decide (fe (qAt qs i) d=0))])∧(∀ j,j<i→fe (qAt qs j) d<0)∧(∀ j,i≤j→j<qs.length→¬ fe (qAt qs j) d<0)
theorem half_lt {i j:Nat} (h:i<j):i≤(i+j) / 2∧(i+j) / 2<j:=ω
end Dowel
namespace Go.Proofs.Υ
open Go.RowKit Dowel
set_option maxRecDepth 100000 in
theorem ql (v vt:Value) (qs:List Q3) (rs:List (RC × RC × RC)) (d:Q3) (base k l:Nat) (w:World) (hV:VRow w base v qs rs) (hk:∀ i,i<qs.length→BdV k (qAt qs i)) (hd:aA w vt d) (hl:BdV l d) (hkl:k+l≤1000000) (hmax:qs.length≤262144)
  (hmono:∀ i j,i≤j→j<qs.length→fe (qAt qs j) d<0→fe (qAt qs i) d<0) :
  Calls Tryz.prog 80 #[v,vt,.func (.func 78) #[] #[]] w fun e w'=>qw qs d e∧Below w.heap.size w w':=by
 obtain ⟨t0,t1,t2,rfl,hd0,hd1,hd2⟩:=hd;have hdv:aA w (.agg (ai t0 t1 t2)) d:=⟨t0,t1,t2,rfl,hd0,hd1,hd2⟩;obtain ⟨W,hW,b1,hB,hS⟩:=aG w (ai t0 t1 t2) 58;have HD:=η (hdv.below hB);have HV:=η (hV.below hB);have HB:=η hB;have HSZ:=η hS;have B1:=η b1;have HK:=η hk;have HL:=η hl;have HMO:=η hmono;obtain ⟨N,hN⟩:∃ N,qs.length=N:=⟨_,rfl⟩;obtain ⟨pa,cap,hv⟩:∃ pa cap,v=.slice pa N cap:=by
  obtain ⟨_,⟨rfl,h0⟩ | ⟨g,c,_,rfl,_⟩⟩:=hV.own
  ·exact ⟨none,0,by rw [← hN,← hV.len,h0]⟩
  ·exact ⟨_,_,by rw [← hN,← hV.len]⟩
 have hmx:N≤262144:=by rw [← hN];exact hmax
 have HNN:=η hN;have HKL:=η hkl;clear hV hB hS b1 hk hl hmono hdv hd0 hd1 hd2 hmax hN hkl;subst hv;unfold ai at hW ⊢
 go_enter Tryz.func80,Tryz.ntmps80
 go_wp2_with fail
 go_loopw [9,10] (fun iv jv wr=>∃ (i j:Nat),iv=.int .i64 (i:Nat)∧jv=.int .i64 (j:Nat)∧i≤j∧j≤N∧Hid (∀ q,q<i→fe (qAt qs q) d<0)∧Hid (∀ q,j≤q→q<N→¬ fe (qAt qs q) d<0)∧Hid (Below W.heap.size W wr)) (fun iv jv _=>(intOf jv).toNat - (intOf iv).toNat)
 case atStart=>exact ⟨0,N,rfl,rfl,Nat.zero_le _,Nat.le_refl _,(fun q h=>absurd h ω),(fun q h1 h2=>absurd h2 ω),Below.refl _ _⟩
 case round =>
  obtain ⟨i,j,rfl,rfl,hij,hjN,HLO,HHI,HR⟩:=hrel;obtain ⟨wk,rfl⟩:∃ wk,wk=wr:=⟨_,rfl⟩;have hvec:∀ q,q<N→∃ (bV:Nat) (n0 n1 n2:RC),pa=some ⟨bV,0,none⟩∧∀ w',Below wk.heap.size wk w'→aA w' (.agg (ai n0 n1 n2)) (qAt qs q)∧∀ j,j<12→w'.cell? ⟨bV,q*12+j,none⟩=(ai n0 n1 n2)[j]? := fun q hq=>by
   obtain ⟨bV,n0,n1,n2,e,hb,hvq,hcv⟩:=(HV.out.below HR.out).open12 q (by rw [HNN.out];exact hq);exact ⟨bV,n0,n1,n2,e,fun w' h=>⟨hvq.below h,fun j hj=>(h.cell (p:=⟨bV,q*12+j,none⟩) hb).trans (hcv j hj)⟩⟩
  have KB:Hid (∀ w',Below wk.heap.size wk w'→At4 w' w.heap.size 0 t0∧At4 w' w.heap.size 4 t1∧At4 w' w.heap.size 8 t2):=fun w' h=>by
   have b:=(B1.out.below HR.out B1.out.lt).below h (by have:=HR.out.size;have:=B1.out.lt;omega);exact ⟨b.p0,b.p1,b.p2⟩
  have HC:Hid (∀ q,q<N→∀ w',Below wk.heap.size wk w'→∀ va,aA w' va (qAt qs q)→Calls Tryz.prog 78 #[va,.agg #[.bool t0.s,.slice t0.a t0.n t0.c,.bool t0.t,.slice t0.b t0.m t0.d,.bool t1.s,.slice t1.a t1.n t1.c,.bool t1.t,.slice t1.b t1.m t1.d,.bool t2.s,.slice t2.a t2.n t2.c,.bool t2.t,.slice t2.b t2.m t2.d]] w' fun e w''=>e=.returned (.int .i64 (fe (qAt qs q) d))∧Below w'.heap.size w' w''):=fun q hq w' h va hva =>
   fy va _ (qAt qs q) d k l w' hva ((HD.out.below HR.out).below h) (HK.out q (by rw [HNN.out];exact hq)) HL.out HKL.out
  by_cases h0:i=j
  ·have hnl:¬ (i:Int)<(j:Int):=ω
   have HHI2:=η (show ∀ q,i≤q→q<N→¬ fe (qAt qs q) d<0 from fun q h1 h2=>HHI.out q ω h2);have hiN2:i≤N:=ω;have HIN:=η hiN2;by_cases hiN:i=N
   ·have hnN:¬ (i:Int)<(N:Int):=ω
    have HBF:=η (ac HB.out HR.out (ψ HB.out.size));have HRF:=η (show qw qs d (.returned (.tuple #[.int .i64 (i:Nat),.bool false])) from
     ⟨i,by rw [HNN.out];exact HIN.out,by rw [show decide (i<qs.length)=false from decide_eq_false (ψ HNN.out)];rfl,HLO.out,fun q h1 h2=>HHI2.out q h1 (by rw [← HNN.out];exact h2)⟩)
    clear h0 hiN hvec hiN2
    go_upto_region 8 with fail
    refine aC (Below.refl wk.heap.size wk) κ κ ?_
    repeat (first
     | go_big_quiet_skip
     | (go_big_quiet_want;go_big_quiet_op;first | go_big_quiet_on))
    refine wpQuiet_nil ?_;intro _ hw';obtain ⟨x,hx⟩:=hw';have L1:=η x.h;rw [← hx] at L1;clear hx x;go_wp2;exact bodyPost_ret (results_tmp2 Tryz.results80 _ _ _) rfl ⟨HRF.out,ac HBF.out L1.out (ψ HBF.out.size)⟩
   ·have hiN3:i<N:=ω
    have hltN:(i:Int)<(N:Int):=ω;have HBF:=η (ac HB.out HR.out (ψ HB.out.size));obtain ⟨bV,n0,n1,n2,rfl,hcell⟩:=hvec i hiN3;have HCL:=η hcell;obtain ⟨cq,hcq⟩:∃ cq,fe (qAt qs i) d=cq:=⟨_,rfl⟩;have HCQ:=η hcq;have hcc:=HC.out i hiN3;rw [hcq] at hcc;have HCC:=η hcc;have HRF:=η (show qw qs d (.returned (.tuple #[.int .i64 (i:Nat),.bool (cq == 0)])) from
     ⟨i,by rw [HNN.out];exact HIN.out,by rw [show decide (i<qs.length)=true from decide_eq_true (ψ HNN.out),HCQ.out];rfl,HLO.out,fun q h1 h2=>HHI2.out q h1 (by rw [← HNN.out];exact h2)⟩)
    clear h0 hiN hvec hiN2 hcell hcq hcc
    go_upto_region 8 with fail
    have T0:=fun x:Later wk.heap.size wk=>(KB.out _ x.h).1.1.1
    have T1:=fun x:Later wk.heap.size wk=>(KB.out _ x.h).1.1.2.1
    have T2:=fun x:Later wk.heap.size wk=>(KB.out _ x.h).1.1.2.2.1
    have T3:=fun x:Later wk.heap.size wk=>(KB.out _ x.h).1.1.2.2.2
    have T4:=fun x:Later wk.heap.size wk=>(KB.out _ x.h).2.1.1.1
    have T5:=fun x:Later wk.heap.size wk=>(KB.out _ x.h).2.1.1.2.1
    have T6:=fun x:Later wk.heap.size wk=>(KB.out _ x.h).2.1.1.2.2.1
    have T7:=fun x:Later wk.heap.size wk=>(KB.out _ x.h).2.1.1.2.2.2
    have T8:=fun x:Later wk.heap.size wk=>(KB.out _ x.h).2.2.1.1
    have T9:=fun x:Later wk.heap.size wk=>(KB.out _ x.h).2.2.1.2.1
    have T10:=fun x:Later wk.heap.size wk=>(KB.out _ x.h).2.2.1.2.2.1
    have T11:=fun x:Later wk.heap.size wk=>(KB.out _ x.h).2.2.1.2.2.2
    have C0:=fun x:Later wk.heap.size wk=>(show x.w.cell? ⟨bV,i*12,none⟩=some (.bool n0.s) from ((HCL.out _ x.h).2 0 ω).trans rfl)
    have C1:=fun x:Later wk.heap.size wk=>(show x.w.cell? ⟨bV,i*12+1,none⟩=some (.slice n0.a n0.n n0.c) from ((HCL.out _ x.h).2 1 ω).trans rfl)
    have C2:=fun x:Later wk.heap.size wk=>(show x.w.cell? ⟨bV,i*12+2,none⟩=some (.bool n0.t) from ((HCL.out _ x.h).2 2 ω).trans rfl)
    have C3:=fun x:Later wk.heap.size wk=>(show x.w.cell? ⟨bV,i*12+3,none⟩=some (.slice n0.b n0.m n0.d) from ((HCL.out _ x.h).2 3 ω).trans rfl)
    have C4:=fun x:Later wk.heap.size wk=>(show x.w.cell? ⟨bV,i*12+4,none⟩=some (.bool n1.s) from ((HCL.out _ x.h).2 4 ω).trans rfl)
    have C5:=fun x:Later wk.heap.size wk=>(show x.w.cell? ⟨bV,i*12+5,none⟩=some (.slice n1.a n1.n n1.c) from ((HCL.out _ x.h).2 5 ω).trans rfl)
    have C6:=fun x:Later wk.heap.size wk=>(show x.w.cell? ⟨bV,i*12+6,none⟩=some (.bool n1.t) from ((HCL.out _ x.h).2 6 ω).trans rfl)
    have C7:=fun x:Later wk.heap.size wk=>(show x.w.cell? ⟨bV,i*12+7,none⟩=some (.slice n1.b n1.m n1.d) from ((HCL.out _ x.h).2 7 ω).trans rfl)
    have C8:=fun x:Later wk.heap.size wk=>(show x.w.cell? ⟨bV,i*12+8,none⟩=some (.bool n2.s) from ((HCL.out _ x.h).2 8 ω).trans rfl)
    have C9:=fun x:Later wk.heap.size wk=>(show x.w.cell? ⟨bV,i*12+9,none⟩=some (.slice n2.a n2.n n2.c) from ((HCL.out _ x.h).2 9 ω).trans rfl)
    have C10:=fun x:Later wk.heap.size wk=>(show x.w.cell? ⟨bV,i*12+10,none⟩=some (.bool n2.t) from ((HCL.out _ x.h).2 10 ω).trans rfl)
    have C11:=fun x:Later wk.heap.size wk=>(show x.w.cell? ⟨bV,i*12+11,none⟩=some (.slice n2.b n2.m n2.d) from ((HCL.out _ x.h).2 11 ω).trans rfl)
    refine aC (Below.refl wk.heap.size wk) κ κ ?_
    repeat (first
     | go_big_quiet_skip
     | (go_big_quiet_want;go_big_quiet_op;first | go_big_quiet_on | go_big_quiet_call ((go_at_call 78;rename_i xx;exact Calls.later ρ (HCC.out _ xx.h _ (HCL.out _ xx.h).1)))))
    refine wpQuiet_nil ?_;intro _ hw';obtain ⟨x,hx⟩:=hw';have L1:=η x.h;rw [← hx] at L1;clear hx x T0 T1 T2 T3 T4 T5 T6 T7 T8 T9 T10 T11 C0 C1 C2 C3 C4 C5 C6 C7 C8 C9 C10 C11;go_wp2;exact bodyPost_ret (results_tmp2 Tryz.results80 _ _ _) rfl ⟨HRF.out,ac HBF.out L1.out (ψ HBF.out.size)⟩
  ·have hlt:(i:Int)<(j:Int):=ω
   have hil:i<j:=ω;obtain ⟨h1,h2⟩:=half_lt hil;obtain ⟨m,hm⟩:∃ m,(i+j) / 2=m:=⟨_,rfl⟩;rw [hm] at h1 h2;have hmi:((i:Int)+(j:Int)) / 2=(m:Int):=ω;have hmN:m<N:=ω;have hmNI:(m:Int)<(N:Int):=ω;have H1:=η h1;have H2:=η h2;have HJN:=η hjN;have kw1:wrap64 ((i:Int)+(j:Int))=(i:Int)+(j:Int):=IntWalk.wrap64_in _ ⟨by omega,by omega⟩;obtain ⟨bV,n0,n1,n2,rfl,hcell⟩:=hvec m hmN;have HCL:=η hcell;obtain ⟨cq,hcq⟩:∃ cq,fe (qAt qs m) d=cq:=⟨_,rfl⟩;have HCQ:=η hcq;have hcc:=HC.out m hmN;rw [hcq] at hcc;have HCC:=η hcc;clear h0 hvec hm hcell hcq hcc
   go_upto_region 5 with fail
   have T0:=fun x:Later wk.heap.size wk=>(KB.out _ x.h).1.1.1
   have T1:=fun x:Later wk.heap.size wk=>(KB.out _ x.h).1.1.2.1
   have T2:=fun x:Later wk.heap.size wk=>(KB.out _ x.h).1.1.2.2.1
   have T3:=fun x:Later wk.heap.size wk=>(KB.out _ x.h).1.1.2.2.2
   have T4:=fun x:Later wk.heap.size wk=>(KB.out _ x.h).2.1.1.1
   have T5:=fun x:Later wk.heap.size wk=>(KB.out _ x.h).2.1.1.2.1
   have T6:=fun x:Later wk.heap.size wk=>(KB.out _ x.h).2.1.1.2.2.1
   have T7:=fun x:Later wk.heap.size wk=>(KB.out _ x.h).2.1.1.2.2.2
   have T8:=fun x:Later wk.heap.size wk=>(KB.out _ x.h).2.2.1.1
   have T9:=fun x:Later wk.heap.size wk=>(KB.out _ x.h).2.2.1.2.1
   have T10:=fun x:Later wk.heap.size wk=>(KB.out _ x.h).2.2.1.2.2.1
   have T11:=fun x:Later wk.heap.size wk=>(KB.out _ x.h).2.2.1.2.2.2
   have C0:=fun x:Later wk.heap.size wk=>(show x.w.cell? ⟨bV,m*12,none⟩=some (.bool n0.s) from ((HCL.out _ x.h).2 0 ω).trans rfl)
   have C1:=fun x:Later wk.heap.size wk=>(show x.w.cell? ⟨bV,m*12+1,none⟩=some (.slice n0.a n0.n n0.c) from ((HCL.out _ x.h).2 1 ω).trans rfl)
   have C2:=fun x:Later wk.heap.size wk=>(show x.w.cell? ⟨bV,m*12+2,none⟩=some (.bool n0.t) from ((HCL.out _ x.h).2 2 ω).trans rfl)
   have C3:=fun x:Later wk.heap.size wk=>(show x.w.cell? ⟨bV,m*12+3,none⟩=some (.slice n0.b n0.m n0.d) from ((HCL.out _ x.h).2 3 ω).trans rfl)
   have C4:=fun x:Later wk.heap.size wk=>(show x.w.cell? ⟨bV,m*12+4,none⟩=some (.bool n1.s) from ((HCL.out _ x.h).2 4 ω).trans rfl)
   have C5:=fun x:Later wk.heap.size wk=>(show x.w.cell? ⟨bV,m*12+5,none⟩=some (.slice n1.a n1.n n1.c) from ((HCL.out _ x.h).2 5 ω).trans rfl)
   have C6:=fun x:Later wk.heap.size wk=>(show x.w.cell? ⟨bV,m*12+6,none⟩=some (.bool n1.t) from ((HCL.out _ x.h).2 6 ω).trans rfl)
   have C7:=fun x:Later wk.heap.size wk=>(show x.w.cell? ⟨bV,m*12+7,none⟩=some (.slice n1.b n1.m n1.d) from ((HCL.out _ x.h).2 7 ω).trans rfl)
   have C8:=fun x:Later wk.heap.size wk=>(show x.w.cell? ⟨bV,m*12+8,none⟩=some (.bool n2.s) from ((HCL.out _ x.h).2 8 ω).trans rfl)
   have C9:=fun x:Later wk.heap.size wk=>(show x.w.cell? ⟨bV,m*12+9,none⟩=some (.slice n2.a n2.n n2.c) from ((HCL.out _ x.h).2 9 ω).trans rfl)
   have C10:=fun x:Later wk.heap.size wk=>(show x.w.cell? ⟨bV,m*12+10,none⟩=some (.bool n2.t) from ((HCL.out _ x.h).2 10 ω).trans rfl)
   have C11:=fun x:Later wk.heap.size wk=>(show x.w.cell? ⟨bV,m*12+11,none⟩=some (.slice n2.b n2.m n2.d) from ((HCL.out _ x.h).2 11 ω).trans rfl)
   refine aC (Below.refl wk.heap.size wk) κ κ ?_
   repeat (first
    | go_big_quiet_skip
    | (go_big_quiet_want;go_big_quiet_op;first | go_big_quiet_on | go_big_quiet_call ((go_at_call 78;rename_i xx;exact Calls.later ρ (HCC.out _ xx.h _ (HCL.out _ xx.h).1)))))
   refine wpQuiet_nil ?_;intro _ hw';obtain ⟨x,hx⟩:=hw';have L1:=η x.h;rw [← hx] at L1;clear hx x T0 T1 T2 T3 T4 T5 T6 T7 T8 T9 T10 T11 C0 C1 C2 C3 C4 C5 C6 C7 C8 C9 C10 C11;have HR2:=η (ac HR.out L1.out ρ);by_cases hneg:cq<0
   ·have HNG:=η hneg
    go_wp2;go_round
    case rel=>exact ⟨m+1,j,rfl,rfl,H2.out,HJN.out,(fun q hq=>by
     by_cases e:q=m
     ·rw [e,HCQ.out];exact HNG.out
     ·exact HMO.out q m ω (by have:=HNN.out;have:=H2.out;have:=HJN.out;omega) (by rw [HCQ.out];exact HNG.out)),HHI.out,HR2.out⟩
    case measure=>simp [intOf];have:=H1.out;have:=H2.out;omega
   ·have HNG:=η hneg
    go_wp2;go_round
    case rel=>exact ⟨i,m,rfl,rfl,H1.out,by have:=H2.out;have:=HJN.out;omega,HLO.out,(fun q h1 h2 hlt=>HNG.out (by
     rw [← HCQ.out];exact HMO.out m q h1 (ψ HNN.out) hlt)),HR2.out⟩
    case measure=>simp [intOf];have:=H1.out;have:=H2.out;omega
end Go.Proofs.Υ
end

section
namespace Dowel
open V
variable {P : Nat → V} {N E : Nat} {fs : List RF}
structure RingW (P:Nat→V) (n:V) (on rg:List Nat):Prop where
 len:rg.length=on.length
 pos:0<rg.length
 hd:rg.getD 0 0=on.getD 0 0
 mem:∀ x ∈ rg,x ∈ on
 next:∀ j,j+1<rg.length→∀ x ∈ on,(x≠rg.getD j 0∧∀ q ∈ on,0≤T n (P x - P (rg.getD j 0)) (P q - P (rg.getD j 0)))↔x=rg.getD (j+1) 0
theorem Face.ringW {n:V} {b:Nat} (hF:Face P N n b) (hinj:Inj P N) (hE:∀ v,v<N→Top P N v):RingW P (aF n) (aB P N n b) (ring P (aB P N n b) n):=by
 obtain ⟨k,a,k1,hr,hk,hs,hd,hm⟩:=fC hF hinj hE;have hg:∀ j,j<k→(ring P (aB P N n b) n).getD j 0=orb (nx P (aB P N n b) n) a j:=fun j hj=>by
  rw [hr,List.getD_eq_getElem?_getD,List.getElem?_map,List.getElem?_range hj];rfl
 have hl:(ring P (aB P N n b) n).length=k:=by rw [hr];simp
 have hl':per (nx P (aB P N n b) n) ((aB P N n b).headD 0) (aB P N n b).length 1=k:=by
  have:=hl;unfold ring at this
  simpa using this
 refine ⟨ring_length hF hinj hE,by omega,?_,fun x hx=>?_,fun j hj x hx=>?_⟩
 ·have e:(ring P (aB P N n b) n).getD 0 0=(aB P N n b).headD 0:=by
   unfold ring;rw [List.getD_eq_getElem?_getD,List.getElem?_map,List.getElem?_range ω];rfl
  rw [e];cases aB P N n b <;> rfl
 ·rw [hr] at hx
  obtain ⟨i,_,rfl⟩:=List.mem_map.mp hx;exact (hs i).ha
 ·rw [hg j ω,hg (j+1) ω]
  exact left_next hF (hs j) hx
theorem RingsOk.ringW (h:RingsOk P N fs E) (hS:Sorted P N) (hfull:dn P N) (hE:∀ v,v<N→Top P N v) {m:Pl} (hm:m ∈ aP P N):RingW P m.n (eo P N m) (bS P N m):=by
 obtain ⟨f,hf,rfl⟩:=List.mem_map.mp (((h.planes hS hfull).2 m).mp hm);obtain ⟨b,hF,-,-,hp⟩:=h.pl hS hf;rw [hp,m7 (f:=(f.n,b)) hF,lF (f:=(f.n,b)) hF];exact hF.ringW hS.inj hE
def sd (m:Pl) (p:V):Int:=dot m.n p - 2*m.o
end Dowel
end

section
namespace Dowel
open Go Go.RowKit Go.Proofs.Υ
theorem insG_map {α β:Type} (f:α→β) (p:α→Bool) (p':β→Bool) (hp:∀ x,p x=p' (f x)) (x:α):∀ l:List α,(gQ p x l).map f=gQ p' (f x) (l.map f)
 | []=>rfl
 | q :: t=>by
  rw [List.map_cons];unfold gQ;rw [hp q]
  split
  ·rw [List.map_cons,insG_map f p p' hp x t]
  ·rfl
structure F5 where
 m:Pl
 v:Value
 r:List Nat
def F5.pf (f:F5):PF:=(f.m,f.r)
def f5 (f:F5):List Value:=[.int .i64 f.m.n.x,.int .i64 f.m.n.y,.int .i64 f.m.n.z,.int .i64 f.m.o,f.v]
theorem f5_len (f:F5):(f5 f).length=5:=rfl
structure OwnF5 (w:World) (base:Nat) (v:Value) (l:List F5):Prop where
 row:bj w base 50 5 f5 v l
 own:∀ f ∈ l,bM w base f.v f.r
theorem OwnF5.below {w w':World} {base:Nat} {v:Value} {l:List F5} (h:OwnF5 w base v l) (hb:Below w.heap.size w w'):OwnF5 w' base v l:=⟨bj.below h.row hb,fun f hf=>aO (h.own f hf) hb⟩
theorem OwnF5.down {w:World} {base base':Nat} {v:Value} {l:List F5} (h:OwnF5 w base v l) (hb:base'≤base):OwnF5 w base' v l:=⟨h.row.down hb,fun f hf=>bY (h.own f hf) hb⟩
theorem bM.sl {w:World} {base:Nat} {v:Value} {l:List Nat} (h:bM w base v l):∃ a cap,v=.slice a l.length cap:=by
 obtain ⟨a,cap,hv,-⟩:=h.ints;exact ⟨a,cap,hv⟩
theorem f5_one {w:World} {base:Nat} {l:List F5} (h:∀ f ∈ l,bM w base f.v f.r):∀ u ∈ l.flatMap f5,u.oneCell'=true:=fun u hu=>by
 obtain ⟨f,hf,h1⟩:=List.mem_flatMap.mp hu;obtain ⟨a,cap,hv⟩:=(h f hf).sl;simp only [f5,List.mem_cons,List.not_mem_nil,or_false] at h1
 rcases h1 with rfl | rfl | rfl | rfl | rfl
 ·rfl
 ·rfl
 ·rfl
 ·rfl
 ·rw [hv];rfl
instance (a b : List Nat) : Decidable (LtR a b) := by unfold LtR; infer_instance
def dC (w:World) (base:Nat) (v:Value) (fs:List PF):Prop:=∃ l:List F5,OwnF5 w base v l∧l.map F5.pf=fs
theorem dC.below {w w':World} {base:Nat} {v:Value} {fs:List PF} (h:dC w base v fs) (hb:Below w.heap.size w w'):dC w' base v fs:=by
 obtain ⟨l,h1,h2⟩:=h;exact ⟨l,h1.below hb,h2⟩
end Dowel
end

section
namespace Dowel
open Go Go.RowKit
theorem bM.cellAt {w:World} {base:Nat} {v:Value} {l:List Nat} (h:bM w base v l):∃ a cap,v=.slice a l.length cap∧(0<l.length→∃ b off,a=some ⟨b,off,none⟩∧b<w.heap.size∧∀ i,i<l.length→w.cell? ⟨b,off+i,none⟩=some (.int .i64 ((l.getD i 0:Nat):Int))):=by
 obtain ⟨a,cap,hv,hi⟩:=h.ints;refine ⟨a,cap,hv,fun h0=>?_⟩;obtain ⟨b,off,e,hb,-,hc⟩:=hi.cells h0;refine ⟨b,off,e,hb,fun i hi=>?_⟩;rw [hc i hi]
 congr 2
 simp [List.getD_eq_getElem?_getD,hi]
end Dowel
namespace Go.Proofs.Υ
open Go.RowKit Dowel
theorem before_any (va vb:Value) (a b:List Nat) (base base':Nat) (w:World) (ha:bM w base va a) (hb:bM w base' vb b) (h1:a.length≤64) (h2:b.length≤64) :
  Calls Tryz.prog 61 #[va,vb] w fun e w'=>e=.returned (.bool (decide (LtR a b)))∧Below w.heap.size w w':=by
 obtain ⟨aa,ca,rfl,hia⟩:=ha.cellAt;obtain ⟨ab,cb,rfl,hib⟩:=hb.cellAt;clear ha hb;obtain ⟨M,hM⟩:∃ M,a.length=M:=⟨_,rfl⟩;obtain ⟨N,hN⟩:∃ N,b.length=N:=⟨_,rfl⟩;obtain ⟨r,hr⟩:∃ r,decide (LtR a b)=r:=⟨_,rfl⟩;have HR:=η hr;have HM:=η hM;have HN:=η hN;rw [hr];rw [hM] at h1 hia ⊢;rw [hN] at h2 hib ⊢;have HA:=η hia;have HB:=η hib;clear hr hM hN hia hib
 go_enter Tryz.func61,Tryz.ntmps61
 go_wp2_with fail
 go_loopw [5] (fun iv wr=>∃ i:Nat,i≤M∧i≤N∧iv=.int .i64 (i:Nat)∧Hid (∀ q,q<i→a.getD q 0=b.getD q 0)∧Hid (Below w.heap.size w wr)) (fun iv _=>M - (intOf iv).toNat)
 case atStart=>exact ⟨0,Nat.zero_le _,Nat.zero_le _,rfl,(fun q hq=>by omega),Below.refl _ _⟩
 case round =>
  obtain ⟨i,hi,hi',rfl,HE,HW⟩:=hrel;by_cases hend:i=M∨i=N
  ·have e:r=decide (M<N):=by
    rw [← HR.out,decide_eq_decide,LtR.end_ (fun q h3 h4=>HE.out q (by have:=HM.out;have:=HN.out;omega)),HM.out,HN.out]
   have E:=η e;clear e;by_cases h0:i=M
   ·have hn:¬ (i:Int)<(M:Int):=ω
    go_wp2_with fail
    go_ret;exact ⟨by rw [E.out];rfl,HW.out⟩
   ·have hlt:(i:Int)<(M:Int):=ω
    have hn:¬ (i:Int)<(N:Int):=ω
    go_wp2_with fail
    go_ret;exact ⟨by rw [E.out];rfl,HW.out⟩
  ·have hlt:(i:Int)<(M:Int):=ω
   have hlt':(i:Int)<(N:Int):=ω;obtain ⟨ba,oa,rfl,hba,ca'⟩:=HA.out ω;obtain ⟨bb,ob,rfl,hbb,cb'⟩:=HB.out ω;have x1:=keepC (ca' i ω) HW.out hba;have x2:=keepC (cb' i ω) HW.out hbb;have HIM:=η (show i<M by omega);have HIN:=η (show i<N by omega);obtain ⟨x,hx⟩:∃ x,a.getD i 0=x:=⟨_,rfl⟩;obtain ⟨y,hy⟩:∃ y,b.getD i 0=y:=⟨_,rfl⟩;have HX:=η hx;have HY:=η hy;rw [hx] at x1;rw [hy] at x2;clear hx hy ca' cb' hend;by_cases hxy:x=y
   ·have hb:((x:Int) != (y:Int))=false:=by rw [hxy];simp
    have HXY:=η hxy;clear hxy
    go_wp2_with fail
    go_quiet (fail)
    rename_i k
    go_wp2_with fail
    go_round
    case rel=>exact ⟨i+1,HIM.out,HIN.out,rfl,(fun q hq=>by
     by_cases e:q=i
     ·subst e;rw [HX.out,HY.out,HXY.out]
     ·exact HE.out q ω),aD HW.out _⟩
    case measure=>show M - ((i:Int)+1).toNat<M - (i:Int).toNat;have:=HIM.out;omega
   ·have hb:((x:Int) != (y:Int))=true:=by simp;omega
    have e:r=decide (x<y):=by
     rw [← HR.out,decide_eq_decide,LtR.at_ (k:=i) (by have:=HM.out;have:=HIM.out;omega) (by have:=HN.out;have:=HIN.out;omega) HE.out (by rw [HX.out,HY.out];exact hxy),HX.out,HY.out]
    have E:=η e;clear e hxy
    go_wp2_with fail
    go_quiet (fail)
    go_wp2_with fail
    go_quiet (fail)
    go_wp2_with fail
    go_ret;exact ⟨by rw [E.out];rfl,aD (aD HW.out _) _⟩
end Go.Proofs.Υ
end

section
namespace Dowel
open Go Go.RowKit
def fol (l:List Nat) (a b i:Nat):Bool:=(decide (l.getD i 0=a) && decide (l.getD ((i+1) % l.length) 0=b)) || (decide (l.getD i 0=b) && decide (l.getD ((i+1) % l.length) 0=a))
def dH (l:List Nat) (a b:Nat):Bool:=(List.range l.length).any (fol l a b)
theorem mr (x y:Nat):((x:Int) == (y:Int))=decide (x=y):=by
 rw [Bool.eq_iff_iff,beq_iff_eq,decide_eq_true_iff];omega
end Dowel
namespace Go.Proofs.Υ
open Go.RowKit Dowel
theorem rfollow_any (v:Value) (l:List Nat) (base a b:Nat) (w:World) (h:bM w base v l) (hl:l.length≤64) :
    Calls Tryz.prog 84 #[v,.int .i64 a,.int .i64 b] w fun e w'=>e=.returned (.bool (dH l a b))∧Below w.heap.size w w':=by
  obtain ⟨p,c,rfl,hc⟩:=h.cellAt;obtain ⟨N,hN⟩:∃ N,l.length=N:=⟨_,rfl⟩;obtain ⟨r,hr⟩:∃ r,dH l a b=r:=⟨_,rfl⟩;have HR:=η hr;have HN:=η hN;rw [hr];rw [hN] at hc hl ⊢;have HC:=η hc;clear h hc hr hN
  go_enter Tryz.func84,Tryz.ntmps84
  go_wp2_with fail
  go_loopw [7] (fun iv wr=>∃ i:Nat,i≤N∧iv=.int .i64 (i:Nat)∧Hid (∀ q,q<i→fol l a b q=false)∧Hid (Below w.heap.size w wr)) (fun iv _=>N - (intOf iv).toNat)
  case atStart=>exact ⟨0,Nat.zero_le _,rfl,(fun q hq=>by omega),Below.refl _ _⟩
  case round =>
    obtain ⟨i,hi,rfl,HE,HW⟩:=hrel;obtain ⟨w1,rfl⟩:∃ w1,w1=wr:=⟨_,rfl⟩;by_cases h0:i=N
    · have hn:¬ (i:Int)<(N:Int):=ω
      have E:=η (show r=false from by
        rw [← HR.out];unfold dH;rw [List.any_eq_false];intro q hq;rw [HE.out q (by have:=List.mem_range.mp hq;have:=HN.out;omega)];decide)
      clear h0
      go_wp2_with fail
      go_ret;exact ⟨by rw [E.out];rfl,HW.out⟩
    · have hlt:(i:Int)<(N:Int):=ω
      have hiN:i<N:=ω;have HIN:=η hiN;obtain ⟨bp,op,rfl,hbp,cc⟩:=HC.out ω;obtain ⟨j,hj⟩:∃ j,(i+1) % N=j:=⟨_,rfl⟩;have hjN:j<N:=by rw [← hj];exact Nat.mod_lt _ ω
      have htm:((i:Int)+1).tmod (N:Int)=(j:Int):=by
        rw [Int.tmod_eq_emod_of_nonneg ω,← hj];push_cast;rfl
      have hN0:¬ N=0:=ω;have hjlt:(j:Int)<(N:Int):=ω;have x1:=keepC (cc i hiN) HW.out hbp;have x2:=keepC (cc j hjN) HW.out hbp;obtain ⟨x,hx⟩:∃ x,l.getD i 0=x:=⟨_,rfl⟩;obtain ⟨y,hy⟩:∃ y,l.getD j 0=y:=⟨_,rfl⟩;have HF:=η (show fol l a b i=((decide (x=a) && decide (y=b)) || (decide (x=b) && decide (y=a))) from by
        unfold fol;rw [HN.out,hj,hx,hy])
      rw [hx] at x1;rw [hy] at x2;obtain ⟨b1,h1⟩:∃ b1,decide (x=a)=b1:=⟨_,rfl⟩;obtain ⟨b2,h2⟩:∃ b2,decide (y=b)=b2:=⟨_,rfl⟩;obtain ⟨b3,h3⟩:∃ b3,decide (x=b)=b3:=⟨_,rfl⟩;obtain ⟨b4,h4⟩:∃ b4,decide (y=a)=b4:=⟨_,rfl⟩;rw [h1,h2,h3,h4] at HF;have g1:=(mr x a).trans h1;have g2:=(mr y b).trans h2;have g3:=(mr x b).trans h3;have g4:=(mr y a).trans h4;have hi64:i<64:=ω;clear hx hy cc h0 hj
      go_wp2_with fail
      go_region;clear x1 x2
      cases b1 <;> cases b2 <;> cases b3 <;> cases b4
      all_goals
        first
        | (have E:=η (show r=true from by
            rw [← HR.out];unfold dH;exact List.any_eq_true.mpr ⟨i,List.mem_range.mpr (by rw [HN.out];exact HIN.out),by rw [HF.out];rfl⟩)
           clear HF)
        | (have E:=η (show fol l a b i=false from by rw [HF.out];rfl)
           clear HF)
      all_goals
        go_wp2_with fail
        first
        | (go_ret;exact ⟨by rw [E.out];rfl,aD HW.out _⟩)
        | (go_round
           case rel=>exact ⟨i+1,HIN.out,rfl,(fun q hq=>by
             by_cases e:q=i
             · subst e;exact E.out
             · exact HE.out q ω),aD HW.out _⟩
           case measure=>show N - ((i:Int)+1).toNat<N - (i:Int).toNat;have:=HIN.out;omega)
end Go.Proofs.Υ
end

section
namespace Dowel
open Go Go.RowKit
theorem m6 (P:Nat→V) (N:Nat) (m:Pl):eo P (N+1) m=if V.dot m.n (P N)=m.o then eo P N m ++ [N] else eo P N m:=by
 unfold eo;rw [List.range_succ,List.filter_append]
 split <;> rename_i h
 ·rw [List.filter_cons_of_pos (by simpa using h)];simp
 ·rw [List.filter_cons_of_neg (by simpa using h)];simp
theorem jj (P:Nat→V) (N:Nat) (m:Pl):(eo P N m).length≤N:=by
 unfold eo;exact Nat.le_trans (List.length_filter_le _ _) (by simp)
theorem ptsOn_lt {P:Nat→V} {N:Nat} {m:Pl} {x:Nat} (h:x ∈ eo P N m):x<N:=by
 unfold eo at h;exact List.mem_range.mp (List.mem_filter.mp h).1
theorem bM.app {w:World} {base:Nat} {v:Value} {l:List Nat} {x:Nat} (h:w.ownsRow base 3 1 v (l.length+1) ((l.map fun (i:Nat)=>Value.int .i64 (i:Int)) ++ [.int .i64 (x:Int)])):bM w base v (l ++ [x]):=by
 unfold bM;rw [List.length_append,List.map_append];exact h
theorem qf {l:List Nat} {i:Nat} (h:i<l.length):l.getD i 0 ∈ l:=by
 rw [List.getD_eq_getElem?_getD,List.getElem?_eq_getElem h];exact List.getElem_mem h
end Dowel
namespace Go.Proofs.Υ
open Go.RowKit Dowel
set_option maxRecDepth 10000 in
theorem rwalk_any (a:Option Addr) (len cap:Nat) (P:Nat→V) (m:Pl) (rg:List Nat) (w:World) (hP:Pts w a len cap P) (hlen:len≤64) (hnear:∀ i,i<len→LeV 4096 (P i)) (hm:LeV 1000000000 m.n) (hw:RingW P m.n (eo P len m) rg) :
  Calls Tryz.prog 60 #[.slice a len cap,plV m] w fun e w'=>RetInts w' w.heap.size e rg∧Below w.heap.size w w':=by
 obtain ⟨W,hW,b1,hB,hS⟩:=aG w #[.int .i64 m.n.x,.int .i64 m.n.y,.int .i64 m.n.z,.int .i64 m.o] 48;obtain ⟨i0,hinf,hz0,hz1,hz2⟩:=info_parts info3;have HP:=η (hP.below hB);have HB:=η hB;have HSZ:=η hS;have HN:=η hnear;have HM:=η hm;have HRW:=η hw;have KM:Hid (∀ w',Below W.heap.size W w'→w'.cell? ⟨w.heap.size,0,none⟩=some (.int .i64 m.n.x)∧w'.cell? ⟨w.heap.size,1,none⟩=some (.int .i64 m.n.y)∧w'.cell? ⟨w.heap.size,2,none⟩=some (.int .i64 m.n.z)∧w'.cell? ⟨w.heap.size,3,none⟩=some (.int .i64 m.o)):=fun w' h=>by
  obtain ⟨c0,c1,c2,c3,-⟩:=(b1.below h b1.lt).four;exact ⟨c0,c1,c2,c3⟩
 have hgl:=b1.lt;clear hP hB hS hnear hm hw b1;unfold plV
 go_enter Tryz.func60,Tryz.ntmps60
 go_wp2_with fail
 go_loopw [5,6] (fun ov' iv wr=>∃ k ov,ov=ov'∧k≤len∧iv=.int .i64 (k:Nat)∧Hid (bM wr W.heap.size ov (eo P k m))∧Hid (Below W.heap.size W wr)) (fun _ iv _=>len - (intOf iv).toNat)
 case atStart=>exact ⟨0,_,rfl,Nat.zero_le _,rfl,World.ownsRow_nil _ _ _ _,Below.refl _ _⟩
 case round =>
  obtain ⟨k,ov,rfl,hk,rfl,HO,HR⟩:=hrel;obtain ⟨wk,rfl⟩:∃ wk,wk=wr:=⟨_,rfl⟩;by_cases h0:k=len
  case neg =>
   have hkl:k<len:=ω;have hlt:(k:Int)<(len:Int):=ω;have HKL:=η hkl;obtain ⟨b,off,rfl,hb,hc,hcc⟩:=(HP.out.below HR.out).cells ω;obtain ⟨q0,q1,q2⟩:=hcc k hkl;have hpk:=HN.out k hkl;obtain ⟨pk,hpke⟩:∃ pk,P k=pk:=⟨_,rfl⟩;have HPK:=η hpke;rw [hpke] at q0 q1 q2 hpk;have hwl:w.heap.size<wk.heap.size:=by have:=HR.out.size;omega
   obtain ⟨c0,c1,c2,c3⟩:=KM.out wk HR.out;have K0:=fun x:Later wk.heap.size wk=>keepC q0 x.h hb
   have K1:=fun x:Later wk.heap.size wk=>keepC q1 x.h hb
   have K2:=fun x:Later wk.heap.size wk=>keepC q2 x.h hb
   have L0:=fun x:Later wk.heap.size wk=>keepC c0 x.h hwl
   have L1:=fun x:Later wk.heap.size wk=>keepC c1 x.h hwl
   have L2:=fun x:Later wk.heap.size wk=>keepC c2 x.h hwl
   have L3:=fun x:Later wk.heap.size wk=>keepC c3 x.h hwl
   have HDT:=η (fun v=>dS m.n pk 1000000000 4096 v HM.out hpk ω);obtain ⟨d,hd⟩:∃ d,V.dot m.n pk=d:=⟨_,rfl⟩;have HD:=η hd;rw [hd] at HDT;clear hcc h0 hpke hpk hd q0 q1 q2 c0 c1 c2 c3;have HOL:=η (jj P k m);by_cases he:d=m.o
   ·have hbe:(d == m.o)=true:=by rw [he];exact beq_self_eq_true _
    have hbd:decide (d=m.o)=true:=decide_eq_true he;have HE:=η he;clear he
    go_wp2_with fail
    refine aC (Below.refl wk.heap.size wk) κ κ ?_
    repeat (first
     | go_big_quiet_skip
     | (go_big_quiet_want;go_big_quiet_op;first | go_big_quiet_on | go_big_quiet_call ((go_at_call 16;exact Calls.later ρ (HDT.out _)))))
    refine wpQuiet_nil ?_;intro w5 hw';obtain ⟨x,hx⟩:=hw';have H5:=η (show Below W.heap.size W w5 from by rw [hx];exact ac HR.out x.h ρ);have HO5:=η (aO HO.out (show Below wk.heap.size wk w5 from by rw [hx];exact x.h));have HBS:=η H5.out.size;clear hx x K0 K1 K2 L0 L1 L2 L3
    go_wp2_with (at_builtin;refine wpList_append_own _ rfl _ _ 43 rfl W.heap.size 3 i0 (.int .i64 0) 1 8 Tryz.underlying43 hinf hz0 hz1 hz2 rfl ν _ _ _ rfl (World.ownsRow.alloc HO5.out _) ⟨w5.heap.size,0,none⟩ 1 1 [.int .i64 (k:Nat)] rfl rfl (fun j u hj=>i6 w5 _ _ j u hj) (by intro u hu;simp at hu;rcases hu with rfl;rfl) (by have:=HOL.out;unfold maxLen;omega) (ψ HOL.out) (by have:=HBS.out;simp;omega) ?_)
    intro v' w6 hown' hgrow6 _;have HO6:=η (show bM w6 W.heap.size v' (eo P (k+1) m) from by
     rw [m6,if_pos (by rw [HPK.out,HD.out];exact HE.out)];exact bM.app hown')
    have HB6:=η (show Below W.heap.size W w6 from (H5.out.alloc HBS.out _).grown hgrow6 (by have:=HBS.out;simp;omega) (fun g hg=>bw HO5.out g hg));clear hown' hgrow6;go_wp2;go_round
    case rel=>exact ⟨k+1,_,rfl,HKL.out,rfl,HO6.out,HB6.out⟩
    case measure=>show len - ((k:Int)+1).toNat<len - (k:Int).toNat;have:=HKL.out;omega
   ·have hbe:(d == m.o)=false:=beq_eq_false_iff_ne.mpr he
    have hbd:decide (d=m.o)=false:=decide_eq_false he;have HE:=η he;clear he
    go_wp2_with fail
    refine aC (Below.refl wk.heap.size wk) κ κ ?_
    repeat (first
     | go_big_quiet_skip
     | (go_big_quiet_want;go_big_quiet_op;first | go_big_quiet_on | go_big_quiet_call ((go_at_call 16;exact Calls.later ρ (HDT.out _)))))
    refine wpQuiet_nil ?_;intro w5 hw';obtain ⟨x,hx⟩:=hw';have H5:=η (show Below W.heap.size W w5 from by rw [hx];exact ac HR.out x.h ρ);have HO5:=η (aO HO.out (show Below wk.heap.size wk w5 from by rw [hx];exact x.h));clear hx x K0 K1 K2 L0 L1 L2 L3;go_wp2;go_round
    case rel=>exact ⟨k+1,_,rfl,HKL.out,rfl,by
     rw [m6,if_neg (by rw [HPK.out,HD.out];exact HE.out)];exact HO5.out,H5.out⟩
    case measure=>show len - ((k:Int)+1).toNat<len - (k:Int).toNat;have:=HKL.out;omega
  case pos =>
  subst h0;have hnl:¬ (k:Int)<(k:Int):=ω;obtain ⟨on,hon⟩:∃ on,eo P k m=on:=⟨_,rfl⟩;have HLT:=η (show ∀ x ∈ on,x<k from fun x hx=>by rw [← hon] at hx;exact ptsOn_lt hx);rw [hon] at HO HRW;obtain ⟨L,hL⟩:∃ L,on.length=L:=⟨_,rfl⟩;have HL:=η hL;have HRL:=η (HRW.out.len.trans hL);have hL0:0<L:=by rw [← HRL.out];exact HRW.out.pos
  have hL64:L≤64:=by
   have:=jj P k m;rw [hon,hL] at this;omega
  obtain ⟨oa,oc,rfl,hoc⟩:=bM.cellAt HO.out;rw [hL] at hoc ⊢;obtain ⟨bo,oo,rfl,hbo,hcc⟩:=hoc hL0;have HC:=η (fun w' (h:Below wk.heap.size wk w') i (hi:i<L)=>keepC (hcc i hi) h hbo);have c0:=hcc 0 hL0;obtain ⟨a0,ha0⟩:∃ a0,on.getD 0 0=a0:=⟨_,rfl⟩;rw [ha0,Nat.add_zero] at c0;have HA0:=η (HRW.out.hd.trans ha0);have hl0:(0:Int)<(L:Int):=ω;have HL0:=η hL0;have HL64:=η hL64;clear hcc hoc hon hL ha0 hL0 hL64 HO
  go_wp2_with fail
  obtain ⟨Wo,hWo⟩:∃ Wo,wk.alloc (.cells #[.int .i64 (a0:Int)] 3)=Wo:=⟨_,rfl⟩;rw [hWo];have hown0:bM Wo wk.heap.size (.slice (some ⟨wk.heap.size,0,none⟩) 1 1) (rg.take 1):=by
   have e:rg.take 1=[a0]:=by
    rw [← HA0.out];have hp:=HRW.out.pos
    cases rg with
    | nil=>simp at hp
    | cons x l=>rfl
   rw [e,← hWo];exact World.ownsRow_lit _ _ 1 ρ (by unfold maxLen;omega) rfl
  have hBo:Below wk.heap.size wk Wo:=by rw [← hWo];exact β.alloc ρ _
  have HO0:=η hown0;have HBO:=η hBo;clear hown0 hBo hWo c0
  go_loopw [7] (fun ov' w2=>∃ j ov,ov=ov'∧1≤j∧j≤L∧Hid (bM w2 wk.heap.size ov (rg.take j))∧Hid (Below wk.heap.size wk w2)) (fun ov _=>L - (match ov with | .slice _ n _=>n | _=>0))
  case atStart=>exact ⟨1,_,rfl,Nat.le_refl _,HL0.out,HO0.out,HBO.out⟩
  case round =>
   obtain ⟨j,ov,rfl,hj1,hj2,HO2,HR2⟩:=hrel;obtain ⟨w2,rfl⟩:∃ w2,w2=wr:=⟨_,rfl⟩;have elen:(rg.take j).length=j:=by rw [List.length_take,HRL.out];omega
   have ELEN:=η elen;by_cases h0:j=L
   ·subst h0
    have hnj:¬ (j:Int)<(j:Int):=ω;have HOF:=η (show bM w2 w.heap.size ov rg from by
     have:=HO2.out;rw [List.take_of_length_le (by rw [HRL.out];exact Nat.le_refl _)] at this;exact bY this (by have:=HR.out.size;have:=HSZ.out;omega))
    obtain ⟨g,cg,rfl,-⟩:=bM.cellAt HO2.out;rw [elen] at HOF ⊢;go_wp2;exact bodyPost_ret (results_tmp Tryz.results60 _ _ _) rfl ⟨⟨_,rfl,HOF.out⟩,ac HB.out (ac HR.out HR2.out ρ) (ψ HSZ.out)⟩
   obtain ⟨j,rfl⟩:∃ i,j=i+1:=⟨j - 1,by omega⟩;obtain ⟨og,cg,rfl,hog⟩:=bM.cellAt HO2.out;rw [elen] at hog ⊢;obtain ⟨gb,go,rfl,hgb,hgc⟩:=hog ω;have g1:=hgc j ω;have eg:(rg.take (j+1)).getD j 0=rg.getD j 0:=by
    rw [List.getD_eq_getElem?_getD,List.getD_eq_getElem?_getD,List.getElem?_take_of_lt ω]
   obtain ⟨la,hla⟩:∃ la,rg.getD j 0=la:=⟨_,rfl⟩;rw [eg,hla] at g1;have HLA:=η hla;have HJL:=η (show j+1<L by omega);obtain ⟨nb,hnb⟩:∃ nb,rg.getD (j+1) 0=nb:=⟨_,rfl⟩;have HNB:=η hnb;have HNX:=η (show ∀ x ∈ on,(x≠la∧∀ q ∈ on,0≤T m.n (P x - P la) (P q - P la))↔x=nb from by
    have:=HRW.out.next j (by rw [HRL.out];omega);rw [hla,hnb] at this;exact this)
   have HNM:=η (show nb ∈ on from by rw [← hnb];exact HRW.out.mem _ (qf (by rw [HRL.out];omega)));have HLM:=η (show la ∈ on from by rw [← hla];exact HRW.out.mem _ (qf (by rw [HRL.out];omega)));have hjl:(j:Int)<((j+1:Nat):Int):=ω;have hjL:((j+1:Nat):Int)<(L:Int):=ω;have hj64:j≤64:=by have:=HL64.out;omega
   clear hgc hog elen eg hla hnb h0 hj1 hj2
   go_wp2_with fail
   clear g1
   go_loopw [7,9] (fun ov iv w3=>ov=.slice (some ⟨gb,go,none⟩) (j+1) cg∧∃ i,i≤L∧iv=.int .i64 (i:Nat)∧Hid (∀ q,q<i→on.getD q 0≠nb)∧Hid (Below w2.heap.size w2 w3)) (fun _ iv _=>L - (intOf iv).toNat)
   case atStart=>exact ⟨rfl,0,Nat.zero_le _,rfl,(fun q hq=>by omega),Below.refl _ _⟩
   case round =>
    obtain ⟨rfl,i,hi,rfl,HI,HR3⟩:=hrel;have hi64:i≤64:=by have:=HL64.out;omega
    obtain ⟨w3,rfl⟩:∃ w3,w3=wr:=⟨_,rfl⟩;have hil:i<L:=Classical.byContradiction fun hc=>by
     obtain ⟨q,hq,e⟩:=List.mem_iff_getElem.mp HNM.out;exact HI.out q (ψ HL.out) (by rw [List.getD_eq_getElem?_getD,List.getElem?_eq_getElem hq];exact e)
    have hlt:(i:Int)<(L:Int):=ω;have HIL:=η hil;have L3:=η (ac HR2.out HR3.out ρ);have ci:=HC.out w3 L3.out i hil;obtain ⟨x,hx⟩:∃ x,on.getD i 0=x:=⟨_,rfl⟩;rw [hx] at ci;have HX:=η hx;have HXM:=η (show x ∈ on from by rw [← hx];exact qf (by rw [HL.out];exact hil));obtain ⟨ne,hne⟩:∃ ne,((x:Int) != (la:Int))=ne:=⟨_,rfl⟩;have HNE:Hid (ne=true↔x≠la):=by
     show _↔_;rw [← hne,bne_iff_ne];omega
    clear hx hi
    go_wp2_with fail
    go_region;clear ci
    go_wp2_with fail
    go_loopw [11,12] (fun lv kv w4=>∃ q lb,q≤L∧lv=.bool lb∧kv=.int .i64 (q:Nat)∧Hid (lb=true→x≠la∧∀ y,y<q→0≤T m.n (P x - P la) (P (on.getD y 0) - P la))∧Hid (lb=false→x≠nb)∧Hid (Below w3.heap.size w3 w4)) (fun _ kv _=>L - (intOf kv).toNat)
    case atStart=>exact ⟨0,ne,Nat.zero_le _,rfl,rfl,(fun h=>⟨HNE.out.mp h,fun y hy=>by omega⟩),(fun h e=>absurd (HNE.out.mpr (by rw [e];exact ((HNX.out nb HNM.out).mpr rfl).1)) (by rw [h];decide)),β.drew⟩
    case round =>
     obtain ⟨q,lb,hq,rfl,rfl,HL1,HL2,HR4⟩:=hrel;obtain ⟨w4,rfl⟩:∃ w4,w4=wr:=⟨_,rfl⟩;have HR34:=η (ac HR3.out HR4.out ρ);have hq64:q≤64:=by have:=HL64.out;omega
     clear hne;cases lb
     case false =>
      have HI2:Hid (∀ y,y<i+1→on.getD y 0≠nb):=fun y hy=>by
       by_cases e:y=i
       ·subst e;rw [HX.out];exact HL2.out rfl
       ·exact HI.out y ω
      by_cases hql:q<L
      ·have hqi:(q:Int)<(L:Int):=ω
       go_wp2_with fail
       go_round
       case rel=>exact ⟨rfl,i+1,HIL.out,rfl,HI2.out,HR34.out⟩
       case measure=>show L - ((i:Int)+1).toNat<L - (i:Int).toNat;have:=HIL.out;omega
      ·have hqi:¬ (q:Int)<(L:Int):=ω
       go_wp2_with fail
       go_round
       case rel=>exact ⟨rfl,i+1,HIL.out,rfl,HI2.out,HR34.out⟩
       case measure=>show L - ((i:Int)+1).toNat<L - (i:Int).toNat;have:=HIL.out;omega
     case true =>
      by_cases hql:q=L
      ·have hqi:¬ (q:Int)<(L:Int):=ω
       have hxn:x=nb:=(HNX.out x HXM.out).mp ⟨(HL1.out rfl).1,fun y hy=>by
        obtain ⟨t,ht,e⟩:=List.mem_iff_getElem.mp hy;have:=(HL1.out rfl).2 t (ψ HL.out);rw [List.getD_eq_getElem?_getD,List.getElem?_eq_getElem ht] at this;rw [← e];exact this⟩
       have HXN:=η hxn;have HOW:=η (show w4.ownsRow wk.heap.size 3 1 (.slice (some ⟨gb,go,none⟩) (j+1) cg) (j+1) ((rg.take (j+1)).map fun (i:Nat)=>Value.int .i64 (i:Int)) from by
        have:=aO HO2.out HR34.out;rw [ELEN.out] at this;exact this)
       have HB4:=η (ac HR2.out HR34.out ρ);have HBS:=η HB4.out.size;clear hxn hql
       go_wp2_with (at_builtin;refine wpList_append_own _ rfl _ _ 43 rfl wk.heap.size 3 i0 (.int .i64 0) 1 8 Tryz.underlying43 hinf hz0 hz1 hz2 rfl ν _ _ _ rfl (World.ownsRow.alloc HOW.out _) ⟨w4.heap.size,0,none⟩ 1 1 [.int .i64 (x:Nat)] rfl rfl (fun j u hj=>i6 w4 _ _ j u hj) (by intro u hu;simp at hu;rcases hu with rfl;rfl) (by unfold maxLen;omega) ω (by have:=HBS.out;simp;omega) ?_)
       intro v' w6 hown' hgrow6 _;have HO6:=η (show bM w6 wk.heap.size v' (rg.take (j+1+1)) from by
        have e:rg.take (j+1+1)=rg.take (j+1) ++ [x]:=by
         have h1:j+1<rg.length:=by rw [HRL.out];exact HJL.out
         rw [List.take_succ_eq_append_getElem h1,HXN.out,← HNB.out];simp [h1]
        rw [e];refine bM.app ?_;rw [ELEN.out,List.map_take];exact hown')
       have HB6:=η (show Below wk.heap.size wk w6 from (HB4.out.alloc HBS.out _).grown hgrow6 (by have:=HBS.out;simp;omega) (fun g hg=>bw HOW.out g hg));obtain ⟨av,cv,hav,-⟩:=bM.cellAt HO6.out;have hlv:(rg.take (j+1+1)).length=j+1+1:=by rw [List.length_take,HRL.out];have:=HJL.out;omega
       rw [hlv] at hav;subst hav;clear hown' hgrow6 hlv;go_wp2;go_round
       case rel=>exact ⟨j+1+1,_,rfl,by omega,HJL.out,HO6.out,HB6.out⟩
       case measure=>show L - (j+1+1)<L - (j+1);have:=HJL.out;omega
      ·have hql:q<L:=ω
       have hqi:(q:Int)<(L:Int):=ω;have HQL:=η hql;have HB4:=η (ac HR2.out HR34.out ρ);have cq:=HC.out w4 HB4.out q hql;obtain ⟨y,hy⟩:∃ y,on.getD q 0=y:=⟨_,rfl⟩;rw [hy] at cq;have HY:=η hy;have HYM:=η (show y ∈ on from by rw [← hy];exact qf (by rw [HL.out];exact hql));have HW4:=η (ac HR.out HB4.out ρ);have hxk:=HLT.out x HXM.out;have hak:=HLT.out la HLM.out;have hyk:=HLT.out y HYM.out;obtain ⟨b,off,rfl,hb,-,hcc⟩:=(HP.out.below HW4.out).cells ω;obtain ⟨q0,q1,q2⟩:=hcc x hxk;obtain ⟨r0,r1,r2⟩:=hcc la hak;obtain ⟨s0,s1,s2⟩:=hcc y hyk;obtain ⟨c0,c1,c2,-⟩:=KM.out w4 HW4.out;have hwl:w.heap.size<w4.heap.size:=by have:=HW4.out.size;omega
       have hbo4:bo<w4.heap.size:=by have:=HB4.out.size;omega
       have hpx:=HN.out x hxk;have hpa:=HN.out la hak;have hpy:=HN.out y hyk;have HL1N:=η (HL1.out rfl);have HNXX:=η (HNX.out x HXM.out);have HTT:=η (show ∀ z ∈ on,x=nb→0≤T m.n (P x - P la) (P z - P la) from fun z hz e=>((HNX.out x HXM.out).mpr e).2 z hz);have HSB:=η (fun v=>dR (P x) (P la) 4096 4096 v hpx hpa ω);have HSC:=η (fun v=>dR (P y) (P la) 4096 4096 v hpy hpa ω);have HCR:=η (fun v=>jK (P x - P la) (P y - P la) 8192 8192 v (hpx.sub hpa) (hpy.sub hpa) ω);have HDT:=η (fun v=>dS m.n (V.cross (P x - P la) (P y - P la)) 1000000000 134217728 v HM.out (((hpx.sub hpa).cross (hpy.sub hpa)).mono ω) ω);obtain ⟨t,ht⟩:∃ t,V.dot m.n (V.cross (P x - P la) (P y - P la))=t:=⟨_,rfl⟩;have HT:Hid (T m.n (P x - P la) (P y - P la)=t):=ht;rw [ht] at HDT;obtain ⟨cr,hcr⟩:∃ cr,V.cross (P x - P la) (P y - P la)=cr:=⟨_,rfl⟩;rw [hcr] at HCR HDT;obtain ⟨d1,hd1⟩:∃ d1,P x - P la=d1:=⟨_,rfl⟩;rw [hd1] at HSB HCR;obtain ⟨d2,hd2⟩:∃ d2,P y - P la=d2:=⟨_,rfl⟩;rw [hd2] at HSC HCR;obtain ⟨px,hpx'⟩:∃ px,P x=px:=⟨_,rfl⟩;obtain ⟨pa,hpa'⟩:∃ pa,P la=pa:=⟨_,rfl⟩;obtain ⟨py,hpy'⟩:∃ py,P y=py:=⟨_,rfl⟩;rw [hpx'] at q0 q1 q2 HSB;rw [hpa'] at r0 r1 r2 HSB HSC;rw [hpy'] at s0 s1 s2 HSC;simp only [bA] at HSB HSC HCR HDT;have K0:=fun x:Later w4.heap.size w4=>keepC q0 x.h hb
       have K1:=fun x:Later w4.heap.size w4=>keepC q1 x.h hb
       have K2:=fun x:Later w4.heap.size w4=>keepC q2 x.h hb
       have K3:=fun x:Later w4.heap.size w4=>keepC r0 x.h hb
       have K4:=fun x:Later w4.heap.size w4=>keepC r1 x.h hb
       have K5:=fun x:Later w4.heap.size w4=>keepC r2 x.h hb
       have K6:=fun x:Later w4.heap.size w4=>keepC s0 x.h hb
       have K7:=fun x:Later w4.heap.size w4=>keepC s1 x.h hb
       have K8:=fun x:Later w4.heap.size w4=>keepC s2 x.h hb
       have K9:=fun x:Later w4.heap.size w4=>keepC c0 x.h hwl
       have K10:=fun x:Later w4.heap.size w4=>keepC c1 x.h hwl
       have K11:=fun x:Later w4.heap.size w4=>keepC c2 x.h hwl
       have K12:=fun x:Later w4.heap.size w4=>keepC cq x.h hbo4
       have hxi:(x:Int)<(k:Int):=ω;have hai:(la:Int)<(k:Int):=ω;have hyi:(y:Int)<(k:Int):=ω;clear hcc hy ht hcr hd1 hd2 hpx' hpa' hpy' hpx hpa hpy q0 q1 q2 r0 r1 r2 s0 s1 s2 c0 c1 c2 cq HL1 HNX hql
       go_wp2_with fail
       refine aC (Below.refl w4.heap.size w4) κ κ ?_
       repeat (first
        | go_big_quiet_skip
        | (go_big_quiet_want;go_big_quiet_op;first | go_big_quiet_on | go_big_quiet_call (first | (go_at_call 83;first | with_reducible exact Calls.later ρ (HSB.out _) | with_reducible exact Calls.later ρ (HSC.out _)) | (go_at_call 98;with_reducible exact Calls.later ρ (HCR.out _)) | (go_at_call 16;with_reducible exact Calls.later ρ (HDT.out _)))))
       refine wpQuiet_nil ?_;intro w5 hw';obtain ⟨x',hx⟩:=hw';have H5:=η (show Below w3.heap.size w3 w5 from by rw [hx];exact ac HR4.out x'.h ρ);clear hx x' K0 K1 K2 K3 K4 K5 K6 K7 K8 K9 K10 K11 K12
       go_wp2_with fail
       go_round
       case rel=>exact ⟨q+1,_,HQL.out,rfl,rfl,(fun h=>⟨HL1N.out.1,fun z hz=>by
        by_cases e:z=q
        ·subst e;rw [HY.out,HT.out];exact of_decide_eq_true h
        ·exact HL1N.out.2 z ω⟩),(fun h e=>by
        have h1:=HTT.out y HYM.out e;rw [HT.out] at h1;exact of_decide_eq_false h h1),H5.out⟩
       case measure=>show L - ((q:Int)+1).toNat<L - (q:Int).toNat;have:=HQL.out;omega
end Go.Proofs.Υ
end

section
namespace Dowel
open V
def triD (P:Nat→V) (a b d:Nat):Int:=dot (P a) (cross (P b) (P d))
def jH (f:V→Int) (P:Nat→V) (a b d:Nat):Int:=triD P a b d*(f (P a)+f (P b)+f (P d))
def nD (g:Nat→Nat→Nat→Int) (r:List Nat) (m:Nat):Int:=((List.range m).map fun k=>g (r.getD 0 0) (r.getD (k+1) 0) (r.getD (k+2) 0)).sum
theorem nC (g:Nat→Nat→Nat→Int) (r:List Nat):nD g r 0=0:=rfl
theorem fanTo_succ (g:Nat→Nat→Nat→Int) (r:List Nat) (m:Nat):nD g r (m+1)=nD g r m+g (r.getD 0 0) (r.getD (m+1) 0) (r.getD (m+2) 0):=by
 unfold nD;rw [List.range_succ,List.map_append,dI];simp
def kR (P:Nat→V) (rs:List (List Nat)):Int:=(rs.map (fan (triD P))).sum
def pV (P:Nat→V) (rs:List (List Nat)):V:=⟨(rs.map (fan (jH V.x P))).sum,(rs.map (fan (jH V.y P))).sum,(rs.map (fan (jH V.z P))).sum⟩
def fW (g:Nat→Nat→Nat→Int) (rs:List (List Nat)) (i m:Nat):Int:=((rs.take i).map (fan g)).sum+nD g (rs.getD i []) m
theorem ic (g:Nat→Nat→Nat→Int) (rs:List (List Nat)):fW g rs 0 0=0:=by simp [fW,nD]
theorem ie (g:Nat→Nat→Nat→Int) (rs:List (List Nat)) (i m:Nat):fW g rs i (m+1)=fW g rs i m+g ((rs.getD i []).getD 0 0) ((rs.getD i []).getD (m+1) 0) ((rs.getD i []).getD (m+2) 0):=by
 unfold fW;rw [fanTo_succ];omega
theorem jm (g:Nat→Nat→Nat→Int) (rs:List (List Nat)) (i m:Nat) (hi:i<rs.length) (hm:m=(rs.getD i []).length - 2):fW g rs (i+1) 0=fW g rs i m:=by
 unfold fW;rw [List.take_succ_eq_append_getElem hi,List.map_append,dI,nC,hm,show rs.getD i []=rs[i] by simp [hi]];simp [fan,nD]
theorem jn (g:Nat→Nat→Nat→Int) (rs:List (List Nat)):fW g rs rs.length 0=(rs.map (fan g)).sum:=by
 unfold fW;rw [List.take_length,nC,Int.add_zero]
structure Acc (P:Nat→V) (rs:List (List Nat)) (i m:Nat) (s:Int) (M:V):Prop where
 e:s=fW (triD P) rs i m
 x:M.x=fW (jH V.x P) rs i m
 y:M.y=fW (jH V.y P) rs i m
 z:M.z=fW (jH V.z P) rs i m
 bs:Le (((i*64+m:Nat):Int)*12582912) s
 bx:Le (((i*64+m:Nat):Int)*4831838208) M.x
 by_:Le (((i*64+m:Nat):Int)*4831838208) M.y
 bz:Le (((i*64+m:Nat):Int)*4831838208) M.z
theorem Acc.start (P:Nat→V) (rs:List (List Nat)):Acc P rs 0 0 0 V.zero:=
 ⟨(ic _ _).symm,(ic _ _).symm,(ic _ _).symm,(ic _ _).symm,by unfold Le;simp,by unfold Le V.zero;simp,by unfold Le V.zero;simp,by unfold Le V.zero;simp⟩
theorem det_le {a b d:V} (ha:LeV 128 a) (hb:LeV 128 b) (hd:LeV 128 d):Le 12582912 (dot a (cross b d)):=(ha.dot (hb.cross hd)).mono ω
theorem pU {n x y z:Int} (hn:Le 12582912 n) (hx:Le 128 x) (hy:Le 128 y) (hz:Le 128 z):Le 4831838208 (n*(x+y+z)):=by
 refine (hn.mul (show Le 384 (x+y+z) from ?_)).mono ω;unfold Le at *;omega
def momV (M:V) (n:Int) (a b d:V):V:=⟨M.x+n*(a.x+b.x+d.x),M.y+n*(a.y+b.y+d.y),M.z+n*(a.z+b.z+d.z)⟩
theorem Acc.next {P:Nat→V} {rs:List (List Nat)} {i m:Nat} {s:Int} {M:V} (h:Acc P rs i m s M) {r:List Nat} (hr:rs.getD i []=r) {a b d:V} (ha:P (r.getD 0 0)=a) (hb:P (r.getD (m+1) 0)=b) (hd:P (r.getD (m+2) 0)=d)
  (la:LeV 128 a) (lb:LeV 128 b) (ld:LeV 128 d):Acc P rs i (m+1) (s+dot a (cross b d)) (momV M (dot a (cross b d)) a b d):=by
 have l:=det_le la lb ld;have lx:=pU l la.1 lb.1 ld.1;have ly:=pU l la.2.1 lb.2.1 ld.2.1;have lz:=pU l la.2.2 lb.2.2 ld.2.2;have b1:=h.bs;have b2:=h.bx;have b3:=h.by_;have b4:=h.bz;refine ⟨?_,?_,?_,?_,?_,?_,?_,?_⟩
 ·rw [ie,hr,← h.e];unfold triD;rw [ha,hb,hd]
 ·rw [ie,hr,← h.x];unfold jH triD;rw [ha,hb,hd];rfl
 ·rw [ie,hr,← h.y];unfold jH triD;rw [ha,hb,hd];rfl
 ·rw [ie,hr,← h.z];unfold jH triD;rw [ha,hb,hd];rfl
 ·generalize dot a (cross b d)=n at *
  unfold Le at *;omega
 ·unfold momV;dsimp only
  generalize dot a (cross b d)*(a.x+b.x+d.x)=n at *;unfold Le at *;omega
 ·unfold momV;dsimp only
  generalize dot a (cross b d)*(a.y+b.y+d.y)=n at *;unfold Le at *;omega
 ·unfold momV;dsimp only
  generalize dot a (cross b d)*(a.z+b.z+d.z)=n at *;unfold Le at *;omega
theorem Acc.row {P:Nat→V} {rs:List (List Nat)} {i m:Nat} {s:Int} {M:V} (h:Acc P rs i m s M) (hi:i<rs.length) (hm:m=(rs.getD i []).length - 2) (hl:m≤64):Acc P rs (i+1) 0 s M:=by
 have b1:=h.bs;have b2:=h.bx;have b3:=h.by_;have b4:=h.bz;refine ⟨?_,?_,?_,?_,?_,?_,?_,?_⟩
 ·rw [jm _ _ _ _ hi hm];exact h.e
 ·rw [jm _ _ _ _ hi hm];exact h.x
 ·rw [jm _ _ _ _ hi hm];exact h.y
 ·rw [jm _ _ _ _ hi hm];exact h.z
 all_goals unfold Le at *;omega
theorem Acc.done {P:Nat→V} {rs:List (List Nat)} {s:Int} {M:V} (h:Acc P rs rs.length 0 s M):s=kR P rs∧M=pV P rs:=
 ⟨by rw [h.e,jn];rfl,V.ext' (by rw [h.x,jn];rfl) (by rw [h.y,jn];rfl) (by rw [h.z,jn];rfl)⟩
theorem Acc.room {P:Nat→V} {rs:List (List Nat)} {i m:Nat} {s:Int} {M:V} (h:Acc P rs i m s M) (hi:i≤600000) (hm:m≤64):Le 600000000000000 s∧LeV 200000000000000000 M:=by
 have b1:=h.bs;have b2:=h.bx;have b3:=h.by_;have b4:=h.bz;unfold LeV Le at *;omega
end Dowel
end

section
namespace Dowel
open Go Go.RowKit
theorem SolidF.below {w w':World} {v0 v1:Value} {qs:List Q3} {frs:List FR} {rs:List (List Nat)} {d M:Nat} (h:SolidF w v0 v1 qs frs rs d M) (hb:Below w.heap.size w w'):SolidF w' v0 v1 qs frs rs d M where
 sol:={
  vs:=by obtain ⟨base,vrs,hv⟩:=h.sol.vs;exact ⟨base,vrs,hv.below hb⟩
  fs:=by obtain ⟨base,fqs,hv⟩:=h.sol.fs;exact ⟨base,fqs,hv.below hb⟩
  rows:=fun i f r h1 h2=>by obtain ⟨base,ho⟩:=h.sol.rows i f r h1 h2;exact ⟨base,aO ho hb⟩
  len:=h.sol.len
  max:=h.sol.max
  vmax:=h.sol.vmax
  ring:=h.sol.ring
  bd:=h.sol.bd }
 dpos:=h.dpos
 dmax:=h.dmax
 mmax:=h.mmax
 frac:=h.frac
theorem quarter:qscale (1 / (4*1)) ⟨1,1,1⟩=⟨1 / 4,1 / 4,1 / 4⟩:=by
 have h:(1 / (4*1):Rat)*1=1 / 4:=by decide +kernel
 unfold qscale;rw [h]
theorem text1:(⟨(dm 1).toArray⟩:ByteArray)=⟨#[49]⟩:=by
 unfold dm;rw [if_pos ν,show (1:Rat).num.toNat=1 by decide,Lib.decDigits_one ν]
 rfl
theorem textQ (x:Rat) (k:Nat) (h1:x.num=1) (h2:x.den=k) (h3:1<k) (h4:k<10):(⟨(dm x).toArray⟩:ByteArray)=⟨#[49,47,UInt8.ofNat (48+k)]⟩:=by
 unfold dm;rw [if_neg ω,h1,h2,show (1:Int).toNat=1 by decide,Lib.decDigits_one (show 1<10 by omega),Lib.decDigits_one h4]
 rfl
end Dowel
namespace Go.Proofs.Υ
open Go.RowKit Dowel
theorem N6 (v:Value) (w:World) (h:ak w v (1 / 6)):Calls Tryz.prog 46 #[v] w fun e w''=>e=.returned (.string ⟨#[49,47,54]⟩)∧Below w.heap.size w w'':=by
 have:=fK v (1 / 6) w h (by decide +kernel) (by decide +kernel) (by decide +kernel);rw [textQ (1 / 6) 6 (by decide +kernel) (by decide +kernel) ν ν] at this;exact this
theorem N4 (v:Value) (w:World) (h:aA w v ⟨1 / 4,1 / 4,1 / 4⟩):Calls Tryz.prog 47 #[v] w fun e w''=>e=.returned (.agg #[.string ⟨#[49,47,52]⟩,.string ⟨#[49,47,52]⟩,.string ⟨#[49,47,52]⟩])∧Below w.heap.size w w'':=by
 have hs:qr (1 / 4):=⟨by decide +kernel,by decide +kernel,by decide +kernel⟩;have:=point_any v ⟨1 / 4,1 / 4,1 / 4⟩ w h hs hs hs;rw [textQ (1 / 4) 4 (by decide +kernel) (by decide +kernel) ν ν] at this;exact this
set_option maxRecDepth 100000 in
theorem known_any (w:World) (hT:Tab w) :
  Calls Tryz.prog 10 #[] w fun e w'=>e=.returned (.bool true)∧Below w.heap.size w w':=by
 have KT:Hid (∀ w',Below w.heap.size w w'→Tab w'):=fun w' h=>hT.below h hT.1
 clear hT
 go_enter Tryz.func10,Tryz.ntmps10
 go_wp2_with fail
 obtain ⟨W,hW,b1,hB,hS⟩:=aG w #[.int .i64 0,.int .i64 0,.int .i64 0,.int .i64 0,.int .i64 0,.int .i64 1,.int .i64 0,.int .i64 1,.int .i64 0,.int .i64 1,.int .i64 0,.int .i64 0] 46;rw [hW]
 have hP:Pts W (some ⟨w.heap.size,0,none⟩) 4 4 tet:=⟨Nat.le_refl _,(fun h=>by cases h),fun x hx=>by
  cases hx;refine ⟨rfl,b1.lt,fun i hi=>?_⟩;have:i=0∨i=1∨i=2∨i=3:=ω
  rcases this with rfl | rfl | rfl | rfl <;> exact ⟨(b1.cell _).trans rfl,(b1.cell _).trans rfl,(b1.cell _).trans rfl⟩⟩
 refine (of_any (some ⟨w.heap.size,0,none⟩) 4 4 tet W hP ω (fun i hi=>(dh.sorted.near i hi).le) (KT.out W hB) dh.sorted dh.full (fun v hv=>by
  have:=pg (some ⟨w.heap.size,0,none⟩) 4 4 tet v (KT.out v (ac hB hv ρ)) (hP.below hv) ω;rw [kC.mpr dh] at this;exact this)).mono ?_
 rintro e w1 ⟨⟨v0,v1,v2,fs,E,vrs,frs,es,rfl,hsh⟩,hb1⟩;have L1:=η (ac hB hb1 ρ);have SOL:=η (tet_solid hsh);obtain ⟨f,hf,hfl,hfr,hfq⟩:=tet_face hsh.ok;have hes:=tet_edges (by have:=hsh.edg;rw [kM hsh.ok] at this;exact this);have hfrl:frs.length=4:=by have:=congrArg List.length hsh.val;simp only [List.length_map] at this;omega
 obtain ⟨b,cap1,fr,ev1,hb,hfr3,hcells⟩:=hsh.fcs.nth 3 ω;obtain ⟨bV,cV,rV,ev0,-,-,-,-,-,-⟩:=hsh.vs.at_ 0 (ptQ (tet 0)) rfl;have hvl:(cG tet 4).length=4:=rfl;obtain ⟨p2,c2,ev2⟩:∃ p c,v2=.slice p 6 c:=by
  obtain ⟨_,⟨rfl,h0⟩ | ⟨g,cap,cur,rfl,_⟩⟩:=hsh.eds
  ·omega
  ·exact ⟨_,_,by rw [hes]⟩
 have hvec:=hsh.fcs.vec 3 fr (iX tet f) hfr3 (by rw [List.getElem?_map,hf];rfl);rw [hfq] at hvec;have hfv:fr.v=f.v:=by
  have:=congrArg (fun l:List Value=>l[3]?) hsh.val;simp only [List.getElem?_map,hf,hfr3,Option.map_some] at this;exact Option.some.inj this
 have hown:=hsh.rows.own f (List.mem_of_getElem? hf);rw [← hfv,hfr] at hown;rw [hfrl] at ev1;rw [hvl] at ev0;subst ev0 ev1 ev2;obtain ⟨⟨n0,n1,n2⟩,ro,fvv⟩:=fr;simp only [] at hown hvec;obtain ⟨q1,q2,rfl,hints⟩:=bM.ints hown;obtain ⟨g,og,rfl,hg,hgc,hgd⟩:=hints.cells ν;have VN:=η hvec.1;have VO:=η hvec.2;have HG:=η hg;have HGD:=η hgd;have HSH:=η hsh;have HC:=η hcells;have HB0:=η hb;clear hsh hvec hown hg hgd hints hf hfl hfr hfq hes hfrl hfr3 hfv hvl hcells hb1 hb hgc hP b1 hB hS hW
 go_upto_region 2 with fail
 obtain ⟨w2,hw2,bs,hB2,hS2⟩:=aG w1 #[.slice (some ⟨bV,0,none⟩) 4 cV,.slice (some ⟨b,0,none⟩) 4 cap1,.slice p2 6 c2] 32;rw [hw2];obtain ⟨x0,x1,x2,-⟩:=bs.three;have DD:=η (show ∀ j,j<17→w2.cell? ⟨b,3*17+j,none⟩=(dX n0 n1 n2 ro (some ⟨g,og,none⟩) 3 q2)[j]? from fun j hj=>((hB2.cell (p:=⟨b,3*17+j,none⟩) HB0.out).trans (HC.out j hj)).trans (Array.getElem?_toList (xs:=dX n0 n1 n2 ro (some ⟨g,og,none⟩) 3 q2)));have BS:=η bs;have H2:=η hB2;have SZ2:=η hS2;clear bs hB2 hS2 hw2
 go_upto_region 5 with (first | refine fi rfl _ _ rfl b (3*17) rfl (dX n0 n1 n2 ro (some ⟨g,og,none⟩) 3 q2) _ (fun j hj=>DD.out j hj) Tryz.underlying98 rfl ms ?_ | refine eA rfl _ _ _ rfl _ (dX n0 n1 n2 ro (some ⟨g,og,none⟩) 3 q2) rfl rfl ms rfl (lZ ..) ?_)
 obtain ⟨w3,hw3,bf,hB3,hS3⟩:=aG w2 (dX n0 n1 n2 ro (some ⟨g,og,none⟩) 3 q2) 98;rw [hw3];clear x0 x1 x2;have L2:=η (ac L1.out H2.out ρ);have L3:=η (ac L2.out hB3 ρ);have H13:=η (ac H2.out hB3 ρ);have BF:=η bf;have BS3:=η (BS.out.below hB3 BS.out.lt);clear bf hB3 hS3 hw3;have KF:Hid (∀ w',Below w3.heap.size w3 w'→w'.cell? ⟨w2.heap.size,0,none⟩=some (.bool n0.s)∧w'.cell? ⟨w2.heap.size,1,none⟩=some (.slice n0.a n0.n n0.c)∧w'.cell? ⟨w2.heap.size,2,none⟩=some (.bool n0.t)∧w'.cell? ⟨w2.heap.size,3,none⟩=some (.slice n0.b n0.m n0.d)∧w'.cell? ⟨w2.heap.size,4,none⟩=some (.bool n1.s)∧w'.cell? ⟨w2.heap.size,5,none⟩=some (.slice n1.a n1.n n1.c)∧w'.cell? ⟨w2.heap.size,6,none⟩=some (.bool n1.t)∧w'.cell? ⟨w2.heap.size,7,none⟩=some (.slice n1.b n1.m n1.d)∧w'.cell? ⟨w2.heap.size,8,none⟩=some (.bool n2.s)∧w'.cell? ⟨w2.heap.size,9,none⟩=some (.slice n2.a n2.n n2.c)∧w'.cell? ⟨w2.heap.size,10,none⟩=some (.bool n2.t)∧w'.cell? ⟨w2.heap.size,11,none⟩=some (.slice n2.b n2.m n2.d)∧w'.cell? ⟨w2.heap.size,12,none⟩=some (.bool ro.s)∧w'.cell? ⟨w2.heap.size,13,none⟩=some (.slice ro.a ro.n ro.c)∧w'.cell? ⟨w2.heap.size,14,none⟩=some (.bool ro.t)∧w'.cell? ⟨w2.heap.size,15,none⟩=some (.slice ro.b ro.m ro.d)∧w'.cell? ⟨w2.heap.size,16,none⟩=some (.slice (some ⟨g,og,none⟩) 3 q2)):=fun w' h=>by
  have h:=BF.out.below h BF.out.lt;exact ⟨(h.cell 0).trans rfl,(h.cell 1).trans rfl,(h.cell 2).trans rfl,(h.cell 3).trans rfl,(h.cell 4).trans rfl,(h.cell 5).trans rfl,(h.cell 6).trans rfl,(h.cell 7).trans rfl,(h.cell 8).trans rfl,(h.cell 9).trans rfl,(h.cell 10).trans rfl,(h.cell 11).trans rfl,(h.cell 12).trans rfl,(h.cell 13).trans rfl,(h.cell 14).trans rfl,(h.cell 15).trans rfl,(h.cell 16).trans rfl⟩
 have KS:Hid (∀ w',Below w3.heap.size w3 w'→w'.cell? ⟨w1.heap.size,0,none⟩=some (.slice (some ⟨bV,0,none⟩) 4 cV)∧w'.cell? ⟨w1.heap.size,1,none⟩=some (.slice (some ⟨b,0,none⟩) 4 cap1)∧w'.cell? ⟨w1.heap.size,2,none⟩=some (.slice p2 6 c2)):=fun w' h=>by
  have h:=BS3.out.below h BS3.out.lt;exact ⟨(h.cell 0).trans rfl,(h.cell 1).trans rfl,(h.cell 2).trans rfl⟩
 have VN3:=η (VN.out.below H13.out);have VO3:=η (VO.out.below H13.out);have SOL3:=η (SOL.out.below H13.out);have HGL:=η (Nat.lt_of_lt_of_le HG.out H13.out.size);have KI:Hid (∀ w',Below w3.heap.size w3 w'→∀ j,j<3→w'.cell? ⟨g,og+j,none⟩=some (.int .i64 ([1,3,2].getD j 0))):=fun w' h j hj=>by
  rw [h.cell (p:=⟨g,og+j,none⟩) HGL.out,H13.out.cell (p:=⟨g,og+j,none⟩) HG.out,HGD.out j hj];have:j=0∨j=1∨j=2:=ω
  rcases this with rfl | rfl | rfl <;> rfl
 have LE1:Hid (LeV 9007199254740992 (⟨1,1,1⟩:V)):=⟨⟨by decide,by decide⟩,⟨by decide,by decide⟩,⟨by decide,by decide⟩⟩;have BQ:Hid (BdV 2 ⟨1,1,1⟩):=⟨bd1,bd1,bd1⟩;have N1:Hid (∀ w',Below w3.heap.size w3 w'→Calls Tryz.prog 46 #[.agg #[.bool ro.s,.slice ro.a ro.n ro.c,.bool ro.t,.slice ro.b ro.m ro.d]] w' fun e w''=>e=.returned (.string ⟨#[49]⟩)∧Below w'.heap.size w' w''):=fun w' h=>by
  have:=fK _ 1 w' (VO3.out.below h) ν ν ν;rw [text1] at this;exact this
 have KV:Hid (∀ w',Below w3.heap.size w3 w'→Calls Tryz.prog 37 #[.agg #[.slice (some ⟨bV,0,none⟩) 4 cV,.slice (some ⟨b,0,none⟩) 4 cap1,.slice p2 6 c2]] w' fun e w''=>dB w'' e (1 / 6)∧Below w'.heap.size w' w''):=fun w' h=>by
  have:=mD _ _ (.slice p2 6 c2) _ _ _ _ _ w' (SOL3.out.below h);rw [mJ] at this;exact this
 have KC:Hid (∀ w',Below w3.heap.size w3 w'→Calls Tryz.prog 25 #[.agg #[.slice (some ⟨bV,0,none⟩) 4 cV,.slice (some ⟨b,0,none⟩) 4 cap1,.slice p2 6 c2]] w' fun e w''=>gL w'' e ⟨1 / 4,1 / 4,1 / 4⟩∧Below w'.heap.size w' w''):=fun w' h=>by
  have:=nS _ _ (.slice p2 6 c2) _ _ _ _ _ w' (SOL3.out.below h) (by rw [mJ];decide);rw [mJ,tet_sumC,quarter] at this;exact this
 refine bU (rest:=0) [isV 0 (.pointer (some ⟨w2.heap.size,0,none⟩)),isV 1 (.agg #[.bool n0.s,.slice n0.a n0.n n0.c,.bool n0.t,.slice n0.b n0.m n0.d,.bool n1.s,.slice n1.a n1.n n1.c,.bool n1.t,.slice n1.b n1.m n1.d,.bool n2.s,.slice n2.a n2.n n2.c,.bool n2.t,.slice n2.b n2.m n2.d]),isV 2 (.agg #[.int .i64 1,.int .i64 1,.int .i64 1]),isP 3 (fun v w=>aA w v ⟨((1:Int):Rat),((1:Int):Rat),((1:Int):Rat)⟩),isV 4 (.bool true),isV 5 (.bool true),isV 6 (.pointer (some ⟨w2.heap.size,12,none⟩)),isV 7 (.agg #[.bool ro.s,.slice ro.a ro.n ro.c,.bool ro.t,.slice ro.b ro.m ro.d]),isV 8 (.string ⟨#[49]⟩),isV 9 (.bool true),isV 10 (.bool true),isV 11 (.bool true),isV 12 (.pointer (some ⟨w2.heap.size,16,none⟩)),isV 13 (.slice (some ⟨g,og,none⟩) 3 q2),isP 14 (fun v w=>∃ gb,v=.slice (some ⟨gb,0,none⟩) 3 3∧Box w gb #[.int .i64 1,.int .i64 3,.int .i64 2] 3),isV 15 (.bool true),isV 16 (.bool true),isV 17 (.bool true),isV 18 (.agg #[.slice (some ⟨bV,0,none⟩) 4 cV,.slice (some ⟨b,0,none⟩) 4 cap1,.slice p2 6 c2]),isP 19 (fun v w=>ak w v (1 / 6)),isV 20 (.string ⟨#[49,47,54]⟩),isV 21 (.bool true),isV 22 (.bool true),isV 23 (.bool true),isV 24 (.agg #[.slice (some ⟨bV,0,none⟩) 4 cV,.slice (some ⟨b,0,none⟩) 4 cap1,.slice p2 6 c2]),isP 25 (fun v w=>aA w v ⟨1 / 4,1 / 4,1 / 4⟩),isV 26 (.agg #[.string ⟨#[49,47,52]⟩,.string ⟨#[49,47,52]⟩,.string ⟨#[49,47,52]⟩]),isV 27 (.agg #[.string ⟨#[49,47,52]⟩,.string ⟨#[49,47,52]⟩,.string ⟨#[49,47,52]⟩]),isV 28 (.bool true),isV 29 (.bool true),isV 30 (.bool true)] [] ?A5 #[true,true,true,true,true,true,true,true,true,true,true,true,true,true,true,true,true,true,true,true,true,true,true,true,true,true,true,true,true,true,true] κ [0,1,2,3,4,5,6,7,8,9,10,11,12,13,14,15,16,17,18,19,20,21,22,23,24,25,26,27,28,29,30] κ κ κ κ κ κ ?st ?hA ?hop ?hend
 case hA =>
  intro y;simp only [aS,cK,List.getElem?_toArray,List.getElem?_cons_zero,List.getElem?_cons_succ,Option.bind_some,Act.put,List.setIfInBounds_toArray,List.set_cons_zero,List.set_cons_succ];exact rfl
 case st=>exact ae.cons isV.stab (ae.cons isV.stab (ae.cons isV.stab (ae.cons (isP.stab (fun _ _ _ h hv=>hv.below h)) (ae.cons isV.stab (ae.cons isV.stab (ae.cons isV.stab (ae.cons isV.stab (ae.cons isV.stab (ae.cons isV.stab (ae.cons isV.stab (ae.cons isV.stab (ae.cons isV.stab (ae.cons isV.stab (ae.cons (isP.stab (fun _ _ _ h ⟨gb,e,hb⟩=>⟨gb,e,hb.below h hb.lt⟩)) (ae.cons isV.stab (ae.cons isV.stab (ae.cons isV.stab (ae.cons isV.stab (ae.cons (isP.stab (fun _ _ _ h hv=>hv.below h)) (ae.cons isV.stab (ae.cons isV.stab (ae.cons isV.stab (ae.cons isV.stab (ae.cons isV.stab (ae.cons (isP.stab (fun _ _ _ h hv=>hv.below h)) (ae.cons isV.stab (ae.cons isV.stab (ae.cons isV.stab (ae.cons isV.stab (ae.cons isV.stab (ae.nil)))))))))))))))))))))))))))))))
 case hop =>
  refine ah.cons (i:=0) rfl (fun y w' hS hD K hK=>?_) ?_
  ·as_aux_lemma =>
   go_simp;exact hK.out _ w' hS β isV.put δ
  refine ah.cons (i:=1) rfl (fun y w' hS hD K hK=>?_) ?_
  ·as_aux_lemma =>
   have e0:=isV.get (i:=0) (c:=.pointer (some ⟨w2.heap.size,0,none⟩)) (hD 0 κ);obtain ⟨c0,c1,c2,c3,c4,c5,c6,c7,c8,c9,c10,c11,c12,c13,c14,c15,c16⟩:=KF.out w' hS;simp only [e0] at hK ⊢;go_simp;exact hK.out _ w' hS β isV.put δ
  refine ah.cons (i:=2) rfl (fun y w' hS hD K hK=>?_) ?_
  ·as_aux_lemma =>
   go_simp;exact hK.out _ w' hS β isV.put δ
  refine ah.cons (i:=3) rfl (fun y w' hS hD K hK=>?_) ?_
  ·as_aux_lemma =>
   have e2:=isV.get (i:=2) (c:=.agg #[.int .i64 1,.int .i64 1,.int .i64 1]) (hD 2 κ);simp only [e2] at hK ⊢;go_simp;refine (mw ⟨1,1,1⟩ w' LE1.out).mono ?_;rintro e w'' ⟨⟨v,rfl,hv⟩,hb⟩;exact hK.out v w'' (ac hS hb ρ) hb (isP.put hv) δ
  refine ah.cons (i:=4) rfl (fun y w' hS hD K hK=>?_) ?_
  ·as_aux_lemma =>
   have e1:=isV.get (i:=1) (c:=.agg #[.bool n0.s,.slice n0.a n0.n n0.c,.bool n0.t,.slice n0.b n0.m n0.d,.bool n1.s,.slice n1.a n1.n n1.c,.bool n1.t,.slice n1.b n1.m n1.d,.bool n2.s,.slice n2.a n2.n n2.c,.bool n2.t,.slice n2.b n2.m n2.d]) (hD 1 κ);have e3:=isP.get (i:=3) (p:=fun v w=>aA w v ⟨((1:Int):Rat),((1:Int):Rat),((1:Int):Rat)⟩) (hD 3 κ);simp only [e1] at hK ⊢;go_simp;refine (j6 _ _ ⟨1,1,1⟩ ⟨((1:Int):Rat),((1:Int):Rat),((1:Int):Rat)⟩ 2 2 w' (VN3.out.below hS) e3 BQ.out BQ.out ω).mono ?_;rintro e w'' ⟨⟨r,rfl,hr⟩,hb⟩;obtain rfl:=hr.mpr rfl;exact hK.out _ w'' (ac hS hb ρ) hb isV.put δ
  refine ah.cons (i:=5) rfl (fun y w' hS hD K hK=>?_) ?_
  ·as_aux_lemma =>
   have e4:=isV.get (i:=4) (c:=.bool true) (hD 4 κ);simp only [e4] at hK ⊢;go_simp;exact hK.out _ w' hS β isV.put δ
  refine ah.cons (i:=6) rfl (fun y w' hS hD K hK=>?_) ?_
  ·as_aux_lemma =>
   have e5:=isV.get (i:=5) (c:=.bool true) (hD 5 κ);simp only [e5] at hK ⊢;go_simp;exact hK.out _ w' hS β isV.put δ
  refine ah.cons (i:=7) rfl (fun y w' hS hD K hK=>?_) ?_
  ·as_aux_lemma =>
   have e5:=isV.get (i:=5) (c:=.bool true) (hD 5 κ);have e6:=isV.get (i:=6) (c:=.pointer (some ⟨w2.heap.size,12,none⟩)) (hD 6 κ);obtain ⟨c0,c1,c2,c3,c4,c5,c6,c7,c8,c9,c10,c11,c12,c13,c14,c15,c16⟩:=KF.out w' hS;simp only [e5,e6] at hK ⊢;go_simp;exact hK.out _ w' hS β isV.put δ
  refine ah.cons (i:=8) rfl (fun y w' hS hD K hK=>?_) ?_
  ·as_aux_lemma =>
   have e5:=isV.get (i:=5) (c:=.bool true) (hD 5 κ);have e7:=isV.get (i:=7) (c:=.agg #[.bool ro.s,.slice ro.a ro.n ro.c,.bool ro.t,.slice ro.b ro.m ro.d]) (hD 7 κ);simp only [e5,e7] at hK ⊢;go_simp;refine (N1.out w' hS).mono ?_;rintro e w'' ⟨rfl,hb⟩;exact hK.out _ w'' (ac hS hb ρ) hb isV.put δ
  refine ah.cons (i:=9) rfl (fun y w' hS hD K hK=>?_) ?_
  ·as_aux_lemma =>
   have e5:=isV.get (i:=5) (c:=.bool true) (hD 5 κ);have e8:=isV.get (i:=8) (c:=.string ⟨#[49]⟩) (hD 8 κ);simp only [e5,e8] at hK ⊢;go_simp;exact hK.out _ w' hS β isV.put δ
  refine ah.cons (i:=10) rfl (fun y w' hS hD K hK=>?_) ?_
  ·as_aux_lemma =>
   have e5:=isV.get (i:=5) (c:=.bool true) (hD 5 κ);have e9:=isV.get (i:=9) (c:=.bool true) (hD 9 κ);simp only [e5,e9] at hK ⊢;go_simp;exact hK.out _ w' hS β isV.put δ
  refine ah.cons (i:=11) rfl (fun y w' hS hD K hK=>?_) ?_
  ·as_aux_lemma =>
   have e10:=isV.get (i:=10) (c:=.bool true) (hD 10 κ);simp only [e10] at hK ⊢;go_simp;exact hK.out _ w' hS β isV.put δ
  refine ah.cons (i:=12) rfl (fun y w' hS hD K hK=>?_) ?_
  ·as_aux_lemma =>
   have e11:=isV.get (i:=11) (c:=.bool true) (hD 11 κ);simp only [e11] at hK ⊢;go_simp;exact hK.out _ w' hS β isV.put δ
  refine ah.cons (i:=13) rfl (fun y w' hS hD K hK=>?_) ?_
  ·as_aux_lemma =>
   have e11:=isV.get (i:=11) (c:=.bool true) (hD 11 κ);have e12:=isV.get (i:=12) (c:=.pointer (some ⟨w2.heap.size,16,none⟩)) (hD 12 κ);obtain ⟨c0,c1,c2,c3,c4,c5,c6,c7,c8,c9,c10,c11,c12,c13,c14,c15,c16⟩:=KF.out w' hS;simp only [e11,e12] at hK ⊢;go_simp;exact hK.out _ w' hS β isV.put δ
  refine ah.cons (i:=14) rfl (fun y w' hS hD K hK=>?_) ?_
  ·as_aux_lemma =>
   have e11:=isV.get (i:=11) (c:=.bool true) (hD 11 κ);simp only [e11] at hK ⊢;go_simp;exact hK.out _ _ (hS.alloc hS.size _) (β.alloc ρ _) (isP.put ⟨_,rfl,Box.new _ _ _ _ rfl⟩) δ
  refine ah.cons (i:=15) rfl (fun y w' hS hD K hK=>?_) ?_
  ·as_aux_lemma =>
   have e11:=isV.get (i:=11) (c:=.bool true) (hD 11 κ);have e13:=isV.get (i:=13) (c:=.slice (some ⟨g,og,none⟩) 3 q2) (hD 13 κ);have e14:=isP.get (i:=14) (p:=fun v w=>∃ gb,v=.slice (some ⟨gb,0,none⟩) 3 3∧Box w gb #[.int .i64 1,.int .i64 3,.int .i64 2] 3) (hD 14 κ);obtain ⟨gb,eb,bb⟩:=e14;simp only [e11,e13,eb] at hK ⊢;go_simp;refine (ints_same g og q2 gb 0 3 3 (fun j=>[1,3,2].getD j 0) w' ω (Nat.lt_of_lt_of_le HGL.out hS.size) bb.lt (KI.out w' hS) (fun j hj=>?_)).mono ?_
   ·have:j=0∨j=1∨j=2:=ω
    rcases this with rfl | rfl | rfl <;> exact (bb.cell _).trans rfl
   rintro e w'' ⟨rfl,hb⟩;exact hK.out _ w'' (ac hS hb ρ) hb isV.put δ
  refine ah.cons (i:=16) rfl (fun y w' hS hD K hK=>?_) ?_
  ·as_aux_lemma =>
   have e11:=isV.get (i:=11) (c:=.bool true) (hD 11 κ);have e15:=isV.get (i:=15) (c:=.bool true) (hD 15 κ);simp only [e11,e15] at hK ⊢;go_simp;exact hK.out _ w' hS β isV.put δ
  refine ah.cons (i:=17) rfl (fun y w' hS hD K hK=>?_) ?_
  ·as_aux_lemma =>
   have e16:=isV.get (i:=16) (c:=.bool true) (hD 16 κ);simp only [e16] at hK ⊢;go_simp;exact hK.out _ w' hS β isV.put δ
  refine ah.cons (i:=18) rfl (fun y w' hS hD K hK=>?_) ?_
  ·as_aux_lemma =>
   have e17:=isV.get (i:=17) (c:=.bool true) (hD 17 κ);obtain ⟨c0,c1,c2⟩:=KS.out w' hS;simp only [e17] at hK ⊢;go_simp;exact hK.out _ w' hS β isV.put δ
  refine ah.cons (i:=19) rfl (fun y w' hS hD K hK=>?_) ?_
  ·as_aux_lemma =>
   have e17:=isV.get (i:=17) (c:=.bool true) (hD 17 κ);have e18:=isV.get (i:=18) (c:=.agg #[.slice (some ⟨bV,0,none⟩) 4 cV,.slice (some ⟨b,0,none⟩) 4 cap1,.slice p2 6 c2]) (hD 18 κ);simp only [e17,e18] at hK ⊢;go_simp;refine (KV.out w' hS).mono ?_;rintro e w'' ⟨⟨v,rfl,hv⟩,hb⟩;exact hK.out v w'' (ac hS hb ρ) hb (isP.put hv) δ
  refine ah.cons (i:=20) rfl (fun y w' hS hD K hK=>?_) ?_
  ·as_aux_lemma =>
   have e17:=isV.get (i:=17) (c:=.bool true) (hD 17 κ);have e19:=isP.get (i:=19) (p:=fun v w=>ak w v (1 / 6)) (hD 19 κ);simp only [e17] at hK ⊢;go_simp;refine (N6 _ w' e19).mono ?_;rintro e w'' ⟨rfl,hb⟩;exact hK.out _ w'' (ac hS hb ρ) hb isV.put δ
  refine ah.cons (i:=21) rfl (fun y w' hS hD K hK=>?_) ?_
  ·as_aux_lemma =>
   have e17:=isV.get (i:=17) (c:=.bool true) (hD 17 κ);have e20:=isV.get (i:=20) (c:=.string ⟨#[49,47,54]⟩) (hD 20 κ);simp only [e17,e20] at hK ⊢;go_simp;exact hK.out _ w' hS β isV.put δ
  refine ah.cons (i:=22) rfl (fun y w' hS hD K hK=>?_) ?_
  ·as_aux_lemma =>
   have e17:=isV.get (i:=17) (c:=.bool true) (hD 17 κ);have e21:=isV.get (i:=21) (c:=.bool true) (hD 21 κ);simp only [e17,e21] at hK ⊢;go_simp;exact hK.out _ w' hS β isV.put δ
  refine ah.cons (i:=23) rfl (fun y w' hS hD K hK=>?_) ?_
  ·as_aux_lemma =>
   have e22:=isV.get (i:=22) (c:=.bool true) (hD 22 κ);simp only [e22] at hK ⊢;go_simp;exact hK.out _ w' hS β isV.put δ
  refine ah.cons (i:=24) rfl (fun y w' hS hD K hK=>?_) ?_
  ·as_aux_lemma =>
   have e23:=isV.get (i:=23) (c:=.bool true) (hD 23 κ);obtain ⟨c0,c1,c2⟩:=KS.out w' hS;simp only [e23] at hK ⊢;go_simp;exact hK.out _ w' hS β isV.put δ
  refine ah.cons (i:=25) rfl (fun y w' hS hD K hK=>?_) ?_
  ·as_aux_lemma =>
   have e23:=isV.get (i:=23) (c:=.bool true) (hD 23 κ);have e24:=isV.get (i:=24) (c:=.agg #[.slice (some ⟨bV,0,none⟩) 4 cV,.slice (some ⟨b,0,none⟩) 4 cap1,.slice p2 6 c2]) (hD 24 κ);simp only [e23,e24] at hK ⊢;go_simp;refine (KC.out w' hS).mono ?_;rintro e w'' ⟨⟨v,rfl,hv⟩,hb⟩;exact hK.out v w'' (ac hS hb ρ) hb (isP.put hv) δ
  refine ah.cons (i:=26) rfl (fun y w' hS hD K hK=>?_) ?_
  ·as_aux_lemma =>
   have e23:=isV.get (i:=23) (c:=.bool true) (hD 23 κ);have e25:=isP.get (i:=25) (p:=fun v w=>aA w v ⟨1 / 4,1 / 4,1 / 4⟩) (hD 25 κ);simp only [e23] at hK ⊢;go_simp;refine (N4 _ w' e25).mono ?_;rintro e w'' ⟨rfl,hb⟩;exact hK.out _ w'' (ac hS hb ρ) hb isV.put δ
  refine ah.cons (i:=27) rfl (fun y w' hS hD K hK=>?_) ?_
  ·as_aux_lemma =>
   have e23:=isV.get (i:=23) (c:=.bool true) (hD 23 κ);simp only [e23] at hK ⊢;go_simp;exact hK.out _ w' hS β isV.put δ
  refine ah.cons (i:=28) rfl (fun y w' hS hD K hK=>?_) ?_
  ·as_aux_lemma =>
   have e23:=isV.get (i:=23) (c:=.bool true) (hD 23 κ);have e26:=isV.get (i:=26) (c:=.agg #[.string ⟨#[49,47,52]⟩,.string ⟨#[49,47,52]⟩,.string ⟨#[49,47,52]⟩]) (hD 26 κ);have e27:=isV.get (i:=27) (c:=.agg #[.string ⟨#[49,47,52]⟩,.string ⟨#[49,47,52]⟩,.string ⟨#[49,47,52]⟩]) (hD 27 κ);have eqp:=eqPoint ⟨#[49,47,52]⟩ ⟨#[49,47,52]⟩ ⟨#[49,47,52]⟩ w';simp only [e23,e26,e27] at hK ⊢;go_simp;exact hK.out _ w' hS β isV.put δ
  refine ah.cons (i:=29) rfl (fun y w' hS hD K hK=>?_) ?_
  ·as_aux_lemma =>
   have e23:=isV.get (i:=23) (c:=.bool true) (hD 23 κ);have e28:=isV.get (i:=28) (c:=.bool true) (hD 28 κ);simp only [e23,e28] at hK ⊢;go_simp;exact hK.out _ w' hS β isV.put δ
  refine ah.cons (i:=30) rfl (fun y w' hS hD K hK=>?_) ?_
  ·as_aux_lemma =>
   have e29:=isV.get (i:=29) (c:=.bool true) (hD 29 κ);simp only [e29] at hK ⊢;go_simp;exact hK.out _ w' hS β isV.put δ
  exact ah.nil
 case hend =>
  intro y w' hS hR hF;refine bm κ ?_;have e30:=isV.get (i:=30) (c:=.bool true) (hR 30 κ);simp only [e30];have HS9:=η (L3.out.trans (hS.mono L3.out.size));clear hS hR hF
  go_wp2_with fail
  go_ret;exact ⟨rfl,HS9.out⟩
end Go.Proofs.Υ
end
