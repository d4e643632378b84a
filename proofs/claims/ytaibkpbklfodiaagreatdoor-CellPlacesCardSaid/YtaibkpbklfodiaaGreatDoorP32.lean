/- A shape's tetrahedra; those of the first example. Volumes and centres of shapes of points (plain). What the statements over hulls share: the shape of a hull; lists of ints that are the same. Package cell: Extent and Support. Printed by gen/extent.py. Where the mean of the vertices, the centre of mass, a vertex and a point beyond it lie (plain). Bounds of the faces and of the points of a shape (plain). The first example. Printed by gen/known.py. -/
import Derived.Test.YtaibkpbklfodiaaGreatDoorP31
import Derived.Test.YtaibkpbklfodiaaGreatDoorP21
import Derived.Test.YtaibkpbklfodiaaGreatDoorP2
import Derived.Test.YtaibkpbklfodiaaGreatDoorP25
import Derived.Test.YtaibkpbklfodiaaGreatDoorP14
import Derived.Test.YtaibkpbklfodiaaGreatDoorP36
import Derived.Test.YtaibkpbklfodiaaGreatDoorP30
import Derived.Test.YtaibkpbklfodiaaGreatDoorP16
import Derived.Test.YtaibkpbklfodiaaGreatDoorP37
import Derived.Test.YtaibkpbklfodiaaGreatDoorP29
import Derived.Test.YtaibkpbklfodiaaGreatDoorP43
import Derived.Test.YtaibkpbklfodiaaGreatDoorP5
set_option linter.all false
set_option maxHeartbeats 100000000
section
namespace Dowel
open V Go
theorem j4 (P:Nat→V) (len i:Nat):qAt (dU P len) i=if i<len then ptQ (P i) else ⟨0,0,0⟩:=by
 unfold qAt dU;rw [List.getD_eq_getElem?_getD,List.getElem?_map];by_cases h:i<len
 ·rw [List.getElem?_range h,if_pos h];rfl
 ·rw [List.getElem?_eq_none (by simp;omega),if_neg h];rfl
theorem frac_pt {p:V} (h:LeV 4096 p):bN 1 4096 (ptQ p):=by
 obtain ⟨h1,h2,h3⟩:=h;unfold Le at h1 h2 h3;exact ⟨cO.int _ _ ω,cO.int _ _ ω,cO.int _ _ ω⟩
theorem ShapeOk.solid {P:Nat→V} {len base:Nat} {w:World} {v0 v1 v2:Value} {fs:List RF} {E:Nat} {vrs:List (RC × RC × RC)} {frs:List FR} {es:List ED} (h:ShapeOk P len base w v0 v1 v2 fs E vrs frs es)
  (h0:0<len) (h64:len≤64) (hf:fs.length≤262144) (hn:∀ i,i<len→LeV 4096 (P i)) (hr:∀ f ∈ fs,f.r≠[]∧∀ i ∈ f.r,i<len):SolidF w v0 v1 (dU P len) frs (fs.map RF.r) 1 4096 where
 sol:={
  vs:=⟨_,_,h.vs⟩
  fs:=⟨_,_,h.fcs⟩
  rows:=fun i f r hi hri=>by
   rw [List.getElem?_map] at hri;obtain ⟨g,hg,e⟩:=Option.map_eq_some_iff.mp hri;have hv:=congrArg (fun l:List Value=>l[i]?) h.val;simp only [List.getElem?_map,hi,hg,Option.map_some] at hv;have:=h.rows.own g (List.mem_of_getElem? hg);rw [Option.some.inj hv,← e];exact ⟨_,this⟩
  len:=by have:=congrArg List.length h.val;simp only [List.length_map] at this;rw [List.length_map,this]
  max:=by have:=congrArg List.length h.val;simp only [List.length_map] at this;omega
  vmax:=by unfold dU;simp;omega
  ring:=fun r hm=>by
   obtain ⟨f,hf,rfl⟩:=List.mem_map.mp hm;refine ⟨h.rows.short f hf,(hr f hf).1,fun i hi=>?_⟩;have:=(hr f hf).2 i hi;unfold dU;simpa using this
  bd:=fun q hq=>by
   unfold dU at hq;obtain ⟨i,hi,rfl⟩:=List.mem_map.mp hq;exact (lg ((hn i (List.mem_range.mp hi)).mono ω)).mono ω }
 dpos:=ω
 dmax:=ω
 mmax:=ω
 frac:=fun i=>by
  rw [j4]
  split
  ·exact frac_pt (hn i (by assumption))
  ·exact ⟨(cO.zero 1).mono ω,(cO.zero 1).mono ω,(cO.zero 1).mono ω⟩
theorem mz:bB (ak (qAt (dU tet 4)) [[0,1,2],[0,2,3],[0,3,1],[1,3,2]])=1:=by decide +kernel
theorem tet_sumC:dW (ak (qAt (dU tet 4)) [[0,1,2],[0,2,3],[0,3,1],[1,3,2]])=⟨1,1,1⟩:=by
 have h:(dW (ak (qAt (dU tet 4)) [[0,1,2],[0,2,3],[0,3,1],[1,3,2]])).x=1∧(dW (ak (qAt (dU tet 4)) [[0,1,2],[0,2,3],[0,3,1],[1,3,2]])).y=1∧(dW (ak (qAt (dU tet 4)) [[0,1,2],[0,2,3],[0,3,1],[1,3,2]])).z=1:=by decide +kernel
 generalize dW (ak (qAt (dU tet 4)) [[0,1,2],[0,2,3],[0,3,1],[1,3,2]])=q at *;obtain ⟨x,y,z⟩:=q;obtain ⟨rfl,rfl,rfl⟩:=h
 rfl
theorem tet_solid {base:Nat} {w:World} {v0 v1 v2:Value} {fs:List RF} {E:Nat} {vrs:List (RC × RC × RC)} {frs:List FR} {es:List ED} (h:ShapeOk tet 4 base w v0 v1 v2 fs E vrs frs es) :
  SolidF w v0 v1 (dU tet 4) frs [[0,1,2],[0,2,3],[0,3,1],[1,3,2]] 1 4096:=by
 have hr:=kI h.ok
 have:=h.solid ω ω (by have:=congrArg List.length hr;simp only [List.length_map] at this;rw [this];decide) (fun i hi=>by
  unfold tet LeV Le;refine ⟨?_,?_,?_⟩
  ·show -4096≤(if i=3 then (1:Int) else 0)∧(if i=3 then (1:Int) else 0)≤4096;split <;> omega
  ·show -4096≤(if i=2 then (1:Int) else 0)∧(if i=2 then (1:Int) else 0)≤4096;split <;> omega
  ·show -4096≤(if i=1 then (1:Int) else 0)∧(if i=1 then (1:Int) else 0)≤4096;split <;> omega) (fun f hf=>by
  have hm:f.r ∈ fs.map RF.r:=List.mem_map.mpr ⟨f,hf,rfl⟩;rw [hr] at hm;generalize f.r=r at *;revert r
  decide)
 rw [hr] at this;exact this
end Dowel
end

section
namespace Dowel
open V
theorem pF (a b:V):qsub (ptQ a) (ptQ b)=ptQ (a - b):=by
 unfold qsub ptQ;simp only [sub_x,sub_y,sub_z,Rat.intCast_sub]
theorem qcross_pt (a b:V):dT (ptQ a) (ptQ b)=ptQ (cross a b):=by
 unfold dT ptQ cross;simp only [Rat.intCast_sub,Rat.intCast_mul]
theorem pieceD_pt (t a b c:V):fJ (ptQ t) (ptQ a) (ptQ b) (ptQ c)=((dot (a - t) (cross (b - t) (c - t)):Int):Rat):=by
 unfold fJ;rw [pF,pF,pF,qcross_pt,qdot_pt]
theorem sumD_append (l m:List (Rat × Q3)):bB (l ++ m)=bB l+bB m:=by
 revert m;refine iL ?_ ?_
 ·rw [List.append_nil,show bB []=0 from rfl,Rat.add_zero]
 ·intro m x ih
  rw [← List.append_assoc,dN,ih,dN,Rat.add_assoc]
theorem mD (f:Nat→Rat × Q3) (g:Nat→Int):∀ n,(∀ k,k<n→(f k).1=((g k:Int):Rat))→bB ((List.range n).map f)=((((List.range n).map g).sum:Int):Rat)
 | 0,_=>by simp [bB]
 | n+1,h=>by
  rw [List.range_succ,List.map_append,List.map_append,List.map_cons,List.map_nil,List.map_cons,List.map_nil,dN,mD f g n fun k hk=>h k ω,h n ω,sum_append,Rat.intCast_add];simp
theorem oq (F:List Nat→List (Rat × Q3)) (G:List Nat→Int):∀ rs:List (List Nat),(∀ r ∈ rs,bB (F r)=((G r:Int):Rat))→bB (rs.flatMap F)=(((rs.map G).sum:Int):Rat)
 | [],_=>by simp [bB]
 | r :: rs,h=>by
  rw [List.flatMap_cons,sumD_append,h r (List.mem_cons_self ..),oq F G rs fun r hr=>h r (List.mem_cons_of_mem _ hr),List.map_cons,List.sum_cons,Rat.intCast_add]
variable {P : Nat → V} {N : Nat}
theorem h8 {r:List Nat} {k:Nat} (h:k<r.length):r.getD k 0 ∈ r:=by
 rw [show r.getD k 0=r[k] by simp [h]];exact List.getElem_mem h
theorem pieceOf_pts {r:List Nat} (hN:0<N) (hr:∀ i ∈ r,i<N) {k:Nat} (hk:k+2<r.length) :
  gK (qAt (dU P N)) r k=(((tetD P 0 (r.getD 0 0) (r.getD (k+1) 0) (r.getD (k+2) 0):Int):Rat),fX (ptQ (P 0)) (ptQ (P (r.getD 0 0))) (ptQ (P (r.getD (k+1) 0))) (ptQ (P (r.getD (k+2) 0)))):=by
 have h1:=hr _ (h8 (show 0<r.length by omega));have h2:=hr _ (h8 (show k+1<r.length by omega));have h3:=hr _ (h8 hk);unfold gK;rw [j4,j4,j4,j4,if_pos hN,if_pos h1,if_pos h2,if_pos h3,pieceD_pt]
 rfl
theorem sumD_pts {rs:List (List Nat)} (hN:0<N) (hr:∀ r ∈ rs,∀ i ∈ r,i<N):bB (ak (qAt (dU P N)) rs)=(((rs.map (fan (tetD P 0))).sum:Int):Rat):=by
 unfold ak;refine oq _ _ rs fun r hm=>?_
 unfold lX fan;refine mD _ _ _ fun k hk=>?_
 rw [pieceOf_pts hN (hr r hm) ω]
variable {fs : List RF} {E : Nat}
theorem RingsOk.fans (h:RingsOk P N fs E):∃ ps,Polys P N ps∧∀ g,((fs.map RF.r).map (fan g)).sum=fans P N ps g:=by
 obtain ⟨bs,hbs,hp⟩:=h.polys;refine ⟨_,hp,fun g=>?_⟩;unfold Dowel.fans;rw [List.map_map,List.map_map];refine congrArg List.sum (List.map_congr_left fun f hf=>?_);simp only [Function.comp];rw [(hbs f hf).2.2]
end Dowel
end

section
namespace Dowel
open V Go Go.RowKit Go.Proofs.Υ
theorem full4_four {P:Nat→V} {N:Nat} (h:dq P N):4≤N:=by
 obtain ⟨i,j,k,m,hi,hj,hk,hm,hne⟩:=h;refine Classical.byContradiction fun hc=>hne ?_
 have hp:i=j∨i=k∨i=m∨j=k∨j=m∨k=m:=ω;unfold tri
 rcases hp with rfl | rfl | rfl | rfl | rfl | rfl <;> simp only [dot,cross,sub_x,sub_y,sub_z] <;> grind
theorem HullOk.valid {Q:Nat→V} {M:Nat} (h:HullOk Q M) (hN:(cN Q M).length≤16):Valid (ofL (cN Q M)) (cN Q M).length:=
 ⟨hN,full4_four h.full,h.sorted,h.full,h.extr⟩
theorem ShapeOk.forms {P:Nat→V} {len base:Nat} {w:World} {v0 v1 v2:Value} {fs:List RF} {E:Nat} {vrs:List (RC × RC × RC)} {frs:List FR} {es:List ED} (h:ShapeOk P len base w v0 v1 v2 fs E vrs frs es) :
  (∃ p c,v0=.slice p len c)∧(∃ p c,v1=.slice p frs.length c)∧∃ p c,v2=.slice p es.length c:=by
 obtain ⟨a0,c0,h0,-⟩:=Sl.of_owns h.vs.own;obtain ⟨a1,c1,h1,-⟩:=Sl.of_owns h.fcs.own;obtain ⟨a2,c2,h2,-⟩:=Sl.of_owns h.eds;have hl:vrs.length=len:=by rw [h.vs.len];simp [dU]
 exact ⟨⟨a0,c0,by rw [h0,hl]⟩,⟨a1,c1,h1⟩,⟨a2,c2,h2⟩⟩
end Dowel
namespace Go.Proofs.Υ
open Go.RowKit Dowel
theorem hull_shape (Q:Nat→V) (M base:Nat) (v:Value) (w:World) (hT:Tab w) (hH:HullOk Q M) (hO:jU w base v (cN Q M)) (hN:(cN Q M).length≤10) :
  Calls Tryz.prog 12 #[.agg #[v]] w fun e w'=>RetShape (ofL (cN Q M)) (cN Q M).length w.heap.size w' e∧Below w.heap.size w w':=by
 obtain ⟨a,cap,rfl,hP⟩:=hO.pts;have hV:=hH.valid ω;refine of_any a _ cap _ w hP hV.le (fun i hi=>(hV.sorted.near i hi).le) hT hV.sorted hV.full (fun v hv=>?_);have:=oZ a _ cap (ofL (cN Q M)) v (hT.below hv hT.1) (hP.below hv) ω;rw [kg.mpr hV] at this;exact this
theorem ints_own (v v':Value) (l:List Nat) (base base':Nat) (w:World) (h:dr w base v l) (h':dr w base' v' l) (hl:l.length<4611686018427387904) :
  Calls Tryz.prog 19 #[v,v'] w fun e w'=>e=.returned (.bool true)∧Below w.heap.size w w':=by
 obtain ⟨a,cap,rfl,hi⟩:=h.ints;obtain ⟨a',cap',rfl,hi'⟩:=h'.ints;by_cases h0:l.length=0
 ·rw [h0]
  clear h h' hi hi' hl h0
  go_enter Tryz.func19,Tryz.ntmps19
  go_wp2_with fail
  go_loopw [5] (fun iv wr=>iv=.int .i64 0∧wr=w) (fun iv _=>0)
  case atStart=>exact ⟨rfl,rfl⟩
  case round =>
   obtain ⟨rfl,rfl⟩:=hrel
   go_wp2_with fail
   go_ret;exact ⟨rfl,Below.refl _ _⟩
 ·obtain ⟨b,off,rfl,hb,-,hc⟩:=hi.cells ω
  obtain ⟨b',off',rfl,hb',-,hc'⟩:=hi'.cells ω;exact oM b off cap b' off' cap' l.length (fun j=>(l.map fun (i:Nat)=>(i:Int)).getD j 0) w ω hb hb' (fun j hj=>hc j hj) (fun j hj=>hc' j hj)
end Go.Proofs.Υ
end

section
namespace Dowel
open Go Go.RowKit Go.Proofs.Υ
theorem VRow.open12 {w:World} {base:Nat} {pa:Option Addr} {N cap:Nat} {qs:List Q3} {rs:List (RC × RC × RC)} (h:VRow w base (.slice pa N cap) qs rs) (i:Nat) (hi:i<qs.length) :
  ∃ (b:Nat) (n0 n1 n2:RC),pa=some ⟨b,0,none⟩∧b<w.heap.size∧aA w (.agg (ah n0 n1 n2)) (qAt qs i)∧∀ j,j<12→w.cell? ⟨b,i*12+j,none⟩=(ah n0 n1 n2)[j]? := by
 have hq:qs[i]?=some (qAt qs i):=by unfold qAt;simp [hi]
 obtain ⟨b,cap',⟨n0,n1,n2⟩,e,hb,-,-,hr,hv,hc⟩:=h.at_ i _ hq;cases e;exact ⟨b,n0,n1,n2,rfl,hb,hv,fun j hj=>(hc j hj).trans (Array.getElem?_toList (xs:=ah n0 n1 n2))⟩
theorem gj (r:RC):(aT r).all (·.oneCell')=true:=all_oneCell_toArray (by
 intro u hu;simp at hu
 rcases hu with rfl | rfl | rfl | rfl <;> rfl)
def dD (qs:List Q3) (n:Q3):Nat→Rat × Rat
 | 0=>(0,0)
 | i+1=>(if i=0∨bt n (qAt qs i)<(dD qs n i).1 then bt n (qAt qs i) else (dD qs n i).1,if i=0∨(dD qs n i).2<bt n (qAt qs i) then bt n (qAt qs i) else (dD qs n i).2)
theorem pW {qs:List Q3} {n:Q3} {K:Nat} (h:∀ i,i<qs.length→Bd K (bt n (qAt qs i))) (h0:1≤K):∀ i,i≤qs.length→Bd K (dD qs n i).1∧Bd K (dD qs n i).2
 | 0,_=>⟨Bd.zero.mono h0,Bd.zero.mono h0⟩
 | i+1,hi=>by
  obtain ⟨h1,h2⟩:=pW h h0 i ω;have h3:=h i ω
  constructor
  ·show Bd K (if _ then _ else _);split
   ·exact h3
   ·exact h1
  ·show Bd K (if _ then _ else _);split
   ·exact h3
   ·exact h2
theorem cmpR_neg {x y:Rat}:dY x y<0↔x<y:=by
 unfold dY
 split
 ·rename_i h;exact ⟨fun _=>h,fun _=>by omega⟩
 ·rename_i h;split <;> exact ⟨fun h'=>by omega,fun h'=>absurd h' h⟩
theorem cmpR_pos {x y:Rat}:0<dY x y↔y<x:=by
 unfold dY
 split
 ·rename_i h;exact ⟨fun h'=>by omega,fun h'=>absurd h' (Rat.not_lt.mpr (Rat.le_of_lt h))⟩
 ·rename_i h;split
  ·rename_i h2;exact ⟨fun _=>h2,fun _=>by omega⟩
  ·rename_i h2;exact ⟨fun h'=>by omega,fun h'=>absurd h' h2⟩
def RetExt (w:World) (e:Ending) (lo hi:Rat):Prop:=∃ lr hr:RC,e=.returned (.tuple #[.agg (aT lr),.agg (aT hr)])∧am w lr.agg lo∧am w hr.agg hi
structure ExtI (w:World) (base:Nat) (pa:Option Addr) (N cap:Nat) (qs:List Q3) (rs:List (RC × RC × RC)) (p0 p1 p2:RC) (n:Q3) (lr hr:RC) (lo hi:Rat) (wr:World):Prop where
 lb:Box wr (w.heap.size+2) (aT lr) 56
 hb:Box wr (w.heap.size+3) (aT hr) 56
 nb:Box wr (w.heap.size+1) (ah p0 p1 p2) 58
 l:am wr lr.agg lo
 h:am wr hr.agg hi
 v:VRow wr base (.slice pa N cap) qs rs
 n:aA wr (.agg (ah p0 p1 p2)) n
 bel:Below w.heap.size w wr
section
variable {w : World} {base : Nat} {pa : Option Addr} {N cap : Nat} {qs : List Q3} {rs : List (RC × RC × RC)} {p0 p1 p2 : RC} {n : Q3} {lr hr : RC} {lo hi : Rat} {wr wr' : World}
theorem ExtI.below (h:ExtI w base pa N cap qs rs p0 p1 p2 n lr hr lo hi wr) (hb:Below wr.heap.size wr wr'):ExtI w base pa N cap qs rs p0 p1 p2 n lr hr lo hi wr':=
 ⟨h.lb.below hb h.lb.lt,h.hb.below hb h.hb.lt,h.nb.below hb h.nb.lt,h.l.below hb,h.h.below hb,h.v.below hb,h.n.below hb,ae h.bel hb ρ⟩
theorem VRow.put4 {w:World} {base:Nat} {v:Value} {qs:List Q3} {rs:List (RC × RC × RC)} (h:VRow w base v qs rs) {g:Nat} {r:RC} (hb:Box w g (aT r) 56) (r':RC):VRow (put4 w g 0 r') base v qs rs:=
 h.other (dI w g 0 r') (dR hb ν) (.inr (fun e=>aW h.own hb ν e.symm))
theorem ExtI.low (h:ExtI w base pa N cap qs rs p0 p1 p2 n lr hr lo hi wr) {r:RC} {q:Rat} (hq:am wr r.agg q):ExtI w base pa N cap qs rs p0 p1 p2 n r hr q hi (put4 wr (w.heap.size+2) 0 r):=
 ⟨h.lb.s4 r,h.hb.oput4 ω 0 r,h.nb.oput4 ω 0 r,hq.put4 h.lb.at1 r,h.h.put4 h.lb.at1 r,h.v.put4 h.lb r,h.n.put4 h.lb.at1 r,aX h.bel ω 0 r⟩
theorem ExtI.high (h:ExtI w base pa N cap qs rs p0 p1 p2 n lr hr lo hi wr) {r:RC} {q:Rat} (hq:am wr r.agg q):ExtI w base pa N cap qs rs p0 p1 p2 n lr r lo q (put4 wr (w.heap.size+3) 0 r):=
 ⟨h.lb.oput4 ω 0 r,h.hb.s4 r,h.nb.oput4 ω 0 r,h.l.put4 h.hb.at1 r,hq.put4 h.hb.at1 r,h.v.put4 h.hb r,h.n.put4 h.hb.at1 r,aX h.bel ω 0 r⟩
end
theorem ret_box22 {P:Program} {fn:Func} {R:Ending→World→Prop} {a:Act} {w:World} {p q:Tmp} {ty ty':TypeId} (h:fn.results=#[.cell p ty,.cell q ty']) (g g':Nat) {cs cs':Array Value} {t t':TypeId}
  (hg:Box w g cs t) (hg':Box w g' cs' t') (d d':TypeDesc) (hp:a.tmps.getD p undef=.pointer (some ⟨g,0,.none⟩)) (hp':a.tmps.getD q undef=.pointer (some ⟨g',0,.none⟩))
  (hu:P.underlying ty=some d) (hu':P.underlying ty'=some d')
  (hd:(match d with | .struct _ | .array _ _=>true | _=>false)=true) (hd':(match d' with | .struct _ | .array _ _=>true | _=>false)=true)
  (hi:(P.info? ty).map (·.size)=some cs.size) (hi':(P.info? ty').map (·.size)=some cs'.size) (hdf:a.defers=[])
  (hR:R (.returned (.tuple #[.agg cs,.agg cs'])) w) :
  bodyPost P fn R .ret a w:=by
 refine bodyPost_ret ?_ hdf hR;have e:a.tmps[p]?.getD undef=.pointer (some ⟨g,0,none⟩):=by simpa using hp
 have e':a.tmps[q]?.getD undef=.pointer (some ⟨g',0,none⟩):=by simpa using hp'
 simp [results,h,e,e',asAddr,run_loadVar_row w g t ty cs _ d hg hu hd hi,run_loadVar_row w g' t' ty' cs' _ d' hg' hu' hd' hi']
end Dowel
namespace Go.Proofs.Υ
open Go.RowKit Dowel
set_option maxRecDepth 100000 in
theorem np (v0 v1 v2 vn:Value) (qs:List Q3) (rs:List (RC × RC × RC)) (n:Q3) (base k l:Nat) (w:World) (hV:VRow w base v0 qs rs) (hk:∀ i,i<qs.length→BdV k (qAt qs i)) (hn:aA w vn n) (hl:BdV l n) (hkl:k+l≤1000) (hmax:qs.length≤262144) :
  Calls Tryz.prog 26 #[.agg #[v0,v1,v2],vn] w fun e w'=>RetExt w' e (dD qs n qs.length).1 (dD qs n qs.length).2∧Below w.heap.size w w':=by
 obtain ⟨p0,p1,p2,rfl,hp0,hp1,hp2⟩:=hn;have hvp:aA w (.agg (ah p0 p1 p2)) n:=⟨p0,p1,p2,rfl,hp0,hp1,hp2⟩;obtain ⟨W,hW,b1,b2,b3,b4,hB,hS⟩:=lf w #[v0,v1,v2] (ah p0 p1 p2) (aT RC.zero) (aT RC.zero) 32 58 56 56;have HVP:=η (hvp.below hB);have HV:=η (hV.below hB);have HB:=η hB;have HSZ:=η hS;have B2:=η b2;have B3:=η b3;have B4:=η b4;have HBP:=η hl;have HK:=η hk;have HKD:=η (fun i hi=>Bd.dot hl (hk i hi));obtain ⟨x0,x1,x2,-⟩:=b1.three;obtain ⟨N,hN⟩:∃ N,qs.length=N:=⟨_,rfl⟩;have hmx:N≤262144:=by rw [← hN];exact hmax
 have HEX:=η (pW HKD.out ω);rw [hN] at HK HKD HEX ⊢;have HNN:=η hN;obtain ⟨pa,cap,hv⟩:∃ pa cap,v0=.slice pa N cap:=by
  obtain ⟨_,⟨rfl,h0⟩ | ⟨g,c,_,rfl,_⟩⟩:=hV.own
  ·exact ⟨none,0,by rw [← hN,← hV.len,h0]⟩
  ·exact ⟨_,_,by rw [← hN,← hV.len]⟩
 clear hV hB hS b1 b2 b3 b4 hk hl hp0 hp1 hp2 hN hvp hmax;subst hv;unfold ah at hW ⊢;simp only [aT,RC.zero] at hW
 go_enter Tryz.func26,Tryz.ntmps26
 go_wp2_with fail
 go_loopw [12] (fun iv wr=>∃ i,i≤N∧iv=.int .i64 (i:Nat)∧∃ lr hr,Hid (ExtI w base pa N cap qs rs p0 p1 p2 n lr hr (dD qs n i).1 (dD qs n i).2 wr)∧Hid (Below W.heap.size W W)) (fun iv _=>N - (intOf iv).toNat)
 case atStart=>exact ⟨0,Nat.zero_le _,rfl,RC.zero,RC.zero,⟨B3.out,B4.out,B2.out,am.zero _,am.zero _,HV.out,HVP.out,HB.out⟩,Below.refl _ _⟩
 case round =>
  obtain ⟨i,hi,rfl,lr,hr,HX,-⟩:=hrel;obtain ⟨wk,rfl⟩:∃ wk,wk=wr:=⟨_,rfl⟩;by_cases h0:i=N
  ·have hn:¬ (i:Int)<(N:Int):=ω
   have H0:=η h0;clear h0;obtain ⟨⟨y0,y1,y2,y3⟩,y4,y5,y6,y7⟩:=HX.out.lb.at1;obtain ⟨⟨z0,z1,z2,z3⟩,z4,z5,z6,z7⟩:=HX.out.hb.at1
   go_wp2_with fail
   go_region;change Exit.then _ _ _ _ (World.drew (put4 (put4 wk (w.heap.size+2) 0 lr) (w.heap.size+3) 0 hr))
   have X1:=η (HX.out.low HX.out.l);have X2:=η ((X1.out.high X1.out.h).below β.drew);clear y0 y1 y2 y3 y4 y5 y6 y7 z0 z1 z2 z3 z4 z5 z6 z7;generalize World.drew (put4 (put4 wk (w.heap.size+2) 0 lr) (w.heap.size+3) 0 hr)=w9 at *;go_wp2;exact ret_box22 Tryz.results26 (w.heap.size+2) (w.heap.size+3) X2.out.lb X2.out.hb _ _ rfl rfl Tryz.underlying56 Tryz.underlying56 rfl rfl infoR4 infoR4 rfl
    ⟨⟨lr,hr,rfl,by rw [← H0.out];exact X2.out.l,by rw [← H0.out];exact X2.out.h⟩,X2.out.bel⟩
  ·have hlt:(i:Int)<(N:Int):=ω
   have hil:i<N:=ω;obtain ⟨bV,n0,n1,n2,e,hb,hvq,hcv⟩:=HX.out.v.open12 i (ψ HNN.out);cases e;have HCV:=η hcv;clear hcv
   go_upto_region 4 with (first | refine aq rfl _ _ rfl bV (i*12) rfl (ah n0 n1 n2) _ (fun j hj=>HCV.out j hj) Tryz.underlying58 rfl mf ?_ | refine aB rfl _ _ _ rfl _ (ah n0 n1 n2) rfl rfl mf rfl (bU ..) ?_)
   obtain ⟨Wc,hWc,b5,hBc,hSc⟩:=aG wk (ah n0 n1 n2) 58;have XC:=η (HX.out.below hBc);have HVQ:=η (hvq.below hBc);have HC5:=η (Box.from0 b5 12);have HC2:=η (Box.from0 XC.out.nb 12);rw [hWc];clear hvq hBc hSc b5 hWc
   go_upto_region 5 with (first
    | refine aq rfl _ _ rfl (w.heap.size+1) 0 rfl (ah p0 p1 p2) _ (fun j hj=>HC2.out j hj) Tryz.underlying58 rfl mf ?_
    | refine aq rfl _ _ rfl wk.heap.size 0 rfl (ah n0 n1 n2) _ (fun j hj=>HC5.out j hj) Tryz.underlying58 rfl mf ?_
    | (refine (gF _ _ n (qAt qs i) l k Wc XC.out.n HVQ.out HBP.out (HK.out i ω) ω).mono ?_;rintro e w5 ⟨⟨v5,rfl,hv5⟩,hb5⟩;obtain ⟨r5,rfl,hr5⟩:=hv5.rc)
    | refine aB rfl _ _ _ rfl _ (aT r5) rfl rfl infoR4 rfl (gj r5) ?_)
   obtain ⟨w6,hw6,b8,hb6,hs6⟩:=aG w5 (aT r5) 56;have X6:=η ((XC.out.below hb5).below hb6);have D6:=η (hr5.below hb6);have B8:=η b8;have hs2:w.heap.size+3<w5.heap.size:=by have:=(XC.out.below hb5).hb.lt;omega
   have HS2:=η hs2;have HEI:=η (HEX.out i ω);have HKI:=η (HKD.out i ω);rw [hw6];clear hb5 hr5 hb6 hs6 hw6 b8 hs2;obtain ⟨d,hd⟩:∃ d,bt n (qAt qs i)=d:=⟨_,rfl⟩;rw [hd] at D6 HKI;have HD:=η hd;have HE1:=η (show (dD qs n (i+1)).1=if i=0∨d<(dD qs n i).1 then d else (dD qs n i).1 from by rw [← hd];rfl);have HE2:=η (show (dD qs n (i+1)).2=if i=0∨(dD qs n i).2<d then d else (dD qs n i).2 from by rw [← hd];rfl);obtain ⟨lo,hlo⟩:∃ lo,(dD qs n i).1=lo:=⟨_,rfl⟩;obtain ⟨hh,hhh⟩:∃ hh,(dD qs n i).2=hh:=⟨_,rfl⟩;rw [hlo] at X6 HEI HE1;rw [hhh] at X6 HEI HE2;clear hd hlo hhh;by_cases hi0:i=0
   ·have hb0:((i:Int) == 0)=true:=by rw [hi0];rfl
    have HI0:=η hi0;clear hi0;obtain ⟨⟨y0,y1,y2,y3⟩,y4,y5,y6,y7⟩:=X6.out.lb.at1;obtain ⟨⟨z0,z1,z2,z3⟩,z4,z5,z6,z7⟩:=X6.out.hb.at1;obtain ⟨c0,c1,c2,c3⟩:=B8.out.at1.1
    go_upto_region 7 with fail
    change Code.wp _ _ _ _ (put4 w6 (w.heap.size+2) 0 r5);have X7:=η (X6.out.low D6.out);have D7:=η (D6.out.put4 X6.out.lb.at1 r5);have B9:=η (B8.out.oput4 (g':=w.heap.size+2) (ψ HS2.out) 0 r5);clear y0 y1 y2 y3 y4 y5 y6 y7 z0 z1 z2 z3 z4 z5 z6 z7 c0 c1 c2 c3;generalize put4 w6 (w.heap.size+2) 0 r5=w7 at *;obtain ⟨⟨y0,y1,y2,y3⟩,y4,y5,y6,y7⟩:=X7.out.lb.at1;obtain ⟨⟨z0,z1,z2,z3⟩,z4,z5,z6,z7⟩:=X7.out.hb.at1;obtain ⟨c0,c1,c2,c3⟩:=B9.out.at1.1
    go_wp2_with fail
    go_round
    case rel=>exact ⟨i+1,by omega,rfl,r5,r5,by rw [HE1.out,HE2.out,if_pos (.inl HI0.out),if_pos (.inl HI0.out)];exact X7.out.high D7.out,Below.refl _ _⟩
    case measure=>show N - ((i:Int)+1).toNat<N - (i:Int).toNat;omega
   ·have hb0:((i:Int) == 0)=false:=beq_eq_false_iff_ne.mpr ω
    have HI0:=η hi0;clear hi0;obtain ⟨⟨y0,y1,y2,y3⟩,y4,y5,y6,y7⟩:=X6.out.lb.at1;obtain ⟨⟨z0,z1,z2,z3⟩,z4,z5,z6,z7⟩:=X6.out.hb.at1;obtain ⟨c0,c1,c2,c3⟩:=B8.out.at1.1
    go_wp2_with fail
    refine (cS (.agg (aT r5)) (.agg (aT lr)) d lo (3*(l+k+1)+1) (3*(l+k+1)+1) w6 D6.out X6.out.l HKI.out HEI.out.1 ω).mono ?_;rintro e w7 ⟨rfl,hb7⟩;have X7:=η (X6.out.below hb7);have D7:=η (D6.out.below hb7);have B9:=η (B8.out.below hb7 B8.out.lt);have hz7:w.heap.size+3<w5.heap.size:=HS2.out;clear y0 y1 y2 y3 y4 y5 y6 y7 z0 z1 z2 z3 z4 z5 z6 z7 c0 c1 c2 c3 hb7;obtain ⟨z,hz⟩:∃ z,dY d lo=z:=⟨_,rfl⟩;have HZ:=η (show z<0↔d<lo from by rw [← hz];exact cmpR_neg);rw [hz];clear hz;obtain ⟨⟨y0,y1,y2,y3⟩,y4,y5,y6,y7⟩:=X7.out.lb.at1;obtain ⟨⟨z0,z1,z2,z3⟩,z4,z5,z6,z7⟩:=X7.out.hb.at1;obtain ⟨c0,c1,c2,c3⟩:=B9.out.at1.1;by_cases hz0:z<0
    case' pos =>
     have HZ0:=η hz0
     go_upto_region 7 with fail
     change Code.wp _ _ _ _ (put4 w7 (w.heap.size+2) 0 r5);have X8:=η (X7.out.low D7.out);have D8:=η (D7.out.put4 X7.out.lb.at1 r5);have B10:=η (B9.out.oput4 (g':=w.heap.size+2) ω 0 r5);have HLO:=η (show (dD qs n (i+1)).1=d from by rw [HE1.out,if_pos (.inr (HZ.out.mp HZ0.out))]);clear y0 y1 y2 y3 y4 y5 y6 y7 z0 z1 z2 z3 z4 z5 z6 z7 c0 c1 c2 c3 hz0 HZ0;generalize put4 w7 (w.heap.size+2) 0 r5=w8 at *
    case' neg =>
     have HZ0:=η hz0
     go_upto_region 7 with fail
     have X8:=η X7.out;have D8:=η D7.out;have B10:=η B9.out;have HLO:=η (show (dD qs n (i+1)).1=lo from by
      rw [HE1.out,if_neg (by
       rintro (h | h)
       ·exact HI0.out h
       ·exact absurd (HZ.out.mpr h) (ψ HZ0.out))])
     clear y0 y1 y2 y3 y4 y5 y6 y7 z0 z1 z2 z3 z4 z5 z6 z7 c0 c1 c2 c3 hz0 HZ0;generalize w7=w8 at *
    all_goals
     clear X7 D7 B9 HZ;obtain ⟨⟨y0,y1,y2,y3⟩,y4,y5,y6,y7⟩:=X8.out.lb.at1;obtain ⟨⟨z0,z1,z2,z3⟩,z4,z5,z6,z7⟩:=X8.out.hb.at1;obtain ⟨c0,c1,c2,c3⟩:=B10.out.at1.1
     go_wp2_with fail
     refine (cS (.agg (aT r5)) (.agg (aT hr)) d hh (3*(l+k+1)+1) (3*(l+k+1)+1) w8 D8.out X8.out.h HKI.out HEI.out.2 ω).mono ?_;rintro e w9 ⟨rfl,hb9⟩;have X9:=η (X8.out.below hb9);have D9:=η (D8.out.below hb9);have B11:=η (B10.out.below hb9 B10.out.lt);clear y0 y1 y2 y3 y4 y5 y6 y7 z0 z1 z2 z3 z4 z5 z6 z7 c0 c1 c2 c3 hb9;obtain ⟨z,hz⟩:∃ z,dY d hh=z:=⟨_,rfl⟩;have HZ:=η (show 0<z↔hh<d from by rw [← hz];exact cmpR_pos);rw [hz];clear hz;obtain ⟨⟨y0,y1,y2,y3⟩,y4,y5,y6,y7⟩:=X9.out.lb.at1;obtain ⟨⟨z0,z1,z2,z3⟩,z4,z5,z6,z7⟩:=X9.out.hb.at1;obtain ⟨c0,c1,c2,c3⟩:=B11.out.at1.1;by_cases hz0:0<z
     ·have HZ0:=η hz0
      have HHI:=η (show (dD qs n (i+1)).2=d from by rw [HE2.out,if_pos (.inr (HZ.out.mp HZ0.out))])
      go_wp2_with fail
      go_round
      case rel=>exact ⟨i+1,by omega,rfl,_,r5,by rw [HLO.out,HHI.out];exact X9.out.high D9.out,Below.refl _ _⟩
      case measure=>show N - ((i:Int)+1).toNat<N - (i:Int).toNat;omega
     ·have HZ0:=η hz0
      have HHI:=η (show (dD qs n (i+1)).2=hh from by
       rw [HE2.out,if_neg (by
        rintro (h | h)
        ·exact HI0.out h
        ·exact absurd (HZ.out.mpr h) (ψ HZ0.out))])
      go_wp2_with fail
      go_round
      case rel=>exact ⟨i+1,by omega,rfl,_,hr,by rw [HLO.out,HHI.out];exact X9.out,Below.refl _ _⟩
      case measure=>show N - ((i:Int)+1).toNat<N - (i:Int).toNat;omega
end Go.Proofs.Υ
end

section
namespace Dowel
open V
variable {P : Nat → V} {N E : Nat} {fs : List RF} {p : Q3}
end Dowel
end

section
namespace Dowel
open V Go Go.Proofs.Υ
variable {P : Nat → V} {N E : Nat} {fs : List RF}
theorem RingsOk.few (h:RingsOk P N fs E) (hN:N≤16):fs.length≤65536:=by
 have h1:=eN (fs.map RF.o) (List.range 65536) h.nodup (fun x hx=>by
  obtain ⟨f,hf,rfl⟩:=List.mem_map.mp hx;obtain ⟨b,-,ho,-⟩:=h.ok f hf;rw [List.mem_range,ho];exact Nat.lt_of_lt_of_le (j9 _ _) (Nat.le_trans (Nat.pow_le_pow_right (n:=2) ω hN) ν))
 simpa using h1
theorem RingsOk.rows (h:RingsOk P N fs E) (hS:Sorted P N):∀ f ∈ fs,f.r≠[]∧∀ i ∈ f.r,i<N:=fun f hf=>by
 obtain ⟨b,hF,-,hr⟩:=h.ok f hf;rw [hr];exact ⟨(hF.ring_hd hS).2,fun i hi=>(aD.mp ((hF.ring_mem hS i).mp hi).1).1⟩
theorem RingsOk.bd (h:RingsOk P N fs E) (hS:Sorted P N) (hn:∀ i,i<N→LeV 4096 (P i)):∀ g ∈ fs.map (gM P),BdV 2 g.1∧Bd 2 g.2:=fun g hg=>by
 obtain ⟨f,hf,rfl⟩:=List.mem_map.mp hg;obtain ⟨b,hF,-,hr,-⟩:=h.pl hS hf;obtain ⟨h1,-⟩:=h.face hS hf;have hl:=j6 (pV hn hF) ω;have hh:f.r.headD 0<N:=by rw [hr];exact (Face.ring_hd hS hF).1
 rw [h1];refine ⟨lg (hl.mono ω),?_⟩;have hd:=hl.dot (hn _ hh);show Bd 2 ((dot (aQ f.n) (P (f.r.headD 0)):Int):Rat);refine Bd.int _ ?_;unfold Le at hd;unfold B;omega
theorem o4 {w:World} {v0 v1:Value} {qs:List Q3} {frs:List FR} {rs:List (List Nat)} {d M:Nat} (hS:SolidF w v0 v1 qs frs rs d M):BdV 18 (qscale (1 / (4*bB (ak (qAt qs) rs))) (dW (ak (qAt qs) rs))):=by
 obtain ⟨h1,h2,-⟩:=pA hS.dpos hS.dmax hS.mmax hS.frac (by rw [hS.sol.len];exact hS.sol.max) (fun r hr=>(hS.sol.ring r hr).1) (ak (qAt qs) rs) ρ (fun x hx=>hx);have:=BdV.qscale (bd4.mul h1).inv h2;exact this
end Dowel
end

section
namespace Dowel
open Go Go.RowKit
theorem SolidF.below {w w':World} {v0 v1:Value} {qs:List Q3} {frs:List FR} {rs:List (List Nat)} {d M:Nat} (h:SolidF w v0 v1 qs frs rs d M) (hb:Below w.heap.size w w'):SolidF w' v0 v1 qs frs rs d M where
 sol:={
  vs:=by obtain ⟨base,vrs,hv⟩:=h.sol.vs;exact ⟨base,vrs,hv.below hb⟩
  fs:=by obtain ⟨base,fqs,hv⟩:=h.sol.fs;exact ⟨base,fqs,hv.below hb⟩
  rows:=fun i f r h1 h2=>by obtain ⟨base,ho⟩:=h.sol.rows i f r h1 h2;exact ⟨base,aF ho hb⟩
  len:=h.sol.len
  max:=h.sol.max
  vmax:=h.sol.vmax
  ring:=h.sol.ring
  bd:=h.sol.bd }
 dpos:=h.dpos
 dmax:=h.dmax
 mmax:=h.mmax
 frac:=h.frac
theorem quarter:qscale (1 / (4*1)) ⟨1,1,1⟩=⟨1 / 4,1 / 4,1 / 4⟩:=by
 have h:(1 / (4*1):Rat)*1=1 / 4:=by decide +kernel
 unfold qscale;rw [h]
theorem text1:(⟨(dF 1).toArray⟩:ByteArray)=⟨#[49]⟩:=by
 unfold dF;rw [if_pos ν,show (1:Rat).num.toNat=1 by decide,Lib.decDigits_one ν]
 rfl
theorem textQ (x:Rat) (k:Nat) (h1:x.num=1) (h2:x.den=k) (h3:1<k) (h4:k<10):(⟨(dF x).toArray⟩:ByteArray)=⟨#[49,47,UInt8.ofNat (48+k)]⟩:=by
 unfold dF;rw [if_neg ω,h1,h2,show (1:Int).toNat=1 by decide,Lib.decDigits_one (show 1<10 by omega),Lib.decDigits_one h4]
 rfl
end Dowel
namespace Go.Proofs.Υ
open Go.RowKit Dowel
theorem N6 (v:Value) (w:World) (h:am w v (1 / 6)):Calls Tryz.prog 46 #[v] w fun e w''=>e=.returned (.string ⟨#[49,47,54]⟩)∧Below w.heap.size w w'':=by
 have:=fY v (1 / 6) w h (by decide +kernel) (by decide +kernel) (by decide +kernel);rw [textQ (1 / 6) 6 (by decide +kernel) (by decide +kernel) ν ν] at this;exact this
theorem N4 (v:Value) (w:World) (h:aA w v ⟨1 / 4,1 / 4,1 / 4⟩):Calls Tryz.prog 47 #[v] w fun e w''=>e=.returned (.agg #[.string ⟨#[49,47,52]⟩,.string ⟨#[49,47,52]⟩,.string ⟨#[49,47,52]⟩])∧Below w.heap.size w w'':=by
 have hs:qk (1 / 4):=⟨by decide +kernel,by decide +kernel,by decide +kernel⟩;have:=point_any v ⟨1 / 4,1 / 4,1 / 4⟩ w h hs hs hs;rw [textQ (1 / 4) 4 (by decide +kernel) (by decide +kernel) ν ν] at this;exact this
set_option maxRecDepth 100000 in
theorem known_any (w:World) (hT:Tab w) :
  Calls Tryz.prog 10 #[] w fun e w'=>e=.returned (.bool true)∧Below w.heap.size w w':=by
 have KT:Hid (∀ w',Below w.heap.size w w'→Tab w'):=fun w' h=>hT.below h hT.1
 clear hT
 go_enter Tryz.func10,Tryz.ntmps10
 go_wp2_with fail
 obtain ⟨W,hW,b1,hB,hS⟩:=aG w #[.int .i64 0,.int .i64 0,.int .i64 0,.int .i64 0,.int .i64 0,.int .i64 1,.int .i64 0,.int .i64 1,.int .i64 0,.int .i64 1,.int .i64 0,.int .i64 0] 46;rw [hW]
 have hP:Pts W (some ⟨w.heap.size,0,none⟩) 4 4 tet:=⟨Nat.le_refl _,(fun h=>by cases h),fun x hx=>by
  cases hx;refine ⟨rfl,b1.lt,fun i hi=>?_⟩;have:i=0∨i=1∨i=2∨i=3:=ω
  rcases this with rfl | rfl | rfl | rfl <;> exact ⟨(b1.cell _).trans rfl,(b1.cell _).trans rfl,(b1.cell _).trans rfl⟩⟩
 refine (of_any (some ⟨w.heap.size,0,none⟩) 4 4 tet W hP ω (fun i hi=>(dC.sorted.near i hi).le) (KT.out W hB) dC.sorted dC.full (fun v hv=>by
  have:=oZ (some ⟨w.heap.size,0,none⟩) 4 4 tet v (KT.out v (ae hB hv ρ)) (hP.below hv) ω;rw [kg.mpr dC] at this;exact this)).mono ?_
 rintro e w1 ⟨⟨v0,v1,v2,fs,E,vrs,frs,es,rfl,hsh⟩,hb1⟩;have L1:=η (ae hB hb1 ρ);have SOL:=η (tet_solid hsh);obtain ⟨f,hf,hfl,hfr,hfq⟩:=tet_face hsh.ok;have hes:=tet_edges (by have:=hsh.edg;rw [kI hsh.ok] at this;exact this);have hfrl:frs.length=4:=by have:=congrArg List.length hsh.val;simp only [List.length_map] at this;omega
 obtain ⟨b,cap1,fr,ev1,hb,hfr3,hcells⟩:=hsh.fcs.nth 3 ω;obtain ⟨bV,cV,rV,ev0,-,-,-,-,-,-⟩:=hsh.vs.at_ 0 (ptQ (tet 0)) rfl;have hvl:(dU tet 4).length=4:=rfl;obtain ⟨p2,c2,ev2⟩:∃ p c,v2=.slice p 6 c:=by
  obtain ⟨_,⟨rfl,h0⟩ | ⟨g,cap,cur,rfl,_⟩⟩:=hsh.eds
  ·omega
  ·exact ⟨_,_,by rw [hes]⟩
 have hvec:=hsh.fcs.vec 3 fr (gM tet f) hfr3 (by rw [List.getElem?_map,hf];rfl);rw [hfq] at hvec;have hfv:fr.v=f.v:=by
  have:=congrArg (fun l:List Value=>l[3]?) hsh.val;simp only [List.getElem?_map,hf,hfr3,Option.map_some] at this;exact Option.some.inj this
 have hown:=hsh.rows.own f (List.mem_of_getElem? hf);rw [← hfv,hfr] at hown;rw [hfrl] at ev1;rw [hvl] at ev0;subst ev0 ev1 ev2;obtain ⟨⟨n0,n1,n2⟩,ro,fvv⟩:=fr;simp only [] at hown hvec;obtain ⟨q1,q2,rfl,hints⟩:=dr.ints hown;obtain ⟨g,og,rfl,hg,hgc,hgd⟩:=hints.cells ν;have VN:=η hvec.1;have VO:=η hvec.2;have HG:=η hg;have HGD:=η hgd;have HSH:=η hsh;have HC:=η hcells;have HB0:=η hb;clear hsh hvec hown hg hgd hints hf hfl hfr hfq hes hfrl hfr3 hfv hvl hcells hb1 hb hgc hP b1 hB hS hW
 go_upto_region 2 with fail
 obtain ⟨w2,hw2,bs,hB2,hS2⟩:=aG w1 #[.slice (some ⟨bV,0,none⟩) 4 cV,.slice (some ⟨b,0,none⟩) 4 cap1,.slice p2 6 c2] 32;rw [hw2];obtain ⟨x0,x1,x2,-⟩:=bs.three;have DD:=η (show ∀ j,j<17→w2.cell? ⟨b,3*17+j,none⟩=(aL n0 n1 n2 ro (some ⟨g,og,none⟩) 3 q2)[j]? from fun j hj=>((hB2.cell (p:=⟨b,3*17+j,none⟩) HB0.out).trans (HC.out j hj)).trans (Array.getElem?_toList (xs:=aL n0 n1 n2 ro (some ⟨g,og,none⟩) 3 q2)));have BS:=η bs;have H2:=η hB2;have SZ2:=η hS2;clear bs hB2 hS2 hw2
 go_upto_region 5 with (first | refine aq rfl _ _ rfl b (3*17) rfl (aL n0 n1 n2 ro (some ⟨g,og,none⟩) 3 q2) _ (fun j hj=>DD.out j hj) Tryz.underlying98 rfl fu ?_ | refine aB rfl _ _ _ rfl _ (aL n0 n1 n2 ro (some ⟨g,og,none⟩) 3 q2) rfl rfl fu rfl (eH ..) ?_)
 obtain ⟨w3,hw3,bf,hB3,hS3⟩:=aG w2 (aL n0 n1 n2 ro (some ⟨g,og,none⟩) 3 q2) 98;rw [hw3];clear x0 x1 x2;have L2:=η (ae L1.out H2.out ρ);have L3:=η (ae L2.out hB3 ρ);have H13:=η (ae H2.out hB3 ρ);have BF:=η bf;have BS3:=η (BS.out.below hB3 BS.out.lt);clear bf hB3 hS3 hw3;have KF:Hid (∀ w',Below w3.heap.size w3 w'→w'.cell? ⟨w2.heap.size,0,none⟩=some (.bool n0.s)∧w'.cell? ⟨w2.heap.size,1,none⟩=some (.slice n0.a n0.n n0.c)∧w'.cell? ⟨w2.heap.size,2,none⟩=some (.bool n0.t)∧w'.cell? ⟨w2.heap.size,3,none⟩=some (.slice n0.b n0.m n0.d)∧w'.cell? ⟨w2.heap.size,4,none⟩=some (.bool n1.s)∧w'.cell? ⟨w2.heap.size,5,none⟩=some (.slice n1.a n1.n n1.c)∧w'.cell? ⟨w2.heap.size,6,none⟩=some (.bool n1.t)∧w'.cell? ⟨w2.heap.size,7,none⟩=some (.slice n1.b n1.m n1.d)∧w'.cell? ⟨w2.heap.size,8,none⟩=some (.bool n2.s)∧w'.cell? ⟨w2.heap.size,9,none⟩=some (.slice n2.a n2.n n2.c)∧w'.cell? ⟨w2.heap.size,10,none⟩=some (.bool n2.t)∧w'.cell? ⟨w2.heap.size,11,none⟩=some (.slice n2.b n2.m n2.d)∧w'.cell? ⟨w2.heap.size,12,none⟩=some (.bool ro.s)∧w'.cell? ⟨w2.heap.size,13,none⟩=some (.slice ro.a ro.n ro.c)∧w'.cell? ⟨w2.heap.size,14,none⟩=some (.bool ro.t)∧w'.cell? ⟨w2.heap.size,15,none⟩=some (.slice ro.b ro.m ro.d)∧w'.cell? ⟨w2.heap.size,16,none⟩=some (.slice (some ⟨g,og,none⟩) 3 q2)):=fun w' h=>by
  have h:=BF.out.below h BF.out.lt;exact ⟨(h.cell 0).trans rfl,(h.cell 1).trans rfl,(h.cell 2).trans rfl,(h.cell 3).trans rfl,(h.cell 4).trans rfl,(h.cell 5).trans rfl,(h.cell 6).trans rfl,(h.cell 7).trans rfl,(h.cell 8).trans rfl,(h.cell 9).trans rfl,(h.cell 10).trans rfl,(h.cell 11).trans rfl,(h.cell 12).trans rfl,(h.cell 13).trans rfl,(h.cell 14).trans rfl,(h.cell 15).trans rfl,(h.cell 16).trans rfl⟩
 have KS:Hid (∀ w',Below w3.heap.size w3 w'→w'.cell? ⟨w1.heap.size,0,none⟩=some (.slice (some ⟨bV,0,none⟩) 4 cV)∧w'.cell? ⟨w1.heap.size,1,none⟩=some (.slice (some ⟨b,0,none⟩) 4 cap1)∧w'.cell? ⟨w1.heap.size,2,none⟩=some (.slice p2 6 c2)):=fun w' h=>by
  have h:=BS3.out.below h BS3.out.lt;exact ⟨(h.cell 0).trans rfl,(h.cell 1).trans rfl,(h.cell 2).trans rfl⟩
 have VN3:=η (VN.out.below H13.out);have VO3:=η (VO.out.below H13.out);have SOL3:=η (SOL.out.below H13.out);have HGL:=η (Nat.lt_of_lt_of_le HG.out H13.out.size);have KI:Hid (∀ w',Below w3.heap.size w3 w'→∀ j,j<3→w'.cell? ⟨g,og+j,none⟩=some (.int .i64 ([1,3,2].getD j 0))):=fun w' h j hj=>by
  rw [h.cell (p:=⟨g,og+j,none⟩) HGL.out,H13.out.cell (p:=⟨g,og+j,none⟩) HG.out,HGD.out j hj];have:j=0∨j=1∨j=2:=ω
  rcases this with rfl | rfl | rfl <;> rfl
 have LE1:Hid (LeV 9007199254740992 (⟨1,1,1⟩:V)):=⟨⟨by decide,by decide⟩,⟨by decide,by decide⟩,⟨by decide,by decide⟩⟩;have BQ:Hid (BdV 2 ⟨1,1,1⟩):=⟨bd1,bd1,bd1⟩;have N1:Hid (∀ w',Below w3.heap.size w3 w'→Calls Tryz.prog 46 #[.agg #[.bool ro.s,.slice ro.a ro.n ro.c,.bool ro.t,.slice ro.b ro.m ro.d]] w' fun e w''=>e=.returned (.string ⟨#[49]⟩)∧Below w'.heap.size w' w''):=fun w' h=>by
  have:=fY _ 1 w' (VO3.out.below h) ν ν ν;rw [text1] at this;exact this
 have KV:Hid (∀ w',Below w3.heap.size w3 w'→Calls Tryz.prog 37 #[.agg #[.slice (some ⟨bV,0,none⟩) 4 cV,.slice (some ⟨b,0,none⟩) 4 cap1,.slice p2 6 c2]] w' fun e w''=>dJ w'' e (1 / 6)∧Below w'.heap.size w' w''):=fun w' h=>by
  have:=jB _ _ (.slice p2 6 c2) _ _ _ _ _ w' (SOL3.out.below h);rw [mz] at this;exact this
 have KC:Hid (∀ w',Below w3.heap.size w3 w'→Calls Tryz.prog 25 #[.agg #[.slice (some ⟨bV,0,none⟩) 4 cV,.slice (some ⟨b,0,none⟩) 4 cap1,.slice p2 6 c2]] w' fun e w''=>gV w'' e ⟨1 / 4,1 / 4,1 / 4⟩∧Below w'.heap.size w' w''):=fun w' h=>by
  have:=jN _ _ (.slice p2 6 c2) _ _ _ _ _ w' (SOL3.out.below h) (by rw [mz];decide);rw [mz,tet_sumC,quarter] at this;exact this
 refine bK (rest:=0) [isV 0 (.pointer (some ⟨w2.heap.size,0,none⟩)),isV 1 (.agg #[.bool n0.s,.slice n0.a n0.n n0.c,.bool n0.t,.slice n0.b n0.m n0.d,.bool n1.s,.slice n1.a n1.n n1.c,.bool n1.t,.slice n1.b n1.m n1.d,.bool n2.s,.slice n2.a n2.n n2.c,.bool n2.t,.slice n2.b n2.m n2.d]),isV 2 (.agg #[.int .i64 1,.int .i64 1,.int .i64 1]),isP 3 (fun v w=>aA w v ⟨((1:Int):Rat),((1:Int):Rat),((1:Int):Rat)⟩),isV 4 (.bool true),isV 5 (.bool true),isV 6 (.pointer (some ⟨w2.heap.size,12,none⟩)),isV 7 (.agg #[.bool ro.s,.slice ro.a ro.n ro.c,.bool ro.t,.slice ro.b ro.m ro.d]),isV 8 (.string ⟨#[49]⟩),isV 9 (.bool true),isV 10 (.bool true),isV 11 (.bool true),isV 12 (.pointer (some ⟨w2.heap.size,16,none⟩)),isV 13 (.slice (some ⟨g,og,none⟩) 3 q2),isP 14 (fun v w=>∃ gb,v=.slice (some ⟨gb,0,none⟩) 3 3∧Box w gb #[.int .i64 1,.int .i64 3,.int .i64 2] 3),isV 15 (.bool true),isV 16 (.bool true),isV 17 (.bool true),isV 18 (.agg #[.slice (some ⟨bV,0,none⟩) 4 cV,.slice (some ⟨b,0,none⟩) 4 cap1,.slice p2 6 c2]),isP 19 (fun v w=>am w v (1 / 6)),isV 20 (.string ⟨#[49,47,54]⟩),isV 21 (.bool true),isV 22 (.bool true),isV 23 (.bool true),isV 24 (.agg #[.slice (some ⟨bV,0,none⟩) 4 cV,.slice (some ⟨b,0,none⟩) 4 cap1,.slice p2 6 c2]),isP 25 (fun v w=>aA w v ⟨1 / 4,1 / 4,1 / 4⟩),isV 26 (.agg #[.string ⟨#[49,47,52]⟩,.string ⟨#[49,47,52]⟩,.string ⟨#[49,47,52]⟩]),isV 27 (.agg #[.string ⟨#[49,47,52]⟩,.string ⟨#[49,47,52]⟩,.string ⟨#[49,47,52]⟩]),isV 28 (.bool true),isV 29 (.bool true),isV 30 (.bool true)] [] ?A5 #[true,true,true,true,true,true,true,true,true,true,true,true,true,true,true,true,true,true,true,true,true,true,true,true,true,true,true,true,true,true,true] κ [0,1,2,3,4,5,6,7,8,9,10,11,12,13,14,15,16,17,18,19,20,21,22,23,24,25,26,27,28,29,30] κ κ κ κ κ κ ?st ?hA ?hop ?hend
 case hA =>
  intro y;simp only [bj,cU,List.getElem?_toArray,List.getElem?_cons_zero,List.getElem?_cons_succ,Option.bind_some,Act.put,List.setIfInBounds_toArray,List.set_cons_zero,List.set_cons_succ];exact rfl
 case st=>exact aj.cons isV.stab (aj.cons isV.stab (aj.cons isV.stab (aj.cons (isP.stab (fun _ _ _ h hv=>hv.below h)) (aj.cons isV.stab (aj.cons isV.stab (aj.cons isV.stab (aj.cons isV.stab (aj.cons isV.stab (aj.cons isV.stab (aj.cons isV.stab (aj.cons isV.stab (aj.cons isV.stab (aj.cons isV.stab (aj.cons (isP.stab (fun _ _ _ h ⟨gb,e,hb⟩=>⟨gb,e,hb.below h hb.lt⟩)) (aj.cons isV.stab (aj.cons isV.stab (aj.cons isV.stab (aj.cons isV.stab (aj.cons (isP.stab (fun _ _ _ h hv=>hv.below h)) (aj.cons isV.stab (aj.cons isV.stab (aj.cons isV.stab (aj.cons isV.stab (aj.cons isV.stab (aj.cons (isP.stab (fun _ _ _ h hv=>hv.below h)) (aj.cons isV.stab (aj.cons isV.stab (aj.cons isV.stab (aj.cons isV.stab (aj.cons isV.stab (aj.nil)))))))))))))))))))))))))))))))
 case hop =>
  refine ai.cons (i:=0) rfl (fun y w' hS hD K hK=>?_) ?_
  ·as_aux_lemma =>
   go_simp;exact hK.out _ w' hS β isV.put δ
  refine ai.cons (i:=1) rfl (fun y w' hS hD K hK=>?_) ?_
  ·as_aux_lemma =>
   have e0:=isV.get (i:=0) (c:=.pointer (some ⟨w2.heap.size,0,none⟩)) (hD 0 κ);obtain ⟨c0,c1,c2,c3,c4,c5,c6,c7,c8,c9,c10,c11,c12,c13,c14,c15,c16⟩:=KF.out w' hS;simp only [e0] at hK ⊢;go_simp;exact hK.out _ w' hS β isV.put δ
  refine ai.cons (i:=2) rfl (fun y w' hS hD K hK=>?_) ?_
  ·as_aux_lemma =>
   go_simp;exact hK.out _ w' hS β isV.put δ
  refine ai.cons (i:=3) rfl (fun y w' hS hD K hK=>?_) ?_
  ·as_aux_lemma =>
   have e2:=isV.get (i:=2) (c:=.agg #[.int .i64 1,.int .i64 1,.int .i64 1]) (hD 2 κ);simp only [e2] at hK ⊢;go_simp;refine (kr ⟨1,1,1⟩ w' LE1.out).mono ?_;rintro e w'' ⟨⟨v,rfl,hv⟩,hb⟩;exact hK.out v w'' (ae hS hb ρ) hb (isP.put hv) δ
  refine ai.cons (i:=4) rfl (fun y w' hS hD K hK=>?_) ?_
  ·as_aux_lemma =>
   have e1:=isV.get (i:=1) (c:=.agg #[.bool n0.s,.slice n0.a n0.n n0.c,.bool n0.t,.slice n0.b n0.m n0.d,.bool n1.s,.slice n1.a n1.n n1.c,.bool n1.t,.slice n1.b n1.m n1.d,.bool n2.s,.slice n2.a n2.n n2.c,.bool n2.t,.slice n2.b n2.m n2.d]) (hD 1 κ);have e3:=isP.get (i:=3) (p:=fun v w=>aA w v ⟨((1:Int):Rat),((1:Int):Rat),((1:Int):Rat)⟩) (hD 3 κ);simp only [e1] at hK ⊢;go_simp;refine (iz _ _ ⟨1,1,1⟩ ⟨((1:Int):Rat),((1:Int):Rat),((1:Int):Rat)⟩ 2 2 w' (VN3.out.below hS) e3 BQ.out BQ.out ω).mono ?_;rintro e w'' ⟨⟨r,rfl,hr⟩,hb⟩;obtain rfl:=hr.mpr rfl;exact hK.out _ w'' (ae hS hb ρ) hb isV.put δ
  refine ai.cons (i:=5) rfl (fun y w' hS hD K hK=>?_) ?_
  ·as_aux_lemma =>
   have e4:=isV.get (i:=4) (c:=.bool true) (hD 4 κ);simp only [e4] at hK ⊢;go_simp;exact hK.out _ w' hS β isV.put δ
  refine ai.cons (i:=6) rfl (fun y w' hS hD K hK=>?_) ?_
  ·as_aux_lemma =>
   have e5:=isV.get (i:=5) (c:=.bool true) (hD 5 κ);simp only [e5] at hK ⊢;go_simp;exact hK.out _ w' hS β isV.put δ
  refine ai.cons (i:=7) rfl (fun y w' hS hD K hK=>?_) ?_
  ·as_aux_lemma =>
   have e5:=isV.get (i:=5) (c:=.bool true) (hD 5 κ);have e6:=isV.get (i:=6) (c:=.pointer (some ⟨w2.heap.size,12,none⟩)) (hD 6 κ);obtain ⟨c0,c1,c2,c3,c4,c5,c6,c7,c8,c9,c10,c11,c12,c13,c14,c15,c16⟩:=KF.out w' hS;simp only [e5,e6] at hK ⊢;go_simp;exact hK.out _ w' hS β isV.put δ
  refine ai.cons (i:=8) rfl (fun y w' hS hD K hK=>?_) ?_
  ·as_aux_lemma =>
   have e5:=isV.get (i:=5) (c:=.bool true) (hD 5 κ);have e7:=isV.get (i:=7) (c:=.agg #[.bool ro.s,.slice ro.a ro.n ro.c,.bool ro.t,.slice ro.b ro.m ro.d]) (hD 7 κ);simp only [e5,e7] at hK ⊢;go_simp;refine (N1.out w' hS).mono ?_;rintro e w'' ⟨rfl,hb⟩;exact hK.out _ w'' (ae hS hb ρ) hb isV.put δ
  refine ai.cons (i:=9) rfl (fun y w' hS hD K hK=>?_) ?_
  ·as_aux_lemma =>
   have e5:=isV.get (i:=5) (c:=.bool true) (hD 5 κ);have e8:=isV.get (i:=8) (c:=.string ⟨#[49]⟩) (hD 8 κ);simp only [e5,e8] at hK ⊢;go_simp;exact hK.out _ w' hS β isV.put δ
  refine ai.cons (i:=10) rfl (fun y w' hS hD K hK=>?_) ?_
  ·as_aux_lemma =>
   have e5:=isV.get (i:=5) (c:=.bool true) (hD 5 κ);have e9:=isV.get (i:=9) (c:=.bool true) (hD 9 κ);simp only [e5,e9] at hK ⊢;go_simp;exact hK.out _ w' hS β isV.put δ
  refine ai.cons (i:=11) rfl (fun y w' hS hD K hK=>?_) ?_
  ·as_aux_lemma =>
   have e10:=isV.get (i:=10) (c:=.bool true) (hD 10 κ);simp only [e10] at hK ⊢;go_simp;exact hK.out _ w' hS β isV.put δ
  refine ai.cons (i:=12) rfl (fun y w' hS hD K hK=>?_) ?_
  ·as_aux_lemma =>
   have e11:=isV.get (i:=11) (c:=.bool true) (hD 11 κ);simp only [e11] at hK ⊢;go_simp;exact hK.out _ w' hS β isV.put δ
  refine ai.cons (i:=13) rfl (fun y w' hS hD K hK=>?_) ?_
  ·as_aux_lemma =>
   have e11:=isV.get (i:=11) (c:=.bool true) (hD 11 κ);have e12:=isV.get (i:=12) (c:=.pointer (some ⟨w2.heap.size,16,none⟩)) (hD 12 κ);obtain ⟨c0,c1,c2,c3,c4,c5,c6,c7,c8,c9,c10,c11,c12,c13,c14,c15,c16⟩:=KF.out w' hS;simp only [e11,e12] at hK ⊢;go_simp;exact hK.out _ w' hS β isV.put δ
  refine ai.cons (i:=14) rfl (fun y w' hS hD K hK=>?_) ?_
  ·as_aux_lemma =>
   have e11:=isV.get (i:=11) (c:=.bool true) (hD 11 κ);simp only [e11] at hK ⊢;go_simp;exact hK.out _ _ (hS.alloc hS.size _) (β.alloc ρ _) (isP.put ⟨_,rfl,Box.new _ _ _ _ rfl⟩) δ
  refine ai.cons (i:=15) rfl (fun y w' hS hD K hK=>?_) ?_
  ·as_aux_lemma =>
   have e11:=isV.get (i:=11) (c:=.bool true) (hD 11 κ);have e13:=isV.get (i:=13) (c:=.slice (some ⟨g,og,none⟩) 3 q2) (hD 13 κ);have e14:=isP.get (i:=14) (p:=fun v w=>∃ gb,v=.slice (some ⟨gb,0,none⟩) 3 3∧Box w gb #[.int .i64 1,.int .i64 3,.int .i64 2] 3) (hD 14 κ);obtain ⟨gb,eb,bb⟩:=e14;simp only [e11,e13,eb] at hK ⊢;go_simp;refine (oM g og q2 gb 0 3 3 (fun j=>[1,3,2].getD j 0) w' ω (Nat.lt_of_lt_of_le HGL.out hS.size) bb.lt (KI.out w' hS) (fun j hj=>?_)).mono ?_
   ·have:j=0∨j=1∨j=2:=ω
    rcases this with rfl | rfl | rfl <;> exact (bb.cell _).trans rfl
   rintro e w'' ⟨rfl,hb⟩;exact hK.out _ w'' (ae hS hb ρ) hb isV.put δ
  refine ai.cons (i:=16) rfl (fun y w' hS hD K hK=>?_) ?_
  ·as_aux_lemma =>
   have e11:=isV.get (i:=11) (c:=.bool true) (hD 11 κ);have e15:=isV.get (i:=15) (c:=.bool true) (hD 15 κ);simp only [e11,e15] at hK ⊢;go_simp;exact hK.out _ w' hS β isV.put δ
  refine ai.cons (i:=17) rfl (fun y w' hS hD K hK=>?_) ?_
  ·as_aux_lemma =>
   have e16:=isV.get (i:=16) (c:=.bool true) (hD 16 κ);simp only [e16] at hK ⊢;go_simp;exact hK.out _ w' hS β isV.put δ
  refine ai.cons (i:=18) rfl (fun y w' hS hD K hK=>?_) ?_
  ·as_aux_lemma =>
   have e17:=isV.get (i:=17) (c:=.bool true) (hD 17 κ);obtain ⟨c0,c1,c2⟩:=KS.out w' hS;simp only [e17] at hK ⊢;go_simp;exact hK.out _ w' hS β isV.put δ
  refine ai.cons (i:=19) rfl (fun y w' hS hD K hK=>?_) ?_
  ·as_aux_lemma =>
   have e17:=isV.get (i:=17) (c:=.bool true) (hD 17 κ);have e18:=isV.get (i:=18) (c:=.agg #[.slice (some ⟨bV,0,none⟩) 4 cV,.slice (some ⟨b,0,none⟩) 4 cap1,.slice p2 6 c2]) (hD 18 κ);simp only [e17,e18] at hK ⊢;go_simp;refine (KV.out w' hS).mono ?_;rintro e w'' ⟨⟨v,rfl,hv⟩,hb⟩;exact hK.out v w'' (ae hS hb ρ) hb (isP.put hv) δ
  refine ai.cons (i:=20) rfl (fun y w' hS hD K hK=>?_) ?_
  ·as_aux_lemma =>
   have e17:=isV.get (i:=17) (c:=.bool true) (hD 17 κ);have e19:=isP.get (i:=19) (p:=fun v w=>am w v (1 / 6)) (hD 19 κ);simp only [e17] at hK ⊢;go_simp;refine (N6 _ w' e19).mono ?_;rintro e w'' ⟨rfl,hb⟩;exact hK.out _ w'' (ae hS hb ρ) hb isV.put δ
  refine ai.cons (i:=21) rfl (fun y w' hS hD K hK=>?_) ?_
  ·as_aux_lemma =>
   have e17:=isV.get (i:=17) (c:=.bool true) (hD 17 κ);have e20:=isV.get (i:=20) (c:=.string ⟨#[49,47,54]⟩) (hD 20 κ);simp only [e17,e20] at hK ⊢;go_simp;exact hK.out _ w' hS β isV.put δ
  refine ai.cons (i:=22) rfl (fun y w' hS hD K hK=>?_) ?_
  ·as_aux_lemma =>
   have e17:=isV.get (i:=17) (c:=.bool true) (hD 17 κ);have e21:=isV.get (i:=21) (c:=.bool true) (hD 21 κ);simp only [e17,e21] at hK ⊢;go_simp;exact hK.out _ w' hS β isV.put δ
  refine ai.cons (i:=23) rfl (fun y w' hS hD K hK=>?_) ?_
  ·as_aux_lemma =>
   have e22:=isV.get (i:=22) (c:=.bool true) (hD 22 κ);simp only [e22] at hK ⊢;go_simp;exact hK.out _ w' hS β isV.put δ
  refine ai.cons (i:=24) rfl (fun y w' hS hD K hK=>?_) ?_
  ·as_aux_lemma =>
   have e23:=isV.get (i:=23) (c:=.bool true) (hD 23 κ);obtain ⟨c0,c1,c2⟩:=KS.out w' hS;simp only [e23] at hK ⊢;go_simp;exact hK.out _ w' hS β isV.put δ
  refine ai.cons (i:=25) rfl (fun y w' hS hD K hK=>?_) ?_
  ·as_aux_lemma =>
   have e23:=isV.get (i:=23) (c:=.bool true) (hD 23 κ);have e24:=isV.get (i:=24) (c:=.agg #[.slice (some ⟨bV,0,none⟩) 4 cV,.slice (some ⟨b,0,none⟩) 4 cap1,.slice p2 6 c2]) (hD 24 κ);simp only [e23,e24] at hK ⊢;go_simp;refine (KC.out w' hS).mono ?_;rintro e w'' ⟨⟨v,rfl,hv⟩,hb⟩;exact hK.out v w'' (ae hS hb ρ) hb (isP.put hv) δ
  refine ai.cons (i:=26) rfl (fun y w' hS hD K hK=>?_) ?_
  ·as_aux_lemma =>
   have e23:=isV.get (i:=23) (c:=.bool true) (hD 23 κ);have e25:=isP.get (i:=25) (p:=fun v w=>aA w v ⟨1 / 4,1 / 4,1 / 4⟩) (hD 25 κ);simp only [e23] at hK ⊢;go_simp;refine (N4 _ w' e25).mono ?_;rintro e w'' ⟨rfl,hb⟩;exact hK.out _ w'' (ae hS hb ρ) hb isV.put δ
  refine ai.cons (i:=27) rfl (fun y w' hS hD K hK=>?_) ?_
  ·as_aux_lemma =>
   have e23:=isV.get (i:=23) (c:=.bool true) (hD 23 κ);simp only [e23] at hK ⊢;go_simp;exact hK.out _ w' hS β isV.put δ
  refine ai.cons (i:=28) rfl (fun y w' hS hD K hK=>?_) ?_
  ·as_aux_lemma =>
   have e23:=isV.get (i:=23) (c:=.bool true) (hD 23 κ);have e26:=isV.get (i:=26) (c:=.agg #[.string ⟨#[49,47,52]⟩,.string ⟨#[49,47,52]⟩,.string ⟨#[49,47,52]⟩]) (hD 26 κ);have e27:=isV.get (i:=27) (c:=.agg #[.string ⟨#[49,47,52]⟩,.string ⟨#[49,47,52]⟩,.string ⟨#[49,47,52]⟩]) (hD 27 κ);have eqp:=eqPoint ⟨#[49,47,52]⟩ ⟨#[49,47,52]⟩ ⟨#[49,47,52]⟩ w';simp only [e23,e26,e27] at hK ⊢;go_simp;exact hK.out _ w' hS β isV.put δ
  refine ai.cons (i:=29) rfl (fun y w' hS hD K hK=>?_) ?_
  ·as_aux_lemma =>
   have e23:=isV.get (i:=23) (c:=.bool true) (hD 23 κ);have e28:=isV.get (i:=28) (c:=.bool true) (hD 28 κ);simp only [e23,e28] at hK ⊢;go_simp;exact hK.out _ w' hS β isV.put δ
  refine ai.cons (i:=30) rfl (fun y w' hS hD K hK=>?_) ?_
  ·as_aux_lemma =>
   have e29:=isV.get (i:=29) (c:=.bool true) (hD 29 κ);simp only [e29] at hK ⊢;go_simp;exact hK.out _ w' hS β isV.put δ
  exact ai.nil
 case hend =>
  intro y w' hS hR hF;refine bq κ ?_;have e30:=isV.get (i:=30) (c:=.bool true) (hR 30 κ);simp only [e30];have HS9:=η (L3.out.trans (hS.mono L3.out.size));clear hS hR hF
  go_wp2_with fail
  go_ret;exact ⟨rfl,HS9.out⟩
end Go.Proofs.Υ
end
