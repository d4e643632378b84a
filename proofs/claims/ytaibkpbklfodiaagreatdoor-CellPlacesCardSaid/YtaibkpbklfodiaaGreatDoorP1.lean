/- What slices, integers and rationals of the program read as in a world; that this stays so while only new memory is made. math/bits: TrailingZeros64. Package cell: vectors of ints. A loop of few rounds, round by round. The walks of package integer's small functions: trim, signed, From. The walks of package integer: order, Compare, Sign, Neg. The walks of package integer: plus, minus, Add, Sub. The walks of package integer: Add, Sub. The walk of package integer: Mul. A region that draws its order and whose last operation waits for all others: that one apart. A region that draws its order, reads, and calls what makes new memory only: one walk serves every order. -/
import Derived.Test.YtaibkpbklfodiaaGreatDoorP0
import Derived.Test.YtaibkpbklfodiaaGreatDoorP2
import Derived.Test.YtaibkpbklfodiaaGreatDoorProg
import Derived.WalkKit
import Derived.WalkSpells
import Derived.WalkLawsBesides
import Derived.Handy
import Derived.Lib.Hide
import Derived.Deep.DeepCutAuto
import Derived.Deep.QuietTactic
import Derived.BigQuiet
import Derived.Deep.RegionHeld3
import Derived.Deep.DeepFit
set_option linter.all false
set_option maxHeartbeats 100000000
section
namespace Dowel
open Go Go.RowKit
structure Sl (w:World) (k:Nat) (a:Option Addr) (n cap:Nat) (xs:List Value):Prop where
 le:n≤cap
 len:xs.length=n*k
 nil:a=none→cap=0
 at_:∀ x,a=some x→x.spot=none∧x.block<w.heap.size∧∀ i,i<n*k→w.cell? ⟨x.block,x.off+i,none⟩=some (xs.getD i undef)
theorem Sl.none (w:World) (k:Nat):Sl w k none 0 0 []:=⟨Nat.le_refl _,by simp,(fun _=>rfl),(fun x h=>by cases h)⟩
theorem Sl.below {w w':World} {k n cap:Nat} {a:Option Addr} {xs:List Value} (h:Sl w k a n cap xs) (hb:Below w.heap.size w w'):Sl w' k a n cap xs:=
 ⟨h.le,h.len,h.nil,fun x hx=>by
  obtain ⟨h1,h2,h3⟩:=h.at_ x hx;exact ⟨h1,Nat.lt_of_lt_of_le h2 hb.size,fun i hi=>by rw [hb.cell (p:=⟨x.block,x.off+i,.none⟩) h2];exact h3 i hi⟩⟩
theorem Sl.some {w:World} {k n cap:Nat} {a:Option Addr} {xs:List Value} (h:Sl w k a n cap xs) (hn:0<n) :
  ∃ b off,a=some ⟨b,off,.none⟩∧b<w.heap.size∧∀ i,i<n*k→w.cell? ⟨b,off+i,.none⟩=.some (xs.getD i undef):=by
 cases a with
 | none=>have:=h.nil rfl;have:=h.le;omega
 | some x =>
  obtain ⟨h1,h2,h3⟩:=h.at_ x rfl;obtain ⟨b,off,s⟩:=x;simp only at h1;subst h1;exact ⟨b,off,rfl,h2,h3⟩
theorem Sl.mk' {w:World} {k n cap b off:Nat} {xs:List Value} (h1:n≤cap) (h2:xs.length=n*k) (hb:b<w.heap.size)
  (h3:∀ i,i<n*k→w.cell? ⟨b,off+i,.none⟩=.some (xs.getD i undef)):Sl w k (Option.some ⟨b,off,.none⟩) n cap xs:=
 ⟨h1,h2,(fun h=>by cases h),(fun x hx=>by cases hx;exact ⟨rfl,hb,h3⟩)⟩
theorem Sl.of_owns {w:World} {base e k:Nat} {v:Value} {n:Nat} {xs:List Value} (h:w.ownsRow base e k v n xs) :
  ∃ a cap,v=.slice a n cap∧Sl w k a n cap xs:=by
 obtain ⟨hl,⟨rfl,rfl⟩ | ⟨g,cap,cur,rfl,hg,hh,hn,hm,hs,ht⟩⟩:=h
 ·exact ⟨_,_,rfl,by have:xs=[]:=List.length_eq_zero_iff.1 (by simpa using hl);subst this;exact Sl.none w k⟩
 ·have hlt:g<w.heap.size:=by
   have:=(Array.getElem?_eq_some_iff.1 hh).1;exact this
  refine ⟨_,_,rfl,Sl.mk' hn hl hlt (fun i hi=>?_)⟩;have h1:w.cell? ⟨g,0+i,.none⟩=cur[0+i]? := by simp [World.cell?,hh]
  have h2:xs[i]?=cur[i]? := by
   rw [← ht,List.getElem?_take_of_lt hi,Array.getElem?_toList]
  have h3:i<xs.length:=ω;rw [h1,Nat.zero_add,← h2];simp [h3]
theorem Sl.alloc (w:World) (cs:Array Value) (t:TypeId) (g n k:Nat) (hg:g=w.heap.size) (hc:cs.size=n*k) :
  Sl (w.alloc (.cells cs t)) k (Option.some ⟨g,0,.none⟩) n n cs.toList:=by
 subst hg;refine Sl.mk' ρ (by simpa using hc) (by simp) (fun i hi=>?_);have:i<cs.size:=ω;simp [this]
def dig (d:Nat):Value:=.int .u32 (d:Int)
structure Mag (w:World) (a:Option Addr) (n cap:Nat) (ds:List Nat):Prop where
 sl:Sl w 1 a n cap (ds.map dig)
 dg:Dg ds
 len:ds.length=n
 ty:∀ x,a=some x→∃ cs,w.heap[x.block]?=some (.cells cs 191 (0,0))
theorem Mag.below {w w':World} {n cap:Nat} {a:Option Addr} {ds:List Nat} (h:Mag w a n cap ds) (hb:Below w.heap.size w w'):Mag w' a n cap ds:=
 ⟨h.sl.below hb,h.dg,h.len,fun x hx=>by rw [hb.block x.block (h.sl.at_ x hx).2.1];exact h.ty x hx⟩
theorem Mag.alloc (w:World) (cs:Array Value) (t:TypeId) (g n:Nat) (ds:List Nat) (hg:g=w.heap.size) (hc:cs.toList=ds.map dig) (hd:Dg ds) (hn:n=ds.length) (ht:t=191) :
  Mag (w.alloc (.cells cs t)) (Option.some ⟨g,0,.none⟩) n n ds:=
 ⟨by rw [← hc];exact Sl.alloc w cs t g n 1 hg (by have:=congrArg List.length hc;simp at this;omega),hd,hn.symm,fun x hx=>by cases hx;subst hg;subst ht;exact ⟨cs,heap_alloc_new w _⟩⟩
theorem Mag.nil (w:World):Mag w .none 0 0 []:=⟨Sl.none w 1,Dg.nil,rfl,fun x h=>by cases h⟩
theorem Mag.cells {w:World} {n cap:Nat} {a:Option Addr} {ds:List Nat} (h:Mag w a n cap ds) (hn:0<n) :
  ∃ b off,a=some ⟨b,off,.none⟩∧b<w.heap.size∧n≤cap∧∀ i,i<n→w.cell? ⟨b,off+i,.none⟩=.some (.int .u32 (ds.getD i 0:Nat)):=by
 obtain ⟨b,off,h1,h2,h3⟩:=h.sl.some hn;refine ⟨b,off,h1,h2,h.sl.le,fun i hi=>?_⟩;rw [h3 i ω];have:i<ds.length:=by rw [h.len];exact hi
 simp [this,dig]
theorem Mag.shorter {w:World} {n cap m:Nat} {a:Option Addr} {ds:List Nat} (h:Mag w a n cap ds) (hm:m≤n):Mag w a m cap (ds.take m):=by
 refine ⟨⟨Nat.le_trans hm h.sl.le,?_,h.sl.nil,fun x hx=>?_⟩,h.dg.take m,?_,h.ty⟩
 ·have:=h.len;simp;omega
 ·obtain ⟨h1,h2,h3⟩:=h.sl.at_ x hx
  refine ⟨h1,h2,fun i hi=>?_⟩;rw [h3 i ω];have h4:i<ds.length:=by have:=h.len;omega
  have h5:i<m:=ω;simp [h4,h5]
 ·have:=h.len;simp;omega
def aN (w:World) (v:Value) (z:Int):Prop:=
 ∃ s a n cap ds,v=.agg #[.bool s,.slice a n cap]∧s=decide (z<0)∧Mag w a n cap ds∧Nz ds∧val ds=z.natAbs
theorem aN.below {w w':World} {v:Value} {z:Int} (h:aN w v z) (hb:Below w.heap.size w w'):aN w' v z:=by
 obtain ⟨s,a,n,cap,ds,h1,hs,h2,h3,h4⟩:=h;exact ⟨s,a,n,cap,ds,h1,hs,h2.below hb,h3,h4⟩
theorem aN.open {w:World} {v:Value} {z:Int} (h:aN w v z) (hs:Small z) :
  ∃ s a n cap ds,v=.agg #[.bool s,.slice a n cap]∧s=decide (z<0)∧Mag w a n cap ds∧Nz ds∧val ds=z.natAbs∧n≤1000000:=by
 obtain ⟨s,a,n,cap,ds,h1,h2,h3,h4,h5⟩:=h;exact ⟨s,a,n,cap,ds,h1,h2,h3,h4,h5,by have:=hs.len h4 h5;have:=h3.len;omega⟩
def cX (w:World) (e:Ending) (z:Int):Prop:=∃ v,e=.returned v∧aN w v z
theorem mY {w:World} {a:Option Addr} {n cap:Nat} {ds:List Nat} (hm:Mag w a n cap ds) (hn:Nz ds) (neg:Bool) (z:Int)
  (hv:val ds=z.natAbs) (hs:neg=decide (z<0)):aN w (.agg #[.bool neg,.slice a n cap]) z:=
 ⟨neg,a,n,cap,ds,rfl,hs,hm,hn,hv⟩
def sgn (neg:Bool) (n:Nat):Int:=if neg then -(n:Int) else n
def Box (w:World) (g:Nat) (cs:Array Value) (t:TypeId):Prop:=w.heap[g]?=.some (.cells cs t (0,0))
theorem Box.new (w:World) (cs:Array Value) (t:TypeId) (g:Nat) (hg:g=w.heap.size):Box (w.alloc (.cells cs t)) g cs t:=by
 subst hg;exact heap_alloc_new w _
theorem Box.below {w w':World} {g:Nat} {cs:Array Value} {t:TypeId} (h:Box w g cs t) {n:Nat} (hb:Below n w w') (hg:g<n):Box w' g cs t:=by
 unfold Box;rw [hb.block g hg];exact h
theorem Box.old {w:World} {g:Nat} {cs:Array Value} {t:TypeId} (h:Box w g cs t) (o:Obj):Box (w.alloc o) g cs t:=
 h.below ((Below.refl w.heap.size w).alloc ρ o) (Array.getElem?_eq_some_iff.1 h).1
theorem Box.lt {w:World} {g:Nat} {cs:Array Value} {t:TypeId} (h:Box w g cs t):g<w.heap.size:=(Array.getElem?_eq_some_iff.1 h).1
theorem Box.cell {w:World} {g:Nat} {cs:Array Value} {t:TypeId} (h:Box w g cs t) (i:Nat):w.cell? ⟨g,i,.none⟩=cs[i]? := cell_of_row w g i cs t _ h
theorem Box.free {w:World} {g:Nat} {cs:Array Value} {t:TypeId} (h:Box w g cs t) (i:Nat):w.frozen? ⟨g,i,.none⟩=false:=frozen_of_row w g i cs t h
theorem Box.two {w:World} {g:Nat} {a b:Value} {t:TypeId} (h:Box w g #[a,b] t) :
  w.cell? ⟨g,0,.none⟩=.some a∧w.cell? ⟨g,1,.none⟩=.some b∧w.frozen? ⟨g,0,.none⟩=false∧w.frozen? ⟨g,1,.none⟩=false:=
 ⟨h.cell 0,h.cell 1,h.free 0,h.free 1⟩
theorem Box.four {w:World} {g:Nat} {a b c d:Value} {t:TypeId} (h:Box w g #[a,b,c,d] t) :
  w.cell? ⟨g,0,.none⟩=.some a∧w.cell? ⟨g,1,.none⟩=.some b∧w.cell? ⟨g,2,.none⟩=.some c∧w.cell? ⟨g,3,.none⟩=.some d ∧
  w.frozen? ⟨g,0,.none⟩=false∧w.frozen? ⟨g,1,.none⟩=false∧w.frozen? ⟨g,2,.none⟩=false∧w.frozen? ⟨g,3,.none⟩=false:=
 ⟨h.cell 0,h.cell 1,h.cell 2,h.cell 3,h.free 0,h.free 1,h.free 2,h.free 3⟩
theorem Box.set {w:World} {g:Nat} {cs:Array Value} {t:TypeId} (h:Box w g cs t) (i:Nat) (v:Value):Box (w.setCell ⟨g,i,.none⟩ v) g (cs.setIfInBounds i v) t:=
 heap_setCell_same w g i cs t v h
theorem Box.set2 {w:World} {g:Nat} {a b:Value} {t:TypeId} (h:Box w g #[a,b] t) (x y:Value):Box ((w.setCell ⟨g,0,.none⟩ x).setCell ⟨g,1,.none⟩ y) g #[x,y] t:=by
 have:=(h.set 0 x).set 1 y
 simpa using this
theorem Box.set4 {w:World} {g:Nat} {a b c d:Value} {t:TypeId} (h:Box w g #[a,b,c,d] t) (x y z u:Value) :
  Box ((((w.setCell ⟨g,0,.none⟩ x).setCell ⟨g,1,.none⟩ y).setCell ⟨g,2,.none⟩ z).setCell ⟨g,3,.none⟩ u) g #[x,y,z,u] t:=by
 have:=(((h.set 0 x).set 1 y).set 2 z).set 3 u
 simpa using this
theorem aS {P:Program} {fn:Func} {R:Ending→World→Prop} {a:Act} {w:World} {p:Tmp} {ty:TypeId} (h:fn.results=#[.cell p ty]) (g:Nat) {cs:Array Value} {t:TypeId}
  (hg:Box w g cs t) (d:TypeDesc) (hp:a.tmps.getD p undef=.pointer (some ⟨g,0,.none⟩)) (hu:P.underlying ty=some d)
  (hd:(match d with | .struct _ | .array _ _=>true | _=>false)=true) (hi:(P.info? ty).map (·.size)=some cs.size) (hdf:a.defers=[]) (hR:R (.returned (.agg cs)) w) :
  bodyPost P fn R .ret a w:=
 bodyPost_ret (results_cell_row h a.tmps w g t cs _ d hp hg hu hd hi) hdf hR
theorem cW (w:World) (c1 c2 c3:Array Value) (t1 t2 t3:TypeId) :
  ∃ W,((w.alloc (.cells c1 t1)).alloc (.cells c2 t2)).alloc (.cells c3 t3)=W∧Box W w.heap.size c1 t1∧Box W (w.heap.size+1) c2 t2∧Box W (w.heap.size+2) c3 t3∧Below w.heap.size w W∧W.heap.size=w.heap.size+3:=
 ⟨_,rfl,((Box.new w c1 t1 _ rfl).old _).old _,(Box.new _ c2 t2 _ (by simp)).old _,Box.new _ c3 t3 _ (by simp),by go_grown,by simp⟩
theorem da (w:World) (c1 c2:Array Value) (t1 t2:TypeId) :
  ∃ W,(w.alloc (.cells c1 t1)).alloc (.cells c2 t2)=W∧Box W w.heap.size c1 t1∧Box W (w.heap.size+1) c2 t2∧Below w.heap.size w W∧W.heap.size=w.heap.size+2:=
 ⟨_,rfl,(Box.new w c1 t1 _ rfl).old _,Box.new _ c2 t2 _ (by simp),by go_grown,by simp⟩
theorem aG (w:World) (c1:Array Value) (t1:TypeId) :
  ∃ W,w.alloc (.cells c1 t1)=W∧Box W w.heap.size c1 t1∧Below w.heap.size w W∧W.heap.size=w.heap.size+1:=
 ⟨_,rfl,Box.new w c1 t1 _ rfl,by go_grown,by simp⟩
theorem fg {W w':World} {n g1 g2:Nat} {a b c d:Value} {t1 t2:TypeId} (b1:Box W g1 #[a,b] t1) (b2:Box W g2 #[c,d] t2) (h:Below n W w') (h1:g1<n) (h2:g2<n) :
  w'.cell? ⟨g1,0,.none⟩=.some a∧w'.cell? ⟨g1,1,.none⟩=.some b∧w'.cell? ⟨g2,0,.none⟩=.some c∧w'.cell? ⟨g2,1,.none⟩=.some d:=
 ⟨(b1.below h h1).cell 0,(b1.below h h1).cell 1,(b2.below h h2).cell 0,(b2.below h h2).cell 1⟩
theorem Box.other {w:World} {g:Nat} {cs:Array Value} {t:TypeId} (h:Box w g cs t) {p:Addr} (hp:g≠p.block) (v:Value):Box (w.setCell p v) g cs t:=by
 unfold Box;rw [heap_setCell_other w p g v hp];exact h
theorem Box.other2 {w:World} {g:Nat} {cs:Array Value} {t:TypeId} (h:Box w g cs t) {g' i j:Nat} (hp:g≠g') (x y:Value):Box ((w.setCell ⟨g',i,.none⟩ x).setCell ⟨g',j,.none⟩ y) g cs t:=
 (h.other (p:=⟨g',i,.none⟩) hp x).other (p:=⟨g',j,.none⟩) hp y
theorem jI {W w':World} {n g1 g2:Nat} {a b c d:Value} {t1 t2:TypeId} (b1:Box W g1 #[a,b] t1) (b2:Box W g2 #[c,d] t2) (h:Below n W w') (h1:g1<n) (h2:g2<n) {g3:Nat} (h3:g1≠g3) (h4:g2≠g3) (x y:Value) :
  ((w'.setCell ⟨g3,0,.none⟩ x).setCell ⟨g3,1,.none⟩ y).cell? ⟨g1,0,.none⟩=.some a∧((w'.setCell ⟨g3,0,.none⟩ x).setCell ⟨g3,1,.none⟩ y).cell? ⟨g1,1,.none⟩=.some b ∧
  ((w'.setCell ⟨g3,0,.none⟩ x).setCell ⟨g3,1,.none⟩ y).cell? ⟨g2,0,.none⟩=.some c∧((w'.setCell ⟨g3,0,.none⟩ x).setCell ⟨g3,1,.none⟩ y).cell? ⟨g2,1,.none⟩=.some d:=
 ⟨((b1.below h h1).other2 h3 x y).cell 0,((b1.below h h1).other2 h3 x y).cell 1,((b2.below h h2).other2 h4 x y).cell 0,((b2.below h h2).other2 h4 x y).cell 1⟩
def fL (v:Value):Prop:=∀ n,v≠.int .u32 n
theorem ty_setCell {w:World} (p:Addr) (v:Value) {g:Nat} {t:TypeId} (h:∃ cs,w.heap[g]?=.some (.cells cs t (0,0))):∃ cs,(w.setCell p v).heap[g]?=.some (.cells cs t (0,0)):=by
 obtain ⟨cs,h⟩:=h;unfold World.setCell;by_cases e:g=p.block
 ·subst e
  exact ⟨_,by rw [Array.getElem?_modify,if_pos rfl,h];rfl⟩
 ·exact ⟨cs,by rw [Array.getElem?_modify,if_neg (fun e2=>e e2.symm)];exact h⟩
theorem Mag.setCell {w:World} {n cap:Nat} {a:Option Addr} {ds:List Nat} (h:Mag w a n cap ds) {p:Addr} {u:Value} (hp:w.cell? p=.some u) (hu:fL u) (x:Value) :
  Mag (w.setCell p x) a n cap ds:=by
 refine ⟨⟨h.sl.le,h.sl.len,h.sl.nil,fun y hy=>?_⟩,h.dg,h.len,fun y hy=>ty_setCell p x (h.ty y hy)⟩;obtain ⟨h1,h2,h3⟩:=h.sl.at_ y hy;refine ⟨h1,by simpa using h2,fun i hi=>?_⟩;have h4:=h3 i hi;rw [← h4];refine World.cell?_setCell_other _ _ _ _ (fun e=>?_);rw [← e,hp] at h4;have h5:i<ds.length:=by have:=h.len;omega
 have h6:(ds.map dig).getD i undef=dig (ds.getD i 0):=by simp [h5]
 rw [h6] at h4;exact hu _ (Option.some.inj h4)
theorem aN.setCell {w:World} {v:Value} {z:Int} (h:aN w v z) {p:Addr} {u:Value} (hp:w.cell? p=.some u) (hu:fL u) (x:Value):aN (w.setCell p x) v z:=by
 obtain ⟨s,a,n,cap,ds,h1,hs,h2,h3,h4⟩:=h;exact ⟨s,a,n,cap,ds,h1,hs,h2.setCell hp hu x,h3,h4⟩
theorem fL.bool (b:Bool):fL (.bool b):=fun _ h=>by cases h
theorem fL.slice (a:Option Addr) (n c:Nat):fL (.slice a n c):=fun _ h=>by cases h
theorem aN.store2 {w:World} {v:Value} {z:Int} (h:aN w v z) {g:Nat} {b:Bool} {a:Option Addr} {n c:Nat} {t:TypeId} (hb:Box w g #[.bool b,.slice a n c] t) (x y:Value) :
  aN ((w.setCell ⟨g,0,.none⟩ x).setCell ⟨g,1,.none⟩ y) v z:=by
 obtain ⟨h0,h1,_,_⟩:=hb.two;refine (h.setCell h0 (fL.bool b) x).setCell ?_ (fL.slice a n c) y;rw [World.cell?_setCell_other _ _ _ _ (by intro e;cases e)];exact h1
theorem cX.boxed {w:World} {s:Bool} {a:Option Addr} {n c:Nat} {z:Int} (h:aN w (.agg #[.bool s,.slice a n c]) z) {g:Nat} {b:Bool} {a':Option Addr} {n' c':Nat} {t:TypeId}
  (hb:Box w g #[.bool b,.slice a' n' c'] t):cX ((w.setCell ⟨g,0,.none⟩ (.bool s)).setCell ⟨g,1,.none⟩ (.slice a n c)) (.returned (.agg #[.bool s,.slice a n c])) z:=
 ⟨_,rfl,h.store2 hb _ _⟩
theorem ae {w wc w':World} {n:Nat} (h1:Below n w wc) (hb:Below wc.heap.size wc w') (hn:n≤w.heap.size):Below n w w':=
 h1.trans (hb.mono (Nat.le_trans hn h1.size))
theorem aO {w w':World} {n g:Nat} (h:Below n w w') (hg:n≤g) (x y:Value):Below n w ((w'.setCell ⟨g,0,.none⟩ x).setCell ⟨g,1,.none⟩ y):=
 (h.setCell hg x).setCell hg y
theorem aJ {B:Nat} {a w:World} (h:Below B a w) (n:Nat):Below B a (w.drewN n):=⟨h.os,h.tape,h.output,h.size,h.block⟩
def Tch (g:Nat) (w w':World):Prop:=w.grownBy w' (.some g)
theorem Tch.refl (g:Nat) (w:World):Tch g w w:=⟨rfl,rfl,rfl,Nat.le_refl _,fun _ _ _=>rfl⟩
theorem Tch.set {g:Nat} {a b:World} (h:Tch g a b) (j:Nat) (v:Value):Tch g a (b.setCell ⟨g,j,.none⟩ v):=
 ⟨h.os,h.tape,h.output,by simpa using h.size,fun k hk hn=>by rw [heap_setCell_other _ _ _ _ (fun e=>hn (by rw [e]))];exact h.block k hk hn⟩
theorem Tch.drewN {g:Nat} {a b:World} (h:Tch g a b) (n:Nat):Tch g a (b.drewN n):=⟨h.os,h.tape,h.output,h.size,h.block⟩
theorem Tch.cell {g:Nat} {a b:World} (h:Tch g a b) {p:Addr} {v:Value} (hc:a.cell? p=.some v) (hp:p.block≠g):b.cell? p=.some v:=
 World.grownBy.cell h hc (fun e=>hp (Option.some.inj e))
theorem Tch.below {g n:Nat} {a b c:World} (h:Below n a b) (k:Tch g b c) (hg:n≤g) (hn:n≤b.heap.size):Below n a c:=
 h.grown k hn (fun i hi=>by cases hi;exact hg)
theorem Mag.touch {w w':World} {n cap b o g:Nat} {ds:List Nat} (h:Mag w (.some ⟨b,o,.none⟩) n cap ds) (ht:Tch g w w') (hb:b≠g):Mag w' (.some ⟨b,o,.none⟩) n cap ds:=by
 refine ⟨⟨h.sl.le,h.sl.len,h.sl.nil,fun x hx=>?_⟩,h.dg,h.len,fun x hx=>by
  cases hx;rw [ht.block b (h.sl.at_ _ rfl).2.1 (fun e=>hb (Option.some.inj e))];exact h.ty _ rfl⟩
 obtain ⟨h1,h2,h3⟩:=h.sl.at_ x hx;cases hx;exact ⟨h1,Nat.lt_of_lt_of_le h2 ht.size,fun i hi=>ht.cell (h3 i hi) hb⟩
theorem Mag.grown {w w':World} {n cap:Nat} {a:Option Addr} {ds:List Nat} (h:Mag w a n cap ds) {row:Option Nat} (hg:w.grownBy w' row) (hr:∀ g,row=.some g→∃ cs t,w.heap[g]?=.some (.cells cs t (0,0))∧t≠191):Mag w' a n cap ds:=by
 have hne:∀ x,a=.some x→Option.some x.block≠row:=fun x hx e=>by
  obtain ⟨cs,h1⟩:=h.ty x hx;obtain ⟨cs',t,h2,h3⟩:=hr _ e.symm;rw [h1] at h2;injection h2 with h2
  injection h2 with _ h2 _
  exact h3 h2.symm
 refine ⟨⟨h.sl.le,h.sl.len,h.sl.nil,fun x hx=>?_⟩,h.dg,h.len,fun x hx=>by rw [hg.block x.block (h.sl.at_ x hx).2.1 (hne x hx)];exact h.ty x hx⟩;obtain ⟨h1,h2,h3⟩:=h.sl.at_ x hx;exact ⟨h1,Nat.lt_of_lt_of_le h2 hg.size,fun i hi=>World.grownBy.cell hg (h3 i hi) (hne x hx)⟩
theorem aN.grown {w w':World} {v:Value} {z:Int} (h:aN w v z) {row:Option Nat} (hg:w.grownBy w' row) (hr:∀ g,row=.some g→∃ cs t,w.heap[g]?=.some (.cells cs t (0,0))∧t≠191):aN w' v z:=by
 obtain ⟨s,a,n,cap,ds,h1,hs,h2,h3,h4⟩:=h;exact ⟨s,a,n,cap,ds,h1,hs,h2.grown hg hr,h3,h4⟩
end Dowel
end

section
namespace Dowel
open Go Go.RowKit
def oV:List Nat:=[0,1,56,2,57,49,28,3,61,58,42,50,38,29,17,4,62,47,59,36,45,43,51,22,53,39,33,30,24,18,12,5,63,55,48,27,60,41,37,16,46,35,44,21,52,32,23,11,54,26,40,15,34,20,31,10,25,14,19,9,13,8,7,6]
def Tab (w:World):Prop:=0<w.heap.size∧∀ i,i<64→w.cell? ⟨0,i,.none⟩=some (.int .u8 (oV.getD i 0:Nat))
theorem Tab.below {w w':World} {n:Nat} (h:Tab w) (hb:Below n w w') (hn:0<n):Tab w':=
 ⟨Nat.lt_of_lt_of_le h.1 hb.size,fun i hi=>by rw [hb.cell (p:=⟨0,i,.none⟩) hn];exact h.2 i hi⟩
theorem dbTab_low:∀ t,t<64→oV.getD (2 ^ t*285870213051353865 % 18446744073709551616 / 288230376151711744) 0=t:=by decide
theorem low_one {m t:Nat} (hm:m<18446744073709551616) (ht:m.testBit t=true) (hl:∀ i,i<t→m.testBit i=false):m &&& (18446744073709551616 - m)=2 ^ t:=by
 have h0:0<m:=by rcases Nat.eq_zero_or_pos m with h | h;(subst h;simp at ht);exact h
 have ht64:t<64:=by
  rcases Nat.lt_or_ge t 64 with h | h
  ·exact h
  ·rw [Nat.testBit_lt_two_pow (Nat.lt_of_lt_of_le hm (Nat.pow_le_pow_right (n:=2) ω h:2 ^ 64≤2 ^ t))] at ht;cases ht
 refine Nat.eq_of_testBit_eq fun i=>?_
 have e:18446744073709551616 - m=2 ^ 64 - ((m - 1)+1):=by rw [Nat.sub_add_cancel h0]
 have hb:=low_bit ht hl i;rw [Nat.testBit_and] at hb;rw [Nat.testBit_and,e,Nat.testBit_two_pow_sub_succ (show m - 1<2 ^ 64 by omega),Nat.testBit_two_pow];by_cases hi:m.testBit i=true
 ·rw [hi] at hb ⊢
  simp only [Bool.true_and,Bool.and_true] at hb ⊢;rw [hb];have:¬ i<t:=fun h=>by rw [hl i h] at hi;cases hi
  by_cases he:t=i
  ·subst he;simp [ht64]
  ·simp [he,show t<i by omega]
 ·have hne:t≠i:=fun e=>hi (e ▸ ht)
  simp [hi,hne]
end Dowel
namespace Go.Proofs.Υ
open Go.RowKit Dowel
theorem tz_any (m t:Nat) (w:World) (hT:Tab w) (hm:m<18446744073709551616) (ht:m.testBit t=true) (hl:∀ i,i<t→m.testBit i=false) :
  Calls Tryz.prog 144 #[.int .u64 (m:Int)] w fun e w'=>e=.returned (.int .i64 (t:Nat))∧w'=w:=by
 have hm1:m≠0:=by intro h;subst h;simp at ht
 have hm0:((m:Int) == 0)=false:=by simpa using hm1
 have ht64:t<64:=by
  rcases Nat.lt_or_ge t 64 with h | h
  ·exact h
  ·rw [Nat.testBit_lt_two_pow (Nat.lt_of_lt_of_le hm (Nat.pow_le_pow_right (n:=2) ω h:2 ^ 64≤2 ^ t))] at ht;cases ht
 have hlow:=low_one hm ht hl;have hdb:=dbTab_low t ht64;obtain ⟨p,hp⟩:∃ p,2 ^ t=p:=⟨_,rfl⟩;rw [hp] at hlow hdb;have hwr:IntKind.u64.wrap (-(m:Int))=((18446744073709551616 - m:Nat):Int):=by rw [IntKind.wrap_u64];omega
 have hb:bits .and .u64 (m:Int) (IntKind.u64.wrap (-(m:Int)))=(p:Int):=by
  rw [hwr,u64_and_nat _ _ hm ω,hlow]
 obtain ⟨ix,hix⟩:∃ ix,p*285870213051353865 % 18446744073709551616 / 288230376151711744=ix:=⟨_,rfl⟩;rw [hix] at hdb;have hix64:ix<64:=by
  rw [← hix];exact Nat.div_lt_of_lt_mul (Nat.lt_of_lt_of_le (Nat.mod_lt _ ν) ν)
 have hw:IntKind.u64.wrap ((p:Int)*285870213051353865) / 288230376151711744=(ix:Int):=by
  rw [IntKind.wrap_u64,show ((p:Int)*285870213051353865)=((p*285870213051353865:Nat):Int) by simp,← hix];generalize p*285870213051353865=y;omega
 have hc:=hT.2 ix hix64;rw [hdb] at hc;clear hm hm1 ht hl hlow hdb hp hwr hix hT
 go_enter Tryz.func144,Tryz.ntmps144
 go_wp2;exact bodyPost_ret (results_tmp Tryz.results144 _ _ _) rfl ⟨rfl,rfl⟩
end Go.Proofs.Υ
end

section
namespace Dowel
open Go Go.RowKit
def bX (a:V):Value:=.agg #[.int .i64 a.x,.int .i64 a.y,.int .i64 a.z]
def Le (k:Int) (x:Int):Prop:=-k≤x∧x≤k
def LeV (k:Int) (a:V):Prop:=Le k a.x∧Le k a.y∧Le k a.z
theorem Le.mul {k l x y:Int} (hx:Le k x) (hy:Le l y):Le (k*l) (x*y):=by
 unfold Le at *;have h:(x*y).natAbs≤(k*l).natAbs:=by
  rw [Int.natAbs_mul,Int.natAbs_mul];exact Nat.mul_le_mul ω ω
 have hk:0≤k*l:=Int.mul_nonneg ω ω;omega
theorem Le.mono {k l x:Int} (h:Le k x) (hl:k≤l):Le l x:=by unfold Le at *;omega
theorem LeV.mono {k l:Int} {a:V} (h:LeV k a) (hl:k≤l):LeV l a:=⟨h.1.mono hl,h.2.1.mono hl,h.2.2.mono hl⟩
theorem jc.le {a:V} (h:jc a):LeV 4096 a:=by unfold jc at h;unfold LeV Le;omega
theorem LeV.sub {k l:Int} {a b:V} (ha:LeV k a) (hb:LeV l b):LeV (k+l) (a - b):=by
 unfold LeV Le at *;simp only [V.sub_x,V.sub_y,V.sub_z];omega
theorem LeV.dot {k l:Int} {a b:V} (ha:LeV k a) (hb:LeV l b):Le (3*(k*l)) (V.dot a b):=by
 have h1:=ha.1.mul hb.1;have h2:=ha.2.1.mul hb.2.1;have h3:=ha.2.2.mul hb.2.2;unfold Le at *;unfold V.dot;omega
theorem LeV.cross {k l:Int} {a b:V} (ha:LeV k a) (hb:LeV l b):LeV (2*(k*l)) (V.cross a b):=by
 have h1:=ha.1.mul hb.2.1;have h2:=ha.1.mul hb.2.2;have h3:=ha.2.1.mul hb.1;have h4:=ha.2.1.mul hb.2.2;have h5:=ha.2.2.mul hb.1;have h6:=ha.2.2.mul hb.2.1;unfold LeV Le at *;unfold V.cross;dsimp only;omega
theorem Box.three {w:World} {g:Nat} {a b c:Value} {t:TypeId} (h:Box w g #[a,b,c] t) :
  w.cell? ⟨g,0,.none⟩=.some a∧w.cell? ⟨g,1,.none⟩=.some b∧w.cell? ⟨g,2,.none⟩=.some c ∧
  w.frozen? ⟨g,0,.none⟩=false∧w.frozen? ⟨g,1,.none⟩=false∧w.frozen? ⟨g,2,.none⟩=false:=
 ⟨h.cell 0,h.cell 1,h.cell 2,h.free 0,h.free 1,h.free 2⟩
theorem Box.set3 {w:World} {g:Nat} {a b c:Value} {t:TypeId} (h:Box w g #[a,b,c] t) (x y z:Value) :
  Box (((w.setCell ⟨g,0,.none⟩ x).setCell ⟨g,1,.none⟩ y).setCell ⟨g,2,.none⟩ z) g #[x,y,z] t:=by
 have:=((h.set 0 x).set 1 y).set 2 z
 simpa using this
theorem ew {w w':World} {n g:Nat} (h:Below n w w') (hg:n≤g) (x y z:Value) :
  Below n w (((w'.setCell ⟨g,0,.none⟩ x).setCell ⟨g,1,.none⟩ y).setCell ⟨g,2,.none⟩ z):=((h.setCell hg x).setCell hg y).setCell hg z
theorem Box.other3 {w:World} {g:Nat} {cs:Array Value} {t:TypeId} (h:Box w g cs t) {g':Nat} (hp:g≠g') (x y z:Value) :
  Box (((w.setCell ⟨g',0,.none⟩ x).setCell ⟨g',1,.none⟩ y).setCell ⟨g',2,.none⟩ z) g cs t:=
 (h.other2 hp x y).other (p:=⟨g',2,.none⟩) hp z
end Dowel
namespace Go.Proofs.Υ
open Go.RowKit Dowel
theorem kj (a b:V) (k l:Int) (w:World) (ha:LeV k a) (hb:LeV l b) (hk:k*l≤2000000000000000000) :
  Calls Tryz.prog 115 #[bX a,bX b] w fun e w'=>e=.returned (.int .i64 (V.dot a b))∧Below w.heap.size w w':=by
 obtain ⟨W,hW,b1,b2,hB,hS⟩:=da w #[.int .i64 a.x,.int .i64 a.y,.int .i64 a.z] #[.int .i64 b.x,.int .i64 b.y,.int .i64 b.z] 46 46;obtain ⟨x0,x1,x2,-⟩:=b1.three;obtain ⟨y0,y1,y2,-⟩:=b2.three;have h1:=ha.1.mul hb.1;have h2:=ha.2.1.mul hb.2.1;have h3:=ha.2.2.mul hb.2.2;unfold Le at h1 h2 h3;have w1:wrap64 (a.x*b.x)=a.x*b.x:=IntWalk.wrap64_in _ ⟨by omega,by omega⟩;have w2:wrap64 (a.y*b.y)=a.y*b.y:=IntWalk.wrap64_in _ ⟨by omega,by omega⟩;have w3:wrap64 (a.z*b.z)=a.z*b.z:=IntWalk.wrap64_in _ ⟨by omega,by omega⟩;have w4:wrap64 (a.x*b.x+a.y*b.y)=a.x*b.x+a.y*b.y:=IntWalk.wrap64_in _ ⟨by omega,by omega⟩;have w5:wrap64 (a.x*b.x+a.y*b.y+a.z*b.z)=a.x*b.x+a.y*b.y+a.z*b.z:=IntWalk.wrap64_in _ ⟨by omega,by omega⟩;clear ha hb hk b1 b2 hS h1 h2 h3;unfold bX V.dot
 go_enter Tryz.func115,Tryz.ntmps115
 go_wp2;exact bodyPost_ret (results_tmp Tryz.results115 _ _ _) rfl ⟨by show _=Ending.returned (Value.int IntKind.i64 _);rw [w5];rfl,hB⟩
theorem mZ:(Tryz.prog.info? 46).map (·.size)=some 3:=by kernel_rfl
theorem fC (a b:V) (k l:Int) (w:World) (ha:LeV k a) (hb:LeV l b) (hk:k+l≤2000000000000000000) :
  Calls Tryz.prog 113 #[bX a,bX b] w fun e w'=>e=.returned (bX (a - b))∧Below w.heap.size w w':=by
 obtain ⟨W,hW,b1,b2,b3,hB,hS⟩:=cW w #[.int .i64 a.x,.int .i64 a.y,.int .i64 a.z] #[.int .i64 b.x,.int .i64 b.y,.int .i64 b.z] #[.int .i64 0,.int .i64 0,.int .i64 0] 46 46 46;obtain ⟨x0,x1,x2,-⟩:=b1.three;obtain ⟨y0,y1,y2,-⟩:=b2.three;obtain ⟨z0,z1,z2,z3,z4,z5⟩:=b3.three;unfold LeV Le at ha hb;have w1:wrap64 (a.x - b.x)=a.x - b.x:=IntWalk.wrap64_in _ ⟨by omega,by omega⟩;have w2:wrap64 (a.y - b.y)=a.y - b.y:=IntWalk.wrap64_in _ ⟨by omega,by omega⟩;have w3:wrap64 (a.z - b.z)=a.z - b.z:=IntWalk.wrap64_in _ ⟨by omega,by omega⟩;have B3:=η b3;clear ha hb hk b1 b2 b3 hS;unfold bX;simp only [V.sub_x,V.sub_y,V.sub_z]
 go_enter Tryz.func113,Tryz.ntmps113
 go_wp2;refine aS Tryz.results113 (w.heap.size+2) (B3.out.set3 (.int .i64 (a.x - b.x)) (.int .i64 (a.y - b.y)) (.int .i64 (a.z - b.z))) _ rfl Tryz.underlying46 rfl mZ rfl
  ⟨rfl,ew hB ω _ _ _⟩
theorem jO (a b:V) (k l:Int) (w:World) (ha:LeV k a) (hb:LeV l b) (hk:k*l≤2000000000000000000) :
  Calls Tryz.prog 112 #[bX a,bX b] w fun e w'=>e=.returned (bX (V.cross a b))∧Below w.heap.size w w':=by
 obtain ⟨W,hW,b1,b2,b3,hB,hS⟩:=cW w #[.int .i64 a.x,.int .i64 a.y,.int .i64 a.z] #[.int .i64 b.x,.int .i64 b.y,.int .i64 b.z] #[.int .i64 0,.int .i64 0,.int .i64 0] 46 46 46;obtain ⟨x0,x1,x2,-⟩:=b1.three;obtain ⟨y0,y1,y2,-⟩:=b2.three;obtain ⟨z0,z1,z2,z3,z4,z5⟩:=b3.three;have h1:=ha.1.mul hb.2.1;have h2:=ha.1.mul hb.2.2;have h3:=ha.2.1.mul hb.1;have h4:=ha.2.1.mul hb.2.2;have h5:=ha.2.2.mul hb.1;have h6:=ha.2.2.mul hb.2.1;unfold Le at h1 h2 h3 h4 h5 h6;have u1:wrap64 (a.y*b.z)=a.y*b.z:=IntWalk.wrap64_in _ ⟨by omega,by omega⟩;have u2:wrap64 (a.z*b.y)=a.z*b.y:=IntWalk.wrap64_in _ ⟨by omega,by omega⟩;have u3:wrap64 (a.z*b.x)=a.z*b.x:=IntWalk.wrap64_in _ ⟨by omega,by omega⟩;have u4:wrap64 (a.x*b.z)=a.x*b.z:=IntWalk.wrap64_in _ ⟨by omega,by omega⟩;have u5:wrap64 (a.x*b.y)=a.x*b.y:=IntWalk.wrap64_in _ ⟨by omega,by omega⟩;have u6:wrap64 (a.y*b.x)=a.y*b.x:=IntWalk.wrap64_in _ ⟨by omega,by omega⟩;have w1:wrap64 (a.y*b.z - a.z*b.y)=a.y*b.z - a.z*b.y:=IntWalk.wrap64_in _ ⟨by omega,by omega⟩;have w2:wrap64 (a.z*b.x - a.x*b.z)=a.z*b.x - a.x*b.z:=IntWalk.wrap64_in _ ⟨by omega,by omega⟩;have w3:wrap64 (a.x*b.y - a.y*b.x)=a.x*b.y - a.y*b.x:=IntWalk.wrap64_in _ ⟨by omega,by omega⟩;have B3:=η b3;clear ha hb hk b1 b2 b3 hS h1 h2 h3 h4 h5 h6;unfold bX V.cross;dsimp only
 go_enter Tryz.func112,Tryz.ntmps112
 go_wp2;refine aS Tryz.results112 (w.heap.size+2) (B3.out.set3 (.int .i64 (a.y*b.z - a.z*b.y)) (.int .i64 (a.z*b.x - a.x*b.z)) (.int .i64 (a.x*b.y - a.y*b.x))) _ rfl Tryz.underlying46 rfl mZ rfl
  ⟨rfl,ew hB ω _ _ _⟩
end Go.Proofs.Υ
end

section
namespace Dowel
open Go Go.RowKit
def aP (P:Program) (c:Code) (Q:Exit→Act→World→Prop):Nat→Act→World→Prop
 | 0,_,_=>False
 | n+1,a,w=>c.wp P (Exit.then (aP P c Q n) Q) a w
theorem aP.loop {P:Program} {c:Code} {Q:Exit→Act→World→Prop} (n:Nat) {a:Act} {w:World} (h:aP P c Q n a w):(Code.loop c).wp P Q a w:=by
 refine wp_loop_ghost (aP P c Q) n h ?_;intro m a w hm
 cases m with
 | zero=>exact hm.elim
 | succ m =>
  refine wp_mono hm ?_;intro e a' w' hq
  cases e with
  | normal=>exact ⟨m,Nat.lt_succ_self m,hq⟩
  | _=>exact hq
theorem aP.next {P:Program} {c:Code} {Q:Exit→Act→World→Prop} {n:Nat} {a:Act} {w:World} (h:∀ K:Act→World→Prop,(∀ a w,aP P c Q n a w→K a w)→c.wp P (Exit.then K Q) a w):aP P c Q (n+1) a w:=
 h _ (fun _ _ h=>h)
end Dowel
end

section
namespace Go.Proofs.Υ
open Go.RowKit Dowel
theorem dh:(Tryz.prog.info? 54).map (·.size)=some 2:=by kernel_rfl
def kA (w:World) (a:Option Addr) (len cap:Nat) (ds:List Nat) (e:Ending):Prop:=
 ∃ n,Mag w a n cap (ds.take n)∧n≤len∧Nz (ds.take n)∧val (ds.take n)=val ds∧e=.returned (.slice a n cap)
theorem kA.mk' {w:World} {a:Option Addr} {len cap:Nat} {ds:List Nat} (hm:Mag w a len cap ds) (n:Nat) (hn:n≤len) (hz:∀ i,n≤i→i<len→ds.getD i 0=0)
  (h:n=0∨ds.getD (n-1) 0≠0):kA w a len cap ds (.returned (.slice a n cap)):=
 ⟨n,hm.shorter hn,hn,nz_take ds n (by rw [hm.len];exact hn) h,mt ds n (by rw [hm.len];exact hz),rfl⟩
theorem eK (a:Option Addr) (len cap:Nat) (ds:List Nat) (w:World) (hm:Mag w a len cap ds) (hlen:len≤9223372036854775807) :
  Calls Tryz.prog 151 #[.slice a len cap] w fun e w'=>kA w a len cap ds e∧w=w':=by
 have HM:=η hm;clear hm
 go_enter Tryz.func151,Tryz.ntmps151
 go_wp2
 go_loop [0] (fun v=>∃ n:Nat,n≤len∧(∀ i,n≤i→i<len→ds.getD i 0=0)∧v=.slice a n cap) (fun v=>match v with | .slice _ n _=>n | _=>0)
 case atStart=>exact ⟨len,Nat.le_refl _,fun i h1 h2=>by omega,rfl⟩
 case round =>
  obtain ⟨n,hn,hz,rfl⟩:=hrel;have HZ:=η hz;clear hz;by_cases h0:n=0
  ·subst h0
   go_wp2;go_ret
   exact ⟨kA.mk' HM.out 0 ω HZ.out (Or.inl rfl),rfl⟩
  ·obtain ⟨b,off,rfl,hb,hcap,hc⟩:=HM.out.cells ω
   have hpos:0<n:=ω;have hcc:=hc (n-1) ω;clear hc;obtain ⟨d,hd⟩:∃ d,ds.getD (n-1) 0=d:=⟨_,rfl⟩;rw [hd] at hcc;have HD:=η hd;clear hd;by_cases hd:d=0
   ·subst hd
    go_wp2;go_round
    case rel =>
     refine ⟨n - 1,by omega,fun i h1 h2=>?_,rfl⟩;by_cases hi:i=n - 1
     ·rw [hi];exact HD.out
     ·exact HZ.out i ω h2
    case measure=>simp;omega
   ·have hd':((d:Int) == 0)=false:=by simpa using hd
    have HN:=η hd;clear hd;go_wp2;go_ret;exact ⟨kA.mk' HM.out n hn HZ.out (Or.inr (by rw [HD.out];exact HN.out)),rfl⟩
theorem lC {w:World} {a:Option Addr} {n cap:Nat} {ds ds':List Nat} (neg:Bool) (hm:Mag w a n cap ds') (hn:Nz ds') (hv:val ds'=val ds) (b:Bool)
  (hb:b=(neg && decide (0<n))):cX w (.returned (.agg #[.bool b,.slice a n cap])) (sgn neg (val ds)):=by
 refine ⟨_,rfl,mY hm hn _ _ ?_ ?_⟩
 ·rw [hv];unfold sgn;split <;> omega
 ·rw [hb]
  have h0:=nz_nil_iff hn;have hl:=hm.len;have h1:(0<n)↔0<val ds:=by
   constructor
   ·intro h
    have:ds'≠[]:=by intro h';rw [h'] at hl;simp at hl;omega
    have:=eh hn this;omega
   ·intro h
    have:ds'≠[]:=by intro h';rw [h'] at hv;simp [val] at hv;omega
    have:=List.length_pos_iff.2 this;omega
  cases neg with
  | false=>simp [sgn]
  | true=>simp [sgn,h1]
theorem dz (neg:Bool) (a:Option Addr) (len cap:Nat) (ds:List Nat) (w:World) (hm:Mag w a len cap ds) (hlen:len≤9223372036854775807) :
  Calls Tryz.prog 124 #[.bool neg,.slice a len cap] w fun e w'=>cX w' e (sgn neg (val ds))∧Below w.heap.size w w':=by
 have HM:=η hm;clear hm;cases neg
 ·go_enter Tryz.func124,Tryz.ntmps124
  go_wp2_with fail
  refine (eK a len cap ds _ (HM.out.below ?_) hlen).mono ?_
  ·go_grown
  rintro e w' ⟨⟨n,hmag,hn,hnz,hval,rfl⟩,rfl⟩;have HA:=η hval;clear hval;go_wp2
  go_returns
  exact ⟨lC false (HM.out.shorter hn |>.below (by go_grown)) hnz HA.out _ rfl,by go_grown⟩
 ·go_enter Tryz.func124,Tryz.ntmps124
  go_wp2_with fail
  refine (eK a len cap ds _ (HM.out.below ?_) hlen).mono ?_
  ·go_grown
  rintro e w' ⟨⟨n,hmag,hn,hnz,hval,rfl⟩,rfl⟩;have HA:=η hval;clear hval;go_wp2
  go_returns
  exact ⟨lC true (HM.out.shorter hn |>.below (by go_grown)) hnz HA.out _ (by simp),by go_grown⟩
theorem from_dg (u:Nat) (hu:u<18446744073709551616):Dg [u % 4294967296,u / 4294967296]∧val [u % 4294967296,u / 4294967296]=u:=by
 constructor
 ·refine Dg.cons ?_ (Dg.cons ?_ Dg.nil) <;> unfold B <;> omega
 ·simp only [val,B];omega
theorem ig (n:Int) (w:World) (h1:-9223372036854775808≤n) (h2:n≤9223372036854775807) :
  Calls Tryz.prog 72 #[.int .i64 n] w fun e w'=>cX w' e n∧Below w.heap.size w w':=by
 by_cases hn:n<0
 ·have e:IntKind.u64.wrap (-IntKind.u64.wrap n)=-n:=by rw [IntKind.wrap_u64,IntKind.wrap_u64];omega
  obtain ⟨u,hu⟩:∃ u:Nat,(u:Int)=-n:=⟨(-n).toNat,by omega⟩;have hu':u<18446744073709551616:=ω;have hf:=from_dg u hu';have HF:=η hf;have HU:=η hu;clear hf;rw [← hu] at e;clear hu
  go_enter Tryz.func72,Tryz.ntmps72
  go_wp2_with fail
  refine (dz true _ 2 2 [u % 4294967296,u / 4294967296] _ ?_ ω).mono ?_
  ·exact Mag.alloc _ _ _ _ _ _ (by simp) (by simp [dig]) HF.out.1 rfl rfl
  rw [HF.out.2];rintro e w' ⟨⟨v,rfl,hv⟩,hb⟩;have hs:sgn true u=n:=by have:=HU.out;simp [sgn];omega
  rw [hs] at hv;have hx:=(((Box.new w #[.bool false,.slice none 0 0] 54 _ rfl).old _).below hb (by simp;omega));have HV:=η hv;have HX:=η hx;obtain ⟨s1,a1,n1,c1,d1,rfl,-⟩:=hv;obtain ⟨x0,x1,x2,x3⟩:=hx.two;have HB:=η (ae (n:=w.heap.size) (by go_grown) hb ρ);clear hs hx hb;go_wp2;exact aS Tryz.results72 w.heap.size (HX.out.set2 _ _) _ rfl Tryz.underlying54 rfl dh rfl ⟨⟨_,rfl,HV.out.store2 HX.out _ _⟩,aO HB.out ρ _ _⟩
 ·obtain ⟨u,rfl⟩:=Int.eq_ofNat_of_zero_le (by omega:0≤n)
  have hu':u<18446744073709551616:=ω;have hf:=from_dg u hu';have HF:=η hf;clear hf
  go_enter Tryz.func72,Tryz.ntmps72
  go_wp2_with fail
  refine (dz false _ 2 2 [u % 4294967296,u / 4294967296] _ ?_ ω).mono ?_
  ·exact Mag.alloc _ _ _ _ _ _ (by simp) (by simp [dig]) HF.out.1 rfl rfl
  rw [HF.out.2];rintro e w' ⟨⟨v,rfl,hv⟩,hb⟩;have hs:sgn false u=u:=rfl;rw [hs] at hv;have hx:=(((Box.new w #[.bool false,.slice none 0 0] 54 _ rfl).old _).below hb (by simp;omega));have HV:=η hv;have HX:=η hx;obtain ⟨s1,a1,n1,c1,d1,rfl,-⟩:=hv;obtain ⟨x0,x1,x2,x3⟩:=hx.two;have HB:=η (ae (n:=w.heap.size) (by go_grown) hb ρ);clear hs hx hb;go_wp2;exact aS Tryz.results72 w.heap.size (HX.out.set2 _ _) _ rfl Tryz.underlying54 rfl dh rfl ⟨⟨_,rfl,HV.out.store2 HX.out _ _⟩,aO HB.out ρ _ _⟩
#print axioms ig
end Go.Proofs.Υ
end

section
namespace Go.Proofs.Υ
open Go.RowKit Dowel
theorem fb (a b:Option Addr) (la ca lb cb:Nat) (xs ys:List Nat) (w:World) (ha:Mag w a la ca xs) (hb:Mag w b lb cb ys) (na:Nz xs) (nb:Nz ys)
  (h1:la≤9223372036854775807) (h2:lb≤9223372036854775807) :
  Calls Tryz.prog 123 #[.slice a la ca,.slice b lb cb] w fun e w'=>e=.returned (.int .i64 (eP (val xs) (val ys)))∧Below w.heap.size w w':=by
 have HA:=η ha;have HB:=η hb;have HC:Hid (∀ i,i<la→la=lb→(∀ j,i<j→j<la→xs.getD j 0=ys.getD j 0)→(xs.getD i 0<ys.getD i 0→eP (val xs) (val ys)=-1)∧(ys.getD i 0<xs.getD i 0→eP (val xs) (val ys)=1)):=by
  intro i hi he hj;have l1:=ha.len;have l2:=hb.len;exact ⟨fun h=>pZ (oo ha.dg ω i ω (fun j a b=>hj j a ω) h),
   fun h=>cmpN_gt (oo hb.dg ω i ω (fun j a b=>(hj j a ω).symm) h)⟩
 have HE:Hid (la=lb→(∀ j,j<la→xs.getD j 0=ys.getD j 0)→eP (val xs) (val ys)=0):=by
  intro he hj;have l1:=ha.len;have l2:=hb.len;rw [eq_of_getD ω (fun j h=>hj j ω)];exact cmpN_eq rfl
 have HL:Hid ((la<lb→eP (val xs) (val ys)=-1)∧(lb<la→eP (val xs) (val ys)=1)):=by
  have l1:=ha.len;have l2:=hb.len;exact ⟨fun h=>pZ (gQ ha.dg nb ω),fun h=>cmpN_gt (gQ hb.dg na ω)⟩
 clear ha hb na nb;generalize eP (val xs) (val ys)=c at *;by_cases hlt:la<lb
 ·have hne:(((la:Nat):Int) != (lb:Int))=true:=by rw [bne_iff_ne];omega
  have hh:=HL.out.1 hlt;subst hh
  go_enter Tryz.func123,Tryz.ntmps123
  go_wp2;go_ret
  exact ⟨rfl,Below.refl _ _⟩
 by_cases hgt:lb<la
 ·have hne:(((la:Nat):Int) != (lb:Int))=true:=by rw [bne_iff_ne];omega
  have hh:=HL.out.2 hgt;subst hh
  go_enter Tryz.func123,Tryz.ntmps123
  go_wp2;go_ret
  exact ⟨rfl,Below.refl _ _⟩
 obtain rfl:la=lb:=ω;have HE':=η (HE.out rfl);have HC':Hid (∀ i,i<la→(∀ j,i<j→j<la→xs.getD j 0=ys.getD j 0)→(xs.getD i 0<ys.getD i 0→c=-1)∧(ys.getD i 0<xs.getD i 0→c=1)):=fun i hi=>HC.out i hi rfl
 clear HE HC HL
 go_enter Tryz.func123,Tryz.ntmps123
 go_wp2
 go_loopw [5] (fun v wr=>∃ k:Nat,k≤la∧v=.int .i64 ((k:Int) - 1)∧(∀ j,k≤j→j<la→xs.getD j 0=ys.getD j 0)∧Below w.heap.size w wr) (fun v _=>(intOf v+1).toNat)
 case atStart=>exact ⟨la,Nat.le_refl _,rfl,fun j h1 h2=>by omega,Below.refl _ _⟩
 case round =>
  obtain ⟨k,hk,rfl,hj,hbl⟩:=hrel;have HW:=η hbl;have HJ:=η hj;clear hj;by_cases h0:k=0
  ·subst h0
   have hc:=HE'.out (fun j h=>HJ.out j ω h);subst hc;clear hbl;go_wp2;go_ret;exact ⟨rfl,HW.out⟩
  ·obtain ⟨ba,oa,rfl,hba,hca,hc⟩:=(HA.out.below hbl).cells ω
   obtain ⟨bb,ob,rfl,hbb,hcb,hd⟩:=(HB.out.below hbl).cells ω;have hx:=hc (k - 1) ω;have hy:=hd (k - 1) ω;obtain ⟨i,rfl⟩:∃ i,k=i+1:=⟨k - 1,by omega⟩;have ei:(((i+1:Nat):Int) - 1)=(i:Int):=ω;rw [ei];simp only [Nat.add_sub_cancel] at hx hy;obtain ⟨x,hx'⟩:∃ x,xs.getD i 0=x:=⟨_,rfl⟩;obtain ⟨y,hy'⟩:∃ y,ys.getD i 0=y:=⟨_,rfl⟩;rw [hx'] at hx;rw [hy'] at hy;have HX:=η hx';have HY:=η hy';clear hc hd ei hx' hy' h0 hbl;by_cases hxy:x=y
   ·have hne:(((x:Nat):Int) != (y:Int))=false:=by subst hxy;simp
    have HQ:=η hxy;clear hxy;go_wp2
    go_quiet (fail)
    go_wp2
    go_roundw
    case rel =>
     refine ⟨i,by omega,rfl,fun j h h'=>?_,aJ HW.out _⟩;by_cases hji:j=i
     ·rw [hji,HX.out,HY.out];exact HQ.out
     ·exact HJ.out j ω h'
    case measure=>simp [intOf]
   ·have hne:(((x:Nat):Int) != (y:Int))=true:=by rw [bne_iff_ne];omega
    by_cases hxl:x<y
    ·have hcc:=(HC'.out i ω (fun j h h'=>HJ.out j ω h')).1 (by rw [HX.out,HY.out];exact hxl)
     subst hcc;go_wp2
     go_quiet (fail)
     go_wp2
     go_quiet (fail)
     go_wp2;go_ret
     exact ⟨rfl,aJ (aJ HW.out _) _⟩
    ·have hcc:=(HC'.out i ω (fun j h h'=>HJ.out j ω h')).2 (by rw [HX.out,HY.out];omega)
     subst hcc;go_wp2
     go_quiet (fail)
     go_wp2
     go_quiet (fail)
     go_wp2;go_ret
     exact ⟨rfl,aJ (aJ HW.out _) _⟩
theorem cmpZ_nn {x y:Int} (hx:false=decide (x<0)) (hy:false=decide (y<0)):dl x y=eP x.natAbs y.natAbs:=by
 have h1:¬ x<0:=by simpa using hx.symm
 have h2:¬ y<0:=by simpa using hy.symm
 unfold dl eP
 (repeat' split) <;> first | rfl | (exfalso;omega)
theorem cmpZ_pp {x y:Int} (hx:true=decide (x<0)) (hy:true=decide (y<0)):dl x y=eP y.natAbs x.natAbs:=by
 have h1:x<0:=by simpa using hx.symm
 have h2:y<0:=by simpa using hy.symm
 unfold dl eP
 (repeat' split) <;> first | rfl | (exfalso;omega)
theorem cmpZ_pn {x y:Int} (hx:true=decide (x<0)) (hy:false=decide (y<0)):dl x y=-1:=by
 have h1:x<0:=by simpa using hx.symm
 have h2:¬ y<0:=by simpa using hy.symm
 unfold dl;rw [if_pos ω]
theorem cmpZ_np {x y:Int} (hx:false=decide (x<0)) (hy:true=decide (y<0)):dl x y=1:=by
 have h1:¬ x<0:=by simpa using hx.symm
 have h2:y<0:=by simpa using hy.symm
 unfold dl;rw [if_neg ω,if_pos ω]
theorem dM (va vb:Value) (x y:Int) (w:World) (ha:aN w va x) (hb:aN w vb y) (sx:Small x) (sy:Small y) :
  Calls Tryz.prog 69 #[va,vb] w fun e w'=>e=.returned (.int .i64 (dl x y))∧Below w.heap.size w w':=by
 obtain ⟨s1,a1,n1,c1,d1,rfl,hs1,hm1,hn1,hv1,hl1⟩:=ha.open sx;obtain ⟨s2,a2,n2,c2,d2,rfl,hs2,hm2,hn2,hv2,hl2⟩:=hb.open sy;have M1:=η hm1;have M2:=η hm2;cases s1 <;> cases s2
 ·have hc:=cmpZ_nn hs1 hs2
  rw [← hv1,← hv2] at hc;rw [hc];clear hs1 hs2 hv1 hv2 hm1 hm2 hc ha hb sx sy
  go_enter Tryz.func69,Tryz.ntmps69
  go_wp2_with fail
  refine (fb _ _ _ _ _ _ d1 d2 _ (M1.out.below ?_) (M2.out.below ?_) hn1 hn2 ω ω).mono ?_
  ·go_grown
  ·go_grown
  rintro e w' ⟨rfl,hb⟩;have HB:=η (ae (n:=w.heap.size) (by go_grown) hb ρ);clear hb;go_wp2;go_ret;exact ⟨rfl,HB.out⟩
 ·rw [cmpZ_np hs1 hs2]
  clear hs1 hs2 hv1 hv2 hm1 hm2 ha hb sx sy
  go_enter Tryz.func69,Tryz.ntmps69
  go_wp2;go_ret
  exact ⟨rfl,by go_grown⟩
 ·rw [cmpZ_pn hs1 hs2]
  clear hs1 hs2 hv1 hv2 hm1 hm2 ha hb sx sy
  go_enter Tryz.func69,Tryz.ntmps69
  go_wp2;go_ret
  exact ⟨rfl,by go_grown⟩
 ·have hc:=cmpZ_pp hs1 hs2
  rw [← hv1,← hv2] at hc;rw [hc];clear hs1 hs2 hv1 hv2 hm1 hm2 hc ha hb sx sy
  go_enter Tryz.func69,Tryz.ntmps69
  go_wp2_with fail
  refine (fb _ _ _ _ _ _ d2 d1 _ (M2.out.below ?_) (M1.out.below ?_) hn2 hn1 ω ω).mono ?_
  ·go_grown
  ·go_grown
  rintro e w' ⟨rfl,hb⟩;have HB:=η (ae (n:=w.heap.size) (by go_grown) hb ρ);clear hb;go_wp2;go_ret;exact ⟨rfl,HB.out⟩
theorem eQ (va:Value) (x:Int) (w:World) (ha:aN w va x) (sx:Small x) :
  Calls Tryz.prog 121 #[va] w fun e w'=>e=.returned (.int .i64 (dl x 0))∧Below w.heap.size w w':=by
 obtain ⟨s1,a1,n1,c1,d1,rfl,hs1,hm1,hn1,hv1,hl1⟩:=ha.open sx;have hl:=hm1.len;by_cases h0:n1=0
 ·have:dl x 0=0:=by
   have:d1=[]:=List.length_eq_zero_iff.1 ω;rw [this] at hv1;simp only [val] at hv1;unfold dl;rw [if_neg ω,if_neg ω]
  rw [this];subst h0;clear hs1 hm1 hv1 ha sx hl this
  go_enter Tryz.func121,Tryz.ntmps121
  go_wp2;go_ret
  exact ⟨rfl,by go_grown⟩
 ·have hpos:0<val d1:=eh hn1 (by intro h;rw [h] at hl;simp at hl;omega)
  have hne:(((n1:Nat):Int) == 0)=false:=by rw [beq_eq_false_iff_ne];omega
  cases s1
  ·have:dl x 0=1:=by
    have h1:¬ x<0:=by simpa using hs1.symm
    unfold dl;rw [if_neg ω,if_pos ω]
   rw [this];clear hs1 hm1 hv1 ha sx hl this hpos
   go_enter Tryz.func121,Tryz.ntmps121
   go_wp2;go_ret
   exact ⟨rfl,by go_grown⟩
  ·have:dl x 0=-1:=by
    have h1:x<0:=by simpa using hs1.symm
    unfold dl;rw [if_pos ω]
   rw [this];clear hs1 hm1 hv1 ha sx hl this hpos
   go_enter Tryz.func121,Tryz.ntmps121
   go_wp2;go_ret
   exact ⟨rfl,by go_grown⟩
theorem neg_post {w w':World} {s:Bool} {a:Option Addr} {n cap:Nat} {ds:List Nat} {x:Int} (hs:s=decide (x<0)) (hm:Mag w a n cap ds) (hn:Nz ds) (hv:val ds=x.natAbs)
  (hb:Below w.heap.size w w') (b:Bool) (h:b=(!s && decide (0<n))):cX w' (.returned (.agg #[.bool b,.slice a n cap])) (-x):=by
 refine ⟨_,rfl,mY (hm.below hb) hn _ _ ω ?_⟩;have hl:=hm.len;rw [h,hs];by_cases h0:x<0
 ·simp [h0];omega
 ·by_cases h1:0<n
  ·have hpos:0<val ds:=eh hn (by intro h;rw [h] at hl;simp at hl;omega)
   have:0<x:=ω;simp [h0,h1];omega
  ·have:ds=[]:=List.length_eq_zero_iff.1 ω
   rw [this] at hv;simp only [val] at hv;have:x=0:=ω;subst this;simp [h1]
theorem qu (va:Value) (x:Int) (w:World) (ha:aN w va x) (sx:Small x) :
  Calls Tryz.prog 137 #[va] w fun e w'=>cX w' e (-x)∧Below w.heap.size w w':=by
 obtain ⟨s1,a1,n1,c1,d1,rfl,hs1,hm1,hn1,hv1,hl1⟩:=ha.open sx;have HP:Hid (∀ w' b,Below w.heap.size w w'→b=(!s1 && decide (0<n1))→cX w' (.returned (.agg #[.bool b,.slice a1 n1 c1])) (-x)):=
  fun w' b h1 h2=>neg_post hs1 hm1 hn1 hv1 h1 b h2
 clear hs1 hm1 hv1 ha sx hn1;cases s1
 ·by_cases h0:0<n1
  ·go_enter Tryz.func137,Tryz.ntmps137
   go_wp2
   go_returns
   exact ⟨HP.out _ _ (by go_grown) (by simp [h0]),by go_grown⟩
  ·obtain rfl:n1=0:=ω
   go_enter Tryz.func137,Tryz.ntmps137
   go_wp2
   go_returns
   exact ⟨HP.out _ _ (by go_grown) (by simp),by go_grown⟩
 ·go_enter Tryz.func137,Tryz.ntmps137
  go_wp2
  go_returns
  exact ⟨HP.out _ _ (by go_grown) (by simp),by go_grown⟩
end Go.Proofs.Υ
end

section
namespace Go.Proofs.Υ
open Go.RowKit Dowel
theorem infoU32:(Tryz.prog.info? 191).map (fun i=>(i.zero,i.size,i.bytes))=some (some (.int .u32 0),1,4):=by kernel_rfl
def qp (w:World) (e:Ending) (v:Nat) (most:Nat):Prop:=∃ a n cap ds,e=.returned (.slice a n cap)∧Mag w a n cap ds∧val ds=v∧n≤most
def Own (w:World) (g n:Nat) (ds:List Nat):Prop:=w.ownsRow g 191 1 (.slice (some ⟨g,0,none⟩) n n) n (ds.map dig)
theorem Own.len {w:World} {g n:Nat} {ds:List Nat} (h:Own w g n ds):ds.length=n:=by
 have:=h.1;simpa using this
theorem Own.cell {w:World} {g n:Nat} {ds:List Nat} (h:Own w g n ds) (j:Nat) (hj:j<n):w.cell? ⟨g,j,none⟩=some (.int .u32 (ds.getD j 0:Nat)):=by
 have h1:=World.ownsRow.cellAt h j ω;have h2:=h.len;rw [h1];have:j<ds.length:=ω;simp [this,dig]
theorem Own.free {w:World} {g n:Nat} {ds:List Nat} (h:Own w g n ds) (j:Nat):w.frozen? ⟨g,j,none⟩=false:=World.ownsRow.frozenAt h j
theorem Own.stored {w:World} {g n:Nat} {ds:List Nat} (h:Own w g n ds) (j d:Nat) (z:Int) (hz:z=(d:Int)):Own (w.setCell ⟨g,j,none⟩ (.int .u32 z)) g n (ds.set j d):=by
 subst hz;have:=(World.ownsRow.stored h j (dig d)).1;unfold Own;rw [List.map_set];exact this
theorem Own.lt {w:World} {g n:Nat} {ds:List Nat} (h:Own w g n ds):g<w.heap.size:=(World.ownsRow.lt h g rfl).2
theorem Own.mag {w:World} {g n:Nat} {ds:List Nat} (h:Own w g n ds) (hd:Dg ds):Mag w (some ⟨g,0,none⟩) n n ds:=
 ⟨Sl.mk' ρ (by simpa using h.len) h.lt (fun i hi=>by
  rw [Nat.zero_add,h.cell i ω];have:=h.len;have:i<ds.length:=ω;simp [this,dig]),hd,h.len,fun x hx=>by
   cases hx;obtain ⟨_,⟨h2,_⟩ | ⟨g',cap',cur,h2,_,h4,_⟩⟩:=h
   ·simp at h2
   ·have e:=(Value.slice.inj h2).1
    have e2:=congrArg Addr.block (Option.some.inj e);dsimp only at e2;subst e2;exact ⟨cur,h4⟩⟩
theorem Own.kept {w w':World} {g n:Nat} {ds:List Nat} (h:Own w g n ds) (hg:w'.heap[g]?=w.heap[g]?):Own w' g n ds:=by
 obtain ⟨h1,⟨h2,_⟩ | ⟨g',cap,cur,h2,h3,h4,h5⟩⟩:=h
 ·simp at h2
 ·simp only [Value.slice.injEq,Option.some.injEq,Addr.mk.injEq,and_true,true_and] at h2
  obtain ⟨rfl,rfl⟩:=h2;exact ⟨h1,.inr ⟨g,n,cur,rfl,h3,by rw [hg];exact h4,h5⟩⟩
theorem Own.below {w w':World} {g n k:Nat} {ds:List Nat} (h:Own w g n ds) (hb:Below k w w') (hg:g<k):Own w' g n ds:=h.kept (hb.block g hg)
theorem Own.touch {w w':World} {g g' n:Nat} {ds:List Nat} (h:Own w g n ds) (ht:Tch g' w w') (hg:g≠g'):Own w' g n ds:=
 h.kept (ht.block g (World.ownsRow.lt h g rfl).2 (fun e=>hg (Option.some.inj e)))
theorem Own.drewN {w:World} {g n:Nat} {ds:List Nat} (h:Own w g n ds) (q:Nat):Own (w.drewN q) g n ds:=h
theorem fA (w:World) {ops:Array Oper} {rest:List Oper} {o:Oper} {a:Act} {Q:Exit→Act→World→Prop} (hg:o.guard=none) (l c:Operand) (hop:o.op=Op.makeSlice 52 l c)
  (kl kc:IntKind) (L C:Int) (hl:a.eval l=.int kl L) (hc:a.eval c=.int kc C) (n:Nat) (hL:L=(n:Int)) (hC:C=(n:Int)) (hn:n≤100000000)
  (hK:∀ w',Own w' w.heap.size n (List.replicate n 0)→Below w.heap.size w w'→wpList Tryz.prog ops Q rest (a.put o.dst (.slice (some ⟨w.heap.size,0,none⟩) n n)) w'):wpList Tryz.prog ops Q (o :: rest) a w:=by
 obtain ⟨i0,hi,hz0,hz1,hz2⟩:=info_parts infoU32;refine wpList_make_full w hg l c 52 hop w.heap.size 191 i0 (.int .u32 0) 1 Tryz.underlying52 hi hz0 hz1 kl kc L C n hl hc hL hC (by rw [hz2];omega) (by unfold maxLen;omega) ρ ?_;intro w' h1 h2;refine hK w' ?_ ((Below.refl w.heap.size w).grown h2 ρ (fun k h=>by cases h));have hz:(madeCells (Value.int .u32 0).cells (n*1)).toList=(List.replicate n 0).map dig:=by
  rw [Nat.mul_one];simp [Value.cells,toList_madeCells_one,dig]
 rw [hz] at h1;exact h1
theorem plus_core (a b:Option Addr) (la ca lb cb:Nat) (xs ys:List Nat) (w:World) (ha:Mag w a la ca xs) (hb:Mag w b lb cb ys) (h1:la≤1000000) (h2:lb≤la) :
  Calls Tryz.prog 135 #[.slice a la ca,.slice b lb cb] w fun e w'=>qp w' e (val xs+val ys) (la+1)∧Below w.heap.size w w':=by
 have HA:=η ha;have HB:=η hb;have lxs:=η ha.len;have lys:=η hb.len;have hlt:¬ la<lb:=ω;clear ha hb
 go_enter Tryz.func135,Tryz.ntmps135
 go_wp2_with (at_make;refine fA _ rfl _ _ rfl _ _ _ _ rfl rfl (la+1) ?c1 ?c2 ?c3 ?_)
 case c1=>omega
 case c2=>omega
 case c3=>omega
 intro w0 hown0 hgrow0;have HO:=η hown0;have HG:=η hgrow0;clear hown0 hgrow0;go_wp2
 go_loopw [6,22] (fun c i wr=>∃ k cy ds,k≤la∧i=.int .i64 (k:Nat)∧cy≤1∧c=.int .u64 (cy:Nat)∧Own wr w.heap.size (la+1) ds∧Dg ds∧val (ds.take k)+B ^ k*cy=val (xs.take k)+val (ys.take k)∧Below w.heap.size w wr)
  (fun _ i _=>la - (intOf i).toNat)
 case atStart=>exact ⟨0,0,_,Nat.zero_le _,rfl,Nat.zero_le _,rfl,HO.out,Dg.zeros _,by simp [val],HG.out⟩
 case round =>
  obtain ⟨k,cy,ds,hk,rfl,hcy,rfl,hown,hdg,hval,hbl⟩:=hrel;have HO':=η hown;have HD:=η hdg;have HV:=η hval;have HW:=η hbl;clear hdg hval HO HG;by_cases hlt:k<la
  ·obtain ⟨ba,oa,rfl,hba,hca,hx⟩:=(HA.out.below hbl).cells ω
   have hxk:=hx k hlt;obtain ⟨x,hx'⟩:∃ x,xs.getD k 0=x:=⟨_,rfl⟩;rw [hx'] at hxk;have hxb:x<4294967296:=by have:=HA.out.dg.getD k;rw [hx'] at this;exact this
   have HX:=η hx';have hoc:=hown.cell k ω;have hof:=hown.free k;clear hx hx' hown hbl hba;by_cases hlb:k<lb
   ·obtain ⟨bb,ob,rfl,hbb,hcb,hy⟩:=(HB.out.below HW.out).cells ω
    have hyk:=hy k hlb;obtain ⟨y,hy'⟩:∃ y,ys.getD k 0=y:=⟨_,rfl⟩;rw [hy'] at hyk;have hyb:y<4294967296:=by have:=HB.out.dg.getD k;rw [hy'] at this;exact this
    have HY:=η hy';clear hy hy' hbb;have hs:=ja _ _ _ _ (x+y) (cy+x+y) _ HV.out ω;have HS:=η hs;clear hs;go_wp2
    go_roundw
    case rel =>
     refine ⟨k+1,(cy+x+y) / 4294967296,ds.set k ((cy+x+y) % 4294967296),by omega,by go_num,by omega,by go_num,HO'.out.stored _ _ _ ω,
      HD.out.set _ _ (by unfold B;omega),?_,HW.out.setCell ρ _⟩
     rw [bZ _ _ _ (by rw [HO'.out.len];omega),aV,aV,HX.out,HY.out,Nat.pow_succ];have:=HS.out;unfold B at this ⊢;rw [Nat.mul_add] at this;omega
    case measure=>simp [intOf];omega
   ·have hy0:ys.getD k 0=0:=gL _ _ (ψ lys.out)
    have hs:=ja _ _ _ _ x (cy+x) _ HV.out ω;have HS:=η hs;have HY:=η hy0;clear hs hy0;go_wp2
    go_roundw
    case rel =>
     refine ⟨k+1,(cy+x) / 4294967296,ds.set k ((cy+x) % 4294967296),by omega,by go_num,by omega,by go_num,HO'.out.stored _ _ _ ω,
      HD.out.set _ _ (by unfold B;omega),?_,HW.out.setCell ρ _⟩
     rw [bZ _ _ _ (by rw [HO'.out.len];omega),aV,aV,HX.out,HY.out,Nat.pow_succ];have:=HS.out;unfold B at this ⊢;omega
    case measure=>simp [intOf];omega
  ·obtain rfl:k=la:=ω
   have hoc:=hown.cell k ω;have hof:=hown.free k;clear hown hbl;go_wp2;go_ret;refine ⟨⟨_,_,_,ds.set k cy,rfl,(HO'.out.stored k cy _ ω).mag (HD.out.set _ _ (by unfold B;omega)),?_,Nat.le_refl _⟩,HW.out.setCell ρ _⟩;have h1:=HV.out;have l1:=HO'.out.len;have l2:=lxs.out;have l3:=lys.out;rw [List.take_of_length_le (by omega:xs.length≤k),List.take_of_length_le (by omega:ys.length≤k)] at h1;have h2:=bZ ds k cy ω;rw [List.take_of_length_le (by simp;omega)] at h2;omega
theorem plus_swap (a b:Option Addr) (la ca lb cb:Nat) (xs ys:List Nat) (w:World) (ha:Mag w a la ca xs) (hb:Mag w b lb cb ys) (h1:la≤1000000) (h2:lb<la) :
  Calls Tryz.prog 135 #[.slice b lb cb,.slice a la ca] w fun e w'=>qp w' e (val xs+val ys) (la+1)∧Below w.heap.size w w':=by
 have HA:=η ha;have HB:=η hb;have lxs:=η ha.len;have lys:=η hb.len;clear ha hb
 go_enter Tryz.func135,Tryz.ntmps135
 go_wp2_with (at_make;refine fA _ rfl _ _ rfl _ _ _ _ rfl rfl (la+1) ?c1 ?c2 ?c3 ?_)
 case c1=>omega
 case c2=>omega
 case c3=>omega
 intro w0 hown0 hgrow0;have HO:=η hown0;have HG:=η hgrow0;clear hown0 hgrow0;go_wp2
 go_loopw [6,22] (fun c i wr=>∃ k cy ds,k≤la∧i=.int .i64 (k:Nat)∧cy≤1∧c=.int .u64 (cy:Nat)∧Own wr w.heap.size (la+1) ds∧Dg ds∧val (ds.take k)+B ^ k*cy=val (xs.take k)+val (ys.take k)∧Below w.heap.size w wr)
  (fun _ i _=>la - (intOf i).toNat)
 case atStart=>exact ⟨0,0,_,Nat.zero_le _,rfl,Nat.zero_le _,rfl,HO.out,Dg.zeros _,by simp [val],HG.out⟩
 case round =>
  obtain ⟨k,cy,ds,hk,rfl,hcy,rfl,hown,hdg,hval,hbl⟩:=hrel;have HO':=η hown;have HD:=η hdg;have HV:=η hval;have HW:=η hbl;clear hdg hval HO HG;by_cases hlt:k<la
  ·obtain ⟨ba,oa,rfl,hba,hca,hx⟩:=(HA.out.below hbl).cells ω
   have hxk:=hx k hlt;obtain ⟨x,hx'⟩:∃ x,xs.getD k 0=x:=⟨_,rfl⟩;rw [hx'] at hxk;have hxb:x<4294967296:=by have:=HA.out.dg.getD k;rw [hx'] at this;exact this
   have HX:=η hx';have hoc:=hown.cell k ω;have hof:=hown.free k;clear hx hx' hown hbl hba;by_cases hlb:k<lb
   ·obtain ⟨bb,ob,rfl,hbb,hcb,hy⟩:=(HB.out.below HW.out).cells ω
    have hyk:=hy k hlb;obtain ⟨y,hy'⟩:∃ y,ys.getD k 0=y:=⟨_,rfl⟩;rw [hy'] at hyk;have hyb:y<4294967296:=by have:=HB.out.dg.getD k;rw [hy'] at this;exact this
    have HY:=η hy';clear hy hy' hbb;have hs:=ja _ _ _ _ (x+y) (cy+x+y) _ HV.out ω;have HS:=η hs;clear hs;go_wp2
    go_roundw
    case rel =>
     refine ⟨k+1,(cy+x+y) / 4294967296,ds.set k ((cy+x+y) % 4294967296),by omega,by go_num,by omega,by go_num,HO'.out.stored _ _ _ ω,
      HD.out.set _ _ (by unfold B;omega),?_,HW.out.setCell ρ _⟩
     rw [bZ _ _ _ (by rw [HO'.out.len];omega),aV,aV,HX.out,HY.out,Nat.pow_succ];have:=HS.out;unfold B at this ⊢;rw [Nat.mul_add] at this;omega
    case measure=>simp [intOf];omega
   ·have hy0:ys.getD k 0=0:=gL _ _ (ψ lys.out)
    have hs:=ja _ _ _ _ x (cy+x) _ HV.out ω;have HS:=η hs;have HY:=η hy0;clear hs hy0;go_wp2
    go_roundw
    case rel =>
     refine ⟨k+1,(cy+x) / 4294967296,ds.set k ((cy+x) % 4294967296),by omega,by go_num,by omega,by go_num,HO'.out.stored _ _ _ ω,
      HD.out.set _ _ (by unfold B;omega),?_,HW.out.setCell ρ _⟩
     rw [bZ _ _ _ (by rw [HO'.out.len];omega),aV,aV,HX.out,HY.out,Nat.pow_succ];have:=HS.out;unfold B at this ⊢;omega
    case measure=>simp [intOf];omega
  ·obtain rfl:k=la:=ω
   have hoc:=hown.cell k ω;have hof:=hown.free k;clear hown hbl;go_wp2;go_ret;refine ⟨⟨_,_,_,ds.set k cy,rfl,(HO'.out.stored k cy _ ω).mag (HD.out.set _ _ (by unfold B;omega)),?_,Nat.le_refl _⟩,HW.out.setCell ρ _⟩;have h1:=HV.out;have l1:=HO'.out.len;have l2:=lxs.out;have l3:=lys.out;rw [List.take_of_length_le (by omega:xs.length≤k),List.take_of_length_le (by omega:ys.length≤k)] at h1;have h2:=bZ ds k cy ω;rw [List.take_of_length_le (by simp;omega)] at h2;omega
theorem plus_any (a b:Option Addr) (la ca lb cb:Nat) (xs ys:List Nat) (w:World) (ha:Mag w a la ca xs) (hb:Mag w b lb cb ys) (h1:la≤1000000) (h2:lb≤1000000) :
  Calls Tryz.prog 135 #[.slice a la ca,.slice b lb cb] w fun e w'=>qp w' e (val xs+val ys) 1000001∧Below w.heap.size w w':=by
 by_cases h:lb≤la
 ·refine (plus_core a b la ca lb cb xs ys w ha hb h1 h).mono ?_
  rintro e w' ⟨⟨p,n,c,ds,h3,h4,h5,h6⟩,hb⟩;exact ⟨⟨p,n,c,ds,h3,h4,h5,by omega⟩,hb⟩
 ·refine (plus_swap b a lb cb la ca ys xs w hb ha h2 ω).mono ?_
  rintro e w' ⟨⟨p,n,c,ds,h3,h4,h5,h6⟩,hb⟩;exact ⟨⟨p,n,c,ds,h3,h4,by omega,by omega⟩,hb⟩
theorem oJ (a b:Option Addr) (la ca lb cb:Nat) (xs ys:List Nat) (w:World) (ha:Mag w a la ca xs) (hb:Mag w b lb cb ys) (h1:la≤1000000) (h2:lb≤la) (hxy:val ys≤val xs) :
  Calls Tryz.prog 136 #[.slice a la ca,.slice b lb cb] w fun e w'=>qp w' e (val xs - val ys) 1000000∧Below w.heap.size w w':=by
 have HA:=η ha;have HB:=η hb;have lxs:=η ha.len;have lys:=η hb.len;have HXY:=η hxy;clear ha hb hxy
 go_enter Tryz.func136,Tryz.ntmps136
 go_wp2_with (at_make;refine fA _ rfl _ _ rfl _ _ _ _ rfl rfl la ?c1 ?c2 ?c3 ?_)
 case c1=>omega
 case c2=>omega
 case c3=>omega
 intro w0 hown0 hgrow0;have HO:=η hown0;have HG:=η hgrow0;clear hown0 hgrow0;go_wp2
 go_loopw [6,15] (fun c i wr=>∃ k br ds,k≤la∧i=.int .i64 (k:Nat)∧br≤1∧c=.int .i64 (br:Nat)∧Own wr w.heap.size la ds∧Dg ds∧val (ds.take k)+val (ys.take k)=val (xs.take k)+B ^ k*br∧Below w.heap.size w wr)
  (fun _ i _=>la - (intOf i).toNat)
 case atStart=>exact ⟨0,0,_,Nat.zero_le _,rfl,Nat.zero_le _,rfl,HO.out,Dg.zeros _,by simp [val],HG.out⟩
 case round =>
  obtain ⟨k,br,ds,hk,rfl,hbr,rfl,hown,hdg,hval,hbl⟩:=hrel;have HO':=η hown;have HD:=η hdg;have HV:=η hval;have HW:=η hbl;clear hdg hval HO HG;by_cases hlt:k<la
  ·obtain ⟨ba,oa,rfl,hba,hca,hx⟩:=(HA.out.below hbl).cells ω
   have hxk:=hx k hlt;obtain ⟨x,hx'⟩:∃ x,xs.getD k 0=x:=⟨_,rfl⟩;rw [hx'] at hxk;have hxb:x<4294967296:=by have:=HA.out.dg.getD k;rw [hx'] at this;exact this
   have HX:=η hx';have hoc:=hown.cell k ω;have hof:=hown.free k;clear hx hx' hown hbl hba;have HE:Hid (∀ (y d br':Nat) (n:Int),ys.getD k 0=y→d+y+br=x+B*br'→d<B→br'≤1→n=(d:Int) →
     ∃ k' br'' ds',k'≤la∧Value.int .i64 ((k:Int)+1)=.int .i64 (k':Nat)∧br''≤1∧Value.int .i64 (br':Int)=.int .i64 (br'':Nat)∧Own (wr.setCell ⟨w.heap.size,k,none⟩ (.int .u32 n)) w.heap.size la ds'∧Dg ds' ∧
      val (ds'.take k')+val (ys.take k')=val (xs.take k')+B ^ k'*br''∧Below w.heap.size w (wr.setCell ⟨w.heap.size,k,none⟩ (.int .u32 n))):=by
    intro y d br' n hy hd hdb hbr' hnd;refine ⟨k+1,br',ds.set k d,by omega,rfl,hbr',rfl,HO'.out.stored _ _ _ hnd,HD.out.set _ _ hdb,?_,HW.out.setCell ρ _⟩;rw [bZ _ _ _ (by rw [HO'.out.len];omega),aV,aV,HX.out,hy,Nat.pow_succ];exact sub_step _ _ _ _ _ _ _ _ _ HV.out hd
   by_cases hlb:k<lb
   ·obtain ⟨bb,ob,rfl,hbb,hcb,hy⟩:=(HB.out.below HW.out).cells ω
    have hyk:=hy k hlb;obtain ⟨y,hy'⟩:∃ y,ys.getD k 0=y:=⟨_,rfl⟩;rw [hy'] at hyk;have hyb:y<4294967296:=by have:=HB.out.dg.getD k;rw [hy'] at this;exact this
    have HY:=η hy';clear hy hy' hbb;by_cases hneg:(x:Int) - br - y<0
    ·go_wp2
     go_roundw
     case rel=>exact HE.out y (x+4294967296 - br - y) 1 _ HY.out (by unfold B;omega) (by unfold B;omega) ω ω
     case measure=>simp [intOf];omega
    ·go_wp2
     go_roundw
     case rel=>exact HE.out y (x - br - y) 0 _ HY.out ω (by unfold B;omega) ω ω
     case measure=>simp [intOf];omega
   ·have HY:Hid (ys.getD k 0=0):=gL _ _ (ψ lys.out)
    have HE':Hid (∀ (d br':Nat) (n:Int),d+br=x+B*br'→d<B→br'≤1→n=(d:Int) →
     ∃ k' br'' ds',k'≤la∧Value.int .i64 ((k:Int)+1)=.int .i64 (k':Nat)∧br''≤1∧Value.int .i64 (br':Int)=.int .i64 (br'':Nat)∧Own (wr.setCell ⟨w.heap.size,k,none⟩ (.int .u32 n)) w.heap.size la ds'∧Dg ds' ∧
      val (ds'.take k')+val (ys.take k')=val (xs.take k')+B ^ k'*br''∧Below w.heap.size w (wr.setCell ⟨w.heap.size,k,none⟩ (.int .u32 n))):=
     fun d br' n hd h1 h2 h3=>HE.out 0 d br' n HY.out ω h1 h2 h3
    clear HE;by_cases hneg:(x:Int) - br<0
    ·go_wp2
     go_roundw
     case rel=>exact HE'.out (x+4294967296 - br) 1 _ (by unfold B;omega) (by unfold B;omega) ω ω
     case measure=>simp [intOf];omega
    ·go_wp2
     go_roundw
     case rel=>exact HE'.out (x - br) 0 _ ω (by unfold B;omega) ω ω
     case measure=>simp [intOf];omega
  ·obtain rfl:k=la:=ω
   clear hown hbl;go_wp2;go_ret;refine ⟨⟨_,_,_,ds,rfl,HO'.out.mag HD.out,?_,h1⟩,HW.out⟩;have h1:=HV.out;have l1:=HO'.out.len;have l2:=lxs.out;have l3:=lys.out;rw [List.take_of_length_le (by omega:xs.length≤k),List.take_of_length_le (by omega:ys.length≤k),List.take_of_length_le (by omega:ds.length≤k)] at h1;exact sub_end h1 (by rw [← l1];exact ij HD.out) HXY.out
end Go.Proofs.Υ
end

section
namespace Go.Proofs.Υ
open Go.RowKit Dowel
theorem add_same {x y:Int} {s1 s2:Bool} {n m:Nat} (h1:s1=decide (x<0)) (h2:s2=decide (y<0)) (hn:n=x.natAbs) (hm:m=y.natAbs) (h:s1=s2):sgn s1 (n+m)=x+y:=by
 subst h;unfold sgn;by_cases hx:x<0
 ·have hy:y<0:=by have:=h1.symm.trans h2;simpa [hx] using this.symm
  have:s1=true:=by simpa [hx] using h1
  subst this;simp;omega
 ·have hy:¬ y<0:=by have:=h1.symm.trans h2;simpa [hx] using this.symm
  have:s1=false:=by simpa [hx] using h1
  subst this;simp;omega
theorem add_diff {x y:Int} {s1 s2:Bool} {n m:Nat} (h1:s1=decide (x<0)) (h2:s2=decide (y<0)) (hn:n=x.natAbs) (hm:m=y.natAbs) (h:s1≠s2) (hle:m≤n):sgn s1 (n - m)=x+y:=by
 unfold sgn;by_cases hx:x<0
 ·have hs:s1=true:=by simpa [hx] using h1
  subst hs;have hy:¬ y<0:=by intro hy;apply h;rw [h2];simp [hy]
  simp;omega
 ·have hs:s1=false:=by simpa [hx] using h1
  subst hs;have hy:y<0:=by
   by_cases hy:y<0
   ·exact hy
   ·exfalso;apply h;rw [h2];simp [hy]
  simp;omega
theorem fS {xs ys:List Nat} (hx:Dg xs) (hy:Nz ys) (h:val ys≤val xs):ys.length≤xs.length:=by
 have:=gQ hx hy;omega
theorem qw (va vb:Value) (x y:Int) (w:World) (ha:aN w va x) (hb:aN w vb y) (sx:Small x) (sy:Small y) :
    Calls Tryz.prog 95 #[va,vb] w fun e w'=>cX w' e (x+y)∧Below w.heap.size w w':=by
  obtain ⟨s1,a1,n1,c1,d1,rfl,hs1,hm1,hn1,hv1,hl1⟩:=ha.open sx;obtain ⟨s2,a2,n2,c2,d2,rfl,hs2,hm2,hn2,hv2,hl2⟩:=hb.open sy;have M1:=η hm1;have M2:=η hm2;obtain ⟨W,hW,b1,b2,b3,hB,hS⟩:=cW w #[.bool s1,.slice a1 n1 c1] #[.bool s2,.slice a2 n2 c2] #[.bool false,.slice none 0 0] 54 54 54;have HBL:=η hB;have HSZ:=η hS;have B1:=η b1;have B2:=η b2;have B3:=η b3;have HW:=η hW;clear hB hS b1 b2 b3 hW ha hb sx sy;by_cases hss:s1=s2
  · have HZ:=η (add_same hs1 hs2 hv1 hv2 hss)
    have hss':(s1 == s2)=true:=by simpa using hss
    clear hss hs1 hs2 hv1 hv2 hm1 hm2
    go_enter Tryz.func95,Tryz.ntmps95
    go_wp2_with fail
    rw [HW.out]
    go_region_held3 (fun w'=>w'.cell? ⟨w.heap.size,0,none⟩=some (.bool s1)∧w'.cell? ⟨w.heap.size,1,none⟩=some (.slice a1 n1 c1) ∧
        w'.cell? ⟨w.heap.size+1,0,none⟩=some (.bool s2)∧w'.cell? ⟨w.heap.size+1,1,none⟩=some (.slice a2 n2 c2))
      (first | exact fg B1.out B2.out (Below.refl W.heap.size _).drew (ψ HSZ.out) (ψ HSZ.out)
             | exact fg B1.out B2.out L1.out (ψ HSZ.out) (ψ HSZ.out)
             | exact fg B1.out B2.out L2.out (ψ HSZ.out) (ψ HSZ.out)
             | exact jI B1.out B2.out L2.out (ψ HSZ.out) (ψ HSZ.out) ω ω _ _)
      (first
        | (go_at_call 135;refine (plus_any _ _ _ _ _ _ d1 d2 _ (M1.out.below HBL.out.drew) (M2.out.below HBL.out.drew) hl1 hl2).mono ?_;rintro e w1 ⟨⟨p1,q1,r1,e1,rfl,hv1,hw1,hle⟩,hb1⟩
           have V1:=η hv1;have VV:=η hw1;have L1:Hid (Below W.heap.size W w1):=ae β.drew hb1 (by first | exact Nat.le_refl _ | exact L0.out.size);clear hv1 hb1 hw1)
        | (go_at_call 124;refine (dz _ _ _ _ e1 _ V1.out ω).mono ?_;rw [VV.out];rintro e w2 ⟨⟨v2,rfl,hv2⟩,hb2⟩
           have V2:=η hv2;have L2:Hid (Below W.heap.size W w2):=ae L1.out hb2 ρ;obtain ⟨s3,a3,n3,c3,d3,rfl,-⟩:=hv2;obtain ⟨x0,x1,x2,x3⟩:=(B3.out.below L2.out (ψ HSZ.out)).two;clear hb2))
    go_wp2;have b4:=B3.out.below L2.out (ψ HSZ.out)
    have hr:=cX.boxed V2.out b4;rw [HZ.out] at hr;exact aS Tryz.results95 (w.heap.size+2) (b4.set2 (.bool s3) (.slice a3 n3 c3)) _ rfl Tryz.underlying54 rfl dh rfl
      ⟨hr,aO (ae HBL.out L2.out (ψ HSZ.out)) ω _ _⟩
  · have hss':(s1 == s2)=false:=by simpa using hss
    obtain ⟨t0,t1,t2,t3⟩:=fg B1.out B2.out (Below.refl W.heap.size _) (ψ HSZ.out) (ψ HSZ.out);by_cases hcmp:val d2≤val d1
    · have HZ:=η (add_diff hs1 hs2 hv1 hv2 hss hcmp)
      have HVV:=η hcmp;have HLE:Hid (n2≤n1):=by have:=fS hm1.dg hn2 hcmp;have:=hm1.len;have:=hm2.len;unfold Hid;omega
      have hc:0≤eP (val d1) (val d2):=by unfold eP;rw [if_neg ω];split <;> omega
      generalize hcc:eP (val d1) (val d2)=cc at *;have HC:=η hcc;clear hcc hss hs1 hs2 hv1 hv2 hm1 hm2 hcmp
      go_enter Tryz.func95,Tryz.ntmps95
      go_wp2_with fail
      rw [HW.out];refine (fb _ _ _ _ _ _ d1 d2 _ (M1.out.below HBL.out) (M2.out.below HBL.out) hn1 hn2 ω ω).mono ?_;rw [HC.out];rintro e w0 ⟨rfl,hb0⟩;have L0:=η hb0;clear hb0
      go_wp2_with fail
      go_region_held3 (fun w'=>w'.cell? ⟨w.heap.size,0,none⟩=some (.bool s1)∧w'.cell? ⟨w.heap.size,1,none⟩=some (.slice a1 n1 c1) ∧
          w'.cell? ⟨w.heap.size+1,0,none⟩=some (.bool s2)∧w'.cell? ⟨w.heap.size+1,1,none⟩=some (.slice a2 n2 c2))
        (first | exact fg B1.out B2.out L0.out.drew (ψ HSZ.out) (ψ HSZ.out)
               | exact fg B1.out B2.out L1.out (ψ HSZ.out) (ψ HSZ.out)
               | exact fg B1.out B2.out L2.out (ψ HSZ.out) (ψ HSZ.out)
               | exact jI B1.out B2.out L2.out (ψ HSZ.out) (ψ HSZ.out) ω ω _ _)
        (first
          | (go_at_call 136;refine (oJ _ _ _ _ _ _ d1 d2 _ (M1.out.below (ae HBL.out L0.out (ψ HSZ.out)).drew) (M2.out.below (ae HBL.out L0.out (ψ HSZ.out)).drew) hl1 HLE.out HVV.out).mono ?_;rintro e w1 ⟨⟨p1,q1,r1,e1,rfl,hv1,hw1,hle⟩,hb1⟩
             have V1:=η hv1;have VV:=η hw1;have L1:Hid (Below W.heap.size W w1):=ae L0.out.drew hb1 (by first | exact Nat.le_refl _ | exact L0.out.size);clear hv1 hb1 hw1)
          | (go_at_call 124;refine (dz _ _ _ _ e1 _ V1.out ω).mono ?_;rw [VV.out];rintro e w2 ⟨⟨v2,rfl,hv2⟩,hb2⟩
             have V2:=η hv2;have L2:Hid (Below W.heap.size W w2):=ae L1.out hb2 ρ;obtain ⟨s3,a3,n3,c3,d3,rfl,-⟩:=hv2;obtain ⟨x0,x1,x2,x3⟩:=(B3.out.below L2.out (ψ HSZ.out)).two;clear hb2))
      go_wp2;have b4:=B3.out.below L2.out (ψ HSZ.out)
      have hr:=cX.boxed V2.out b4;rw [HZ.out] at hr;exact aS Tryz.results95 (w.heap.size+2) (b4.set2 (.bool s3) (.slice a3 n3 c3)) _ rfl Tryz.underlying54 rfl dh rfl
        ⟨hr,aO (ae HBL.out L2.out (ψ HSZ.out)) ω _ _⟩
    · have HZ:Hid (sgn s2 (val d2 - val d1)=x+y):=by unfold Hid;rw [Int.add_comm];exact add_diff hs2 hs1 hv2 hv1 (fun h=>hss h.symm) ω
      have HVV:Hid (val d1≤val d2):=by unfold Hid;omega
      have HLE:Hid (n1≤n2):=by have:=fS hm2.dg hn1 HVV.out;have:=hm1.len;have:=hm2.len;unfold Hid;omega
      have hc:eP (val d1) (val d2)<0:=by unfold eP;rw [if_pos ω];omega
      generalize hcc:eP (val d1) (val d2)=cc at *;have HC:=η hcc;clear hcc hss hs1 hs2 hv1 hv2 hm1 hm2 hcmp
      go_enter Tryz.func95,Tryz.ntmps95
      go_wp2_with fail
      rw [HW.out];refine (fb _ _ _ _ _ _ d1 d2 _ (M1.out.below HBL.out) (M2.out.below HBL.out) hn1 hn2 ω ω).mono ?_;rw [HC.out];rintro e w0 ⟨rfl,hb0⟩;have L0:=η hb0;clear hb0
      go_wp2_with fail
      go_region_held3 (fun w'=>w'.cell? ⟨w.heap.size,0,none⟩=some (.bool s1)∧w'.cell? ⟨w.heap.size,1,none⟩=some (.slice a1 n1 c1) ∧
          w'.cell? ⟨w.heap.size+1,0,none⟩=some (.bool s2)∧w'.cell? ⟨w.heap.size+1,1,none⟩=some (.slice a2 n2 c2))
        (first | exact fg B1.out B2.out L0.out.drew (ψ HSZ.out) (ψ HSZ.out)
               | exact fg B1.out B2.out L1.out (ψ HSZ.out) (ψ HSZ.out)
               | exact fg B1.out B2.out L2.out (ψ HSZ.out) (ψ HSZ.out)
               | exact jI B1.out B2.out L2.out (ψ HSZ.out) (ψ HSZ.out) ω ω _ _)
        (first
          | (go_at_call 136;refine (oJ _ _ _ _ _ _ d2 d1 _ (M2.out.below (ae HBL.out L0.out (ψ HSZ.out)).drew) (M1.out.below (ae HBL.out L0.out (ψ HSZ.out)).drew) hl2 HLE.out HVV.out).mono ?_;rintro e w1 ⟨⟨p1,q1,r1,e1,rfl,hv1,hw1,hle⟩,hb1⟩
             have V1:=η hv1;have VV:=η hw1;have L1:Hid (Below W.heap.size W w1):=ae L0.out.drew hb1 (by first | exact Nat.le_refl _ | exact L0.out.size);clear hv1 hb1 hw1)
          | (go_at_call 124;refine (dz _ _ _ _ e1 _ V1.out ω).mono ?_;rw [VV.out];rintro e w2 ⟨⟨v2,rfl,hv2⟩,hb2⟩
             have V2:=η hv2;have L2:Hid (Below W.heap.size W w2):=ae L1.out hb2 ρ;obtain ⟨s3,a3,n3,c3,d3,rfl,-⟩:=hv2;obtain ⟨x0,x1,x2,x3⟩:=(B3.out.below L2.out (ψ HSZ.out)).two;clear hb2))
      go_wp2;have b4:=B3.out.below L2.out (ψ HSZ.out)
      have hr:=cX.boxed V2.out b4;rw [HZ.out] at hr;exact aS Tryz.results95 (w.heap.size+2) (b4.set2 (.bool s3) (.slice a3 n3 c3)) _ rfl Tryz.underlying54 rfl dh rfl
        ⟨hr,aO (ae HBL.out L2.out (ψ HSZ.out)) ω _ _⟩
end Go.Proofs.Υ
end

section
namespace Go.Proofs.Υ
open Go.RowKit Dowel
theorem prod_bd {x y:Nat} (hx:x<4294967296) (hy:y<4294967296):0≤(x:Int)*(y:Int)∧(x:Int)*(y:Int)≤18446744065119617025:=by
 have h1:x*y≤4294967295*4294967295:=Nat.mul_le_mul ω ω;have h2:((x*y:Nat):Int)=(x:Int)*(y:Int):=Int.natCast_mul x y;omega
theorem j5 {x y:Nat} (hx:x<4294967296) (hy:y<4294967296):x*y≤18446744065119617025:=by
 have h1:x*y≤4294967295*4294967295:=Nat.mul_le_mul ω ω;omega
theorem mul_sgn {x y:Int} {s1 s2:Bool} {n m:Nat} (h1:s1=decide (x<0)) (h2:s2=decide (y<0)) (hn:n=x.natAbs) (hm:m=y.natAbs):sgn (!(s1 == s2)) (n*m)=x*y:=by
 subst hn hm;have hx:x=sgn s1 x.natAbs:=by rw [h1];unfold sgn;by_cases h:x<0 <;> simp [h] <;> omega
 have hy:y=sgn s2 y.natAbs:=by rw [h2];unfold sgn;by_cases h:y<0 <;> simp [h] <;> omega
 generalize x.natAbs=n at *;generalize y.natAbs=m at *;rw [hx,hy];cases s1 <;> cases s2 <;> simp [sgn,Int.neg_mul,Int.mul_neg]
def MulO (xs ys:List Nat) (lb i:Nat) (ds:List Nat):Prop:=Dg ds∧val ds=val (xs.take i)*val ys∧∀ j,i+lb≤j→ds.getD j 0=0
def nN (ds0 ys:List Nat) (x i k c:Nat) (ds:List Nat):Prop:=Dg ds∧ds.length=ds0.length∧val ds+B ^ (i+k)*c=val ds0+x*(B ^ i*val (ys.take k))∧∀ j,i+k≤j→ds.getD j 0=ds0.getD j 0
theorem nN.start {ds ys:List Nat} (h:Dg ds) (x i:Nat):nN ds ys x i 0 0 ds:=⟨h,rfl,by simp [val],fun _ _=>rfl⟩
theorem nN.step {ds0 ys ds:List Nat} {x i k c:Nat} (h:nN ds0 ys x i k c ds) (hl:i+k<ds.length) (hk:k<ys.length) (s:Nat) (hs:s=c+(x*ys.getD k 0+ds.getD (i+k) 0)) :
  nN ds0 ys x i (k+1) (s / B) (ds.set (i+k) (s % B)):=by
 obtain ⟨h1,h2,h3,h4⟩:=h;refine ⟨h1.set _ _ (Nat.mod_lt _ ii),by simpa using h2,?_,fun j hj=>?_⟩
 ·have hv:=o7 ds (i+k) (s % B) hl
  rw [bJ ys k hk];have:=mul_step _ _ _ _ _ _ _ _ _ _ h3 hs hv;rw [← Nat.add_assoc,Nat.pow_succ,this,Nat.mul_add (B ^ i),Nat.mul_add x,Nat.pow_add,Nat.mul_assoc]
 ·rw [bY _ _ _ _ ω];exact h4 j ω
theorem nN.stop {xs ys ds0 ds:List Nat} {lb i c:Nat} (h0:MulO xs ys lb i ds0) (hlb:ys.length=lb) (hi:i<xs.length) (h:nN ds0 ys (xs.getD i 0) i lb c ds) (hl:i+lb<ds.length) (hc:c<B) :
  MulO xs ys lb (i+1) (ds.set (i+lb) c):=by
 obtain ⟨h1,h2,h3,h4⟩:=h;obtain ⟨o1,o2,o3⟩:=h0;refine ⟨h1.set _ _ hc,?_,fun j hj=>?_⟩
 ·have hv:=o7 ds (i+lb) c hl
  rw [h4 (i+lb) ρ,o3 (i+lb) ρ,Nat.mul_zero,Nat.add_zero] at hv;rw [hv,h3,o2,bJ xs i hi,List.take_of_length_le (by omega:ys.length≤lb),Nat.add_mul]
  congr 1
  rw [← Nat.mul_assoc,Nat.mul_comm (xs.getD i 0)]
 ·rw [bY _ _ _ _ ω,h4 j ω,o3 j ω]
theorem cY (va vb:Value) (x y:Int) (w:World) (ha:aN w va x) (hb:aN w vb y) (sx:Small x) (sy:Small y) :
  Calls Tryz.prog 70 #[va,vb] w fun e w'=>cX w' e (x*y)∧Below w.heap.size w w':=by
 obtain ⟨s1,a1,n1,c1,xs,rfl,hs1,hm1,hn1,hv1,hl1⟩:=ha.open sx;obtain ⟨s2,a2,n2,c2,ys,rfl,hs2,hm2,hn2,hv2,hl2⟩:=hb.open sy;have M1:=η hm1;have M2:=η hm2;have lxs:=η hm1.len;have lys:=η hm2.len;obtain ⟨W,hW,b1,b2,b3,hB,hS⟩:=cW w #[.bool s1,.slice a1 n1 c1] #[.bool s2,.slice a2 n2 c2] #[.bool false,.slice none 0 0] 54 54 54;have HBL:=η hB;have HSZ:=η hS;have B1:=η b1;have B2:=η b2;have B3:=η b3;have HW:=η hW;have HS1:=η hs1;have HS2:=η hs2;have HV1:=η hv1;have HV2:=η hv2;clear hB hS b1 b2 b3 hW ha hb sx sy hm1 hm2 hs1 hs2 hv1 hv2
 go_enter Tryz.func70,Tryz.ntmps70
 go_wp2_with (at_make;rw [HW.out];refine fA _ rfl _ _ rfl _ _ _ _ rfl rfl (n1+n2) ?c1 ?c2 ?c3 ?_)
 case c1=>omega
 case c2=>omega
 case c3=>omega
 intro w0 hown0 hgrow0;have HO:=η hown0;have HG:=η hgrow0;obtain ⟨g,hg⟩:∃ g,W.heap.size=g:=⟨_,rfl⟩;rw [hg] at HO ⊢;clear hown0 hgrow0;have HGG:=η hg;clear hg;obtain ⟨t0,t1,t2,t3⟩:=fg B1.out B2.out HG.out (ψ HSZ.out) (ψ HSZ.out);go_wp2;clear t0 t1 t2 t3
 go_loopw [22] (fun i wr=>∃ k ds,k≤n1∧i=.int .i64 (k:Nat)∧Own wr g (n1+n2) ds∧MulO xs ys n2 k ds∧Below W.heap.size W wr) (fun i _=>n1 - (intOf i).toNat)
 case atStart=>exact ⟨0,_,Nat.zero_le _,rfl,HO.out,⟨Dg.zeros _,by simp [val,om],fun j _=>by simp [List.getElem?_replicate];split <;> rfl⟩,HG.out⟩
 case round =>
  obtain ⟨i,ds,hi,rfl,hown,hmul,hbl⟩:=hrel;have HO':=η hown;have HM:=η hmul;have HB':=η hbl;obtain ⟨t0,t1,t2,t3⟩:=fg B1.out B2.out hbl (ψ HSZ.out) (ψ HSZ.out);clear hown hmul HO HG;by_cases hlt:i<n1
  ·obtain ⟨ba,oa,rfl,hba,hca,hx⟩:=(M1.out.below (ae HBL.out hbl (ψ HSZ.out))).cells ω
   have hxk:=hx i hlt;obtain ⟨dx,hx'⟩:∃ dx,xs.getD i 0=dx:=⟨_,rfl⟩;rw [hx'] at hxk;have hxb:dx<4294967296:=by have:=M1.out.dg.getD i;rw [hx'] at this;exact this
   have HX:=η hx';clear hx hx' hbl hba;go_wp2;obtain ⟨wo,hwo⟩:∃ wo:World,wo=wr:=⟨_,rfl⟩;rw [← hwo] at HO' HB' t0 t1 t2 t3 hxk ⊢;clear hwo;clear t0 t1 t2 t3 hxk
   go_loopw [8,30] (fun c kk wi=>∃ k cy ds',k≤n2∧kk=.int .i64 (k:Nat)∧cy<4294967296∧c=.int .u64 (cy:Nat)∧Own wi g (n1+n2) ds'∧nN ds ys dx i k cy ds'∧Below W.heap.size W wi) (fun _ kk _=>n2 - (intOf kk).toNat)
   case atStart=>exact ⟨0,0,ds,Nat.zero_le _,rfl,by omega,rfl,HO'.out,nN.start HM.out.1 _ _,HB'.out⟩
   case round =>
    obtain ⟨k,cy,ds',hk,rfl,hcy,rfl,hown,hmul,hbl⟩:=hrel;have HO2:=η hown;have HM2:=η hmul;have HB2:=η hbl;obtain ⟨t0,t1,t2,t3⟩:=fg B1.out B2.out hbl (ψ HSZ.out) (ψ HSZ.out);by_cases hlk:k<n2
    ·obtain ⟨bb,ob,rfl,hbb,hcb,hy⟩:=(M2.out.below (ae HBL.out hbl (ψ HSZ.out))).cells ω
     have hyk:=hy k hlk;obtain ⟨dy,hy'⟩:∃ dy,ys.getD k 0=dy:=⟨_,rfl⟩;rw [hy'] at hyk;have hyb:dy<4294967296:=by have:=M2.out.dg.getD k;rw [hy'] at this;exact this
     have HY:=η hy';have hok:=hown.cell (i+k) ω;have hof:=hown.free (i+k);obtain ⟨od,ho'⟩:∃ od,ds'.getD (i+k) 0=od:=⟨_,rfl⟩;rw [ho'] at hok;have hob:od<4294967296:=by have:=hmul.1.getD (i+k);rw [ho'] at this;exact this
     have HOD:=η ho';obtain ⟨hp0,hp1⟩:=prod_bd hxb hyb;have HST:Hid (nN ds ys dx i (k+1) ((cy+(dx*dy+od)) / B) (ds'.set (i+k) ((cy+(dx*dy+od)) % B))):=by
      have:=hmul.step (by rw [hown.len];omega) (by rw [lys.out];exact hlk) (cy+(dx*dy+od)) (by rw [HY.out,HOD.out]);exact this
     clear hy hy' hbl hbb hown hmul ho';have HPN:=η (j5 hxb hyb);go_wp2
     go_roundw
     case rel =>
      have:=HPN.out;refine ⟨k+1,(cy+(dx*dy+od)) / 4294967296,_,by omega,by go_num,by omega,by rfl,HO2.out.stored _ _ _ (by rfl),HST.out,HB2.out.setCell (by have:=HGG.out;simp;omega) _⟩
     case measure=>simp [intOf];omega
    ·obtain rfl:k=n2:=ω
     have hok:=hown.cell (i+k) ω;have hof:=hown.free (i+k);have HST:Hid (MulO xs ys k (i+1) (ds'.set (i+k) cy)):=by
      have:=nN.stop HM.out lys.out (by rw [lxs.out];exact hlt) (by rw [HX.out];exact hmul) (by rw [hown.len];omega) hcy;exact this
     clear hbl hown hmul;go_wp2
     go_roundw
     case rel=>exact ⟨i+1,_,by omega,by go_num,HO2.out.stored _ _ _ ω,HST.out,HB2.out.setCell (by have:=HGG.out;simp;omega) _⟩
     case measure=>simp [intOf];omega
  ·obtain rfl:i=n1:=ω
   clear hbl
   go_wp2_with fail
   refine (dz _ _ _ _ ds _ (HO'.out.mag HM.out.1) ω).mono ?_;have hval:val ds=val xs*val ys:=by rw [HM.out.2.1,List.take_of_length_le (by rw [lxs.out];omega)]
   rw [hval,mul_sgn HS1.out HS2.out HV1.out HV2.out];rintro e w2 ⟨⟨v2,rfl,hv2⟩,hb2⟩;have V2:=η hv2;have L2:Hid (Below W.heap.size W w2):=ae HB'.out hb2 ρ;obtain ⟨s3,a3,n3,c3,d3,rfl,-⟩:=hv2;obtain ⟨x0,x1,x2,x3⟩:=(B3.out.below L2.out (ψ HSZ.out)).two;clear hb2 hval t0 t1 t2 t3;go_wp2;have b4:=B3.out.below L2.out (ψ HSZ.out);exact aS Tryz.results70 (w.heap.size+2) (b4.set2 (.bool s3) (.slice a3 n3 c3)) _ rfl Tryz.underlying54 rfl dh rfl
    ⟨cX.boxed V2.out b4,aO (ae HBL.out L2.out (ψ HSZ.out)) ω _ _⟩
end Go.Proofs.Υ
end

section
namespace Dowel
open Go Go.RowKit
def iK (P:Program) (o:Oper) (Q:Exit→Act→World→Prop):Exit→Act→World→Prop
 | .normal,a,w=>o.wp P a w (fun a w=>Q .normal a w) Q
 | e,a,w=>Q e a w
def lR (init:Array Oper) (o:Oper):Bool:=
 o.guard.isNone && (o.after.all fun e=>decide (e.on<init.size)) &&
 ((List.range init.size).all fun j=>o.after.any fun e=>Region.binds .any e && e.on == j) &&
 ((List.range init.size).all fun j=>((init[j]?).map fun oj=>oj.guard.isNone && oj.after.all fun e=>decide (e.on<j)).getD false)
section
variable {P : Program} {Q : Exit → Act → World → Prop} {init : Array Oper} {o : Oper}
theorem fe (h:lR init o=true):o.guard=none∧(∀ e ∈ o.after,e.on<init.size)∧(∀ j,j<init.size→∃ e ∈ o.after,Region.binds .any e=true∧e.on=j) ∧
  ∀ (j:Nat) (oj:Oper),init[j]?=some oj→oj.guard=none∧∀ e ∈ oj.after,e.on<j:=by
 unfold lR at h;simp only [Bool.and_eq_true] at h;obtain ⟨⟨⟨h1,h2⟩,h3⟩,h4⟩:=h;refine ⟨by simpa using h1,fun e he=>?_,fun j hj=>?_,fun j oj hoj=>?_⟩
 ·have:=Array.all_eq_true_iff_forall_mem.mp h2 e he
  exact of_decide_eq_true this
 ·have:=List.all_eq_true.mp h3 j (List.mem_range.mpr hj)
  obtain ⟨k,hk,hb⟩:=Array.any_eq_true.mp this;rw [Bool.and_eq_true,beq_iff_eq] at hb;exact ⟨o.after[k],Array.getElem_mem hk,hb.1,hb.2⟩
 ·have hj:=(Array.getElem?_eq_some_iff.mp hoj).1
  have:=List.all_eq_true.mp h4 j (List.mem_range.mpr hj);rw [hoj] at this;simp only [Option.map_some,Option.getD_some,Bool.and_eq_true] at this;exact ⟨by simpa using this.1,fun e he=>of_decide_eq_true (Array.all_eq_true_iff_forall_mem.mp this.2 e he)⟩
theorem nK (h:lR init o=true) {listed:Array Bool} (hs:listed.size=init.size) (hr:Region.ready .any init listed=[]):∀ j,j<init.size→listed.getD j false=true:=by
 intro j
 induction j using Nat.strongRecOn with
 | _ j ih =>
  intro hj;refine Classical.byContradiction fun hc=>?_
  obtain ⟨oj,hoj⟩:∃ oj,init[j]?=some oj:=⟨_,Array.getElem?_eq_getElem hj⟩;have hm:j ∈ Region.ready .any init listed:=mem_ready.mpr ⟨by
   rw [Array.getD_eq_getD_getElem?,Array.getElem?_eq_getElem ω] at hc ⊢
   simpa using hc,oj,hoj,fun e he _=>by
   have hlt:e.on<j:=((fe h).2.2.2 j oj hoj).2 e he;exact ih e.on hlt ω⟩
  rw [hr] at hm;cases hm
theorem fU {listed:Array Bool} {j:Nat} {d b:Bool} (hj:j<listed.size):(listed.push b).getD j d=listed.getD j d:=by
 rw [Array.getD_eq_getD_getElem?,Array.getD_eq_getD_getElem?,Array.getElem?_push_lt hj,Array.getElem?_eq_getElem hj]
theorem upon_last {r:Result Go.Next} {oj:Oper} {a:Act} {K:Act→World→Prop} (h:oj.upon P a K (iK P o Q) r):oj.upon P a K Q r:=by
 cases r with
 | ok n w'=>cases n <;> simp only [Oper.upon] at h ⊢ <;> first | exact h | exact Calls.mono h (fun e w'' he=>by cases e <;> exact he)
 | halt x w'=>cases x <;> simp only [Oper.upon] at h ⊢ <;> exact h
theorem ready_init {listed:Array Bool} (hs:listed.size=init.size) {i:Nat} (hi:i<init.size):i ∈ Region.ready .any (init.push o) (listed.push false)↔i ∈ Region.ready .any init listed∨(i ∈ Region.ready .any (init.push o) (listed.push false)∧∃ oi,init[i]?=some oi∧∃ e ∈ oi.after,¬ e.on<init.size):=by
 rw [mem_ready,mem_ready,fU ω,Array.getElem?_push_lt hi,Array.getElem?_eq_getElem hi]
 constructor
 ·rintro ⟨h1,oi,hoi,hall⟩
  by_cases hlt:∀ e ∈ oi.after,e.on<init.size
  ·exact .inl ⟨h1,oi,hoi,fun e he hb=>by have:=hall e he hb;rwa [fU (by have:=hlt e he;omega)] at this⟩
  ·refine .inr ⟨⟨h1,oi,hoi,hall⟩,oi,hoi,Classical.byContradiction fun hc=>hlt fun e he=>Classical.byContradiction fun h=>hc ⟨e,he,h⟩⟩
 ·rintro (⟨h1,oi,hoi,hall⟩ | ⟨h,_⟩)
  ·refine ⟨h1,oi,hoi,fun e he hb=>?_⟩
   have:=hall e he hb;have hlt:e.on<listed.size:=Classical.byContradiction fun hc=>by
    rw [Array.getD_eq_getD_getElem?,Array.getElem?_eq_none ω] at this;cases this
   rw [fU hlt];exact this
  ·exact h
theorem iP (h:lR init o=true) {listed:Array Bool} (hs:listed.size=init.size) {i:Nat} (hi:i<init.size):i ∈ Region.ready .any (init.push o) (listed.push false)↔i ∈ Region.ready .any init listed:=by
 rw [ready_init hs hi]
 constructor
 ·rintro (h1 | ⟨_,oi,hoi,e,he,hlt⟩)
  ·exact h1
  ·have:=((fe h).2.2.2 i oi hoi).2 e he;omega
 ·exact .inl
theorem mL (h:lR init o=true) {listed:Array Bool} (hs:listed.size=init.size):init.size ∈ Region.ready .any (init.push o) (listed.push false)↔∀ j,j<init.size→listed.getD j false=true:=by
 rw [mem_ready]
 constructor
 ·rintro ⟨_,o',ho',hall⟩ j hj
  rw [Array.getElem?_push_size] at ho';cases ho';obtain ⟨e,he,hb,rfl⟩:=(fe h).2.2.1 j hj;have:=hall e he hb
  rwa [fU ω] at this
 ·intro hall
  refine ⟨by rw [Array.getD_eq_getD_getElem?,← hs,Array.getElem?_push_size];rfl,o,Array.getElem?_push_size,fun e he _=>?_⟩;have hlt:=(fe h).2.1 e he;rw [fU ω];exact hall _ hlt
theorem gX {md:Region.Mode} {ops:Array Oper} {listed:Array Bool} {i:Nat} (h:i ∈ Region.ready md ops listed):i<ops.size:=by
 obtain ⟨_,oi,hoi,_⟩:=mem_ready.mp h;exact (Array.getElem?_eq_some_iff.mp hoi).1
theorem ready_full {listed:Array Bool} (hs:listed.size=init.size) (hall:∀ j,j<init.size→listed.getD j false=true):Region.ready .any (init.push o) ((listed.push false).setIfInBounds init.size true)=[]:=by
 refine List.eq_nil_iff_forall_not_mem.mpr fun i hi=>?_
 have hlt:=gX hi;rw [Array.size_push] at hlt;obtain ⟨h1,-⟩:=mem_ready.mp hi;by_cases e:i=init.size
 ·subst e
  rw [Array.getD_eq_getD_getElem?,Array.getElem?_setIfInBounds_self_of_lt (by simp;omega)] at h1;cases h1
 ·rw [getD_set_ne true (fun h=>e h.symm),fU ω] at h1
  have:=hall i ω;rw [Array.getD_eq_getD_getElem?,Array.getElem?_eq_getElem ω] at h1 this;simp at h1 this;rw [h1] at this;cases this
theorem wpAny_pop (h:lR init o=true):∀ (fuel:Nat) (listed:Array Bool) (a:Act) (w:World),listed.size=init.size→wpAny P .any init (iK P o Q) fuel listed a w→wpAny P .any (init.push o) Q (fuel+1) (listed.push false) a w:=by
 have hlast:∀ (fuel:Nat) (listed:Array Bool) (a:Act) (w:World),listed.size=init.size→(∀ j,j<init.size→listed.getD j false=true)→iK P o Q .normal a w →
   wpOp P (init.push o) Q init.size (wpAny P .any (init.push o) Q fuel ((listed.push false).setIfInBounds init.size true)) a w:=by
  intro fuel listed a w hs hall hn;unfold wpOp;rw [Array.getElem?_push_size];dsimp only;rw [if_pos (by simp [Region.wanted,(fe h).1])];refine .inl (Oper.wp_mono (fun a' w' hq=>?_) hn);have hr:=ready_full (o:=o) hs hall
  cases fuel with
  | zero=>exact ⟨hr,hq⟩
  | succ f=>exact ⟨fun _=>hq,by rw [hr];simp⟩
 have hready:∀ (listed:Array Bool),listed.size=init.size→Region.ready .any (init.push o) (listed.push false)≠[]:=by
  intro listed hs he;by_cases hr:Region.ready .any init listed=[]
  ·have:=(mL h hs).mpr (nK h hs hr)
   rw [he] at this;cases this
  ·obtain ⟨i,hi⟩:=List.exists_mem_of_ne_nil _ hr
   have:=(iP h hs (gX hi)).mpr hi;rw [he] at this;cases this
 intro fuel
 induction fuel with
 | zero =>
  intro listed a w hs hw;refine ⟨fun he=>absurd he (hready listed hs),fun i hi=>?_⟩;have hlt:=gX hi;rw [Array.size_push] at hlt;by_cases e:i=init.size
  ·subst e
   exact hlast 0 listed a w hs (nK h hs hw.1) hw.2
  ·have:=(iP h hs ω).mp hi
   rw [hw.1] at this;cases this
 | succ fuel ih =>
  intro listed a w hs hw;refine ⟨fun he=>absurd he (hready listed hs),fun i hi=>?_⟩;have hlt:=gX hi;rw [Array.size_push] at hlt;by_cases e:i=init.size
  ·subst e
   have hall:=(mL h hs).mp hi;have hr:Region.ready .any init listed=[]:=List.eq_nil_iff_forall_not_mem.mpr fun j hj=>by
    obtain ⟨h1,-⟩:=mem_ready.mp hj;have:=hall j (gX hj);have hjl:=gX hj;rw [Array.getD_eq_getD_getElem?,Array.getElem?_eq_getElem ω] at h1 this;simp at h1 this;rw [h1] at this;cases this
   exact hlast (fuel+1) listed a w hs hall (hw.1 hr)
  ·have hi':=(iP h hs ω).mp hi
   have hop:=hw.2 i hi';unfold wpOp at hop ⊢;rw [Array.getElem?_push_lt ω,← Array.getElem?_eq_getElem ω];obtain ⟨oi,hoi⟩:∃ oi,init[i]?=some oi:=⟨_,Array.getElem?_eq_getElem ω⟩;rw [hoi] at hop ⊢;dsimp only at hop ⊢;have hg:=((fe h).2.2.2 i oi hoi).1;rw [if_pos (by simp [Region.wanted,hg])] at hop ⊢;have hset:(listed.push false).setIfInBounds i true=(listed.setIfInBounds i true).push false:=by
    apply Array.ext_getElem?;intro j;rw [Array.getElem?_setIfInBounds,Array.getElem?_push,Array.getElem?_push,Array.getElem?_setIfInBounds,Array.size_setIfInBounds];by_cases e1:i=j
    ·subst e1;simp [hs,show i<init.size by omega,show ¬ i=init.size from e];omega
    ·simp [e1]
   rcases hop with hop | ⟨ha,ao,wo,hl⟩
   ·refine .inl (upon_last (o:=o) (Oper.wp_mono (fun a' w' hk=>?_) hop))
    rw [hset];exact ih _ a' w' (by rw [Array.size_setIfInBounds];exact hs) hk
   ·exact .inr ⟨ha,ao,wo,hl⟩
theorem ml {id:Nat} {S:World→Prop} {a:Act} {w:World} (hm:P.follows .mixedOrders=true) (h:lR init o=true)
  (hw:wpAnyH P .any init (iK P o Q) S init.size (Array.replicate init.size false) a w.drew):(Code.region id (init.push o) true).wp P Q a w:=by
 refine wp_region_any hm ?_;rw [Array.size_push,Array.replicate_succ];exact wpAny_pop h _ _ a _ (by simp) (wpAny_of_held _ _ _ _ hw)
theorem fH {id:Nat} {S:World→Prop} {a:Act} {w:World} {l:List Oper} (hne:l≠[]) (hm:P.follows .mixedOrders=true) (h:lR l.dropLast.toArray (l.getLast hne)=true)
  (hw:wpAnyH P .any l.dropLast.toArray (iK P (l.getLast hne) Q) S l.dropLast.length (Array.replicate l.dropLast.length false) a w.drew):(Code.region id l.toArray true).wp P Q a w:=by
 have e:l.toArray=l.dropLast.toArray.push (l.getLast hne):=by
  rw [List.push_toArray,List.dropLast_concat_getLast hne]
 rw [e];exact ml hm h (by simpa using hw)
end
end Dowel
end

section
namespace Dowel
open Go Go.RowKit
structure Later (n:Nat) (W:World) where
 w:World
 h:Below n W w
instance (n : Nat) (W : World) : Nonempty (Later n W) := ⟨⟨W, Below.refl _ _⟩⟩
theorem cz {P:Program} {id:Nat} {Q:Exit→Act→World→Prop} {a:Act} {w W:World} {n:Nat} {l:List Oper} (hw:Below n W w) (hm:P.follows .mixedOrders=true) (hB:Region.lexB .any l.toArray=true)
  (h:wpQuiet P l.toArray (fun w'=>∃ x:Later n W,w'=x.w) (fun a'=>∀ w',(∃ x:Later n W,w'=x.w)→Q .normal a' w') l a):(Code.region id l.toArray true).wp P Q a w:=
 wp_region_quiet (C:=fun w'=>∃ x:Later n W,w'=x.w) hm hB ⟨⟨_,hw.drew⟩,rfl⟩ (by simpa using h)
theorem Calls.later {P:Program} {f:FuncId} {args:Array Value} {n:Nat} {W:World} {x:Later n W} {v:Value} (hn:n≤W.heap.size)
  (h:Calls P f args x.w fun e w'=>e=.returned v∧Below x.w.heap.size x.w w'):Calls P f args x.w fun e w''=>e=.returned v∧∃ y:Later n W,w''=y.w:=
 h.mono fun _ _ ⟨he,hb⟩=>⟨he,⟨_,ae x.h hb hn⟩,rfl⟩
end Dowel
end
