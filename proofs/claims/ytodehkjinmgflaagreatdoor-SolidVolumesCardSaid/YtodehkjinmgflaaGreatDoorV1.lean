/- Lemmas. -/
import Derived.Test.YtodehkjinmgflaaGreatDoorV0
import Derived.Test.YtodehkjinmgflaaGreatDoorV2
import Derived.Test.YtodehkjinmgflaaGreatDoorProg
import Derived.WalkSpells
import Derived.WalkLawsBesides
import Derived.Handy
import Derived.Deep.DeepCutAuto
import Derived.BigQuiet
import Derived.Deep.RegionHeld3
set_option linter.all false
set_option maxHeartbeats 0
set_option maxRecDepth 99999
namespace Go.Proofs.Υ
open Go Go.RowKit Tryz
structure Sl (w:World) (k:Nat) (a:Option Addr) (n cap:Nat) (xs:List Value):Prop where
 le:n<=cap
 len:xs.length=n*k
 nil:a=none→cap=0
 at_:∀ x,a=some x→x.spot=none/\x.block<w.heap.size/\∀ i,i<n*k→w.cell? ⟨x.block,x.off+i,none⟩=some (xs.getD i undef)
theorem Sl.none(w:World)(k:Nat):Sl w k none 0 0 []:=⟨Nat.le_refl _,by simp,(fun _=>rfl),(fun x h=>by cases h)⟩
theorem Sl.below{w w':World}{k n e:Nat}{a:Option Addr}{xs:List Value}(h:Sl w k a n e xs)(hb:Bl w w'):Sl w' k a n e xs:=
 ⟨h.le,h.len,h.nil,fun x C=>by
  obtain⟨u,j,A⟩:=h.at_ x C;exact⟨u,Nat.lt_of_lt_of_le j hb.size,fun i hi=>by rw[hb.cell (p:=⟨x.block,x.off+i,.none⟩) j];exact A i hi⟩⟩
theorem Sl.some{w:World}{k n e:Nat}{a:Option Addr}{xs:List Value}(h:Sl w k a n e xs)(C:0<n):
 ∃b off,a=some ⟨b,off,.none⟩/\b<w.heap.size/\∀i,i<n*k->w.cell? ⟨b,off+i,.none⟩=.some (xs.getD i undef):=by
 cases a with
 | none=>have:=h.nil rfl;have:=h.le;omega
 | some x =>
  obtain⟨j,u,A⟩:=h.at_ x rfl;obtain⟨b,off,s⟩:=x;simp only at j;subst j;exact⟨b,off,rfl,u,A⟩
theorem Sl.mk'{w:World}{k n e b off:Nat}{xs:List Value}(j:n<=e)(u:xs.length=n*k)(hb:b<w.heap.size)(A:∀i,i<n*k->w.cell? ⟨b,off+i,.none⟩=.some (xs.getD i undef)):Sl w k (Option.some ⟨b,off,.none⟩) n e xs:=
 ⟨j,u,(fun h=>by cases h),(fun x C=>by cases C;exact⟨rfl,hb,A⟩)⟩
theorem Sl.of_owns{w:World}{base e k:Nat}{v:Value}{n:Nat}{xs:List Value}(h:w.ownsRow base e k v n xs):
 ∃a j,v=.slice a n j/\Sl w k a n j xs:=by
 obtain⟨E,⟨rfl,rfl⟩|⟨g,j,u,rfl,R,C,J,U,W,L⟩⟩:=h
 ·exact⟨_,_,rfl,by have:xs=[]:=List.length_eq_zero_iff.1 (by simpa using E);subst this;exact Sl.none w k⟩
 ·have A:g<w.heap.size:=by
   have:=(Array.getElem?_eq_some_iff.1 C).1;exact this
  refine⟨_,_,rfl,Sl.mk' J E A (fun i hi=>?_)⟩;have F:w.cell? ⟨g,0+i,.none⟩=u[0+i]? := by simp[World.cell?,C]
  have G:xs[i]?=u[i]? := by
   rw[<-L,List.getElem?_take_of_lt hi,Array.getElem?_toList]
  have H:i<xs.length:=I;rw[F,Nat.zero_add,<-G];simp[H]
theorem Sl.alloc(w:World)(cs:Array Value)(t:TypeId)(g n k:Nat)(e:g=w.heap.size)(hc:cs.size=n*k):
 Sl (w.alloc (.cells cs t)) k (Option.some ⟨g,0,.none⟩) n n cs.toList:=by
 subst e;refine Sl.mk' ρ (by simpa using hc) (by simp) (fun i hi=>?_);have:i<cs.size:=I;simp[this]
def dig(d:Nat):Value:=.int .u32 (d:Int)
structure Mag (w:World) (a:Option Addr) (n cap:Nat) (ds:List Nat):Prop where
 sl:Sl w 1 a n cap (ds.map dig)
 dg:Dg ds
 len:ds.length=n
 ty:∀ x,a=some x→∃ cs,w.heap[x.block]?=some (.cells cs 176 (0,0))
theorem Mag.below{w w':World}{n e:Nat}{a:Option Addr}{i:List Nat}(h:Mag w a n e i)(hb:Bl w w'):Mag w' a n e i:=
 ⟨h.sl.below hb,h.dg,h.len,fun x j=>by rw[hb.block x.block (h.sl.at_ x j).2.1];exact h.ty x j⟩
theorem Mag.alloc(w:World)(cs:Array Value)(t:TypeId)(g n:Nat)(e:List Nat)(i:g=w.heap.size)(hc:cs.toList=e.map dig)(j:Dg e)(u:n=e.length)(A:t=176):
 Mag (w.alloc (.cells cs t)) (Option.some ⟨g,0,.none⟩) n n e:=
 ⟨by rw[<-hc];exact Sl.alloc w cs t g n 1 i (by have:=congrArg List.length hc;simp at this;omega),j,u.symm,fun x C=>by cases C;subst i;subst A;exact⟨cs,heap_alloc_new w _⟩⟩
theorem Mag.nil(w:World):Mag w .none 0 0 []:=⟨Sl.none w 1,Dg.nil,rfl,fun x h=>by cases h⟩
theorem Mag.cells{w:World}{n e:Nat}{a:Option Addr}{j:List Nat}(h:Mag w a n e j)(E:0<n):
 ∃b off,a=some ⟨b,off,.none⟩/\b<w.heap.size/\n<=e/\∀i,i<n->w.cell? ⟨b,off+i,.none⟩=.some (.int .u32 (j.getD i 0:Nat)):=by
 obtain⟨b,off,u,A,C⟩:=h.sl.some E;refine⟨b,off,u,A,h.sl.le,fun i hi=>?_⟩;rw[C i I];have:i<j.length:=by rw[h.len];exact hi
 simp[this,dig]
theorem Mag.shorter{w:World}{n e m:Nat}{a:Option Addr}{j:List Nat}(h:Mag w a n e j)(G:m<=n):Mag w a m e (j.take m):=by
 refine⟨⟨Nat.le_trans G h.sl.le,?_,h.sl.nil,fun x H=>?_⟩,h.dg.take m,?_,h.ty⟩
 ·have:=h.len;simp;omega
 ·obtain⟨u,A,C⟩:=h.sl.at_ x H
  refine⟨u,A,fun i hi=>?_⟩;rw[C i I];have E:i<j.length:=by have:=h.len;omega
  have F:i<m:=I;simp[E,F]
 ·have:=h.len;simp;omega
def aO(w:World)(v:Value)(z:Int):Prop:=
 ∃s a n cap ds,v=.agg #[.bool s,.slice a n cap]/\s=decide (z<0)/\Mag w a n cap ds/\Nz ds/\val ds=z.natAbs
theorem aO.below{w w':World}{v:Value}{z:Int}(h:aO w v z)(hb:Bl w w'):aO w' v z:=by
 obtain⟨s,a,n,e,i,j,E,u,A,C⟩:=h;exact⟨s,a,n,e,i,j,E,u.below hb,A,C⟩
theorem aO.open{w:World}{v:Value}{z:Int}(h:aO w v z)(F:Small z):
 ∃s a n e i,v=.agg #[.bool s,.slice a n e]/\s=decide (z<0)/\Mag w a n e i/\Nz i/\val i=z.natAbs/\n<=1000000:=by
 obtain⟨s,a,n,e,i,C,E,j,u,A⟩:=h;exact⟨s,a,n,e,i,C,E,j,u,A,by have:=F.len u A;have:=j.len;omega⟩
def cW(w:World)(e:Ending)(z:Int):Prop:=∃v,e=.returned v/\aO w v z
theorem qo{w:World}{a:Option Addr}{n e:Nat}{i:List Nat}(j:Mag w a n e i)(u:Nz i)(neg:Bool)(z:Int)(C:val i=z.natAbs)(A:neg=decide (z<0)):aO w (.agg #[.bool neg,.slice a n e]) z:=
 ⟨neg,a,n,e,i,rfl,A,j,u,C⟩
def sgn(neg:Bool)(n:Nat):Int:=if neg then -(n:Int)else n
def Box(w:World)(g:Nat)(cs:Array Value)(t:TypeId):Prop:=w.heap[g]?=.some (.cells cs t (0,0))
theorem Box.new(w:World)(cs:Array Value)(t:TypeId)(g:Nat)(e:g=w.heap.size):Box (w.alloc (.cells cs t)) g cs t:=by
 subst e;exact heap_alloc_new w _
theorem Box.below{w w':World}{g:Nat}{cs:Array Value}{t:TypeId}(h:Box w g cs t){n:Nat}(hb:Below n w w')(e:g<n):Box w' g cs t:=by
 unfold Box;rw[hb.block g e];exact h
theorem Box.old{w:World}{g:Nat}{cs:Array Value}{t:TypeId}(h:Box w g cs t)(o:Obj):Box (w.alloc o) g cs t:=
 h.below ((Below.refl w.heap.size w).alloc ρ o) (Array.getElem?_eq_some_iff.1 h).1
theorem Box.lt{w:World}{g:Nat}{cs:Array Value}{t:TypeId}(h:Box w g cs t):g<w.heap.size:=(Array.getElem?_eq_some_iff.1 h).1
theorem Box.to{w w':World}{g:Nat}{cs:Array Value}{t:TypeId}(h:Box w g cs t)(hb:Bl w w'):Box w' g cs t:=h.below hb h.lt
theorem Box.cell{w:World}{g:Nat}{cs:Array Value}{t:TypeId}(h:Box w g cs t)(i:Nat):w.cell? ⟨g,i,.none⟩=cs[i]? := cell_of_row w g i cs t _ h
theorem Box.free{w:World}{g:Nat}{cs:Array Value}{t:TypeId}(h:Box w g cs t)(i:Nat):w.frozen? ⟨g,i,.none⟩=false:=frozen_of_row w g i cs t h
theorem Box.two{w:World}{g:Nat}{a b:Value}{t:TypeId}(h:Box w g #[a,b] t):
 w.cell? ⟨g,0,.none⟩=.some a/\w.cell? ⟨g,1,.none⟩=.some b/\w.frozen? ⟨g,0,.none⟩=false/\w.frozen? ⟨g,1,.none⟩=false:=
 ⟨h.cell 0,h.cell 1,h.free 0,h.free 1⟩
theorem Box.four{w:World}{g:Nat}{a b c d:Value}{t:TypeId}(h:Box w g #[a,b,c,d] t):
 w.cell? ⟨g,0,.none⟩=.some a/\w.cell? ⟨g,1,.none⟩=.some b/\w.cell? ⟨g,2,.none⟩=.some c/\w.cell? ⟨g,3,.none⟩=.some d /\
 w.frozen? ⟨g,0,.none⟩=false/\w.frozen? ⟨g,1,.none⟩=false/\w.frozen? ⟨g,2,.none⟩=false/\w.frozen? ⟨g,3,.none⟩=false:=
 ⟨h.cell 0,h.cell 1,h.cell 2,h.cell 3,h.free 0,h.free 1,h.free 2,h.free 3⟩
theorem Box.set{w:World}{g:Nat}{cs:Array Value}{t:TypeId}(h:Box w g cs t)(i:Nat)(v:Value):Box (w.setCell ⟨g,i,.none⟩ v) g (cs.setIfInBounds i v) t:=
 heap_setCell_same w g i cs t v h
theorem Box.set2{w:World}{g:Nat}{a b:Value}{t:TypeId}(h:Box w g #[a,b] t)(x y:Value):Box ((w.setCell ⟨g,0,.none⟩ x).setCell ⟨g,1,.none⟩ y) g #[x,y] t:=by
 have:=(h.set 0 x).set 1 y
 simpa using this
theorem Box.set4{w:World}{g:Nat}{a b c d:Value}{t:TypeId}(h:Box w g #[a,b,c,d] t)(x y z u:Value):
 Box ((((w.setCell ⟨g,0,.none⟩ x).setCell ⟨g,1,.none⟩ y).setCell ⟨g,2,.none⟩ z).setCell ⟨g,3,.none⟩ u) g #[x,y,z,u] t:=by
 have:=(((h.set 0 x).set 1 y).set 2 z).set 3 u
 simpa using this
theorem aK{P:Program}{i:Func}{R:Ending->World->Prop}{a:Act}{w:World}{p:Tmp}{ty:TypeId}(h:i.results=#[.cell p ty])(g:Nat){cs:Array Value}{t:TypeId}(u:Box w g cs t)(d:TypeDesc)(A:a.tmps.getD p undef=.pointer (some ⟨g,0,.none⟩))(C:P.underlying ty=some d)(j:(match d with|.struct _|.array _ _=>true|_=>false)=true)(hi:(P.info? ty).map (·.size)=some cs.size)(e:a.defers=[])(hR:R (.returned (.agg cs)) w):
 bodyPost P i R .ret a w:=
 bodyPost_ret (results_cell_row h a.tmps w g t cs _ d A u C j hi) e hR
theorem cC(w:World)(c1 c2 c3:Array Value)(t1 t2 t3:TypeId):
 ∃W,((w.alloc (.cells c1 t1)).alloc (.cells c2 t2)).alloc (.cells c3 t3)=W/\Box W w.heap.size c1 t1/\Box W (w.heap.size+1) c2 t2/\Box W (w.heap.size+2) c3 t3/\Bl w W/\W.heap.size=w.heap.size+3:=
 ⟨_,rfl,((Box.new w c1 t1 _ rfl).old _).old _,(Box.new _ c2 t2 _ (by simp)).old _,Box.new _ c3 t3 _ (by simp),by go_grown,by simp⟩
theorem bU(w:World)(c1 c2:Array Value)(t1 t2:TypeId):
 ∃W,(w.alloc (.cells c1 t1)).alloc (.cells c2 t2)=W/\Box W w.heap.size c1 t1/\Box W (w.heap.size+1) c2 t2/\Bl w W/\W.heap.size=w.heap.size+2:=
 ⟨_,rfl,(Box.new w c1 t1 _ rfl).old _,Box.new _ c2 t2 _ (by simp),by go_grown,by simp⟩
theorem aB(w:World)(c1:Array Value)(t1:TypeId):
 ∃W,w.alloc (.cells c1 t1)=W/\Box W w.heap.size c1 t1/\Bl w W/\W.heap.size=w.heap.size+1:=
 ⟨_,rfl,Box.new w c1 t1 _ rfl,by go_grown,by simp⟩
theorem iP{W w':World}{n e i:Nat}{a b c d:Value}{t1 t2:TypeId}(b1:Box W e #[a,b] t1)(b2:Box W i #[c,d] t2)(h:Below n W w')(j:e<n)(u:i<n):
 w'.cell? ⟨e,0,.none⟩=.some a/\w'.cell? ⟨e,1,.none⟩=.some b/\w'.cell? ⟨i,0,.none⟩=.some c/\w'.cell? ⟨i,1,.none⟩=.some d:=
 ⟨(b1.below h j).cell 0,(b1.below h j).cell 1,(b2.below h u).cell 0,(b2.below h u).cell 1⟩
theorem Box.other{w:World}{g:Nat}{cs:Array Value}{t:TypeId}(h:Box w g cs t){p:Addr}(e:g≠p.block)(v:Value):Box (w.setCell p v) g cs t:=by
 unfold Box;rw[heap_setCell_other w p g v e];exact h
theorem Box.other2{w:World}{g:Nat}{cs:Array Value}{t:TypeId}(h:Box w g cs t){g' i j:Nat}(e:g≠g')(x y:Value):Box ((w.setCell ⟨g',i,.none⟩ x).setCell ⟨g',j,.none⟩ y) g cs t:=
 (h.other (p:=⟨g',i,.none⟩) e x).other (p:=⟨g',j,.none⟩) e y
theorem lF{W w':World}{n i j:Nat}{a b c d:Value}{t1 t2:TypeId}(b1:Box W i #[a,b] t1)(b2:Box W j #[c,d] t2)(h:Below n W w')(u:i<n)(A:j<n){e:Nat}(C:i≠e)(E:j≠e)(x y:Value):
 ((w'.setCell ⟨e,0,.none⟩ x).setCell ⟨e,1,.none⟩ y).cell? ⟨i,0,.none⟩=.some a/\((w'.setCell ⟨e,0,.none⟩ x).setCell ⟨e,1,.none⟩ y).cell? ⟨i,1,.none⟩=.some b /\
 ((w'.setCell ⟨e,0,.none⟩ x).setCell ⟨e,1,.none⟩ y).cell? ⟨j,0,.none⟩=.some c/\((w'.setCell ⟨e,0,.none⟩ x).setCell ⟨e,1,.none⟩ y).cell? ⟨j,1,.none⟩=.some d:=
 ⟨((b1.below h u).other2 C x y).cell 0,((b1.below h u).other2 C x y).cell 1,((b2.below h A).other2 E x y).cell 0,((b2.below h A).other2 E x y).cell 1⟩
def gZ(v:Value):Prop:=∀n,v≠.int .u32 n
theorem ty_setCell{w:World}(p:Addr)(v:Value){g:Nat}{t:TypeId}(h:∃cs,w.heap[g]?=.some (.cells cs t (0,0))):∃cs,(w.setCell p v).heap[g]?=.some (.cells cs t (0,0)):=by
 obtain⟨cs,h⟩:=h;unfold World.setCell;by_cases e:g=p.block
 ·subst e
  exact⟨_,by rw[Array.getElem?_modify,if_pos rfl,h];rfl⟩
 ·exact⟨cs,by rw[Array.getElem?_modify,if_neg (fun i=>e i.symm)];exact h⟩
theorem Mag.setCell{w:World}{n j:Nat}{a:Option Addr}{A:List Nat}(h:Mag w a n j A){p:Addr}{u:Value}(R:w.cell? p=.some u)(U:gZ u)(x:Value):
 Mag (w.setCell p x) a n j A:=by
 refine⟨⟨h.sl.le,h.sl.len,h.sl.nil,fun y E=>?_⟩,h.dg,h.len,fun y E=>ty_setCell p x (h.ty y E)⟩;obtain⟨F,G,H⟩:=h.sl.at_ y E;refine⟨F,by simpa using G,fun i hi=>?_⟩;have C:=H i hi;rw[<-C];refine World.cell?_setCell_other _ _ _ _ (fun e=>?_);rw[<-e,R]at C;have J:i<A.length:=by have:=h.len;omega
 have L:(A.map dig).getD i undef=dig (A.getD i 0):=by simp[J]
 rw[L]at C;exact U _ (Option.some.inj C)
theorem aO.setCell{w:World}{v:Value}{z:Int}(h:aO w v z){p:Addr}{u:Value}(F:w.cell? p=.some u)(H:gZ u)(x:Value):aO (w.setCell p x) v z:=by
 obtain⟨s,a,n,e,i,j,G,A,C,E⟩:=h;exact⟨s,a,n,e,i,j,G,A.setCell F H x,C,E⟩
theorem gZ.bool(b:Bool):gZ (.bool b):=fun _ h=>by cases h
theorem gZ.slice(a:Option Addr)(n c:Nat):gZ (.slice a n c):=fun _ h=>by cases h
theorem aO.store2{w:World}{v:Value}{z:Int}(h:aO w v z){g:Nat}{b:Bool}{a:Option Addr}{n c:Nat}{t:TypeId}(hb:Box w g #[.bool b,.slice a n c] t)(x y:Value):
 aO ((w.setCell ⟨g,0,.none⟩ x).setCell ⟨g,1,.none⟩ y) v z:=by
 obtain⟨h0,i,_,_⟩:=hb.two;refine(h.setCell h0 (gZ.bool b) x).setCell ?_ (gZ.slice a n c) y;rw[World.cell?_setCell_other _ _ _ _ (by intro e;cases e)];exact i
theorem cW.boxed{w:World}{s:Bool}{a:Option Addr}{n c:Nat}{z:Int}(h:aO w (.agg #[.bool s,.slice a n c]) z){g:Nat}{b:Bool}{e:Option Addr}{j i:Nat}{t:TypeId}(hb:Box w g #[.bool b,.slice e j i] t):cW ((w.setCell ⟨g,0,.none⟩ (.bool s)).setCell ⟨g,1,.none⟩ (.slice a n c)) (.returned (.agg #[.bool s,.slice a n c])) z:=
 ⟨_,rfl,h.store2 hb _ _⟩
theorem ae{w wc w':World}{n:Nat}(e:Below n w wc)(hb:Bl wc w')(i:n<=w.heap.size):Below n w w':=
 e.trans (hb.mono (Nat.le_trans i e.size))
theorem aM{w w':World}{n g:Nat}(h:Below n w w')(e:n<=g)(x y:Value):Below n w ((w'.setCell ⟨g,0,.none⟩ x).setCell ⟨g,1,.none⟩ y):=
 (h.setCell e x).setCell e y
theorem aF{B:Nat}{a w:World}(h:Below B a w)(n:Nat):Below B a (w.drewN n):=⟨h.os,h.tape,h.output,h.size,h.block⟩
def Tch(g:Nat)(w w':World):Prop:=w.grownBy w' (.some g)
theorem Tch.refl(g:Nat)(w:World):Tch g w w:=⟨rfl,rfl,rfl,Nat.le_refl _,fun _ _ _=>rfl⟩
theorem Tch.set{g:Nat}{a b:World}(h:Tch g a b)(j:Nat)(v:Value):Tch g a (b.setCell ⟨g,j,.none⟩ v):=
 ⟨h.os,h.tape,h.output,by simpa using h.size,fun k u i=>by rw[heap_setCell_other _ _ _ _ (fun e=>i (by rw[e]))];exact h.block k u i⟩
theorem Tch.drewN{g:Nat}{a b:World}(h:Tch g a b)(n:Nat):Tch g a (b.drewN n):=⟨h.os,h.tape,h.output,h.size,h.block⟩
theorem Tch.cell{g:Nat}{a b:World}(h:Tch g a b){p:Addr}{v:Value}(hc:a.cell? p=.some v)(i:p.block≠g):b.cell? p=.some v:=
 World.grownBy.cell h hc (fun e=>i (Option.some.inj e))
theorem Tch.below{g n:Nat}{a b c:World}(h:Below n a b)(k:Tch g b c)(e:n<=g)(j:n<=b.heap.size):Below n a c:=
 h.grown k j (fun i hi=>by cases hi;exact e)
theorem Mag.touch{w w':World}{n j b o g:Nat}{C:List Nat}(h:Mag w (.some ⟨b,o,.none⟩) n j C)(A:Tch g w w')(hb:b≠g):Mag w' (.some ⟨b,o,.none⟩) n j C:=by
 refine⟨⟨h.sl.le,h.sl.len,h.sl.nil,fun x u=>?_⟩,h.dg,h.len,fun x u=>by
  cases u;rw[A.block b (h.sl.at_ _ rfl).2.1 (fun e=>hb (Option.some.inj e))];exact h.ty _ rfl⟩
 obtain⟨E,F,G⟩:=h.sl.at_ x u;cases u;exact⟨E,Nat.lt_of_lt_of_le F A.size,fun i hi=>A.cell (G i hi) hb⟩
theorem Mag.grown{w w':World}{n A:Nat}{a:Option Addr}{H:List Nat}(h:Mag w a n A H){row:Option Nat}(G:w.grownBy w' row)(L:∀g,row=.some g->∃cs t,w.heap[g]?=.some (.cells cs t (0,0))/\t≠176):Mag w' a n A H:=by
 have C:∀x,a=.some x->Option.some x.block≠row:=fun x u e=>by
  obtain⟨cs,E⟩:=h.ty x u;obtain⟨J,t,j,F⟩:=L _ e.symm;rw[E]at j;injection j with j
  injection j with _ j _
  exact F j.symm
 refine⟨⟨h.sl.le,h.sl.len,h.sl.nil,fun x u=>?_⟩,h.dg,h.len,fun x u=>by rw[G.block x.block (h.sl.at_ x u).2.1 (C x u)];exact h.ty x u⟩;obtain⟨E,j,F⟩:=h.sl.at_ x u;exact⟨E,Nat.lt_of_lt_of_le j G.size,fun i hi=>World.grownBy.cell G (F i hi) (C x u)⟩
theorem aO.grown{w w':World}{v:Value}{z:Int}(h:aO w v z){row:Option Nat}(E:w.grownBy w' row)(F:∀g,row=.some g->∃cs t,w.heap[g]?=.some (.cells cs t (0,0))/\t≠176):aO w' v z:=by
 obtain⟨s,a,n,e,i,j,G,u,A,C⟩:=h;exact⟨s,a,n,e,i,j,G,u.grown E F,A,C⟩
theorem Below.al{w w':World}(h:Bl w w')(o:Obj):Bl w (w'.alloc o):=h.alloc h.size o
theorem Below.sc{n g o:Nat}{s:Option Nat}{w w':World}(h:Below n w w')(e:n<=g)(v:Value):Below n w (w'.setCell ⟨g,o,s⟩ v):=h.setCell e v
theorem Below.sz{w w':World}(h:Bl w w'):w.heap.size<=w'.heap.size:=h.size
theorem dZ{p:Prop}(h:p:=by repeat' first|with_reducible exact Hid.o (by assumption)|with_reducible exact Below.refl _ _|with_reducible refine Below.drew ?_|with_reducible refine Below.al ?_ _|with_reducible refine Below.sc ?_ ?_ _|with_reducible refine Below.sz ?_):p:=h
theorem bJ{c a b:Prop}[i:Decidable c](h:a)(hc:c:=by kernel_rfl):@ite Prop c i a b:=by rw[if_pos hc];exact h
theorem cQ{P:Program}{A:Region.Mode}{j:Array Oper}{Q:Exit->Act->World->Prop}{S:World->Prop}{C:Oper}{v:Value}{u:Nat}{e:Array Bool}{a:Act}{w:World}(i:Nat)(h:wpAnyH P A j Q S u (e.setIfInBounds i true) (a.put C.dst v) w)(hi:j[i]?=some C:=by rfl)(hs:Region.noSelect j=true:=by kernel_rfl)(hf:Region.free A j e i=true:=by kernel_rfl)(hr:(Region.ready A j e).contains i=true:=by kernel_rfl)(hQ:∀c a w,Q (.panic c) (a.put C.dst v) w->Q (.panic c) a w:=by exact fun _ _ _ h=>h)(hy:YieldsIf P j S C v a:=by refine Or.inl ⟨by rfl,?_⟩;intro w' E;(try dsimp only at E);go_simp;try with_reducible rfl)(hS:S w:=by assumption):wpAnyH P A j Q S (u+1) e a w:=
 wpAnyH_take hi hs hf hr hQ hy hS h
def sO:List Nat:=[0,1,56,2,57,49,28,3,61,58,42,50,38,29,17,4,62,47,59,36,45,43,51,22,53,39,33,30,24,18,12,5,63,55,48,27,60,41,37,16,46,35,44,21,52,32,23,11,54,26,40,15,34,20,31,10,25,14,19,9,13,8,7,6]
def Tab(w:World):Prop:=0<w.heap.size/\∀i,i<64->w.cell? ⟨0,i,.none⟩=some (.int .u8 (sO.getD i 0:Nat))
theorem Tab.below{w w':World}{n:Nat}(h:Tab w)(hb:Below n w w')(e:0<n):Tab w':=
 ⟨Nat.lt_of_lt_of_le h.1 hb.size,fun i hi=>by rw[hb.cell (p:=⟨0,i,.none⟩) e];exact h.2 i hi⟩
theorem dbTab_low:∀t,t<64->sO.getD (2 ^ t*285870213051353865 % 18446744073709551616 / 288230376151711744) 0=t:=by decide
theorem low_one{m t:Nat}(F:m<18446744073709551616)(j:m.testBit t=true)(E:∀i,i<t->m.testBit i=false):m &&& (18446744073709551616-m)=2 ^ t:=by
 have h0:0<m:=by rcases Nat.eq_zero_or_pos m with h|h;(subst h;simp at j);exact h
 have u:t<64:=by
  rcases Nat.lt_or_ge t 64 with h|h
  ·exact h
  ·rw[Nat.testBit_lt_two_pow (Nat.lt_of_lt_of_le F (Nat.pow_le_pow_right (n:=2) I h:2 ^ 64<=2 ^ t))]at j;cases j
 refine Nat.eq_of_testBit_eq fun i=>?_
 have e:18446744073709551616-m=2 ^ 64-((m-1)+1):=by rw[Nat.sub_add_cancel h0]
 have hb:=low_bit j E i;rw[Nat.testBit_and]at hb;rw[Nat.testBit_and,e,Nat.testBit_two_pow_sub_succ (show m-1<2 ^ 64 by omega),Nat.testBit_two_pow];by_cases hi:m.testBit i=true
 ·rw[hi]at hb⊢
  simp only[Bool.true_and,Bool.and_true]at hb⊢;rw[hb];have:¬ i<t:=fun h=>by rw[E i h]at hi;cases hi
  by_cases C:t=i
  ·subst C;simp[u]
  ·simp[C,show t<i by omega]
 ·have A:t≠i:=fun e=>hi (e▸j)
  simp[hi,A]
theorem tz_any(m t:Nat)(w:World)(R:Tab w)(L:m<18446744073709551616)(F:m.testBit t=true)(U:∀i,i<t->m.testBit i=false):
 Calls prog 212 #[.int .u64 (m:Int)] w fun e w'=>e=.returned (.int .i64 (t:Nat))/\w'=w:=by
 have E:m≠0:=by intro h;subst h;simp at F
 have X:((m:Int) == 0)=false:=by simpa using E
 have G:t<64:=by
  rcases Nat.lt_or_ge t 64 with h|h
  ·exact h
  ·rw[Nat.testBit_lt_two_pow (Nat.lt_of_lt_of_le L (Nat.pow_le_pow_right (n:=2) I h:2 ^ 64<=2 ^ t))]at F;cases F
 have j:=low_one L F U;have u:=dbTab_low t G;obtain⟨p,W⟩:=χ (2 ^ t);rw[W]at j u;have H:IntKind.u64.wrap (-(m:Int))=((18446744073709551616-m:Nat):Int):=by rw[IntKind.wrap_u64];omega
 have hb:bits .and .u64 (m:Int) (IntKind.u64.wrap (-(m:Int)))=(p:Int):=by
  rw[H,u64_and_nat _ _ L I,j]
 obtain⟨J,A⟩:=χ (p*285870213051353865 % 18446744073709551616 / 288230376151711744);rw[A]at u;have C:J<64:=by
  rw[<-A];exact Nat.div_lt_of_lt_mul (Nat.lt_of_lt_of_le (Nat.mod_lt _ ν) ν)
 have Y:IntKind.u64.wrap ((p:Int)*285870213051353865) / 288230376151711744=(J:Int):=by
  rw[IntKind.wrap_u64,show((p:Int)*285870213051353865)=((p*285870213051353865:Nat):Int) by simp,<-A];generalize p*285870213051353865=y;omega
 have hc:=R.2 J C;rw[u]at hc;clear L E F U j u W H A R
 go_enter func212,ntmps212
 go_wp2;exact bodyPost_ret (results_tmp results212 _ _ _) rfl ⟨rfl,rfl⟩
def dP(a:V):Value:=.agg #[.int .i64 a.x,.int .i64 a.y,.int .i64 a.z]
def Le(k:Int)(x:Int):Prop:=-k<=x/\x<=k
def LeV(k:Int)(a:V):Prop:=Le k a.x/\Le k a.y/\Le k a.z
theorem Le.mul{k l x y:Int}(i:Le k x)(j:Le l y):Le (k*l) (x*y):=by
 unfold Le at *;have h:(x*y).natAbs<=(k*l).natAbs:=by
  rw[Int.natAbs_mul,Int.natAbs_mul];exact Nat.mul_le_mul I I
 have e:0<=k*l:=Int.mul_nonneg I I;omega
theorem Le.mono{k l x:Int}(h:Le k x)(e:k<=l):Le l x:=by unfold Le at *;omega
theorem LeV.mono{k l:Int}{a:V}(h:LeV k a)(e:k<=l):LeV l a:=⟨h.1.mono e,h.2.1.mono e,h.2.2.mono e⟩
theorem mP.le{a:V}(h:mP a):LeV 4096 a:=by unfold mP at h;unfold LeV Le;omega
theorem LeV.sub{k l:Int}{a b:V}(ha:LeV k a)(hb:LeV l b):LeV (k+l) (a-b):=by
 unfold LeV Le at *;simp only[V.sub_x,V.sub_y,V.sub_z];omega
theorem LeV.dot{k l:Int}{a b:V}(ha:LeV k a)(hb:LeV l b):Le (3*(k*l)) (V.dot a b):=by
 have e:=ha.1.mul hb.1;have i:=ha.2.1.mul hb.2.1;have j:=ha.2.2.mul hb.2.2;unfold Le at *;unfold V.dot;omega
theorem LeV.cross{k l:Int}{a b:V}(ha:LeV k a)(hb:LeV l b):LeV (2*(k*l)) (V.cross a b):=by
 have e:=ha.1.mul hb.2.1;have i:=ha.1.mul hb.2.2;have j:=ha.2.1.mul hb.1;have u:=ha.2.1.mul hb.2.2;have A:=ha.2.2.mul hb.1;have C:=ha.2.2.mul hb.2.1;unfold LeV Le at *;unfold V.cross;dsimp only;omega
theorem Box.three{w:World}{g:Nat}{a b c:Value}{t:TypeId}(h:Box w g #[a,b,c] t):
 w.cell? ⟨g,0,.none⟩=.some a/\w.cell? ⟨g,1,.none⟩=.some b/\w.cell? ⟨g,2,.none⟩=.some c /\
 w.frozen? ⟨g,0,.none⟩=false/\w.frozen? ⟨g,1,.none⟩=false/\w.frozen? ⟨g,2,.none⟩=false:=
 ⟨h.cell 0,h.cell 1,h.cell 2,h.free 0,h.free 1,h.free 2⟩
theorem Box.set3{w:World}{g:Nat}{a b c:Value}{t:TypeId}(h:Box w g #[a,b,c] t)(x y z:Value):
 Box (((w.setCell ⟨g,0,.none⟩ x).setCell ⟨g,1,.none⟩ y).setCell ⟨g,2,.none⟩ z) g #[x,y,z] t:=by
 have:=((h.set 0 x).set 1 y).set 2 z
 simpa using this
theorem gg{w w':World}{n g:Nat}(h:Below n w w')(e:n<=g)(x y z:Value):
 Below n w (((w'.setCell ⟨g,0,.none⟩ x).setCell ⟨g,1,.none⟩ y).setCell ⟨g,2,.none⟩ z):=((h.setCell e x).setCell e y).setCell e z
theorem Box.other3{w:World}{g:Nat}{cs:Array Value}{t:TypeId}(h:Box w g cs t){g':Nat}(e:g≠g')(x y z:Value):
 Box (((w.setCell ⟨g',0,.none⟩ x).setCell ⟨g',1,.none⟩ y).setCell ⟨g',2,.none⟩ z) g cs t:=
 (h.other2 e x y).other (p:=⟨g',2,.none⟩) e z
theorem mG(a b:V)(k l:Int)(w:World)(ha:LeV k a)(hb:LeV l b)(C:k*l<=2000000000000000000):
 Calls prog 166 #[dP a,dP b] w fun e w'=>e=.returned (.int .i64 (V.dot a b))/\Bl w w':=by
 obtain⟨W,F,b1,b2,A,hS⟩:=bU w #[.int .i64 a.x,.int .i64 a.y,.int .i64 a.z] #[.int .i64 b.x,.int .i64 b.y,.int .i64 b.z] 77 77;obtain⟨R,U,X,-⟩:=b1.three;obtain⟨Y,y1,y2,-⟩:=b2.three;have i:=ha.1.mul hb.1;have j:=ha.2.1.mul hb.2.1;have u:=ha.2.2.mul hb.2.2;unfold Le at i j u;have G:wrap64 (a.x*b.x)=a.x*b.x:=ζ;have H:wrap64 (a.y*b.y)=a.y*b.y:=ζ;have J:wrap64 (a.z*b.z)=a.z*b.z:=ζ;have L:wrap64 (a.x*b.x+a.y*b.y)=a.x*b.x+a.y*b.y:=ζ;have E:wrap64 (a.x*b.x+a.y*b.y+a.z*b.z)=a.x*b.x+a.y*b.y+a.z*b.z:=ζ;clear ha hb C b1 b2 hS i j u;unfold dP V.dot
 go_enter func166,ntmps166
 go_wp2;exact bodyPost_ret (results_tmp results166 _ _ _) rfl ⟨by show _=Ending.returned (Value.int IntKind.i64 _);rw[E];rfl,A⟩
theorem info46:(prog.info? 77).map (·.size)=some 3:=by kernel_rfl
theorem gJ(a b:V)(k l:Int)(w:World)(ha:LeV k a)(hb:LeV l b)(A:k+l<=2000000000000000000):
 Calls prog 164 #[dP a,dP b] w fun e w'=>e=.returned (dP (a-b))/\Bl w w':=by
 obtain⟨W,C,b1,b2,i,u,hS⟩:=cC w #[.int .i64 a.x,.int .i64 a.y,.int .i64 a.z] #[.int .i64 b.x,.int .i64 b.y,.int .i64 b.z] #[.int .i64 0,.int .i64 0,.int .i64 0] 77 77 77;obtain⟨H,J,L,-⟩:=b1.three;obtain⟨R,U,X,-⟩:=b2.three;obtain⟨Y,z1,z2,z3,z4,z5⟩:=i.three;unfold LeV Le at ha hb;have E:wrap64 (a.x-b.x)=a.x-b.x:=ζ;have F:wrap64 (a.y-b.y)=a.y-b.y:=ζ;have G:wrap64 (a.z-b.z)=a.z-b.z:=ζ;have j:=O i;clear ha hb A b1 b2 i hS;unfold dP;simp only[V.sub_x,V.sub_y,V.sub_z]
 go_enter func164,ntmps164
 go_wp2;refine aK results164 (w.heap.size+2) (j.o.set3 (.int .i64 (a.x-b.x)) (.int .i64 (a.y-b.y)) (.int .i64 (a.z-b.z))) _ rfl underlying77 rfl info46 rfl
  ⟨rfl,gg u I _ _ _⟩
theorem lL(a b:V)(k l:Int)(w:World)(ha:LeV k a)(hb:LeV l b)(J:k*l<=2000000000000000000):
 Calls prog 163 #[dP a,dP b] w fun e w'=>e=.returned (dP (V.cross a b))/\Bl w w':=by
 obtain⟨W,L,b1,b2,i,H,hS⟩:=cC w #[.int .i64 a.x,.int .i64 a.y,.int .i64 a.z] #[.int .i64 b.x,.int .i64 b.y,.int .i64 b.z] #[.int .i64 0,.int .i64 0,.int .i64 0] 77 77 77;obtain⟨Y,x1,x2,-⟩:=b1.three;obtain⟨y0,y1,y2,-⟩:=b2.three;obtain⟨z0,z1,z2,z3,z4,z5⟩:=i.three;have j:=ha.1.mul hb.2.1;have u:=ha.1.mul hb.2.2;have A:=ha.2.1.mul hb.1;have C:=ha.2.1.mul hb.2.2;have E:=ha.2.2.mul hb.1;have F:=ha.2.2.mul hb.2.1;unfold Le at j u A C E F;have u1:wrap64 (a.y*b.z)=a.y*b.z:=ζ;have u2:wrap64 (a.z*b.y)=a.z*b.y:=ζ;have u3:wrap64 (a.z*b.x)=a.z*b.x:=ζ;have u4:wrap64 (a.x*b.z)=a.x*b.z:=ζ;have u5:wrap64 (a.x*b.y)=a.x*b.y:=ζ;have u6:wrap64 (a.y*b.x)=a.y*b.x:=ζ;have R:wrap64 (a.y*b.z-a.z*b.y)=a.y*b.z-a.z*b.y:=ζ;have U:wrap64 (a.z*b.x-a.x*b.z)=a.z*b.x-a.x*b.z:=ζ;have X:wrap64 (a.x*b.y-a.y*b.x)=a.x*b.y-a.y*b.x:=ζ;have G:=O i;clear ha hb J b1 b2 i hS j u A C E F;unfold dP V.cross;dsimp only
 go_enter func163,ntmps163
 go_wp2;refine aK results163 (w.heap.size+2) (G.o.set3 (.int .i64 (a.y*b.z-a.z*b.y)) (.int .i64 (a.z*b.x-a.x*b.z)) (.int .i64 (a.x*b.y-a.y*b.x))) _ rfl underlying77 rfl info46 rfl
  ⟨rfl,gg H I _ _ _⟩
def aN(P:Program)(c:Code)(Q:Exit->Act->World->Prop):Nat->Act->World->Prop
 | 0,_,_=>False
 | n+1,a,w=>c.wp P (Exit.then (aN P c Q n) Q) a w
theorem aN.loop{P:Program}{c:Code}{Q:Exit->Act->World->Prop}(n:Nat){a:Act}{w:World}(h:aN P c Q n a w):(Code.loop c).wp P Q a w:=by
 refine wp_loop_ghost (aN P c Q) n h ?_;intro m a w i
 cases m with
 | zero=>exact i.elim
 | succ m =>
  refine wp_mono i ?_;intro e u w' j
  cases e with
  | normal=>exact⟨m,Nat.lt_succ_self m,j⟩
  | _=>exact j
theorem aN.next{P:Program}{c:Code}{Q:Exit->Act->World->Prop}{n:Nat}{a:Act}{w:World}(h:∀K:Act->World->Prop,(∀a w,aN P c Q n a w->K a w)->c.wp P (Exit.then K Q) a w):aN P c Q (n+1) a w:=
 h _ (fun _ _ h=>h)
structure Ints (w:World) (a:Option Addr) (n cap:Nat) (xs:List Int):Prop where
 sl:Sl w 1 a n cap (xs.map (Value.int .i64))
 len:xs.length=n
theorem Ints.below{w w':World}{n e:Nat}{a:Option Addr}{xs:List Int}(h:Ints w a n e xs)(hb:Bl w w'):Ints w' a n e xs:=⟨h.sl.below hb,h.len⟩
theorem Ints.cells{w:World}{n e:Nat}{a:Option Addr}{xs:List Int}(h:Ints w a n e xs)(C:0<n):
 ∃b off,a=some ⟨b,off,.none⟩/\b<w.heap.size/\n<=e/\∀i,i<n->w.cell? ⟨b,off+i,.none⟩=.some (.int .i64 (xs.getD i 0)):=by
 obtain⟨b,off,j,u,A⟩:=h.sl.some C;refine⟨b,off,j,u,h.sl.le,fun i hi=>?_⟩;rw[A i I];have:i<xs.length:=by rw[h.len];exact hi
 simp[this]
theorem Ints.of_box{w:World}{g:Nat}{x y z:Int}{t:TypeId}(h:Box w g #[.int .i64 x,.int .i64 y,.int .i64 z] t):Ints w (some ⟨g,0,.none⟩) 3 3 [x,y,z]:=by
 refine⟨Sl.mk' ρ rfl h.lt (fun i hi=>?_),rfl⟩;rw[Nat.zero_add]
 match i,hi with
 | 0,_=>exact h.cell 0
 | 1,_=>exact h.cell 1
 | 2,_=>exact h.cell 2
theorem fD(w:World)(cs:List Value)(t:TypeId)(j:Nat)(u:Value)(h:cs[j]?=some u):(w.alloc (.cells cs.toArray t)).cell? ((⟨w.heap.size,0,none⟩:Addr).add j)=some u:=by
 rw[show((⟨w.heap.size,0,none⟩:Addr).add j)=⟨w.heap.size,j,none⟩ by simp[Addr.add];exact fun h=>h.symm,(Box.new w cs.toArray t _ rfl).cell j,List.getElem?_toArray];exact h
def bo(w:World)(base:Nat)(v:Value)(l:List Nat):Prop:=w.ownsRow base 3 1 v l.length (l.map fun(i:Nat)=>Value.int .i64 (i:Int))
theorem cz{w:World}{base e k:Nat}{v:Value}{n:Nat}{xs:List Value}(h:w.ownsRow base e k v n xs):∀g,v.ownBlock=some g->base<=g:=by
 obtain⟨E,⟨rfl,rfl⟩|⟨g,u,A,rfl,i,C,G,F,H,J⟩⟩:=h
 ·intro g i;cases i
 ·intro g' j;cases j;exact i
theorem bo.ints{w:World}{base:Nat}{v:Value}{l:List Nat}(h:bo w base v l):∃a e,v=.slice a l.length e/\Ints w a l.length e (l.map fun(i:Nat)=>(i:Int)):=by
 obtain⟨a,e,u,j⟩:=Sl.of_owns h;exact⟨a,e,u,by rw[List.map_map];exact j,by simp⟩
def RetInts(w:World)(base:Nat)(e:Ending)(l:List Nat):Prop:=∃v,e=.returned v/\bo w base v l
theorem bX{w:World}{base i e k:Nat}{v:Value}{n:Nat}{xs:List Value}(h:w.ownsRow base e k v n xs)(hb:i<=base):w.ownsRow i e k v n xs:=by
 obtain⟨A,h|⟨g,j,u,rfl,C,r⟩⟩:=h
 ·exact⟨A,.inl h⟩
 ·exact⟨A,.inr ⟨g,j,u,rfl,Nat.le_trans hb C,r⟩⟩
theorem aC{w w':World}{base e k:Nat}{v:Value}{n:Nat}{xs:List Value}(h:w.ownsRow base e k v n xs)(hb:Bl w w'):w'.ownsRow base e k v n xs:=by
 obtain⟨A,h|⟨g,i,j,rfl,C,u,F,E,G,H⟩⟩:=h
 ·exact⟨A,.inl h⟩
 ·exact⟨A,.inr ⟨g,i,j,rfl,C,by rw[hb.block g (Array.getElem?_eq_some_iff.1 u).1];exact u,F,E,G,H⟩⟩
theorem sF:(prog.info? 3).map (fun i=>(i.zero,i.size,i.bytes))=some (some (.int .i64 0),1,8):=by kernel_rfl
theorem dG{A:Array Oper}{rest:List Oper}{o:Oper}{a:Act}{Q:Exit->Act->World->Prop}{e:World}{c:Array Value}(F:o.guard=none)(s x:Operand)(Y:o.op=.call { callee:=.builtin .append,args:=#[s,x],argTypes:=#[63,63] }){w0:World}{base:Nat}{v:Value}{l:List Nat}(hs:a.eval s=v)(R:bo e base v l)(n:Nat)(hc:c=#[.int .i64 (n:Int)])(hx:a.eval x=.slice (some ⟨e.heap.size,0,none⟩) 1 1)(hl:l.length<=1000000)(W:Below base w0 e)(hb:base<=e.heap.size)(h:∀C w',bo w' base C (l++[n])->Below base w0 w'->wpList prog A Q rest (a.put o.dst C) w'):wpList prog A Q (o::rest) a (e.alloc (.cells c 3)):=by
 obtain⟨i0,i,H,J,L⟩:=info_parts sF;subst hc;refine Go.wpList_append_own _ F s x 63 Y base 3 i0 (.int .i64 0) 1 8 underlying63 i H J L rfl ν v l.length _ hs (World.ownsRow.alloc R _) ⟨e.heap.size,0,none⟩ 1 1 [.int .i64 (n:Int)] hx rfl (fun j u X=>fD e _ _ j u X) (by intro u U;simp at U;rw[U];rfl) (by unfold maxLen;omega) I (by simp;omega) ?_;intro C w1 G E _;exact h C w1 (by unfold bo;simpa using G) ((W.alloc hb _).grown E (by simp;omega) (cz R))
theorem di:(prog.info? 53).map (·.size)=some 2:=by kernel_rfl
def mL(w:World)(a:Option Addr)(len cap:Nat)(ds:List Nat)(e:Ending):Prop:=
 ∃n,Mag w a n cap (ds.take n)/\n<=len/\Nz (ds.take n)/\val (ds.take n)=val ds/\e=.returned (.slice a n cap)
theorem mL.mk'{w:World}{a:Option Addr}{len e:Nat}{j:List Nat}(u:Mag w a len e j)(n:Nat)(A:n<=len)(C:∀i,n<=i->i<len->j.getD i 0=0)(h:n=0\/j.getD (n-1) 0≠0):mL w a len e j (.returned (.slice a n e)):=
 ⟨n,u.shorter A,A,nz_take j n (by rw[u.len];exact A) h,o9 j n (by rw[u.len];exact C),rfl⟩
theorem ft(a:Option Addr)(len j:Nat)(A:List Nat)(w:World)(R:Mag w a len j A)(L:len<=9223372036854775807):
 Calls prog 152 #[.slice a len j] w fun e w'=>mL w a len j A e/\w=w':=by
 have C:=O R;clear R
 go_enter func152,ntmps152
 go_wp2
 go_loop [0] (fun v=>∃n:Nat,n<=len/\(∀i,n<=i->i<len->A.getD i 0=0)/\v=.slice a n j) (fun v=>match v with|.slice _ n _=>n|_=>0)
 case atStart=>exact⟨len,Nat.le_refl _,fun i Y H=>by omega,rfl⟩
 case round =>
  obtain⟨n,hn,W,rfl⟩:=hrel;have E:=O W;clear W;by_cases h0:n=0
  ·subst h0
   go_wp2;go_ret
   exact⟨mL.mk' C.o 0 I E.o (Or.inl rfl),rfl⟩
  ·obtain⟨b,off,rfl,hb,J,hc⟩:=C.o.cells I
   have U:0<n:=I;have F:=hc (n-1) I;clear hc;obtain⟨d,u⟩:=χ (A.getD (n-1) 0);rw[u]at F;have G:=O u;clear u;by_cases u:d=0
   ·subst u
    go_wp2;go_round
    case rel =>
     refine⟨n-1,by omega,fun i Y H=>?_,rfl⟩;by_cases hi:i=n-1
     ·rw[hi];exact G.o
     ·exact E.o i I H
    case measure=>simp;omega
   ·have aa:((d:Int) == 0)=false:=by simpa using u
    have X:=O u;clear u;go_wp2;go_ret;exact⟨mL.mk' C.o n hn E.o (Or.inr (by rw[G.o];exact X.o)),rfl⟩
theorem nR{w:World}{a:Option Addr}{n i:Nat}{j e:List Nat}(neg:Bool)(F:Mag w a n i e)(A:Nz e)(C:val e=val j)(b:Bool)(hb:b=(neg&&decide (0<n))):cW w (.returned (.agg #[.bool b,.slice a n i])) (sgn neg (val j)):=by
 refine⟨_,rfl,qo F A _ _ ?_ ?_⟩
 ·rw[C];unfold sgn;split<;>omega
 ·rw[hb]
  have h0:=nz_nil_iff A;have E:=F.len;have G:(0<n)↔0<val j:=by
   constructor
   ·intro h
    have:e≠[]:=by intro u;rw[u]at E;simp at E;omega
    have:=eW A this;omega
   ·intro h
    have:e≠[]:=by intro u;rw[u]at C;simp[val]at C;omega
    have:=List.length_pos_iff.2 this;omega
  cases neg with
  | false=>simp[sgn]
  | true=>simp[sgn,G]
theorem dM(neg:Bool)(a:Option Addr)(len j:Nat)(F:List Nat)(w:World)(J:Mag w a len j F)(u:len<=9223372036854775807):
 Calls prog 105 #[.bool neg,.slice a len j] w fun e w'=>cW w' e (sgn neg (val F))/\Bl w w':=by
 have E:=O J;clear J;cases neg
 ·go_enter func105,ntmps105
  go_wp2_with fail
  refine(ft a len j F _ (E.o.below ?_) u).mono ?_
  ·go_grown
  rintro e w' ⟨⟨n,C,H,A,i,rfl⟩,rfl⟩;have G:=O i;clear i;go_wp2
  go_returns
  exact⟨nR false (E.o.shorter H |>.below (by go_grown)) A G.o _ rfl,by go_grown⟩
 ·go_enter func105,ntmps105
  go_wp2_with fail
  refine(ft a len j F _ (E.o.below ?_) u).mono ?_
  ·go_grown
  rintro e w' ⟨⟨n,C,H,A,i,rfl⟩,rfl⟩;have G:=O i;clear i;go_wp2
  go_returns
  exact⟨nR true (E.o.shorter H |>.below (by go_grown)) A G.o _ (by simp),by go_grown⟩
theorem from_dg(u:Nat)(e:u<18446744073709551616):Dg [u % 4294967296,u / 4294967296]/\val [u % 4294967296,u / 4294967296]=u:=by
 constructor
 ·refine Dg.cons ?_ (Dg.cons ?_ Dg.nil)<;>unfold B<;>omega
 ·simp only[val,B];omega
theorem jn(n:Int)(w:World)(h1:-9223372036854775808<=n)(h2:n<=9223372036854775807):
 Calls prog 70 #[.int .i64 n] w fun e w'=>cW w' e n/\Bl w w':=by
 by_cases hn:n<0
 ·have e:IntKind.u64.wrap (-IntKind.u64.wrap n)=-n:=by rw[IntKind.wrap_u64,IntKind.wrap_u64];omega
  obtain⟨u,L⟩:∃u:Nat,(u:Int)=-n:=⟨(-n).toNat,by omega⟩;have i:u<18446744073709551616:=I;have F:=from_dg u i;obtain⟨C,R⟩:=η2 F L;clear F;rw[<-L]at e;clear L
  go_enter func70,ntmps70
  go_wp2_with fail
  refine(dM true _ 2 2 [u % 4294967296,u / 4294967296] _ ?_ I).mono ?_
  ·exact Mag.alloc _ _ _ _ _ _ (by simp) (by simp[dig]) C.o.1 rfl rfl
  rw[C.o.2];rintro e w' ⟨⟨v,rfl,j⟩,hb⟩;have G:sgn true u=n:=by have:=R.o;simp[sgn];omega
  rw[G]at j;have A:=(((Box.new w #[.bool false,.slice none 0 0] 53 _ rfl).old _).below hb (by simp;omega));obtain⟨J,E⟩:=η2 j A;obtain⟨s1,U,W,c1,d1,rfl,-⟩:=j;obtain⟨X,Y,x2,x3⟩:=A.two;have H:=O (ae (n:=w.heap.size) (by go_grown) hb ρ);clear G A hb;go_wp2;exact aK results70 w.heap.size (E.o.set2 _ _) _ rfl underlying53 rfl di rfl ⟨⟨_,rfl,J.o.store2 E.o _ _⟩,aM H.o ρ _ _⟩
 ·obtain⟨u,rfl⟩:=Int.eq_ofNat_of_zero_le (by omega:0<=n)
  have i:u<18446744073709551616:=I;have F:=from_dg u i;have C:=O F;clear F
  go_enter func70,ntmps70
  go_wp2_with fail
  refine(dM false _ 2 2 [u % 4294967296,u / 4294967296] _ ?_ I).mono ?_
  ·exact Mag.alloc _ _ _ _ _ _ (by simp) (by simp[dig]) C.o.1 rfl rfl
  rw[C.o.2];rintro e w' ⟨⟨v,rfl,j⟩,hb⟩;have G:sgn false u=u:=rfl;rw[G]at j;have A:=(((Box.new w #[.bool false,.slice none 0 0] 53 _ rfl).old _).below hb (by simp;omega));obtain⟨J,E⟩:=η2 j A;obtain⟨s1,U,W,c1,d1,rfl,-⟩:=j;obtain⟨X,Y,x2,x3⟩:=A.two;have H:=O (ae (n:=w.heap.size) (by go_grown) hb ρ);clear G A hb;go_wp2;exact aK results70 w.heap.size (E.o.set2 _ _) _ rfl underlying53 rfl di rfl ⟨⟨_,rfl,J.o.store2 E.o _ _⟩,aM H.o ρ _ _⟩
#print axioms jn
theorem fQ(a b:Option Addr)(u ca lb cb:Nat)(xs A:List Nat)(w:World)(ha:Mag w a u ca xs)(hb:Mag w b lb cb A)(na:Nz xs)(nb:Nz A)(h1:u<=9223372036854775807)(h2:lb<=9223372036854775807):
 Calls prog 104 #[.slice a u ca,.slice b lb cb] w fun e w'=>e=.returned (.int .i64 (fC (val xs) (val A)))/\Bl w w':=by
 obtain⟨HA,HB⟩:=η2 ha hb;have HC:Hid (∀i,i<u->u=lb->(∀j,i<j->j<u->xs.getD j 0=A.getD j 0)->(xs.getD i 0<A.getD i 0->fC (val xs) (val A)=-1)/\(A.getD i 0<xs.getD i 0->fC (val xs) (val A)=1)):=by
  intro i hi he F;have l1:=ha.len;have l2:=hb.len;exact⟨fun h=>tP (rL ha.dg I i I (fun j a b=>F j a I) h),
   fun h=>cmpN_gt (rL hb.dg I i I (fun j a b=>(F j a I).symm) h)⟩
 have HE:Hid (u=lb->(∀j,j<u->xs.getD j 0=A.getD j 0)->fC (val xs) (val A)=0):=by
  intro he F;have l1:=ha.len;have l2:=hb.len;rw[eq_of_getD I (fun j h=>F j I)];exact cmpN_eq rfl
 have HL:Hid ((u<lb->fC (val xs) (val A)=-1)/\(lb<u->fC (val xs) (val A)=1)):=by
  have l1:=ha.len;have l2:=hb.len;exact⟨fun h=>tP (iK ha.dg nb I),fun h=>cmpN_gt (iK hb.dg na I)⟩
 clear ha hb na nb;generalize fC (val xs) (val A)=c at *;by_cases ac:u<lb
 ·have G:(((u:Nat):Int) != (lb:Int))=true:=by rw[bne_iff_ne];omega
  have hh:=HL.o.1 ac;subst hh
  go_enter func104,ntmps104
  go_wp2;go_ret
  exact⟨rfl,Below.refl _ _⟩
 by_cases aa:lb<u
 ·have G:(((u:Nat):Int) != (lb:Int))=true:=by rw[bne_iff_ne];omega
  have hh:=HL.o.2 aa;subst hh
  go_enter func104,ntmps104
  go_wp2;go_ret
  exact⟨rfl,Below.refl _ _⟩
 obtain rfl:u=lb:=I;have Y:=O (HE.o rfl);have R:Hid (∀i,i<u->(∀j,i<j->j<u->xs.getD j 0=A.getD j 0)->(xs.getD i 0<A.getD i 0->c=-1)/\(A.getD i 0<xs.getD i 0->c=1)):=fun i hi=>HC.o i hi rfl
 clear HE HC HL
 go_enter func104,ntmps104
 go_wp2
 go_loopw [5] (fun v wr=>∃k:Nat,k<=u/\v=.int .i64 ((k:Int)-1)/\(∀j,k<=j->j<u->xs.getD j 0=A.getD j 0)/\Bl w wr) (fun v _=>(intOf v+1).toNat)
 case atStart=>exact⟨u,Nat.le_refl _,rfl,fun j h1 h2=>by omega,Below.refl _ _⟩
 case round =>
  obtain⟨k,hk,rfl,F,C⟩:=hrel;obtain⟨X,W⟩:=η2 C F;clear F;by_cases h0:k=0
  ·subst h0
   have hc:=Y.o (fun j h=>W.o j I h);subst hc;clear C;go_wp2;go_ret;exact⟨rfl,X.o⟩
  ·obtain⟨ba,oa,rfl,af,an,hc⟩:=(HA.o.below C).cells I
   obtain⟨bb,ob,rfl,ag,ao,hd⟩:=(HB.o.below C).cells I;have hx:=hc (k-1) I;have hy:=hd (k-1) I;obtain⟨i,rfl⟩:∃i,k=i+1:=⟨k-1,by omega⟩;have ei:(((i+1:Nat):Int)-1)=(i:Int):=I;rw[ei];simp only[Nat.add_sub_cancel]at hx hy;obtain⟨x,H⟩:=χ (xs.getD i 0);obtain⟨y,L⟩:=χ (A.getD i 0);rw[H]at hx;rw[L]at hy;obtain⟨HX,HY⟩:=η2 H L;clear hc hd ei H L h0 C;by_cases J:x=y
   ·have G:(((x:Nat):Int) != (y:Int))=false:=by subst J;simp
    have HQ:=O J;clear J;go_wp2
    go_quiet (fail)
    go_wp2
    go_roundw
    case rel =>
     refine⟨i,by omega,rfl,fun j h U=>?_,aF X.o _⟩;by_cases ab:j=i
     ·rw[ab,HX.o,HY.o];exact HQ.o
     ·exact W.o j I U
    case measure=>simp[intOf]
   ·have G:(((x:Nat):Int) != (y:Int))=true:=by rw[bne_iff_ne];omega
    by_cases ad:x<y
    ·have E:=(R.o i I (fun j h U=>W.o j I U)).1 (by rw[HX.o,HY.o];exact ad)
     subst E;go_wp2
     go_quiet (fail)
     go_wp2
     go_quiet (fail)
     go_wp2;go_ret
     exact⟨rfl,aF (aF X.o _) _⟩
    ·have E:=(R.o i I (fun j h U=>W.o j I U)).2 (by rw[HX.o,HY.o];omega)
     subst E;go_wp2
     go_quiet (fail)
     go_wp2
     go_quiet (fail)
     go_wp2;go_ret
     exact⟨rfl,aF (aF X.o _) _⟩
theorem cmpZ_nn{x y:Int}(e:false=decide (x<0))(i:false=decide (y<0)):dp x y=fC x.natAbs y.natAbs:=by
 have j:¬ x<0:=by simpa using e.symm
 have u:¬ y<0:=by simpa using i.symm
 unfold dp fC
 (repeat' split)<;>first|rfl|(exfalso;omega)
theorem cmpZ_pp{x y:Int}(e:true=decide (x<0))(i:true=decide (y<0)):dp x y=fC y.natAbs x.natAbs:=by
 have j:x<0:=by simpa using e.symm
 have u:y<0:=by simpa using i.symm
 unfold dp fC
 (repeat' split)<;>first|rfl|(exfalso;omega)
theorem cmpZ_pn{x y:Int}(e:true=decide (x<0))(i:false=decide (y<0)):dp x y=-1:=by
 have j:x<0:=by simpa using e.symm
 have u:¬ y<0:=by simpa using i.symm
 unfold dp;rw[if_pos I]
theorem cmpZ_np{x y:Int}(e:false=decide (x<0))(i:true=decide (y<0)):dp x y=1:=by
 have j:¬ x<0:=by simpa using e.symm
 have u:y<0:=by simpa using i.symm
 unfold dp;rw[if_neg I,if_pos I]
theorem fp(W X:Value)(x y:Int)(w:World)(ha:aO w W x)(hb:aO w X y)(H:Small x)(J:Small y):
 Calls prog 67 #[W,X] w fun e w'=>e=.returned (.int .i64 (dp x y))/\Bl w w':=by
 obtain⟨s1,a1,n1,c1,d1,rfl,i,C,F,u,Y⟩:=ha.open H;obtain⟨s2,a2,n2,c2,d2,rfl,j,E,G,A,aa⟩:=hb.open J;obtain⟨R,U⟩:=η2 C E;cases s1<;>cases s2
 ·have hc:=cmpZ_nn i j
  rw[<-u,<-A]at hc;rw[hc];clear i j u A C E hc ha hb H J
  go_enter func67,ntmps67
  go_wp2_with fail
  refine(fQ _ _ _ _ _ _ d1 d2 _ (R.o.below ?_) (U.o.below ?_) F G I I).mono ?_
  ·go_grown
  ·go_grown
  rintro e w' ⟨rfl,hb⟩;have L:=O (ae (n:=w.heap.size) (by go_grown) hb ρ);clear hb;go_wp2;go_ret;exact⟨rfl,L.o⟩
 ·rw[cmpZ_np i j]
  clear i j u A C E ha hb H J
  go_enter func67,ntmps67
  go_wp2;go_ret
  exact⟨rfl,by go_grown⟩
 ·rw[cmpZ_pn i j]
  clear i j u A C E ha hb H J
  go_enter func67,ntmps67
  go_wp2;go_ret
  exact⟨rfl,by go_grown⟩
 ·have hc:=cmpZ_pp i j
  rw[<-u,<-A]at hc;rw[hc];clear i j u A C E hc ha hb H J
  go_enter func67,ntmps67
  go_wp2_with fail
  refine(fQ _ _ _ _ _ _ d2 d1 _ (U.o.below ?_) (R.o.below ?_) G F I I).mono ?_
  ·go_grown
  ·go_grown
  rintro e w' ⟨rfl,hb⟩;have L:=O (ae (n:=w.heap.size) (by go_grown) hb ρ);clear hb;go_wp2;go_ret;exact⟨rfl,L.o⟩
theorem fE(H:Value)(x:Int)(w:World)(ha:aO w H x)(E:Small x):
 Calls prog 102 #[H] w fun e w'=>e=.returned (.int .i64 (dp x 0))/\Bl w w':=by
 obtain⟨s1,U,G,c1,d1,rfl,i,u,F,j,L⟩:=ha.open E;have C:=u.len;by_cases h0:G=0
 ·have:dp x 0=0:=by
   have:d1=[]:=List.length_eq_zero_iff.1 I;rw[this]at j;simp only[val]at j;unfold dp;rw[if_neg I,if_neg I]
  rw[this];subst h0;clear i u j ha E C this
  go_enter func102,ntmps102
  go_wp2;go_ret
  exact⟨rfl,by go_grown⟩
 ·have A:0<val d1:=eW F (by intro h;rw[h]at C;simp at C;omega)
  have R:(((G:Nat):Int) == 0)=false:=by rw[beq_eq_false_iff_ne];omega
  cases s1
  ·have:dp x 0=1:=by
    have J:¬ x<0:=by simpa using i.symm
    unfold dp;rw[if_neg I,if_pos I]
   rw[this];clear i u j ha E C this A
   go_enter func102,ntmps102
   go_wp2;go_ret
   exact⟨rfl,by go_grown⟩
  ·have:dp x 0=-1:=by
    have J:x<0:=by simpa using i.symm
    unfold dp;rw[if_pos I]
   rw[this];clear i u j ha E C this A
   go_enter func102,ntmps102
   go_wp2;go_ret
   exact⟨rfl,by go_grown⟩
theorem neg_post{w w':World}{s:Bool}{a:Option Addr}{n e:Nat}{i:List Nat}{x:Int}(G:s=decide (x<0))(A:Mag w a n e i)(C:Nz i)(F:val i=x.natAbs)(hb:Bl w w')(b:Bool)(h:b=(!s&&decide (0<n))):cW w' (.returned (.agg #[.bool b,.slice a n e])) (-x):=by
 refine⟨_,rfl,qo (A.below hb) C _ _ I ?_⟩;have u:=A.len;rw[h,G];by_cases h0:x<0
 ·simp[h0];omega
 ·by_cases j:0<n
  ·have E:0<val i:=eW C (by intro h;rw[h]at u;simp at u;omega)
   have:0<x:=I;simp[h0,j];omega
  ·have:i=[]:=List.length_eq_zero_iff.1 I
   rw[this]at F;simp only[val]at F;have:x=0:=I;subst this;simp[j]
theorem uf(G:Value)(x:Int)(w:World)(ha:aO w G x)(F:Small x):
 Calls prog 111 #[G] w fun e w'=>cW w' e (-x)/\Bl w w':=by
 obtain⟨s1,H,C,c1,d1,rfl,u,i,j,A,R⟩:=ha.open F;have E:Hid (∀w' b,Bl w w'->b=(!s1&&decide (0<C))->cW w' (.returned (.agg #[.bool b,.slice H C c1])) (-x)):=
  fun w' b J L=>neg_post u i j A J b L
 clear u i A ha F j;cases s1
 ·by_cases h0:0<C
  ·go_enter func111,ntmps111
   go_wp2
   go_returns
   exact⟨E.o _ _ (by go_grown) (by simp[h0]),by go_grown⟩
  ·obtain rfl:C=0:=I
   go_enter func111,ntmps111
   go_wp2
   go_returns
   exact⟨E.o _ _ (by go_grown) (by simp),by go_grown⟩
 ·go_enter func111,ntmps111
  go_wp2
  go_returns
  exact⟨E.o _ _ (by go_grown) (by simp),by go_grown⟩
theorem infoU32:(prog.info? 176).map (fun i=>(i.zero,i.size,i.bytes))=some (some (.int .u32 0),1,4):=by kernel_rfl
def t7(w:World)(e:Ending)(v:Nat)(most:Nat):Prop:=∃a n cap ds,e=.returned (.slice a n cap)/\Mag w a n cap ds/\val ds=v/\n<=most
def Own(w:World)(g n:Nat)(ds:List Nat):Prop:=w.ownsRow g 176 1 (.slice (some ⟨g,0,none⟩) n n) n (ds.map dig)
theorem Own.len{w:World}{g n:Nat}{e:List Nat}(h:Own w g n e):e.length=n:=by
 have:=h.1;simpa using this
theorem Own.cell{w:World}{g n:Nat}{e:List Nat}(h:Own w g n e)(j:Nat)(A:j<n):w.cell? ⟨g,j,none⟩=some (.int .u32 (e.getD j 0:Nat)):=by
 have i:=World.ownsRow.cellAt h j I;have u:=h.len;rw[i];have:j<e.length:=I;simp[this,dig]
theorem Own.free{w:World}{g n:Nat}{e:List Nat}(h:Own w g n e)(j:Nat):w.frozen? ⟨g,j,none⟩=false:=World.ownsRow.frozenAt h j
theorem Own.stored{w:World}{g n:Nat}{e:List Nat}(h:Own w g n e)(j d:Nat)(z:Int)(i:z=(d:Int)):Own (w.setCell ⟨g,j,none⟩ (.int .u32 z)) g n (e.set j d):=by
 subst i;have:=(World.ownsRow.stored h j (dig d)).1;unfold Own;rw[List.map_set];exact this
theorem Own.lt{w:World}{g n:Nat}{e:List Nat}(h:Own w g n e):g<w.heap.size:=(World.ownsRow.lt h g rfl).2
theorem Own.mag{w:World}{g n:Nat}{j:List Nat}(h:Own w g n j)(G:Dg j):Mag w (some ⟨g,0,none⟩) n n j:=
 ⟨Sl.mk' ρ (by simpa using h.len) h.lt (fun i hi=>by
  rw[Nat.zero_add,h.cell i I];have:=h.len;have:i<j.length:=I;simp[this,dig]),G,h.len,fun x H=>by
   cases H;obtain⟨_,⟨A,_⟩|⟨g',C,u,A,_,F,_⟩⟩:=h
   ·simp at A
   ·have e:=(Value.slice.inj A).1
    have E:=congrArg Addr.block (Option.some.inj e);dsimp only at E;subst E;exact⟨u,F⟩⟩
theorem Own.kept{w w':World}{g n:Nat}{j:List Nat}(h:Own w g n j)(G:w'.heap[g]?=w.heap[g]?):Own w' g n j:=by
 obtain⟨A,⟨e,_⟩|⟨g',u,i,e,C,E,F⟩⟩:=h
 ·simp at e
 ·simp only[Value.slice.injEq,Option.some.injEq,Addr.mk.injEq,and_true,true_and]at e
  obtain⟨rfl,rfl⟩:=e;exact⟨A,.inr ⟨g,n,i,rfl,C,by rw[G];exact E,F⟩⟩
theorem Own.below{w w':World}{g n k:Nat}{e:List Nat}(h:Own w g n e)(hb:Below k w w')(i:g<k):Own w' g n e:=h.kept (hb.block g i)
theorem Own.touch{w w':World}{g g' n:Nat}{i:List Nat}(h:Own w g n i)(u:Tch g' w w')(j:g≠g'):Own w' g n i:=
 h.kept (u.block g (World.ownsRow.lt h g rfl).2 (fun e=>j (Option.some.inj e)))
theorem Own.drewN{w:World}{g n:Nat}{e:List Nat}(h:Own w g n e)(q:Nat):Own (w.drewN q) g n e:=h
theorem gI(w:World){e:Array Oper}{rest:List Oper}{o:Oper}{a:Act}{Q:Exit->Act->World->Prop}(R:o.guard=none)(l c:Operand)(hop:o.op=Op.makeSlice 51 l c)(F E:IntKind)(L C:Int)(U:a.eval l=.int F L)(hc:a.eval c=.int E C)(n:Nat)(J:L=(n:Int))(H:C=(n:Int))(Y:n<=100000000)(hK:∀w',Own w' w.heap.size n (List.replicate n 0)->Bl w w'->wpList prog e Q rest (a.put o.dst (.slice (some ⟨w.heap.size,0,none⟩) n n)) w'):wpList prog e Q (o::rest) a w:=by
 obtain⟨X,hi,i,j,u⟩:=info_parts infoU32;refine wpList_make_full w R l c 51 hop w.heap.size 176 X (.int .u32 0) 1 underlying51 hi i j F E L C n U hc J H (by rw[u];omega) (by unfold maxLen;omega) ρ ?_;intro w' A G;refine hK w' ?_ ((Below.refl w.heap.size w).grown G ρ (fun k h=>by cases h));have W:(madeCells (Value.int .u32 0).cells (n*1)).toList=(List.replicate n 0).map dig:=by
  rw[Nat.mul_one];simp[Value.cells,toList_madeCells_one,dig]
 rw[W]at A;exact A
theorem plus_core(a b:Option Addr)(E ca lb cb:Nat)(xs U:List Nat)(w:World)(ha:Mag w a E ca xs)(hb:Mag w b lb cb U)(h1:E<=1000000)(h2:lb<=E):
 Calls prog 109 #[.slice a E ca,.slice b lb cb] w fun e w'=>t7 w' e (val xs+val U) (E+1)/\Bl w w':=by
 obtain⟨HA,HB,ar,ab⟩:=η4 ha hb ha.len hb.len;have X:¬ E<lb:=I;clear ha hb
 go_enter func109,ntmps109
 go_wp2_with (at_make;refine gI _ rfl _ _ rfl _ _ _ _ rfl rfl (E+1) ?c1 ?c2 ?c3 ?_)
 case c1=>omega
 case c2=>omega
 case c3=>omega
 intro w0 F u;obtain⟨HO,HG⟩:=η2 F u;clear F u;go_wp2
 go_loopw [6,22] (fun c i wr=>∃k C L,k<=E/\i=.int .i64 (k:Nat)/\C<=1/\c=.int .u64 (C:Nat)/\Own wr w.heap.size (E+1) L/\Dg L/\val (L.take k)+B ^ k*C=val (xs.take k)+val (U.take k)/\Bl w wr)
  (fun _ i _=>E-(intOf i).toNat)
 case atStart=>exact⟨0,0,_,Nat.zero_le _,rfl,Nat.zero_le _,rfl,HO.o,Dg.zeros _,by simp[val],HG.o⟩
 case round =>
  obtain⟨k,C,L,hk,rfl,aw,rfl,j,W,R,G⟩:=hrel;obtain⟨A,HD,HV,HW⟩:=η4 j W R G;clear W R HO HG;by_cases X:k<E
  ·obtain⟨ba,oa,rfl,ac,au,hx⟩:=(HA.o.below G).cells I
   have ao:=hx k X;obtain⟨x,H⟩:=χ (xs.getD k 0);rw[H]at ao;have ay:x<4294967296:=by have:=HA.o.dg.getD k;rw[H]at this;exact this
   have HX:=O H;have ag:=j.cell k I;have an:=j.free k;clear hx H j G ac;by_cases af:k<lb
   ·obtain⟨bb,ob,rfl,ad,av,hy⟩:=(HB.o.below HW.o).cells I
    have ap:=hy k af;obtain⟨y,J⟩:=χ (U.getD k 0);rw[J]at ap;have az:y<4294967296:=by have:=HB.o.dg.getD k;rw[J]at this;exact this
    have HY:=O J;clear hy J ad;have Y:=km _ _ _ _ (x+y) (C+x+y) _ HV.o I;have HS:=O Y;clear Y;go_wp2
    go_roundw
    case rel =>
     refine⟨k+1,(C+x+y) / 4294967296,L.set k ((C+x+y) % 4294967296),by omega,by go_num,by omega,by go_num,A.o.stored _ _ _ I,
      HD.o.set _ _ (by unfold B;omega),?_,HW.o.setCell ρ _⟩
     rw[bZ _ _ _ (by rw[A.o.len];omega),bh,bh,HX.o,HY.o,Nat.pow_succ];have:=HS.o;unfold B at this⊢;rw[Nat.mul_add]at this;omega
    case measure=>simp[intOf];omega
   ·have aa:U.getD k 0=0:=iH _ _ (ψ ab.o)
    have Y:=km _ _ _ _ x (C+x) _ HV.o I;obtain⟨HS,HY⟩:=η2 Y aa;clear Y aa;go_wp2
    go_roundw
    case rel =>
     refine⟨k+1,(C+x) / 4294967296,L.set k ((C+x) % 4294967296),by omega,by go_num,by omega,by go_num,A.o.stored _ _ _ I,
      HD.o.set _ _ (by unfold B;omega),?_,HW.o.setCell ρ _⟩
     rw[bZ _ _ _ (by rw[A.o.len];omega),bh,bh,HX.o,HY.o,Nat.pow_succ];have:=HS.o;unfold B at this⊢;omega
    case measure=>simp[intOf];omega
  ·obtain rfl:k=E:=I
   have ag:=j.cell k I;have an:=j.free k;clear j G;go_wp2;go_ret;refine⟨⟨_,_,_,L.set k C,rfl,(A.o.stored k C _ I).mag (HD.o.set _ _ (by unfold B;omega)),?_,Nat.le_refl _⟩,HW.o.setCell ρ _⟩;have h1:=HV.o;have l1:=A.o.len;have l2:=ar.o;have l3:=ab.o;rw[List.take_of_length_le (by omega:xs.length<=k),List.take_of_length_le (by omega:U.length<=k)]at h1;have h2:=bZ L k C I;rw[List.take_of_length_le (by simp;omega)]at h2;omega
theorem plus_swap(a b:Option Addr)(F ca lb cb:Nat)(xs U:List Nat)(w:World)(ha:Mag w a F ca xs)(hb:Mag w b lb cb U)(h1:F<=1000000)(h2:lb<F):
 Calls prog 109 #[.slice b lb cb,.slice a F ca] w fun e w'=>t7 w' e (val xs+val U) (F+1)/\Bl w w':=by
 obtain⟨HA,HB,ar,aa⟩:=η4 ha hb ha.len hb.len;clear ha hb
 go_enter func109,ntmps109
 go_wp2_with (at_make;refine gI _ rfl _ _ rfl _ _ _ _ rfl rfl (F+1) ?c1 ?c2 ?c3 ?_)
 case c1=>omega
 case c2=>omega
 case c3=>omega
 intro w0 E u;obtain⟨HO,HG⟩:=η2 E u;clear E u;go_wp2
 go_loopw [6,22] (fun c i wr=>∃k C L,k<=F/\i=.int .i64 (k:Nat)/\C<=1/\c=.int .u64 (C:Nat)/\Own wr w.heap.size (F+1) L/\Dg L/\val (L.take k)+B ^ k*C=val (xs.take k)+val (U.take k)/\Bl w wr)
  (fun _ i _=>F-(intOf i).toNat)
 case atStart=>exact⟨0,0,_,Nat.zero_le _,rfl,Nat.zero_le _,rfl,HO.o,Dg.zeros _,by simp[val],HG.o⟩
 case round =>
  obtain⟨k,C,L,hk,rfl,aw,rfl,j,W,R,G⟩:=hrel;obtain⟨A,HD,HV,HW⟩:=η4 j W R G;clear W R HO HG;by_cases af:k<F
  ·obtain⟨ba,oa,rfl,ab,au,hx⟩:=(HA.o.below G).cells I
   have ao:=hx k af;obtain⟨x,H⟩:=χ (xs.getD k 0);rw[H]at ao;have ay:x<4294967296:=by have:=HA.o.dg.getD k;rw[H]at this;exact this
   have HX:=O H;have ag:=j.cell k I;have an:=j.free k;clear hx H j G ab;by_cases ad:k<lb
   ·obtain⟨bb,ob,rfl,ac,av,hy⟩:=(HB.o.below HW.o).cells I
    have ap:=hy k ad;obtain⟨y,J⟩:=χ (U.getD k 0);rw[J]at ap;have az:y<4294967296:=by have:=HB.o.dg.getD k;rw[J]at this;exact this
    have HY:=O J;clear hy J ac;have X:=km _ _ _ _ (x+y) (C+x+y) _ HV.o I;have HS:=O X;clear X;go_wp2
    go_roundw
    case rel =>
     refine⟨k+1,(C+x+y) / 4294967296,L.set k ((C+x+y) % 4294967296),by omega,by go_num,by omega,by go_num,A.o.stored _ _ _ I,
      HD.o.set _ _ (by unfold B;omega),?_,HW.o.setCell ρ _⟩
     rw[bZ _ _ _ (by rw[A.o.len];omega),bh,bh,HX.o,HY.o,Nat.pow_succ];have:=HS.o;unfold B at this⊢;rw[Nat.mul_add]at this;omega
    case measure=>simp[intOf];omega
   ·have Y:U.getD k 0=0:=iH _ _ (ψ aa.o)
    have X:=km _ _ _ _ x (C+x) _ HV.o I;obtain⟨HS,HY⟩:=η2 X Y;clear X Y;go_wp2
    go_roundw
    case rel =>
     refine⟨k+1,(C+x) / 4294967296,L.set k ((C+x) % 4294967296),by omega,by go_num,by omega,by go_num,A.o.stored _ _ _ I,
      HD.o.set _ _ (by unfold B;omega),?_,HW.o.setCell ρ _⟩
     rw[bZ _ _ _ (by rw[A.o.len];omega),bh,bh,HX.o,HY.o,Nat.pow_succ];have:=HS.o;unfold B at this⊢;omega
    case measure=>simp[intOf];omega
  ·obtain rfl:k=F:=I
   have ag:=j.cell k I;have an:=j.free k;clear j G;go_wp2;go_ret;refine⟨⟨_,_,_,L.set k C,rfl,(A.o.stored k C _ I).mag (HD.o.set _ _ (by unfold B;omega)),?_,Nat.le_refl _⟩,HW.o.setCell ρ _⟩;have h1:=HV.o;have l1:=A.o.len;have l2:=ar.o;have l3:=aa.o;rw[List.take_of_length_le (by omega:xs.length<=k),List.take_of_length_le (by omega:U.length<=k)]at h1;have h2:=bZ L k C I;rw[List.take_of_length_le (by simp;omega)]at h2;omega
theorem plus_any(a b:Option Addr)(i j lb cb:Nat)(xs u:List Nat)(w:World)(ha:Mag w a i j xs)(hb:Mag w b lb cb u)(G:i<=1000000)(H:lb<=1000000):
 Calls prog 109 #[.slice a i j,.slice b lb cb] w fun e w'=>t7 w' e (val xs+val u) 1000001/\Bl w w':=by
 by_cases h:lb<=i
 ·refine(plus_core a b i j lb cb xs u w ha hb G h).mono ?_
  rintro e w' ⟨⟨p,n,c,A,C,E,F,J⟩,hb⟩;exact⟨⟨p,n,c,A,C,E,F,by omega⟩,hb⟩
 ·refine(plus_swap b a lb cb i j u xs w hb ha H I).mono ?_
  rintro e w' ⟨⟨p,n,c,A,C,E,F,J⟩,hb⟩;exact⟨⟨p,n,c,A,C,E,by omega,by omega⟩,hb⟩
theorem sB(a b:Option Addr)(F ca lb cb:Nat)(xs L:List Nat)(w:World)(ha:Mag w a F ca xs)(hb:Mag w b lb cb L)(h1:F<=1000000)(h2:lb<=F)(af:val L<=val xs):
 Calls prog 110 #[.slice a F ca,.slice b lb cb] w fun e w'=>t7 w' e (val xs-val L) 1000000/\Bl w w':=by
 obtain⟨HA,HB,a0,ag,an⟩:=η5 ha hb ha.len hb.len af;clear ha hb af
 go_enter func110,ntmps110
 go_wp2_with (at_make;refine gI _ rfl _ _ rfl _ _ _ _ rfl rfl F ?c1 ?c2 ?c3 ?_)
 case c1=>omega
 case c2=>omega
 case c3=>omega
 intro w0 J E;obtain⟨HO,HG⟩:=η2 J E;clear J E;go_wp2
 go_loopw [6,15] (fun c i wr=>∃k H ds,k<=F/\i=.int .i64 (k:Nat)/\H<=1/\c=.int .i64 (H:Nat)/\Own wr w.heap.size F ds/\Dg ds/\val (ds.take k)+val (L.take k)=val (xs.take k)+B ^ k*H/\Bl w wr)
  (fun _ i _=>F-(intOf i).toNat)
 case atStart=>exact⟨0,0,_,Nat.zero_le _,rfl,Nat.zero_le _,rfl,HO.o,Dg.zeros _,by simp[val],HG.o⟩
 case round =>
  obtain⟨k,H,ds,hk,rfl,a1,rfl,A,ac,Y,U⟩:=hrel;obtain⟨R,HD,HV,HW⟩:=η4 A ac Y U;clear ac Y HO HG;by_cases av:k<F
  ·obtain⟨ba,oa,rfl,ao,a2,hx⟩:=(HA.o.below U).cells I
   have ay:=hx k av;obtain⟨x,W⟩:=χ (xs.getD k 0);rw[W]at ay;have a6:x<4294967296:=by have:=HA.o.dg.getD k;rw[W]at this;exact this
   have HX:=O W;have a4:=A.cell k I;have a5:=A.free k;clear hx W A U ao;have HE:Hid (∀(y d j:Nat) (n:Int),L.getD k 0=y->d+y+H=x+B*j->d<B->j<=1->n=(d:Int) ->
    ∃G u C,G<=F/\Value.int .i64 ((k:Int)+1)=.int .i64 (G:Nat)/\u<=1/\Value.int .i64 (j:Int)=.int .i64 (u:Nat)/\Own (wr.setCell ⟨w.heap.size,k,none⟩ (.int .u32 n)) w.heap.size F C/\Dg C /\
     val (C.take G)+val (L.take G)=val (xs.take G)+B ^ G*u/\Bl w (wr.setCell ⟨w.heap.size,k,none⟩ (.int .u32 n))):=by
    intro y d j n hy hd ar ab aw;refine⟨k+1,j,ds.set k d,by omega,rfl,ab,rfl,R.o.stored _ _ _ aw,HD.o.set _ _ ar,?_,HW.o.setCell ρ _⟩;rw[bZ _ _ _ (by rw[R.o.len];omega),bh,bh,HX.o,hy,Nat.pow_succ];exact sub_step _ _ _ _ _ _ _ _ _ HV.o hd
   by_cases au:k<lb
   ·obtain⟨bb,ob,rfl,ap,a3,hy⟩:=(HB.o.below HW.o).cells I
    have az:=hy k au;obtain⟨y,X⟩:=χ (L.getD k 0);rw[X]at az;have a7:y<4294967296:=by have:=HB.o.dg.getD k;rw[X]at this;exact this
    have HY:=O X;clear hy X ap;by_cases ad:(x:Int)-H-y<0
    ·go_wp2
     go_roundw
     case rel=>exact HE.o y (x+4294967296-H-y) 1 _ HY.o (by unfold B;omega) (by unfold B;omega) I I
     case measure=>simp[intOf];omega
    ·go_wp2
     go_roundw
     case rel=>exact HE.o y (x-H-y) 0 _ HY.o I (by unfold B;omega) I I
     case measure=>simp[intOf];omega
   ·have HY:Hid (L.getD k 0=0):=iH _ _ (ψ ag.o)
    have aa:Hid (∀(d j:Nat) (n:Int),d+H=x+B*j->d<B->j<=1->n=(d:Int) ->
     ∃G u C,G<=F/\Value.int .i64 ((k:Int)+1)=.int .i64 (G:Nat)/\u<=1/\Value.int .i64 (j:Int)=.int .i64 (u:Nat)/\Own (wr.setCell ⟨w.heap.size,k,none⟩ (.int .u32 n)) w.heap.size F C/\Dg C /\
      val (C.take G)+val (L.take G)=val (xs.take G)+B ^ G*u/\Bl w (wr.setCell ⟨w.heap.size,k,none⟩ (.int .u32 n))):=
     fun d j n hd h1 h2 h3=>HE.o 0 d j n HY.o I h1 h2 h3
    clear HE;by_cases ad:(x:Int)-H<0
    ·go_wp2
     go_roundw
     case rel=>exact aa.o (x+4294967296-H) 1 _ (by unfold B;omega) (by unfold B;omega) I I
     case measure=>simp[intOf];omega
    ·go_wp2
     go_roundw
     case rel=>exact aa.o (x-H) 0 _ I (by unfold B;omega) I I
     case measure=>simp[intOf];omega
  ·obtain rfl:k=F:=I
   clear A U;go_wp2;go_ret;refine⟨⟨_,_,_,ds,rfl,R.o.mag HD.o,?_,h1⟩,HW.o⟩;have h1:=HV.o;have l1:=R.o.len;have l2:=a0.o;have l3:=ag.o;rw[List.take_of_length_le (by omega:xs.length<=k),List.take_of_length_le (by omega:L.length<=k),List.take_of_length_le (by omega:ds.length<=k)]at h1;exact sub_end h1 (by rw[<-l1];exact jp HD.o) an.o
theorem add_same{x y:Int}{s1 s2:Bool}{n m:Nat}(e:s1=decide (x<0))(j:s2=decide (y<0))(C:n=x.natAbs)(A:m=y.natAbs)(h:s1=s2):sgn s1 (n+m)=x+y:=by
 subst h;unfold sgn;by_cases i:x<0
 ·have u:y<0:=by have:=e.symm.trans j;simpa[i]using this.symm
  have:s1=true:=by simpa[i]using e
  subst this;simp;omega
 ·have u:¬ y<0:=by have:=e.symm.trans j;simpa[i]using this.symm
  have:s1=false:=by simpa[i]using e
  subst this;simp;omega
theorem add_diff{x y:Int}{s1 s2:Bool}{n m:Nat}(j:s1=decide (x<0))(u:s2=decide (y<0))(F:n=x.natAbs)(E:m=y.natAbs)(h:s1≠s2)(C:m<=n):sgn s1 (n-m)=x+y:=by
 unfold sgn;by_cases A:x<0
 ·have i:s1=true:=by simpa[A]using j
  subst i;have e:¬ y<0:=by intro e;apply h;rw[u];simp[e]
  simp;omega
 ·have i:s1=false:=by simpa[A]using j
  subst i;have e:y<0:=by
   by_cases e:y<0
   ·exact e
   ·exfalso;apply h;rw[u];simp[e]
  simp;omega
theorem ie{xs e:List Nat}(i:Dg xs)(j:Nz e)(h:val e<=val xs):e.length<=xs.length:=by
 have:=iK i j;omega
theorem Add_any(va vb:Value)(x y:Int)(w:World)(ha:aO w va x)(hb:aO w vb y)(sx:Small x)(sy:Small y):
 Calls prog 72 #[va,vb] w fun e w'=>cW w' e (x+y)/\Bl w w':=by
 obtain⟨s1,a1,n1,c1,d1,rfl,U,J,af,j,an⟩:=ha.open sx;obtain⟨s2,a2,n2,c2,d2,rfl,X,L,ag,u,ao⟩:=hb.open sy;obtain⟨M1,M2⟩:=η2 J L;obtain⟨W,hW,b1,b2,b3,hB,hS⟩:=cC w #[.bool s1,.slice a1 n1 c1] #[.bool s2,.slice a2 n2 c2] #[.bool false,.slice none 0 0] 53 53 53;obtain⟨A,i,B1,B2,B3,HW⟩:=η6 hB hS b1 b2 b3 hW;clear hB hS b1 b2 b3 hW ha hb sx sy;by_cases G:s1=s2
 ·have HZ:=O (add_same U X j u G)
  have ar:(s1 == s2)=true:=by simpa using G
  clear G U X j u J L
  go_enter func72,ntmps72
  go_wp2_with fail
  rw[HW.o]
  go_region_held3 (fun w'=>w'.cell? ⟨w.heap.size,0,none⟩=some (.bool s1)/\w'.cell? ⟨w.heap.size,1,none⟩=some (.slice a1 n1 c1) /\
   Γ2 w' (w.heap.size+1) 0 (.bool s2) (w.heap.size+1) 1 (.slice a2 n2 c2))
   (first
    | exact iP B1.o B2.o (Below.refl W.heap.size _).drew (ψ i.o) (ψ i.o)
    | exact iP B1.o B2.o (Hid.o (by assumption)) (ψ i.o) (ψ i.o)
    | exact lF B1.o B2.o R.o (ψ i.o) (ψ i.o) I I _ _)
   (first
    | (go_at_call 109;refine(plus_any _ _ _ _ _ _ d1 d2 _ (M1.o.below A.o.drew) (M2.o.below A.o.drew) an ao).mono ?_;rintro e w1 ⟨⟨p1,q1,r1,e1,rfl,j,H,ap⟩,C⟩
       obtain⟨V1,VV⟩:=η2 j H;have L1:Hid (Bl W w1):=ae β.drew C (by first|exact Nat.le_refl _|exact Y.o.size);clear j C H)
    | (go_at_call 105;refine(dM _ _ _ _ e1 _ V1.o I).mono ?_;rw[VV.o];rintro e w2 ⟨⟨v2,rfl,u⟩,E⟩
       have V2:=O u;have R:Hid (Bl W w2):=ae L1.o E ρ;obtain⟨s3,a3,n3,c3,d3,rfl,-⟩:=u;obtain⟨x0,x1,x2,x3⟩:=(B3.o.below R.o (ψ i.o)).two;clear E))
  go_wp2;have b4:=B3.o.below R.o (ψ i.o)
  have hr:=cW.boxed V2.o b4;rw[HZ.o]at hr;exact aK results72 (w.heap.size+2) (b4.set2 (.bool s3) (.slice a3 n3 c3)) _ rfl underlying53 rfl di rfl
   ⟨hr,aM (ae A.o R.o (ψ i.o)) I _ _⟩
 ·have ar:(s1 == s2)=false:=by simpa using G
  obtain⟨t0,t1,t2,t3⟩:=iP B1.o B2.o (Below.refl W.heap.size _) (ψ i.o) (ψ i.o);by_cases F:val d2<=val d1
  ·have HZ:=O (add_diff U X j u G F)
   have ac:=O F;have ad:Hid (n2<=n1):=by have:=ie J.dg ag F;have:=J.len;have:=L.len;unfold Hid;omega
   have hc:0<=fC (val d1) (val d2):=by unfold fC;rw[if_neg I];split<;>omega
   generalize ab:fC (val d1) (val d2)=cc at *;have HC:=O ab;clear ab G U X j u J L F
   go_enter func72,ntmps72
   go_wp2_with fail
   rw[HW.o];refine(fQ _ _ _ _ _ _ d1 d2 _ (M1.o.below A.o) (M2.o.below A.o) af ag I I).mono ?_;rw[HC.o];rintro e w0 ⟨rfl,aa⟩;have Y:=O aa;clear aa
   go_wp2_with fail
   go_region_held3 (fun w'=>w'.cell? ⟨w.heap.size,0,none⟩=some (.bool s1)/\w'.cell? ⟨w.heap.size,1,none⟩=some (.slice a1 n1 c1) /\
    Γ2 w' (w.heap.size+1) 0 (.bool s2) (w.heap.size+1) 1 (.slice a2 n2 c2))
    (first
     | exact iP B1.o B2.o Y.o.drew (ψ i.o) (ψ i.o)
     | exact iP B1.o B2.o (Hid.o (by assumption)) (ψ i.o) (ψ i.o)
     | exact lF B1.o B2.o R.o (ψ i.o) (ψ i.o) I I _ _)
    (first
     | (go_at_call 110;refine(sB _ _ _ _ _ _ d1 d2 _ (M1.o.below (ae A.o Y.o (ψ i.o)).drew) (M2.o.below (ae A.o Y.o (ψ i.o)).drew) an ad.o ac.o).mono ?_;rintro e w1 ⟨⟨p1,q1,r1,e1,rfl,j,H,ap⟩,C⟩
        obtain⟨V1,VV⟩:=η2 j H;have L1:Hid (Bl W w1):=ae Y.o.drew C (by first|exact Nat.le_refl _|exact Y.o.size);clear j C H)
     | (go_at_call 105;refine(dM _ _ _ _ e1 _ V1.o I).mono ?_;rw[VV.o];rintro e w2 ⟨⟨v2,rfl,u⟩,E⟩
        have V2:=O u;have R:Hid (Bl W w2):=ae L1.o E ρ;obtain⟨s3,a3,n3,c3,d3,rfl,-⟩:=u;obtain⟨x0,x1,x2,x3⟩:=(B3.o.below R.o (ψ i.o)).two;clear E))
   go_wp2;have b4:=B3.o.below R.o (ψ i.o)
   have hr:=cW.boxed V2.o b4;rw[HZ.o]at hr;exact aK results72 (w.heap.size+2) (b4.set2 (.bool s3) (.slice a3 n3 c3)) _ rfl underlying53 rfl di rfl
    ⟨hr,aM (ae A.o R.o (ψ i.o)) I _ _⟩
  ·have HZ:Hid (sgn s2 (val d2-val d1)=x+y):=by unfold Hid;rw[Int.add_comm];exact add_diff X U u j (fun h=>G h.symm) I
   have ac:Hid (val d1<=val d2):=by unfold Hid;omega
   have ad:Hid (n1<=n2):=by have:=ie L.dg af ac.o;have:=J.len;have:=L.len;unfold Hid;omega
   have hc:fC (val d1) (val d2)<0:=by unfold fC;rw[if_pos I];omega
   generalize ab:fC (val d1) (val d2)=cc at *;have HC:=O ab;clear ab G U X j u J L F
   go_enter func72,ntmps72
   go_wp2_with fail
   rw[HW.o];refine(fQ _ _ _ _ _ _ d1 d2 _ (M1.o.below A.o) (M2.o.below A.o) af ag I I).mono ?_;rw[HC.o];rintro e w0 ⟨rfl,aa⟩;have Y:=O aa;clear aa
   go_wp2_with fail
   go_region_held3 (fun w'=>w'.cell? ⟨w.heap.size,0,none⟩=some (.bool s1)/\w'.cell? ⟨w.heap.size,1,none⟩=some (.slice a1 n1 c1) /\
    Γ2 w' (w.heap.size+1) 0 (.bool s2) (w.heap.size+1) 1 (.slice a2 n2 c2))
    (first
     | exact iP B1.o B2.o Y.o.drew (ψ i.o) (ψ i.o)
     | exact iP B1.o B2.o (Hid.o (by assumption)) (ψ i.o) (ψ i.o)
     | exact lF B1.o B2.o R.o (ψ i.o) (ψ i.o) I I _ _)
    (first
     | (go_at_call 110;refine(sB _ _ _ _ _ _ d2 d1 _ (M2.o.below (ae A.o Y.o (ψ i.o)).drew) (M1.o.below (ae A.o Y.o (ψ i.o)).drew) ao ad.o ac.o).mono ?_;rintro e w1 ⟨⟨p1,q1,r1,e1,rfl,j,H,ap⟩,C⟩
        obtain⟨V1,VV⟩:=η2 j H;have L1:Hid (Bl W w1):=ae Y.o.drew C (by first|exact Nat.le_refl _|exact Y.o.size);clear j C H)
     | (go_at_call 105;refine(dM _ _ _ _ e1 _ V1.o I).mono ?_;rw[VV.o];rintro e w2 ⟨⟨v2,rfl,u⟩,E⟩
        have V2:=O u;have R:Hid (Bl W w2):=ae L1.o E ρ;obtain⟨s3,a3,n3,c3,d3,rfl,-⟩:=u;obtain⟨x0,x1,x2,x3⟩:=(B3.o.below R.o (ψ i.o)).two;clear E))
   go_wp2;have b4:=B3.o.below R.o (ψ i.o)
   have hr:=cW.boxed V2.o b4;rw[HZ.o]at hr;exact aK results72 (w.heap.size+2) (b4.set2 (.bool s3) (.slice a3 n3 c3)) _ rfl underlying53 rfl di rfl
    ⟨hr,aM (ae A.o R.o (ψ i.o)) I _ _⟩
theorem prod_bd{x y:Nat}(j:x<4294967296)(u:y<4294967296):0<=(x:Int)*(y:Int)/\(x:Int)*(y:Int)<=18446744065119617025:=by
 have e:x*y<=4294967295*4294967295:=Nat.mul_le_mul I I;have i:((x*y:Nat):Int)=(x:Int)*(y:Int):=Int.natCast_mul x y;omega
theorem mf{x y:Nat}(i:x<4294967296)(j:y<4294967296):x*y<=18446744065119617025:=by
 have e:x*y<=4294967295*4294967295:=Nat.mul_le_mul I I;omega
theorem mul_sgn{x y:Int}{s1 s2:Bool}{n m:Nat}(e:s1=decide (x<0))(i:s2=decide (y<0))(u:n=x.natAbs)(j:m=y.natAbs):sgn (!(s1 == s2)) (n*m)=x*y:=by
 subst u j;have A:x=sgn s1 x.natAbs:=by rw[e];unfold sgn;by_cases h:x<0<;>simp[h]<;>omega
 have C:y=sgn s2 y.natAbs:=by rw[i];unfold sgn;by_cases h:y<0<;>simp[h]<;>omega
 generalize x.natAbs=n at *;generalize y.natAbs=m at *;rw[A,C];cases s1<;>cases s2<;>simp[sgn,Int.neg_mul,Int.mul_neg]
def MulO(xs ys:List Nat)(lb i:Nat)(ds:List Nat):Prop:=Dg ds/\val ds=val (xs.take i)*val ys/\∀j,i+lb<=j->ds.getD j 0=0
def qY(ds0 ys:List Nat)(x i k c:Nat)(ds:List Nat):Prop:=Dg ds/\ds.length=ds0.length/\val ds+B ^ (i+k)*c=val ds0+x*(B ^ i*val (ys.take k))/\∀j,i+k<=j->ds.getD j 0=ds0.getD j 0
theorem qY.start{e j:List Nat}(h:Dg e)(x i:Nat):qY e j x i 0 0 e:=⟨h,rfl,by simp[val],fun _ _=>rfl⟩
theorem qY.step{u A e:List Nat}{x i k c:Nat}(h:qY u A x i k c e)(J:i+k<e.length)(H:k<A.length)(s:Nat)(L:s=c+(x*A.getD k 0+e.getD (i+k) 0)):
 qY u A x i (k+1) (s / B) (e.set (i+k) (s % B)):=by
 obtain⟨C,E,F,G⟩:=h;refine⟨C.set _ _ (Nat.mod_lt _ jo),by simpa using E,?_,fun j U=>?_⟩
 ·have R:=ta e (i+k) (s % B) J
  rw[bO A k H];have:=mul_step _ _ _ _ _ _ _ _ _ _ F L R;rw[<-Nat.add_assoc,Nat.pow_succ,this,Nat.mul_add (B ^ i),Nat.mul_add x,Nat.pow_add,Nat.mul_assoc]
 ·rw[bY _ _ _ _ I];exact G j I
theorem qY.stop{xs u e A:List Nat}{lb i c:Nat}(h0:MulO xs u lb i e)(L:u.length=lb)(hi:i<xs.length)(h:qY e u (xs.getD i 0) i lb c A)(J:i+lb<A.length)(hc:c<B):
 MulO xs u lb (i+1) (A.set (i+lb) c):=by
 obtain⟨G,U,H,C⟩:=h;obtain⟨X,R,F⟩:=h0;refine⟨G.set _ _ hc,?_,fun j W=>?_⟩
 ·have E:=ta A (i+lb) c J
  rw[C (i+lb) ρ,F (i+lb) ρ,Nat.mul_zero,Nat.add_zero]at E;rw[E,H,R,bO xs i hi,List.take_of_length_le (by omega:u.length<=lb),Nat.add_mul]
  congr 1
  rw[<-Nat.mul_assoc,Nat.mul_comm (xs.getD i 0)]
 ·rw[bY _ _ _ _ I,C j I,F j I]
theorem fG(va vb:Value)(x y:Int)(w:World)(ha:aO w va x)(hb:aO w vb y)(sx:Small x)(sy:Small y):
 Calls prog 68 #[va,vb] w fun e w'=>cW w' e (x*y)/\Bl w w':=by
 obtain⟨s1,a1,n1,c1,xs,rfl,a0,ag,bV,a5,bF⟩:=ha.open sx;obtain⟨s2,a2,n2,c2,ys,rfl,a4,an,b0,J,bI⟩:=hb.open sy;obtain⟨M1,M2,a9,bc⟩:=η4 ag an ag.len an.len;obtain⟨W,hW,b1,b2,b3,hB,hS⟩:=cC w #[.bool s1,.slice a1 n1 c1] #[.bool s2,.slice a2 n2 c2] #[.bool false,.slice none 0 0] 53 53 53;obtain⟨ac,C,B1,B2,B3,HW,bg,bi,bk⟩:=η9 hB hS b1 b2 b3 hW a0 a4 a5;have bl:=O J;clear hB hS b1 b2 b3 hW ha hb sx sy ag an a0 a4 a5 J
 go_enter func68,ntmps68
 go_wp2_with (at_make;rw[HW.o];refine gI _ rfl _ _ rfl _ _ _ _ rfl rfl (n1+n2) ?c1 ?c2 ?c3 ?_)
 case c1=>omega
 case c2=>omega
 case c3=>omega
 intro w0 H F;obtain⟨HO,HG⟩:=η2 H F;obtain⟨g,hg⟩:=χ W.heap.size;(try unfold Bl at HO);rw[hg]at HO⊢;clear H F;have ar:=O hg;clear hg;obtain⟨t0,t1,t2,t3⟩:=iP B1.o B2.o HG.o (ψ C.o) (ψ C.o);go_wp2;clear t0 t1 t2 t3
 go_loopw [22] (fun i wr=>∃k ds,k<=n1/\i=.int .i64 (k:Nat)/\Own wr g (n1+n2) ds/\MulO xs ys n2 k ds/\Bl W wr) (fun i _=>n1-(intOf i).toNat)
 case atStart=>exact⟨0,_,Nat.zero_le _,rfl,HO.o,⟨Dg.zeros _,by simp[val,rK],fun j _=>by simp[List.getElem?_replicate];split<;>rfl⟩,HG.o⟩
 case round =>
  obtain⟨i,ds,hi,rfl,u,A,E⟩:=hrel;obtain⟨ad,HM,ab⟩:=η3 u A E;obtain⟨t0,t1,t2,t3⟩:=iP B1.o B2.o E (ψ C.o) (ψ C.o);clear u A HO HG;by_cases ay:i<n1
  ·obtain⟨ba,oa,rfl,bm,bv,hx⟩:=(M1.o.below (ae ac.o E (ψ C.o))).cells I
   have ao:=hx i ay;obtain⟨R,X⟩:=χ (xs.getD i 0);rw[X]at ao;have a7:R<4294967296:=by have:=M1.o.dg.getD i;rw[X]at this;exact this
   have HX:=O X;clear hx X E bm;go_wp2;obtain⟨wo,a6⟩:∃wo:World,wo=wr:=⟨_,rfl⟩;rw[<-a6]at ad ab t0 t1 t2 t3 ao⊢;clear a6;clear t0 t1 t2 t3 ao
   go_loopw [8,30] (fun c kk wi=>∃k L G,k<=n2/\kk=.int .i64 (k:Nat)/\L<4294967296/\c=.int .u64 (L:Nat)/\Own wi g (n1+n2) G/\qY ds ys R i k L G/\Bl W wi) (fun _ kk _=>n2-(intOf kk).toNat)
   case atStart=>exact⟨0,0,ds,Nat.zero_le _,rfl,by omega,rfl,ad.o,qY.start HM.o.1 _ _,ab.o⟩
   case round =>
    obtain⟨k,L,G,hk,rfl,br,rfl,u,A,E⟩:=hrel;obtain⟨au,bu,ap⟩:=η3 u A E;obtain⟨t0,t1,t2,t3⟩:=iP B1.o B2.o E (ψ C.o) (ψ C.o);by_cases aw:k<n2
    ·obtain⟨bb,ob,rfl,bp,bz,hy⟩:=(M2.o.below (ae ac.o E (ψ C.o))).cells I
     have bt:=hy k aw;obtain⟨dy,Y⟩:=χ (ys.getD k 0);rw[Y]at bt;have a8:dy<4294967296:=by have:=M2.o.dg.getD k;rw[Y]at this;exact this
     have HY:=O Y;have az:=u.cell (i+k) I;have bs:=u.free (i+k);obtain⟨od,U⟩:=χ (G.getD (i+k) 0);rw[U]at az;have b5:od<4294967296:=by have:=A.1.getD (i+k);rw[U]at this;exact this
     have be:=O U;obtain⟨b6,b7⟩:=prod_bd a7 a8;have af:Hid (qY ds ys R i (k+1) ((L+(R*dy+od)) / B) (G.set (i+k) ((L+(R*dy+od)) % B))):=by
      have:=A.step (by rw[u.len];omega) (by rw[bc.o];exact aw) (L+(R*dy+od)) (by rw[HY.o,be.o]);exact this
     clear hy Y E bp u A U;have bf:=O (mf a7 a8);go_wp2
     go_roundw
     case rel =>
      have:=bf.o;refine⟨k+1,(L+(R*dy+od)) / 4294967296,_,by omega,by go_num,by omega,by rfl,au.o.stored _ _ _ (by rfl),af.o,ap.o.setCell (by have:=ar.o;simp;omega) _⟩
     case measure=>simp[intOf];omega
    ·obtain rfl:k=n2:=I
     have az:=u.cell (i+k) I;have bs:=u.free (i+k);have af:Hid (MulO xs ys k (i+1) (G.set (i+k) L)):=by
      have:=qY.stop HM.o bc.o (by rw[a9.o];exact ay) (by rw[HX.o];exact A) (by rw[u.len];omega) br;exact this
     clear E u A;go_wp2
     go_roundw
     case rel=>exact⟨i+1,_,by omega,by go_num,au.o.stored _ _ _ I,af.o,ap.o.setCell (by have:=ar.o;simp;omega) _⟩
     case measure=>simp[intOf];omega
  ·obtain rfl:i=n1:=I
   clear E
   go_wp2_with fail
   refine(dM _ _ _ _ ds _ (ad.o.mag HM.o.1) I).mono ?_;have aa:val ds=val xs*val ys:=by rw[HM.o.2.1,List.take_of_length_le (by rw[a9.o];omega)]
   rw[aa,mul_sgn bg.o bi.o bk.o bl.o];rintro e w2 ⟨⟨v2,rfl,J⟩,av⟩;have V2:=O J;have L2:Hid (Bl W w2):=ae ab.o av ρ;obtain⟨s3,a3,n3,c3,d3,rfl,-⟩:=J;obtain⟨x0,x1,x2,x3⟩:=(B3.o.below L2.o (ψ C.o)).two;clear av aa t0 t1 t2 t3;go_wp2;have b4:=B3.o.below L2.o (ψ C.o);exact aK results68 (w.heap.size+2) (b4.set2 (.bool s3) (.slice a3 n3 c3)) _ rfl underlying53 rfl di rfl
    ⟨cW.boxed V2.o b4,aM (ae ac.o L2.o (ψ C.o)) I _ _⟩
section
def jW(P:Program)(o:Oper)(Q:Exit->Act->World->Prop):Exit->Act->World->Prop
 | .normal,a,w=>o.wp P a w (fun a w=>Q .normal a w) Q
 | e,a,w=>Q e a w
def ow(init:Array Oper)(o:Oper):Bool:=
 o.guard.isNone&&(o.after.all fun e=>decide (e.on<init.size)) &&
 ((List.range init.size).all fun j=>o.after.any fun e=>Region.binds .any e&&e.on == j) &&
 ((List.range init.size).all fun j=>((init[j]?).map fun oj=>oj.guard.isNone&&oj.after.all fun e=>decide (e.on<j)).getD false)
section
variable {P : Program} {Q : Exit → Act → World → Prop} {init : Array Oper} {o : Oper}
theorem fS(h:ow init o=true):o.guard=none/\(∀e∈o.after,e.on<init.size)/\(∀j,j<init.size->∃e∈o.after,Region.binds .any e=true/\e.on=j) /\
 ∀(j:Nat) (u:Oper),init[j]?=some u->u.guard=none/\∀e∈u.after,e.on<j:=by
 unfold ow at h;simp only[Bool.and_eq_true]at h;obtain⟨⟨⟨E,F⟩,G⟩,H⟩:=h;refine⟨by simpa using E,fun e A=>?_,fun j C=>?_,fun j u i=>?_⟩
 ·have:=Array.all_eq_true_iff_forall_mem.mp F e A
  exact of_decide_eq_true this
 ·have:=List.all_eq_true.mp G j (List.mem_range.mpr C)
  obtain⟨k,J,hb⟩:=Array.any_eq_true.mp this;rw[Bool.and_eq_true,beq_iff_eq]at hb;exact⟨o.after[k],Array.getElem_mem J,hb.1,hb.2⟩
 ·have C:=(Array.getElem?_eq_some_iff.mp i).1
  have:=List.all_eq_true.mp H j (List.mem_range.mpr C);rw[i]at this;simp only[Option.map_some,Option.getD_some,Bool.and_eq_true]at this;exact⟨by simpa using this.1,fun e A=>of_decide_eq_true (Array.all_eq_true_iff_forall_mem.mp this.2 e A)⟩
theorem qT(h:ow init o=true){i:Array Bool}(J:i.size=init.size)(H:Region.ready .any init i=[]):∀j,j<init.size->i.getD j false=true:=by
 intro j
 induction j using Nat.strongRecOn with
 | _ j ih =>
  intro G;refine Classical.byContradiction fun hc=>?_
  obtain⟨A,u⟩:∃A,init[j]?=some A:=⟨_,Array.getElem?_eq_getElem G⟩;have E:j∈Region.ready .any init i:=mem_ready.mpr ⟨by
   rw[Array.getD_eq_getD_getElem?,Array.getElem?_eq_getElem I]at hc⊢
   simpa using hc,A,u,fun e F _=>by
   have C:e.on<j:=((fS h).2.2.2 j A u).2 e F;exact ih e.on C I⟩
  rw[H]at E;cases E
theorem ii{e:Array Bool}{j:Nat}{d b:Bool}(i:j<e.size):(e.push b).getD j d=e.getD j d:=by
 rw[Array.getD_eq_getD_getElem?,Array.getD_eq_getD_getElem?,Array.getElem?_push_lt i,Array.getElem?_eq_getElem i]
theorem upon_last{r:Result Go.Next}{i:Oper}{a:Act}{K:Act->World->Prop}(h:i.upon P a K (jW P o Q) r):i.upon P a K Q r:=by
 cases r with
 | ok n w'=>cases n<;>simp only[Oper.upon]at h⊢<;> first|exact h|exact Calls.mono h (fun e u j=>by cases e<;>exact j)
 | halt x w'=>cases x<;>simp only[Oper.upon]at h⊢<;> exact h
theorem ready_init{j:Array Bool}(H:j.size=init.size){i:Nat}(hi:i<init.size):i∈Region.ready .any (init.push o) (j.push false)↔i∈Region.ready .any init j\/(i∈Region.ready .any (init.push o) (j.push false)/\∃E,init[i]?=some E/\∃e∈E.after,¬ e.on<init.size):=by
 rw[mem_ready,mem_ready,ii I,Array.getElem?_push_lt hi,Array.getElem?_eq_getElem hi]
 constructor
 ·rintro⟨G,E,A,u⟩
  by_cases C:∀e∈E.after,e.on<init.size
  ·exact .inl ⟨G,E,A,fun e F hb=>by have:=u e F hb;rwa [ii (by have:=C e F;omega)]at this⟩
  ·refine .inr ⟨⟨G,E,A,u⟩,E,A,Classical.byContradiction fun hc=>C fun e F=>Classical.byContradiction fun h=>hc ⟨e,F,h⟩⟩
 ·rintro(⟨G,E,A,u⟩|⟨h,_⟩)
  ·refine⟨G,E,A,fun e F hb=>?_⟩
   have:=u e F hb;have C:e.on<j.size:=Classical.byContradiction fun hc=>by
    rw[Array.getD_eq_getD_getElem?,Array.getElem?_eq_none I]at this;cases this
   rw[ii C];exact this
  ·exact h
theorem jY(h:ow init o=true){j:Array Bool}(F:j.size=init.size){i:Nat}(hi:i<init.size):i∈Region.ready .any (init.push o) (j.push false)↔i∈Region.ready .any init j:=by
 rw[ready_init F hi]
 constructor
 ·rintro(A|⟨_,G,u,e,C,E⟩)
  ·exact A
  ·have:=((fS h).2.2.2 i G u).2 e C;omega
 ·exact .inl
theorem pR(h:ow init o=true){i:Array Bool}(G:i.size=init.size):init.size∈Region.ready .any (init.push o) (i.push false)↔∀j,j<init.size->i.getD j false=true:=by
 rw[mem_ready]
 constructor
 ·rintro⟨_,H,A,u⟩ j F
  rw[Array.getElem?_push_size]at A;cases A;obtain⟨e,C,hb,rfl⟩:=(fS h).2.2.1 j F;have:=u e C hb
  rwa [ii I]at this
 ·intro u
  refine⟨by rw[Array.getD_eq_getD_getElem?,<-G,Array.getElem?_push_size];rfl,o,Array.getElem?_push_size,fun e C _=>?_⟩;have E:=(fS h).2.1 e C;rw[ii I];exact u _ E
theorem iZ{A:Region.Mode}{j:Array Oper}{e:Array Bool}{i:Nat}(h:i∈Region.ready A j e):i<j.size:=by
 obtain⟨_,C,u,_⟩:=mem_ready.mp h;exact(Array.getElem?_eq_some_iff.mp u).1
theorem ready_full{u:Array Bool}(F:u.size=init.size)(C:∀j,j<init.size->u.getD j false=true):Region.ready .any (init.push o) ((u.push false).setIfInBounds init.size true)=[]:=by
 refine List.eq_nil_iff_forall_not_mem.mpr fun i hi=>?_
 have E:=iZ hi;rw[Array.size_push]at E;obtain⟨A,-⟩:=mem_ready.mp hi;by_cases e:i=init.size
 ·subst e
  rw[Array.getD_eq_getD_getElem?,Array.getElem?_setIfInBounds_self_of_lt (by simp;omega)]at A;cases A
 ·rw[getD_set_ne true (fun h=>e h.symm),ii I]at A
  have:=C i I;rw[Array.getD_eq_getD_getElem?,Array.getElem?_eq_getElem I]at A this;simp at A this;rw[A]at this;cases this
theorem wpAny_pop(h:ow init o=true):∀(A:Nat) (u:Array Bool) (a:Act) (w:World),u.size=init.size->wpAny P .any init (jW P o Q) A u a w->wpAny P .any (init.push o) Q (A+1) (u.push false) a w:=by
 have G:∀(A:Nat) (u:Array Bool) (a:Act) (w:World),u.size=init.size->(∀j,j<init.size->u.getD j false=true)->jW P o Q .normal a w ->
  wpOp P (init.push o) Q init.size (wpAny P .any (init.push o) Q A ((u.push false).setIfInBounds init.size true)) a w:=by
  intro A u a w C E hn;unfold wpOp;rw[Array.getElem?_push_size];dsimp only;rw[if_pos (by simp[Region.wanted,(fS h).1])];refine .inl (Oper.wp_mono (fun a' w' hq=>?_) hn);have J:=ready_full (o:=o) C E
  cases A with
  | zero=>exact⟨J,hq⟩
  | succ f=>exact⟨fun _=>hq,by rw[J];simp⟩
 have F:∀(u:Array Bool),u.size=init.size->Region.ready .any (init.push o) (u.push false)≠[]:=by
  intro u C L;by_cases J:Region.ready .any init u=[]
  ·have:=(pR h C).mpr (qT h C J)
   rw[L]at this;cases this
  ·obtain⟨i,hi⟩:=List.exists_mem_of_ne_nil _ J
   have:=(jY h C (iZ hi)).mpr hi;rw[L]at this;cases this
 intro A
 induction A with
 | zero =>
  intro u a w C R;refine⟨fun L=>absurd L (F u C),fun i hi=>?_⟩;have H:=iZ hi;rw[Array.size_push]at H;by_cases e:i=init.size
  ·subst e
   exact G 0 u a w C (qT h C R.1) R.2
  ·have:=(jY h C I).mp hi
   rw[R.1]at this;cases this
 | succ A ih =>
  intro u a w C R;refine⟨fun L=>absurd L (F u C),fun i hi=>?_⟩;have H:=iZ hi;rw[Array.size_push]at H;by_cases e:i=init.size
  ·subst e
   have E:=(pR h C).mp hi;have J:Region.ready .any init u=[]:=List.eq_nil_iff_forall_not_mem.mpr fun j hj=>by
    obtain⟨X,-⟩:=mem_ready.mp hj;have:=E j (iZ hj);have aa:=iZ hj;rw[Array.getD_eq_getD_getElem?,Array.getElem?_eq_getElem I]at X this;simp at X this;rw[X]at this;cases this
   exact G (A+1) u a w C E (R.1 J)
  ·have Y:=(jY h C I).mp hi
   have hop:=R.2 i Y;unfold wpOp at hop⊢;rw[Array.getElem?_push_lt I,<-Array.getElem?_eq_getElem I];obtain⟨oi,U⟩:∃oi,init[i]?=some oi:=⟨_,Array.getElem?_eq_getElem I⟩;rw[U]at hop⊢;dsimp only at hop⊢;have hg:=((fS h).2.2.2 i oi U).1;rw[if_pos (by simp[Region.wanted,hg])]at hop⊢;have W:(u.push false).setIfInBounds i true=(u.setIfInBounds i true).push false:=by
    apply Array.ext_getElem?;intro j;rw[Array.getElem?_setIfInBounds,Array.getElem?_push,Array.getElem?_push,Array.getElem?_setIfInBounds,Array.size_setIfInBounds];by_cases e1:i=j
    ·subst e1;simp[C,show i<init.size by omega,show ¬ i=init.size from e];omega
    ·simp[e1]
   rcases hop with hop|⟨ha,ao,wo,hl⟩
   ·refine .inl (upon_last (o:=o) (Oper.wp_mono (fun a' w' hk=>?_) hop))
    rw[W];exact ih _ a' w' (by rw[Array.size_setIfInBounds];exact C) hk
   ·exact .inr ⟨ha,ao,wo,hl⟩
theorem o4{id:Nat}{S:World->Prop}{a:Act}{w:World}(e:P.follows .mixedOrders=true)(h:ow init o=true)(i:wpAnyH P .any init (jW P o Q) S init.size (Array.replicate init.size false) a w.drew):(Code.region id (init.push o) true).wp P Q a w:=by
 refine wp_region_any e ?_;rw[Array.size_push,Array.replicate_succ];exact wpAny_pop h _ _ a _ (by simp) (wpAny_of_held _ _ _ _ i)
theorem gO{id:Nat}{S:World->Prop}{a:Act}{w:World}{l:List Oper}(i:l≠[])(j:P.follows .mixedOrders=true)(h:ow l.dropLast.toArray (l.getLast i)=true)(u:wpAnyH P .any l.dropLast.toArray (jW P (l.getLast i) Q) S l.dropLast.length (Array.replicate l.dropLast.length false) a w.drew):(Code.region id l.toArray true).wp P Q a w:=by
 have e:l.toArray=l.dropLast.toArray.push (l.getLast i):=by
  rw[List.push_toArray,List.dropLast_concat_getLast i]
 rw[e];exact o4 j h (by simpa using u)
end
end
structure Later (n:Nat) (W:World) where
 w:World
 h:Below n W w
instance (n : Nat) (W : World) : Nonempty (Later n W) := ⟨⟨W, Below.refl _ _⟩⟩
theorem eR{P:Program}{id:Nat}{Q:Exit->Act->World->Prop}{a:Act}{w W:World}{n:Nat}{l:List Oper}(u:Below n W w)(j:P.follows .mixedOrders=true)(i:Region.lexB .any l.toArray=true)(h:wpQuiet P l.toArray (fun w'=>∃x:Later n W,w'=x.w) (fun e=>∀w',(∃x:Later n W,w'=x.w)->Q .normal e w') l a):(Code.region id l.toArray true).wp P Q a w:=
 wp_region_quiet (C:=fun w'=>∃x:Later n W,w'=x.w) j i ⟨⟨_,u.drew⟩,rfl⟩ (by simpa using h)
theorem Calls.later{P:Program}{f:FuncId}{args:Array Value}{n:Nat}{W:World}{x:Later n W}{v:Value}(u:n<=W.heap.size)(h:Calls P f args x.w fun e w'=>e=.returned v/\Below x.w.heap.size x.w w'):Calls P f args x.w fun e i=>e=.returned v/\∃y:Later n W,i=y.w:=
 h.mono fun _ _ ⟨j,hb⟩=>⟨j,⟨_,ae x.h hb u⟩,rfl⟩
end Go.Proofs.Υ
