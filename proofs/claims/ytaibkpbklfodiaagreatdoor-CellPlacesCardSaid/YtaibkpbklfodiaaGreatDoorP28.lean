/- Values that stay while cells of other types are written. -/
import Derived.Test.YtaibkpbklfodiaaGreatDoorP19
import Derived.Test.YtaibkpbklfodiaaGreatDoorP27
set_option linter.all false
set_option maxHeartbeats 100000000
section
namespace Dowel
open Go Go.RowKit
def dL (X:Nat→Prop) (W:World):Prop:=∀ k,X k→∀ cs,W.heap[k]?≠some (.cells cs 191 (0,0))
theorem dL.none (W:World):dL (fun _=>False) W:=fun _ h=>h.elim
theorem dL.box {W:World} {k:Nat} {cs:Array Value} {t:TypeId} (h:Box W k cs t) (ht:t≠191):dL (fun j=>j=k) W:=fun j e cs' h2=>by
 subst e;have h1:W.heap[j]?=some (.cells cs t (0,0)):=h;rw [h1] at h2;injection h2 with h2
 injection h2 with _ h2 _
 exact ht h2
section
variable {n0 : Nat} {X : Nat → Prop} {W W' : World}
theorem Mag.keepC {a:Option Addr} {n cap:Nat} {ds:List Nat} (h:Mag W a n cap ds) (hk:KeepC n0 X W W') (hX:dL X W):Mag W' a n cap ds:=by
 have hb:∀ x,a=some x→W'.heap[x.block]?=W.heap[x.block]? := fun x hx=>by
  obtain ⟨cs,h1⟩:=h.ty x hx;rw [hk.same x.block cs _ _ (fun hx2=>hX _ hx2 _ h1) h1,h1]
 refine ⟨⟨h.sl.le,h.sl.len,h.sl.nil,fun x hx=>?_⟩,h.dg,h.len,fun x hx=>by rw [hb x hx];exact h.ty x hx⟩;obtain ⟨h1,h2,h3⟩:=h.sl.at_ x hx;refine ⟨h1,Nat.lt_of_lt_of_le h2 hk.size,fun i hi=>?_⟩;have:=h3 i hi;unfold World.cell? at this ⊢;rw [show (⟨x.block,x.off+i,none⟩:Addr).block=x.block from rfl] at this ⊢;rw [hb x hx];exact this
theorem aN.keepC {v:Value} {z:Int} (h:aN W v z) (hk:KeepC n0 X W W') (hX:dL X W):aN W' v z:=by
 obtain ⟨s,a,n,cap,ds,h1,hs,h2,h3,h4⟩:=h;exact ⟨s,a,n,cap,ds,h1,hs,h2.keepC hk hX,h3,h4⟩
theorem am.keepC {v:Value} {q:Rat} (h:am W v q) (hk:KeepC n0 X W W') (hX:dL X W):am W' v q:=by
 obtain ⟨s1,a1,n1,c1,s2,a2,n2,c2,d,h1,h2,h3,h4⟩:=h;exact ⟨s1,a1,n1,c1,s2,a2,n2,c2,d,h1,h2.keepC hk hX,h3.keepC hk hX,h4⟩
theorem aA.keepC {v:Value} {q:Q3} (h:aA W v q) (hk:KeepC n0 X W W') (hX:dL X W):aA W' v q:=by
 obtain ⟨r0,r1,r2,h1,h2,h3,h4⟩:=h;exact ⟨r0,r1,r2,h1,h2.keepC hk hX,h3.keepC hk hX,h4.keepC hk hX⟩
theorem Box.keepC {k:Nat} {cs:Array Value} {t:TypeId} (h:Box W k cs t) (hk:KeepC n0 X W W') (hX:¬ X k):Box W' k cs t:=hk.same k cs t _ hX h
end
theorem FRow.nth {w:World} {base:Nat} {v:Value} {qs:List (Q3 × Rat)} {rs:List FR} (h:FRow w base v qs rs) (i:Nat) (hi:i<rs.length) :
  ∃ b cap r,v=.slice (some ⟨b,0,none⟩) rs.length cap∧b<w.heap.size∧rs[i]?=some r∧∀ j,j<17→w.cell? ⟨b,i*17+j,none⟩=(dj r)[j]? := by
 obtain ⟨hl,⟨_,h0⟩ | ⟨g,cap,cur,rfl,hg,hh,hn,hm,hs,ht⟩⟩:=h.own
 ·omega
 ·obtain ⟨r,hr⟩:∃ r,rs[i]?=some r:=⟨_,List.getElem?_eq_getElem hi⟩
  refine ⟨g,cap,r,rfl,(Array.getElem?_eq_some_iff.1 hh).1,hr,fun j hj=>?_⟩;have hlt:i*17+j<rs.length*17:=ω;rw [World.ownsRow.cellAt h.own (i*17+j) hlt];exact ia dj 17 nh rs i j r hr hj
end Dowel
end
