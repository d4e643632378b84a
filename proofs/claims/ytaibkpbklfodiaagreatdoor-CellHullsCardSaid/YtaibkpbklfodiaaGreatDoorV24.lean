/- Values that stay while cells of other types are written. -/
import Derived.Test.YtaibkpbklfodiaaGreatDoorV19
import Derived.Test.YtaibkpbklfodiaaGreatDoorV23
set_option linter.all false
/- Values that stay while cells of other types are written. -/
section
namespace Dowel
open Go Go.RowKit
def NoDigs (X:Nat→Prop) (W:World):Prop:=∀ k,X k→∀ cs,W.heap[k]?≠some (.cells cs 191 (0,0))
theorem NoDigs.none (W:World):NoDigs (fun _=>False) W:=fun _ h=>h.elim
theorem NoDigs.box {W:World} {k:Nat} {cs:Array Value} {t:TypeId} (h:Box W k cs t) (ht:t≠191):NoDigs (fun j=>j=k) W:=fun j e cs' h2=>by
 subst e
 have h1:W.heap[j]?=some (.cells cs t (0,0)):=h
 rw [h1] at h2
 injection h2 with h2
 injection h2 with _ h2 _
 exact ht h2
section
variable {n0 : Nat} {X : Nat → Prop} {W W' : World}
theorem Mag.keepC {a:Option Addr} {n cap:Nat} {ds:List Nat} (h:Mag W a n cap ds) (hk:KeepC n0 X W W') (hX:NoDigs X W):Mag W' a n cap ds:=by
 have hb:∀ x,a=some x→W'.heap[x.block]?=W.heap[x.block]? := fun x hx=>by
  obtain ⟨cs,h1⟩:=h.ty x hx
  rw [hk.same x.block cs _ _ (fun hx2=>hX _ hx2 _ h1) h1,h1]
 refine ⟨⟨h.sl.le,h.sl.len,h.sl.nil,fun x hx=>?_⟩,h.dg,h.len,fun x hx=>by rw [hb x hx];exact h.ty x hx⟩
 obtain ⟨h1,h2,h3⟩:=h.sl.at_ x hx
 refine ⟨h1,Nat.lt_of_lt_of_le h2 hk.size,fun i hi=>?_⟩
 have:=h3 i hi
 unfold World.cell? at this ⊢
 rw [show (⟨x.block,x.off+i,none⟩:Addr).block=x.block from rfl] at this ⊢
 rw [hb x hx];exact this
theorem IsInt.keepC {v:Value} {z:Int} (h:IsInt W v z) (hk:KeepC n0 X W W') (hX:NoDigs X W):IsInt W' v z:=by
 obtain ⟨s,a,n,cap,ds,h1,hs,h2,h3,h4⟩:=h
 exact ⟨s,a,n,cap,ds,h1,hs,h2.keepC hk hX,h3,h4⟩
theorem IsRat.keepC {v:Value} {q:Rat} (h:IsRat W v q) (hk:KeepC n0 X W W') (hX:NoDigs X W):IsRat W' v q:=by
 obtain ⟨s1,a1,n1,c1,s2,a2,n2,c2,d,h1,h2,h3,h4⟩:=h
 exact ⟨s1,a1,n1,c1,s2,a2,n2,c2,d,h1,h2.keepC hk hX,h3.keepC hk hX,h4⟩
theorem IsVec.keepC {v:Value} {q:Q3} (h:IsVec W v q) (hk:KeepC n0 X W W') (hX:NoDigs X W):IsVec W' v q:=by
 obtain ⟨r0,r1,r2,h1,h2,h3,h4⟩:=h
 exact ⟨r0,r1,r2,h1,h2.keepC hk hX,h3.keepC hk hX,h4.keepC hk hX⟩
theorem Box.keepC {k:Nat} {cs:Array Value} {t:TypeId} (h:Box W k cs t) (hk:KeepC n0 X W W') (hX:¬ X k):Box W' k cs t:=hk.same k cs t _ hX h
end
theorem FRow.nth {w:World} {base:Nat} {v:Value} {qs:List (Q3 × Rat)} {rs:List FR} (h:FRow w base v qs rs) (i:Nat) (hi:i<rs.length) :
  ∃ b cap r,v=.slice (some ⟨b,0,none⟩) rs.length cap∧b<w.heap.size∧rs[i]?=some r∧∀ j,j<17→w.cell? ⟨b,i*17+j,none⟩=(face17 r)[j]? := by
 obtain ⟨hl,⟨_,h0⟩ | ⟨g,cap,cur,rfl,hg,hh,hn,hm,hs,ht⟩⟩:=h.own
 ·omega
 ·obtain ⟨r,hr⟩:∃ r,rs[i]?=some r:=⟨_,List.getElem?_eq_getElem hi⟩
  refine ⟨g,cap,r,rfl,(Array.getElem?_eq_some_iff.1 hh).1,hr,fun j hj=>?_⟩
  have hlt:i*17+j<rs.length*17:=by omega
  rw [World.ownsRow.cellAt h.own (i*17+j) hlt]
  exact flat_cell face17 17 face17_len rs i j r hr hj
theorem KeepC.set {n0:Nat} {X:Nat→Prop} {W:World} {k:Nat} (hX:X k) (hk:n0≤k) (hn:n0≤W.heap.size) (i:Nat) (v:Value):KeepC n0 X W (W.setCell ⟨k,i,none⟩ v):=
 KeepC.grown (grown_set W k i v) hn fun r e=>by cases e;exact ⟨hk,.inl hX⟩
end Dowel
end
