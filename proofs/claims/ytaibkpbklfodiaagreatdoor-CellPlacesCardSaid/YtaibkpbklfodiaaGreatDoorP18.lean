/- append of a slice, nil or not, to a slice of one's own. -/
import Derived.Test.YtaibkpbklfodiaaGreatDoorPA
import Derived.Deep.AppendLies
import Derived.Deep.Upon
set_option linter.all false
set_option maxHeartbeats 100000000
section
namespace Dowel
open Go
def iA (w:World) (size:Nat) (a:Option Addr) (m:Nat) (news:List Value):Prop:=
 news.length=m*size∧((a=none∧m=0)∨∃ ad,a=some ad∧∀ j u,news[j]?=some u→w.cell? (ad.add j)=some u)
section
variable {P : Program} (w : World)
theorem mI (base:Nat) (t ty e:TypeId) (i:TypeInfo) (z:Value) (size bytes:Nat) (ht:P.underlying t=some (.slice e)) (hi:P.info? e=some i) (hz:i.zero=some z)
  (hsize:i.size=size) (hby:i.bytes=bytes) (hzs:z.cells.size=size) (hsz:0<size)
  (v:Value) (n:Nat) (xs:List Value) (hown:w.ownsRow base e size v n xs)
  (a:Option Addr) (m c:Nat) (news:List Value) (hsrc:iA w size a m news) (h1:∀ u ∈ news,u.oneCell'=true)
  (h63:n+m≤maxLen) (hbytes:(n+m)*bytes≤140737488355328) (hbase:base≤w.heap.size) :
  ∃ v' w',(Builtin.append_ #[t,t] ty #[v,.slice a m c]).run P w=.ok v' w'∧w'.ownsRow base e size v' (n+m) (xs ++ news)∧w.grownBy w' v.ownBlock:=by
 obtain ⟨hl,⟨rfl,rfl⟩ | ⟨ad,rfl,hnews⟩⟩:=hsrc
 ·have h0:news=[]:=List.length_eq_zero_iff.1 (by simpa using hl)
  subst h0;have hv:∃ b c',v=.slice b n c'∧n≤c':=by
   rcases hown.2 with ⟨rfl,rfl⟩ | ⟨g,cap,cur,rfl,_,_,hn,_⟩
   ·exact ⟨_,_,rfl,Nat.le_refl _⟩
   ·exact ⟨_,_,rfl,hn⟩
  obtain ⟨b,c',rfl,hn⟩:=hv;refine ⟨.slice b n c',w,run_append_nothing w t t ty e i ht hi b n c' hn _ (Src.ofNil w ht c),?_,⟨rfl,rfl,rfl,Nat.le_refl _,fun _ _ _=>rfl⟩⟩;rw [List.append_nil];exact hown
 ·obtain ⟨v',w',hr,h2,h3,_⟩:=run_append_own (P:=P) w base t ty e i z size bytes ht hi hz hsize hby hzs hsz v n xs hown ad m c news hl hnews h1 h63 hbytes hbase
  exact ⟨v',w',hr,h2,h3⟩
theorem gP {o:Oper} {a:Act} {K:Act→World→Prop} {Q:Exit→Act→World→Prop} (s x:Operand) (t:TypeId)
  (ho:o.op=.call { callee:=.builtin .append,args:=#[s,x],argTypes:=#[t,t] })
  (base:Nat) (e:TypeId) (i:TypeInfo) (z:Value) (size bytes:Nat) (ht:P.underlying t=some (.slice e)) (hi:P.info? e=some i) (hz:i.zero=some z)
  (hsize:i.size=size) (hby:i.bytes=bytes) (hzs:z.cells.size=size) (hsz:0<size)
  (v:Value) (n:Nat) (xs:List Value) (hs:a.eval s=v) (hown:w.ownsRow base e size v n xs)
  (ad:Option Addr) (m c:Nat) (news:List Value) (hx:a.eval x=.slice ad m c) (hsrc:iA w size ad m news) (h1:∀ u ∈ news,u.oneCell'=true)
  (h63:n+m≤maxLen) (hbytes:(n+m)*bytes≤140737488355328) (hbase:base≤w.heap.size)
  (h:∀ v' w',w'.ownsRow base e size v' (n+m) (xs ++ news)→w.grownBy w' v.ownBlock→K (a.put o.dst v') w'):o.wp P a w K Q:=by
 obtain ⟨v',w',hr,h2,h3⟩:=mI (P:=P) w base t o.type e i z size bytes ht hi hz hsize hby hzs hsz v n xs hown ad m c news hsrc h1 h63 hbytes hbase;unfold Oper.wp execOp;simp only [ho,resolve,invoke,builtin,Sem.run_bind,Sem.run_pure,Result.andThen_ok,List.map_toArray,List.map_cons,List.map_nil,hs,hx,hr];exact h v' w' h2 h3
theorem bR {ops:Array Oper} {rest:List Oper} {o:Oper} {a:Act} {Q:Exit→Act→World→Prop} (hgd:o.guard=none) (s x:Operand) (t:TypeId)
  (ho:o.op=.call { callee:=.builtin .append,args:=#[s,x],argTypes:=#[t,t] })
  (base:Nat) (e:TypeId) (i:TypeInfo) (z:Value) (size bytes:Nat) (ht:P.underlying t=some (.slice e)) (hi:P.info? e=some i) (hz:i.zero=some z)
  (hsize:i.size=size) (hby:i.bytes=bytes) (hzs:z.cells.size=size) (hsz:0<size)
  (v:Value) (n:Nat) (xs:List Value) (hs:a.eval s=v) (hown:w.ownsRow base e size v n xs)
  (ad:Option Addr) (m c:Nat) (news:List Value) (hx:a.eval x=.slice ad m c) (hsrc:iA w size ad m news) (h1:∀ u ∈ news,u.oneCell'=true)
  (h63:n+m≤maxLen) (hbytes:(n+m)*bytes≤140737488355328) (hbase:base≤w.heap.size)
  (h:∀ v' w',w'.ownsRow base e size v' (n+m) (xs ++ news)→w.grownBy w' v.ownBlock→wpList P ops Q rest (a.put o.dst v') w'):wpList P ops Q (o :: rest) a w:=
 wpList_plain hgd fun _ hK=>gP w s x t ho base e i z size bytes ht hi hz hsize hby hzs hsz v n xs hs hown ad m c news hx hsrc h1 h63 hbytes hbase fun v' w' h2 h3=>hK _ _ (h v' w' h2 h3)
end
theorem lk (b off k:Nat):(⟨b,off,.none⟩:Addr).add k=⟨b,off+k,.none⟩:=by
 unfold Addr.add
 split
 ·rename_i h
  have:k=0:=by simpa using h
  subst this
  rfl
 ·rfl
theorem iA.some {w:World} {size m b off:Nat} {news:List Value} (hl:news.length=m*size) (h:∀ j,j<news.length→w.cell? ⟨b,off+j,.none⟩=news[j]?):iA w size (.some ⟨b,off,.none⟩) m news:=
 ⟨hl,.inr ⟨_,rfl,fun j u hu=>by
  rw [lk];have hj:j<news.length:=(List.getElem?_eq_some_iff.1 hu).1;rw [h j hj,hu]⟩⟩
end Dowel
end
