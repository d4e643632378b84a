/- Lemmas. -/
import Derived.Test.YtodehkjinmgflaaGreatDoorVA
import Derived.Deep.AppendLies
import Derived.Deep.Upon
set_option linter.all false
set_option maxHeartbeats 0
set_option maxRecDepth 99999
namespace Go.Proofs.Υ
open Go Go.RowKit
section
def jj(w:World)(size:Nat)(a:Option Addr)(m:Nat)(news:List Value):Prop:=
 news.length=m*size/\((a=none/\m=0)\/∃ad,a=some ad/\∀j u,news[j]?=some u->w.cell? (ad.add j)=some u)
section
variable {P : Program} (w : World)
theorem pN(base:Nat)(t ty e:TypeId)(i:TypeInfo)(z:Value)(size j:Nat)(X:P.underlying t=some (.slice e))(hi:P.info? e=some i)(hz:i.zero=some z)(G:i.size=size)(R:i.bytes=j)(Y:z.cells.size=size)(W:0<size)(v:Value)(n:Nat)(xs:List Value)(A:w.ownsRow base e size v n xs)(a:Option Addr)(m c:Nat)(news:List Value)(J:jj w size a m news)(h1:∀u∈news,u.oneCell'=true)(Q:n+m<=maxLen)(C:(n+m)*j<=140737488355328)(E:base<=w.heap.size):
 ∃L w',(Builtin.append_ #[t,t] ty #[v,.slice a m c]).run P w=.ok L w'/\w'.ownsRow base e size L (n+m) (xs++news)/\w.grownBy w' v.ownBlock:=by
 obtain⟨hl,⟨rfl,rfl⟩|⟨ad,rfl,F⟩⟩:=J
 ·have h0:news=[]:=List.length_eq_zero_iff.1 (by simpa using hl)
  subst h0;have hv:∃b H,v=.slice b n H/\n<=H:=by
   rcases A.2 with⟨rfl,rfl⟩|⟨g,aa,ab,rfl,_,_,U,_⟩
   ·exact⟨_,_,rfl,Nat.le_refl _⟩
   ·exact⟨_,_,rfl,U⟩
  obtain⟨b,H,rfl,U⟩:=hv;refine⟨.slice b n H,w,run_append_nothing w t t ty e i X hi b n H U _ (Src.ofNil w X c),?_,⟨rfl,rfl,rfl,Nat.le_refl _,fun _ _ _=>rfl⟩⟩;rw[List.append_nil];exact A
 ·obtain⟨L,w',hr,h2,h3,_⟩:=run_append_own (P:=P) w base t ty e i z size j X hi hz G R Y W v n xs A ad m c news hl F h1 Q C E
  exact⟨L,w',hr,h2,h3⟩
theorem eN{o:Oper}{a:Act}{K:Act->World->Prop}{Q:Exit->Act->World->Prop}(s x:Operand)(t:TypeId)(ho:o.op=.call { callee:=.builtin .append,args:=#[s,x],argTypes:=#[t,t] })(base:Nat)(e:TypeId)(i:TypeInfo)(z:Value)(size j:Nat)(ht:P.underlying t=some (.slice e))(hi:P.info? e=some i)(hz:i.zero=some z)(E:i.size=size)(R:i.bytes=j)(W:z.cells.size=size)(U:0<size)(v:Value)(n:Nat)(xs:List Value)(hs:a.eval s=v)(F:w.ownsRow base e size v n xs)(J:Option Addr)(m c:Nat)(news:List Value)(hx:a.eval x=.slice J m c)(G:jj w size J m news)(X:∀u∈news,u.oneCell'=true)(L:n+m<=maxLen)(A:(n+m)*j<=140737488355328)(C:base<=w.heap.size)(h:∀H w',w'.ownsRow base e size H (n+m) (xs++news)->w.grownBy w' v.ownBlock->K (a.put o.dst H) w'):o.wp P a w K Q:=by
 obtain⟨H,w',hr,Y,h3⟩:=pN (P:=P) w base t o.type e i z size j ht hi hz E R W U v n xs F J m c news G X L A C;unfold Oper.wp execOp;simp only[ho,resolve,invoke,builtin,Sem.run_bind,Sem.run_pure,Result.andThen_ok,List.map_toArray,List.map_cons,List.map_nil,hs,hx,hr];exact h H w' Y h3
theorem cH{H:Array Oper}{rest:List Oper}{o:Oper}{a:Act}{Q:Exit->Act->World->Prop}(W:o.guard=none)(s x:Operand)(t:TypeId)(ho:o.op=.call { callee:=.builtin .append,args:=#[s,x],argTypes:=#[t,t] })(base:Nat)(e:TypeId)(i:TypeInfo)(z:Value)(size j:Nat)(ht:P.underlying t=some (.slice e))(hi:P.info? e=some i)(hz:i.zero=some z)(E:i.size=size)(U:i.bytes=j)(Y:z.cells.size=size)(X:0<size)(v:Value)(n:Nat)(xs:List Value)(hs:a.eval s=v)(F:w.ownsRow base e size v n xs)(L:Option Addr)(m c:Nat)(news:List Value)(hx:a.eval x=.slice L m c)(G:jj w size L m news)(h1:∀u∈news,u.oneCell'=true)(R:n+m<=maxLen)(A:(n+m)*j<=140737488355328)(C:base<=w.heap.size)(h:∀J w',w'.ownsRow base e size J (n+m) (xs++news)->w.grownBy w' v.ownBlock->wpList P H Q rest (a.put o.dst J) w'):wpList P H Q (o::rest) a w:=
 wpList_plain W fun _ hK=>eN w s x t ho base e i z size j ht hi hz E U Y X v n xs hs F L m c news hx G h1 R A C fun J w' h2 h3=>hK _ _ (h J w' h2 h3)
end
theorem jj.none(w:World)(size:Nat):jj w size .none 0 []:=⟨by simp,.inl ⟨rfl,rfl⟩⟩
theorem nF(b off k:Nat):(⟨b,off,.none⟩:Addr).add k=⟨b,off+k,.none⟩:=by
 unfold Addr.add
 split
 ·rename_i h
  have:k=0:=by simpa using h
  subst this
  rfl
 ·rfl
theorem jj.some{w:World}{size m b off:Nat}{news:List Value}(A:news.length=m*size)(h:∀j,j<news.length->w.cell? ⟨b,off+j,.none⟩=news[j]?):jj w size (.some ⟨b,off,.none⟩) m news:=
 ⟨A,.inr ⟨_,rfl,fun j u e=>by
  rw[nF];have i:j<news.length:=(List.getElem?_eq_some_iff.1 e).1;rw[h j i,e]⟩⟩
end
end Go.Proofs.Υ
