/- Insertion of one element into a row of one's own, by copies: copy at elements of several cells, and what the lists hold behind it (plain). -/
import Derived.Test.YtaibkpbklfodiaaGreatDoorP18
import Derived.Lib.Overlaps
import Derived.Lib.AppendZerosOnto
set_option linter.all false
set_option maxHeartbeats 100000000
section
namespace Dowel
open Go Go.RowKit
theorem eT {P:Program} (w:World) (dT sT ty elem:TypeId) (k m:Nat) (g o dLen dCap:Nat) (a:Addr) (sLen sCap:Nat) (cur:Array Value) (t:TypeId) (cs:List Value)
  (hu:P.underlying dT=some (.slice elem)) (hs:(P.info? elem).map (·.size)=some k)
  (hg:w.heap[g]?=some (.cells cur t (0,0))) (hn:Nat.min sLen dLen=m) (hl:cs.length=m*k)
  (hsrc:∀ j v,cs[j]?=some v→w.cell? (a.add j)=some v) (hfit:o+cs.length≤cur.size) (h1:∀ v ∈ cs,v.oneCell'=true) :
  (Builtin.copy_ #[dT,sT] ty #[.slice (some ⟨g,o,none⟩) dLen dCap,.slice (some a) sLen sCap]).run P w =
   .ok (goInt m) (w.setRow g (cur.toList.take o ++ cs ++ cur.toList.drop (o+cs.length)).toArray):=by
 have hl':=run_loadCells_list (P:=P) w a cs hsrc;have hst:=run_storeCells_at P g o t cs 0 cur w hg (by simpa using hfit) h1
 cases hq:P.info? elem with
 | none=>simp [hq] at hs
 | some i =>
  have hi:i.size=k:=by simpa [hq] using hs
  simp [Builtin.copy_,run_underlying hu,Builtin.lenOf,Builtin.firstCells,Go.sizeOf,typeInfo,hq,hi,hn,← hl,hl',hst]
theorem shift_list {cur xs news:List Value} {a k L:Nat} (hx:cur.take L=xs) (hc:L+k≤cur.length) (ha:a+k≤L) (hn:news.length=k) {c1:List Value} (h1:c1=cur.take (a+k) ++ xs.drop a ++ cur.drop (a+k+(xs.drop a).length)) :
  c1.take a ++ news ++ c1.drop (a+news.length)=xs.take a ++ news ++ xs.drop a ++ cur.drop (L+k):=by
 have hxl:xs.length=L:=by rw [← hx,List.length_take];omega
 have e1:c1.take a=xs.take a:=by
  rw [h1,List.append_assoc,List.take_append_of_le_length (by rw [List.length_take];omega),List.take_take,← hx,List.take_take]
  congr 1;omega
 have e2:c1.drop (a+news.length)=xs.drop a ++ cur.drop (L+k):=by
  rw [h1,hn,List.append_assoc,List.drop_append,List.length_take,List.drop_of_length_le (by rw [List.length_take];omega),List.nil_append,
   show a+k - min (a+k) cur.length=0 by omega,List.drop_zero,List.length_drop,hxl,show a+k+(L - a)=L+k by omega]
 rw [e1,e2,List.append_assoc,List.append_assoc,List.append_assoc]
theorem grow_list {xs zs news c0 c1:List Value} {a k L:Nat} (hxl:xs.length=L) (ha:a≤L) (hn:news.length=k) (h0:c0=xs.take a ++ zs) (h1:c1=c0.take a ++ news ++ c0.drop (a+news.length)) :
  c1.take (a+k) ++ xs.drop a ++ c1.drop (a+k+(xs.drop a).length)=xs.take a ++ news ++ xs.drop a ++ zs.drop (L+k - a):=by
 have hta:(xs.take a).length=a:=by rw [List.length_take];omega
 have e0:c0.take a=xs.take a:=by rw [h0,List.take_append_of_le_length ω,List.take_of_length_le ω]
 have e1:c0.drop (a+news.length)=zs.drop k:=by
  rw [h0,List.drop_append,hta,List.drop_of_length_le ω,List.nil_append,hn,show a+k - a=k by omega]
 rw [e0,e1] at h1;have hl:(xs.take a ++ news).length=a+k:=by rw [List.length_append,hta,hn]
 have e2:c1.take (a+k)=xs.take a ++ news:=by rw [h1,List.take_append_of_le_length ω,List.take_of_length_le ω]
 have e3:c1.drop (a+k+(xs.drop a).length)=zs.drop (L+k - a):=by
  rw [h1,List.drop_append,hl,List.drop_of_length_le ω,List.nil_append,List.length_drop,hxl,show a+k+(L - a) - (a+k)=L - a by omega,List.drop_drop,show k+(L - a)=L+k - a by omega]
 rw [e2,e3]
theorem own_of {w:World} {base g k n cap:Nat} {e:TypeId} {xs rest:List Value} (hg:w.heap[g]?=some (.cells (xs ++ rest).toArray e (0,0))) (hb:base≤g) (hl:xs.length=n*k) (hc:(xs ++ rest).length=cap*k) (hn:n≤cap) (hm:cap≤maxLen) :
  w.ownsRow base e k (.slice (some ⟨g,0,none⟩) n cap) n xs:=
 ⟨hl,.inr ⟨g,cap,_,rfl,hb,hg,hn,hm,by simpa using hc,by rw [← hl];simp⟩⟩
theorem ny (w:World) (g:Nat) (cs:Array Value):w.grownBy (w.setRow g cs) (some g):=
 ⟨rfl,rfl,rfl,by simp,fun k _ hk=>setRow_other w g k cs (fun e=>hk (by rw [e]))⟩
theorem tk_len {xs:List Value} {n k i:Nat} (h:xs.length=n*k) (hi:i≤n):(xs.take (i*k)).length=i*k:=by
 rw [List.length_take,h];have:=Nat.mul_le_mul_right k hi;omega
theorem dr_len {xs:List Value} {n k i:Nat} (h:xs.length=n*k):(xs.drop (i*k)).length=(n - i)*k:=by
 rw [List.length_drop,h,Nat.sub_mul]
theorem qb {xs news:List Value} {n k i:Nat} (h:xs.length=n*k) (hi:i≤n) (hn:news.length=k):(xs.take (i*k) ++ news ++ xs.drop (i*k)).length=(n+1)*k:=by
 rw [List.length_append,List.length_append,tk_len h hi,dr_len h,hn,Nat.sub_mul,Nat.succ_mul];have:=Nat.mul_le_mul_right k hi;omega
theorem ls {P:Program} (w:World) {o:Oper} {a:Act} {K:Act→World→Prop} {Q:Exit→Act→World→Prop} (d s:Operand) (t t':TypeId)
  (ho:o.op=.call { callee:=.builtin .copy,args:=#[d,s],argTypes:=#[t,t'] }) (v u:Value) (hd:a.eval d=v) (hs:a.eval s=u) {v':Value} {w':World}
  (hr:(Builtin.copy_ #[t,t'] o.type #[v,u]).run P w=.ok v' w') (h:K (a.put o.dst v') w'):o.wp P a w K Q:=by
 unfold Oper.wp execOp;simp only [ho,resolve,invoke,builtin,Sem.run_bind,Sem.run_pure,Result.andThen_ok,List.map_toArray,List.map_cons,List.map_nil,hd,hs,hr];exact h
theorem iu {P:Program} (w:World) {ops:Array Oper} {rest:List Oper} {o:Oper} {a:Act} {Q:Exit→Act→World→Prop} (hgd:o.guard=none) (d s:Operand) (t t':TypeId)
  (ho:o.op=.call { callee:=.builtin .copy,args:=#[d,s],argTypes:=#[t,t'] }) (v u:Value) (hd:a.eval d=v) (hs:a.eval s=u) {v':Value} {w':World}
  (hr:(Builtin.copy_ #[t,t'] o.type #[v,u]).run P w=.ok v' w') (h:wpList P ops Q rest (a.put o.dst v') w'):wpList P ops Q (o :: rest) a w:=
 wpList_plain hgd fun _ hK=>ls w d s t t' ho v u hd hs hr (hK _ _ h)
theorem jz {P:Program} {ops:Array Oper} {o:Oper} {a:Act} {w:World} {K:Act→World→Prop} {Q:Exit→Act→World→Prop} {E:Prop}
  (hg:o.guard=none) (d x:Operand) (dT sT:TypeId) (hop:o.op=Op.call { callee:=Callee.builtin Builtin.copy,args:=#[d,x],argTypes:=#[dT,sT] })
  (v u:Value) (hd:a.eval d=v) (hx:a.eval x=u) {v':Value} {w':World} (hr:(Builtin.copy_ #[dT,sT] o.type #[v,u]).run P w=.ok v' w') (hK:K (a.put o.dst v') w') :
  if Region.wanted o (yielded ops a.tmps)=true then Oper.wp P o a w K Q else E:=by
 have hw:Region.wanted o (yielded ops a.tmps)=true:=by simp [Region.wanted,hg]
 rw [if_pos hw];exact ls w d x dT sT hop v u hd hx hr hK
end Dowel
end
