/- The law CellChecks: whatever the input it returns true; the input reads as it did. -/
import Derived.Test.YtaibkpbklfodiaaGreatDoorV29
import Derived.Test.YtaibkpbklfodiaaGreatDoorRows
import Derived.ProofKit
import Derived.LaidMore
import Derived.OpenShut
import Derived.Stop.Joined
import Derived.Carry
set_option linter.all false
/- The law CellChecks: whatever the input it returns true; the input reads as it did. -/
section
namespace Go.Proofs.YtaibkpbklfodiaaGreatDoor
open Go Go.ChangeShapes Go.WideShapes Go.ChangeAt Go.WideElems Go.RowKit Dowel
theorem own:ownKnob Tryz.prog.godebug=none:=by kernel_rfl
theorem laidOut:laidOutB Tryz.prog=true:=by kernel_rfl
theorem gTab : Tryz.prog.globalNamed "math/bits.deBruijn64tab" = some 0 := by kernel_rfl
theorem tTab:(Tryz.prog.globals[0]?).map (fun g=>(Tryz.prog.underlying g.type,Tryz.prog.cellsOf g.type))=some (some (.array 64 5),64):=by kernel_rfl
theorem laid_tab {H:Type}:(Rows.laid_math_bits_deBruijn64tab:DataW H)=.agg (dbTab.map fun (n:Nat)=>.lit (.int .u8 (n:Int))):=rfl
theorem add_none (b off k:Nat):(⟨b,off,none⟩:Addr).add k=⟨b,off+k,none⟩:=by
 unfold Addr.add
 split
 ·rename_i h
  have:k=0:=by simpa using h
  subst this
  rfl
 ·rfl
set_option maxRecDepth 100000 in
theorem pts_of {H:Type} {enc:TypeId × Value→H} {W:World} {base:Nat} {v:Value} {d:DataW H} {p:List MemPlace} (hv:Value.okWide Tryz.prog W .any base 24 v) (h0:DataW.Trod enc Tryz.prog W 0 (fun _=>true) true 24 v d p) :
  ∃ a len cap P,v=.agg #[.slice a len cap]∧Pts W a len cap P:=by
 unfold Value.okWide at hv
 rw [Tryz.underlying24] at hv
 obtain ⟨cs,rfl,hsz,ts,hts,-,hrow⟩:=hv
 rw [show Tryz.prog.cellsOf 24=1 by kernel_rfl] at hsz
 obtain ⟨l⟩:=cs
 match l,hsz with
 | [c],_ =>
  rw [show Tryz.prog.cellTypes Tryz.prog.depth 24=some [22] by kernel_rfl] at hts
  cases hts
  obtain ⟨u,hu,hc⟩:=hrow 0 c rfl
  cases hu
  obtain ⟨fuel,h0⟩:=h0
  obtain ⟨y0,n,-,-,hy⟩:=trod_struct1 Tryz.underlying24 h0
  rw [show Tryz.prog.cellsOf 22=1 by kernel_rfl] at hy
  rcases DataW.trod_slice Tryz.underlying22 hy with ⟨hcs,-⟩ | ⟨a,len,cap,elems,rest,n',-,hcs,-,-,hl,-,hlen,hel,-,-⟩
  ·have:c=.slice none 0 0:=(List.cons.inj (show [c]=[.slice none 0 0] from hcs)).1
   subst this
   exact ⟨none,0,0,fun _=>⟨0,0,0⟩,rfl,Nat.le_refl _,fun _=>rfl,fun x h=>by cases h⟩
  ·have:c=.slice (some a) len cap:=(List.cons.inj (show [c]=[.slice (some a) len cap] from hcs)).1
   subst this
   simp only [Cell.okWide,Cell.ok,Tryz.underlying22] at hc
   obtain ⟨-,-,-,hsp,row,cells,hshape,-⟩:=hc
   obtain ⟨b,off,sp⟩:=a
   simp only at hsp
   subst hsp
   have hb:b<W.heap.size:=by
    unfold World.shape? at hshape
    cases hq:W.heap[b]? with
    | none=>simp [hq] at hshape
    | some o=>exact (Array.getElem?_eq_some_iff.1 hq).1
   have hex:∀ i,i<len→∃ p:V,W.cell? ⟨b,off+i*3,none⟩=some (.int .i64 p.x)∧W.cell? ⟨b,off+i*3+1,none⟩=some (.int .i64 p.y)∧W.cell? ⟨b,off+i*3+2,none⟩=some (.int .i64 p.z):=fun i hi=>by
    have h1:=hel i hi
    obtain ⟨y,hyi⟩:∃ y,elems[i]?=some y:=⟨_,List.getElem?_eq_getElem (by omega)⟩
    rw [hyi,show Tryz.prog.cellsOf 46=3 by kernel_rfl,Option.bind_eq_some_iff] at h1
    obtain ⟨cl,hcl,ht⟩:=h1
    obtain ⟨xs,m,-,-,hcl3,hxs,hx⟩:=DataW.trod_array Tryz.underlying46 ht
    have c0:=hx 0 (by omega)
    have c1:=hx 1 (by omega)
    have c2:=hx 2 (by omega)
    match xs,hxs with
    | [x0,x1,x2],_ =>
     rw [show Tryz.prog.cellsOf 3=1 by kernel_rfl] at c0 c1 c2
     rw [show Tryz.prog.cellsOf 46=3 by kernel_rfl] at hcl3
     match cl,hcl3 with
     | [u0,u1,u2],_ =>
      obtain ⟨k0,e0,-,-⟩:=DataW.trod_int Tryz.underlying3 (show DataW.trod _ _ _ _ _ _ _ _ [u0]=some x0 from c0)
      obtain ⟨k1,e1,-,-⟩:=DataW.trod_int Tryz.underlying3 (show DataW.trod _ _ _ _ _ _ _ _ [u1]=some x1 from c1)
      obtain ⟨k2,e2,-,-⟩:=DataW.trod_int Tryz.underlying3 (show DataW.trod _ _ _ _ _ _ _ _ [u2]=some x2 from c2)
      cases e0
      cases e1
      cases e2
      refine ⟨⟨k0,k1,k2⟩,?_⟩
      unfold World.cells? at hcl
      rw [if_pos (Nat.zero_le _)] at hcl
      have g0:=mapM_some_get hcl 0 0 rfl
      have g1:=mapM_some_get hcl 1 1 rfl
      have g2:=mapM_some_get hcl 2 2 rfl
      rw [add_none,add_none] at g0 g1 g2
      exact ⟨g0,g1,g2⟩
   refine ⟨some ⟨b,off,none⟩,len,cap,fun i=>if h:i<len then (hex i h).choose else ⟨0,0,0⟩,rfl,hl,(fun h=>by cases h),fun x hx=>?_⟩
   cases hx
   refine ⟨rfl,hb,fun i hi=>?_⟩
   simp only [dif_pos hi]
   exact (hex i hi).choose_spec
set_option maxRecDepth 100000 in
theorem tab_of_laid {W:World} (h:laidMetH Tryz.prog Rows.cellChecksRow.laid W):Tab W:=by
 rw [MakeChecks.laidMetH_plain _ _ _ (by kernel_rfl)] at h
 obtain ⟨ps,⟨g0,t0,cs0,f0,p0,q0,-,-,-,-,⟨g1,t1,cs1,f1,p1,q1,hg1,ht1,hv1,hd1,-,-⟩,-⟩,-,-⟩:=h
 obtain rfl:=Option.some.inj (gTab.symm.trans hg1)
 have htt:=tTab
 rw [Option.map_eq_some_iff] at htt
 obtain ⟨gl,hgl,htt⟩:=htt
 rw [hgl] at ht1
 obtain rfl:gl.type=t1:=Option.some.inj ht1
 obtain ⟨hu,hc⟩:=Prod.mk.inj htt
 obtain ⟨xs,m,-,hx,hlen,hn,hel⟩:=DataW.trod_array hu hd1
 rw [show Rows.laid_math_bits_deBruijn64tab=_ from laid_tab] at hx
 have hxs:xs.map (·.1)=dbTab.map fun (n:Nat)=>.lit (.int .u8 (n:Int)):=by
  simp only [Prod.mk.injEq,DataW.agg.injEq] at hx
  exact hx.1.symm
 have hcell:∀ i,i<64→W.cell? ⟨0,i,none⟩=some (.int .u8 (dbTab.getD i 0:Nat)):=fun i hi=>by
  have h1:=hel i hi
  rw [show Tryz.prog.cellsOf 5=1 by kernel_rfl,Nat.mul_one] at h1
  obtain ⟨x,hxi⟩:∃ x,xs[i]?=some x:=⟨_,List.getElem?_eq_getElem (by omega)⟩
  rw [hxi] at h1
  obtain ⟨k,e1,e2,-⟩:=DataW.trod_int Tryz.underlying5 h1
  have hl:i<dbTab.length:=by show i<64;exact hi
  have h2:=congrArg (fun l:List _=>l[i]?) hxs
  simp only [List.getElem?_map,hxi,Option.map_some,List.getElem?_eq_getElem hl] at h2
  rw [e2] at h2
  have hk:k=(dbTab[i]:Nat):=by
   simp only [Option.some.injEq,DataW.lit.injEq,Lit.int.injEq] at h2
   exact h2.2
  have h3:=World.var?_cell hg1 hv1 i
  have h4:cs1[i]?=some (.int .u8 k):=by
   rw [← Array.getElem?_toList]
   have:cs1.toList.drop i=(cs1.toList.drop i).take 1 ++ (cs1.toList.drop i).drop 1:=(List.take_append_drop 1 _).symm
   rw [e1] at this
   have h5:=congrArg (fun l:List Value=>l[0]?) this
   simpa using h5
  rw [h4,hk] at h3
  rw [List.getD_eq_getElem?_getD,List.getElem?_eq_getElem hl]
  exact h3
 refine ⟨?_,hcell⟩
 have:=hcell 0 (by omega)
 unfold World.cell? at this
 cases hq:W.heap[0]? with
 | none=>simp [hq] at this
 | some o=>exact (Array.getElem?_eq_some_iff.1 hq).1
end Go.Proofs.YtaibkpbklfodiaaGreatDoor
end
