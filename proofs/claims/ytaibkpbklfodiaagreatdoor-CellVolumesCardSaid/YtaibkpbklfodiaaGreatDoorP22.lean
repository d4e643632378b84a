/- The law CellChecks: whatever the input it returns true; the input reads as it did. -/
import Derived.Test.YtaibkpbklfodiaaGreatDoorP21
import Derived.Test.YtaibkpbklfodiaaGreatDoorRows
import Derived.ProofKit
import Derived.LaidMore
import Derived.OpenShut
import Derived.Stop.Joined
import Derived.Carry
set_option linter.all false
set_option maxHeartbeats 100000000
section
namespace Go.Proofs.YtaibkpbklfodiaaGreatDoor
open Go.Proofs.Υ
open Go Go.ChangeShapes Go.WideShapes Go.ChangeAt Go.WideElems Go.RowKit Dowel
theorem own:ownKnob Tryz.prog.godebug=none:=by kernel_rfl
theorem laidOut:laidOutB Tryz.prog=true:=by kernel_rfl
theorem gTab : Tryz.prog.globalNamed "math/bits.deBruijn64tab" = some 0 := by kernel_rfl
theorem tTab:(Tryz.prog.globals[0]?).map (fun g=>(Tryz.prog.underlying g.type,Tryz.prog.cellsOf g.type))=some (some (.array 64 5),64):=by kernel_rfl
theorem laid_tab {H:Type}:(Rows.laid_math_bits_deBruijn64tab:DataW H)=.agg (nM.map fun (n:Nat)=>.lit (.int .u8 (n:Int))):=rfl
theorem add_none (b off k:Nat):(⟨b,off,none⟩:Addr).add k=⟨b,off+k,none⟩:=by
 unfold Addr.add
 split
 ·rename_i h
  have:k=0:=by simpa using h
  subst this
  rfl
 ·rfl
set_option maxRecDepth 100000 in
theorem tab_of_laid {W:World} (h:laidMetH Tryz.prog Rows.cellChecksRow.laid W):Tab W:=by
 rw [MakeChecks.laidMetH_plain _ _ _ κ] at h;obtain ⟨ps,⟨g0,t0,cs0,f0,p0,q0,-,-,-,-,⟨g1,t1,cs1,f1,p1,q1,hg1,ht1,hv1,hd1,-,-⟩,-⟩,-,-⟩:=h;obtain rfl:=Option.some.inj (gTab.symm.trans hg1);have htt:=tTab;rw [Option.map_eq_some_iff] at htt;obtain ⟨gl,hgl,htt⟩:=htt;rw [hgl] at ht1;obtain rfl:gl.type=t1:=Option.some.inj ht1;obtain ⟨hu,hc⟩:=Prod.mk.inj htt;obtain ⟨xs,m,-,hx,hlen,hn,hel⟩:=DataW.trod_array hu hd1;rw [show Rows.laid_math_bits_deBruijn64tab=_ from laid_tab] at hx;have hxs:xs.map (·.1)=nM.map fun (n:Nat)=>.lit (.int .u8 (n:Int)):=by
  simp only [Prod.mk.injEq,DataW.agg.injEq] at hx;exact hx.1.symm
 have hcell:∀ i,i<64→W.cell? ⟨0,i,none⟩=some (.int .u8 (nM.getD i 0:Nat)):=fun i hi=>by
  have h1:=hel i hi;rw [show Tryz.prog.cellsOf 5=1 by kernel_rfl,Nat.mul_one] at h1;obtain ⟨x,hxi⟩:∃ x,xs[i]?=some x:=⟨_,List.getElem?_eq_getElem ω⟩;rw [hxi] at h1;obtain ⟨k,e1,e2,-⟩:=DataW.trod_int Tryz.underlying5 h1;have hl:i<nM.length:=by show i<64;exact hi
  have h2:=congrArg (fun l:List _=>l[i]?) hxs;simp only [List.getElem?_map,hxi,Option.map_some,List.getElem?_eq_getElem hl] at h2;rw [e2] at h2;have hk:k=(nM[i]:Nat):=by
   simp only [Option.some.injEq,DataW.lit.injEq,Lit.int.injEq] at h2;exact h2.2
  have h3:=World.var?_cell hg1 hv1 i;have h4:cs1[i]?=some (.int .u8 k):=by
   rw [← Array.getElem?_toList];have:cs1.toList.drop i=(cs1.toList.drop i).take 1 ++ (cs1.toList.drop i).drop 1:=(List.take_append_drop 1 _).symm;rw [e1] at this;have h5:=congrArg (fun l:List Value=>l[0]?) this
   simpa using h5
  rw [h4,hk] at h3;rw [List.getD_eq_getElem?_getD,List.getElem?_eq_getElem hl];exact h3
 refine ⟨?_,hcell⟩;have:=hcell 0 ω;unfold World.cell? at this
 cases hq:W.heap[0]? with
 | none=>simp [hq] at this
 | some o=>exact (Array.getElem?_eq_some_iff.1 hq).1
end Go.Proofs.YtaibkpbklfodiaaGreatDoor
end
