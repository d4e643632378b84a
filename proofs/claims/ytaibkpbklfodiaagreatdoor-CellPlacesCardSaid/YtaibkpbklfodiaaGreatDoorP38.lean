/- The text of a small integer. -/
import Derived.Test.YtaibkpbklfodiaaGreatDoorP7
import Derived.Test.YtaibkpbklfodiaaGreatDoorPShelf
import Derived.Test.YtaibkpbklfodiaaGreatDoorP1
set_option linter.all false
set_option maxHeartbeats 100000000
section
namespace Go.Proofs.Υ
open Go.RowKit Dowel
set_option maxRecDepth 20000
theorem lF (g o cap:Nat) (w:World):Calls Tryz.prog 141 #[.slice (some ⟨g,o,none⟩) 1 cap] w fun e w'=>e=.returned (.tuple #[])∧w'=w:=by
 go_enter Tryz.func141,Tryz.ntmps141
 go_wp2_with fail
 refine aP.loop 2 ?_;refine aP.next (fun K hK=>?_)
 go_wp2_with fail
 exact ⟨rfl,_,results_none rfl _ _ _,rfl,rfl⟩
theorem join_one (g o cap:Nat) (s sep:ByteArray) (w:World) (hc:w.cell? ⟨g,o,none⟩=some (.string s)):Calls Tryz.prog 142 #[.slice (some ⟨g,o,none⟩) 1 cap,.string sep] w fun e w'=>e=.returned (.string s)∧w'=w:=by
 go_enter Tryz.func142,Tryz.ntmps142
 go_wp2_with fail
 go_ret;exact ⟨rfl,rfl⟩
theorem my (va:Value) (z:Nat) (w:World) (ha:aN w va z) (h0:0<z) (h1:z<100) :
  Calls Tryz.prog 97 #[va] w fun e w'=>e=.returned (.string ⟨(Lib.decDigits z).toArray⟩)∧Below w.heap.size w w':=by
 obtain ⟨s,a,n,cap,ds,rfl,rfl,hm,hn,hv,hl⟩:=ha.open ⟨1,by omega,by show (z:Int).natAbs<B ^ 1;unfold B;omega⟩;have hz:(decide ((z:Int)<0))=false:=by simp
 rw [hz];obtain ⟨W,hW,b1,hB,hS⟩:=aG w #[.bool false,.slice a n cap] 54;obtain ⟨x0,x1,-⟩:=b1.two;have HB:=η hB;have HM:=η (hm.below hB);have hn1:0<n:=by
  rcases Nat.eq_zero_or_pos n with e | e
  ·have:=hm.len
   rw [e] at this;have:=List.length_eq_zero_iff.1 this;subst this;rw [val] at hv;omega
  ·exact e
 have HV:=η (show val ds=z by rw [hv];omega);clear hm hn hv hB hS
 go_enter Tryz.func97,Tryz.ntmps97
 go_wp2_with fail
 refine aP.loop 3 ?_;refine aP.next (fun K hK=>?_)
 go_wp2_with fail
 refine (kM a n cap 1000000000 ds W HM.out ω ω ω).mono ?_;rw [HV.out];rintro e w1 ⟨⟨a2,n2,c2,d2,rfl,hm2,hn2,hv2,hl2⟩,hb1⟩;have hd2:d2=[]:=by
  have:val d2=0:=by rw [hv2];omega
  exact hn2.zero this
 subst hd2;have e2:n2=0:=by have:=hm2.len;simpa using this.symm
 subst e2;have hmod:z % 1000000000=z:=ω;rw [hmod];have B1:=η (b1.below hb1 b1.lt);obtain ⟨y0,y1,-⟩:=B1.out.two;have HB1:=η (ae HB.out hb1 ω)
 go_wp2_with fail
 refine (Tryz.strconv_Itoa_small z h1 _).mono ?_;rintro e w2 ⟨rfl,rfl⟩
 go_wp2_with fail
 obtain ⟨cc,hcc⟩:∃ cc,(Question.appendCap 1 0 9).cut (w2.tape w2.drawn (Question.appendCap 1 0 9))=cc:=⟨_,rfl⟩;rw [hcc];obtain ⟨W3,hW3⟩:∃ W3,((w2.alloc (Obj.cells #[Value.string { data:=(Lib.decDigits z).toArray }] 9)).alloc (Obj.cells (#[Value.string { data:=(Lib.decDigits z).toArray }] ++ Builtin.zeroCells #[Value.string { data:=#[] }] (cc - 1)) 9)).drew=W3:=⟨_,rfl⟩;rw [hW3];have hb3:Below w2.heap.size w2 W3:=by rw [← hW3];exact (((Below.refl _ w2).alloc ρ _).alloc (by simp) _).drew
 have hc3:W3.cell? ⟨w2.heap.size+1,0,none⟩=some (.string { data:=(Lib.decDigits z).toArray }):=by
  rw [← hW3];exact ((Box.new (w2.alloc (Obj.cells #[Value.string { data:=(Lib.decDigits z).toArray }] 9)) (#[Value.string { data:=(Lib.decDigits z).toArray }] ++ Builtin.zeroCells #[Value.string { data:=#[] }] (cc - 1)) 9 (w2.heap.size+1) (by simp)).cell 0).trans (by rw [Array.getElem?_append_left (by simp)];rfl)
 have HB3:=η (ae HB1.out hb3 (ψ HB1.out.size));obtain ⟨z0,z1,-⟩:=(B1.out.below hb3 B1.out.lt).two;clear hW3 hb3 hcc y0 y1;refine aP.next (fun K hK=>?_)
 go_wp2_with fail
 refine (lF _ _ _ _).mono ?_;rintro e w4 ⟨rfl,rfl⟩
 go_wp2_with fail
 refine (join_one _ _ _ _ _ _ hc3).mono ?_;rintro e w4 ⟨rfl,rfl⟩
 go_wp2_with fail
 go_ret;exact ⟨rfl,HB3.out⟩
end Go.Proofs.Υ
end
