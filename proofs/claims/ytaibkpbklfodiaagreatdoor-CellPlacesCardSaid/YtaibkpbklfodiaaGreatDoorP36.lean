/- Package cell: Locate and Touched. Printed by gen/locate.py. The library's Clone of rows of edges and of ints. -/
import Derived.Test.YtaibkpbklfodiaaGreatDoorP19
import Derived.Test.YtaibkpbklfodiaaGreatDoorP21
import Derived.Test.YtaibkpbklfodiaaGreatDoorP24
import Derived.Test.YtaibkpbklfodiaaGreatDoorP29
set_option linter.all false
set_option maxHeartbeats 100000000
section
namespace Dowel
open Go Go.RowKit
def LocI (fs:List (Q3 × Rat)) (p:Q3) (i:Nat) (z:Int):Prop:=(∀ j f,j<i→fs[j]?=some f→¬ f.2<bt f.1 p)∧((z=0∧∃ j f,j<i∧fs[j]?=some f∧bt f.1 p=f.2)∨(z=1∧∀ j f,j<i→fs[j]?=some f→bt f.1 p≠f.2))
variable {fs : List (Q3 × Rat)} {p : Q3} {i : Nat} {z : Int} {f : Q3 × Rat}
theorem LocI.on (h:LocI fs p i z) (hf:fs[i]?=some f) (h1:¬ f.2<bt f.1 p) (h2:bt f.1 p=f.2):LocI fs p (i+1) 0:=
 ⟨fun j g hj hg=>by
  by_cases e:j=i
  ·subst e;rw [hf] at hg;cases hg;exact h1
  ·exact h.1 j g ω hg,.inl ⟨rfl,i,f,by omega,hf,h2⟩⟩
theorem LocI.off (h:LocI fs p i z) (hf:fs[i]?=some f) (h1:¬ f.2<bt f.1 p) (h2:¬ bt f.1 p=f.2):LocI fs p (i+1) z:=
 ⟨fun j g hj hg=>by
  by_cases e:j=i
  ·subst e;rw [hf] at hg;cases hg;exact h1
  ·exact h.1 j g ω hg,by
  rcases h.2 with ⟨e,j,g,h3,h4,h5⟩ | ⟨e,h3⟩
  ·exact .inl ⟨e,j,g,by omega,h4,h5⟩
  ·exact .inr ⟨e,fun j g hj hg=>by
    by_cases e:j=i
    ·subst e;rw [hf] at hg;cases hg;exact h2
    ·exact h3 j g ω hg⟩⟩
end Dowel
namespace Go.Proofs.Υ
open Go.RowKit Dowel
theorem infoIn:(Tryz.prog.info? 3).map (fun i=>(i.zero,i.size,i.bytes))=some (some (.int .i64 0),1,8):=by kernel_rfl
end Go.Proofs.Υ
end

section
namespace Dowel
open Go Go.RowKit Go.Proofs.Υ
theorem dB {w:World} {base n k:Nat} {e:TypeId} {v:Value} {xs:List Value} (h:w.ownsRow base e k v n xs):∃ a c,v=.slice a n c∧iA w k a n xs:=by
 obtain ⟨hl,⟨rfl,rfl⟩ | ⟨g,cap,cur,rfl,-⟩⟩:=id h
 ·exact ⟨none,0,rfl,hl,.inl ⟨rfl,rfl⟩⟩
 ·exact ⟨_,cap,rfl,hl,.inr ⟨_,rfl,fun j u hu=>World.ownsRow.cells h rfl j u hu⟩⟩
theorem ed_one (l:List ED):∀ u ∈ l.flatMap cL,u.oneCell'=true:=fun u hu=>by
 obtain ⟨e,-,hu⟩:=List.mem_flatMap.mp hu;simp only [cL,List.mem_cons,List.not_mem_nil,or_false] at hu
 rcases hu with rfl | rfl | rfl | rfl <;> rfl
theorem ints_one (l:List Nat):∀ u ∈ l.map (fun (i:Nat)=>Value.int .i64 (i:Int)),u.oneCell'=true:=fun u hu=>by
 obtain ⟨i,-,rfl⟩:=List.mem_map.mp hu
 rfl
end Dowel
namespace Go.Proofs.Υ
open Go.RowKit Dowel
set_option maxRecDepth 20000 in
theorem cloneE_any (v:Value) (es:List ED) (base:Nat) (w:World) (hE:eV w base v es) (hl:es.length≤262144) :
  Calls Tryz.prog 87 #[v] w fun e w'=>(∃ v',e=.returned v'∧eV w' w.heap.size v' es)∧Below w.heap.size w w':=by
 obtain ⟨i0,hinf,hz0,hz1,hz2⟩:=info_parts infoEdge;obtain ⟨a,cap,rfl,hsrc⟩:=dB hE;have HS:=η hsrc;obtain ⟨_,hh⟩:=hE
 cases a with
 | none =>
  have h0:es=[]:=by
   rcases hh with ⟨_,h⟩ | ⟨_,_,_,h,_⟩
   ·exact List.length_eq_zero_iff.mp h
   ·cases h
  subst h0;clear hh hsrc HS;have hq:=fun w=>Lib.run_eql_slice_nil (P:=Tryz.prog) w 30 96 none 0 cap 0 0 Tryz.underlying30
  go_enter Tryz.func87,Tryz.ntmps87
  go_wp2;exact bodyPost_ret (results_tmp Tryz.results87 _ _ _) rfl ⟨⟨_,rfl,World.ownsRow_nil _ _ _ _⟩,Below.refl _ _⟩
 | some x =>
  clear hh hsrc;have hq:=fun w=>Lib.run_eql_slice_nil (P:=Tryz.prog) w 30 96 (some x) es.length cap 0 0 Tryz.underlying30
  go_enter Tryz.func87,Tryz.ntmps87
  go_wp2_with (at_builtin;refine bR _ rfl _ _ 30 rfl w.heap.size 96 i0 (.agg #[.int .i64 0,.int .i64 0,.int .i64 0,.int .i64 0]) 4 32 Tryz.underlying30 hinf hz0 hz1 hz2 rfl ν _ _ _ rfl (World.ownsRow_made w #[] 0 ρ (Nat.zero_le _) rfl) _ _ _ _ rfl (HS.out.below (β.alloc ρ _)) (ed_one _) (by unfold maxLen;omega) ω (by simp) ?_)
  intro v1 w7 ho1 hg1;have B67:=η (show Below w.heap.size w w7 from (β.alloc ρ _).grown hg1 (by simp) (fun g e=>by cases e;exact Nat.le_refl _));have HO1:=η (show eV w7 w.heap.size v1 es from ho1);clear ho1 hg1;go_wp2;exact bodyPost_ret (results_tmp Tryz.results87 _ _ _) rfl ⟨⟨_,rfl,HO1.out⟩,B67.out⟩
set_option maxRecDepth 20000 in
theorem cloneN_any (v:Value) (es:List Nat) (base:Nat) (w:World) (hE:dr w base v es) (hl:es.length≤262144) :
  Calls Tryz.prog 88 #[v] w fun e w'=>(∃ v',e=.returned v'∧dr w' w.heap.size v' es)∧Below w.heap.size w w':=by
 obtain ⟨i0,hinf,hz0,hz1,hz2⟩:=info_parts infoIn;obtain ⟨a,cap,rfl,hsrc⟩:=dB hE;have HS:=η hsrc;obtain ⟨_,hh⟩:=hE
 cases a with
 | none =>
  have h0:es=[]:=by
   rcases hh with ⟨_,h⟩ | ⟨_,_,_,h,_⟩
   ·exact List.length_eq_zero_iff.mp h
   ·cases h
  subst h0;clear hh hsrc HS;have hq:=fun w=>Lib.run_eql_slice_nil (P:=Tryz.prog) w 43 3 none 0 cap 0 0 Tryz.underlying43
  go_enter Tryz.func88,Tryz.ntmps88
  go_wp2;exact bodyPost_ret (results_tmp Tryz.results88 _ _ _) rfl ⟨⟨_,rfl,World.ownsRow_nil _ _ _ _⟩,Below.refl _ _⟩
 | some x =>
  clear hh hsrc;have hq:=fun w=>Lib.run_eql_slice_nil (P:=Tryz.prog) w 43 3 (some x) es.length cap 0 0 Tryz.underlying43
  go_enter Tryz.func88,Tryz.ntmps88
  go_wp2_with (at_builtin;refine bR _ rfl _ _ 43 rfl w.heap.size 3 i0 (.int .i64 0) 1 8 Tryz.underlying43 hinf hz0 hz1 hz2 rfl ν _ _ _ rfl (World.ownsRow_made w #[] 0 ρ (Nat.zero_le _) rfl) _ _ _ _ rfl (HS.out.below (β.alloc ρ _)) (ints_one _) (by unfold maxLen;omega) ω (by simp) ?_)
  intro v1 w7 ho1 hg1;have B67:=η (show Below w.heap.size w w7 from (β.alloc ρ _).grown hg1 (by simp) (fun g e=>by cases e;exact Nat.le_refl _));have HO1:=η (show dr w7 w.heap.size v1 es from ho1);clear ho1 hg1;go_wp2;exact bodyPost_ret (results_tmp Tryz.results88 _ _ _) rfl ⟨⟨_,rfl,HO1.out⟩,B67.out⟩
end Go.Proofs.Υ
end
