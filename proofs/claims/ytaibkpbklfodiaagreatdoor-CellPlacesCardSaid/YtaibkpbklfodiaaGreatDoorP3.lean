/- Package cell: outside, order. -/
import Derived.Test.YtaibkpbklfodiaaGreatDoorP1
import Derived.Shelf.Abstract
set_option linter.all false
set_option maxHeartbeats 100000000
section
namespace Dowel
def bad (x:Int):Bool:=decide (x < -4096) || decide (x > 4096)
end Dowel
namespace Go.Proofs.Υ
open Go.RowKit Dowel
theorem cQ (x:Int) (w:World):Calls Tryz.prog 111 #[.int .i64 x] w fun e w'=>e=.returned (.bool (bad x))∧w'=w:=by
 go_enter Tryz.func111,Tryz.ntmps111
 go_wp2
 ·exact bodyPost_ret (results_tmp Tryz.results111 _ _ _) rfl ⟨rfl,rfl⟩
 ·exact bodyPost_ret (results_tmp Tryz.results111 _ _ _) rfl ⟨by show _=Ending.returned (Value.bool (bad x));rw [show bad x=true by simp [bad, *]];rfl,rfl⟩
theorem enters111:Enters Tryz.prog 111:=
 enters_of Tryz.func111 κ rfl
theorem nZ (g:Nat) (t:TypeId) (x y z:Int) (w:World) (hb:Box w g #[.int .i64 x,.int .i64 y,.int .i64 z] t) :
  Calls Tryz.prog 149 #[.slice (some ⟨g,0,none⟩) 3 3,.func (.func 111) #[] #[]] w fun e w' =>
   (∃ r:Int,e=.returned (.int .i64 r)∧decide (r ≥ 0)=(bad x || (bad y || bad z)))∧w'=w:=by
 obtain ⟨x0,x1,x2,-⟩:=hb.three;have e111:=enters111;have key:(bad x=true)∨(bad x=false∧bad y=true)∨(bad x=false∧bad y=false∧bad z=true)∨(bad x=false∧bad y=false∧bad z=false):=by
  cases bad x <;> cases bad y <;> cases bad z <;> simp
 clear hb
 rcases key with h1 | ⟨h1,h2⟩ | ⟨h1,h2,h3⟩ | ⟨h1,h2,h3⟩
 ·go_enter Tryz.func149,Tryz.ntmps149
  go_wp2_with fail
  refine aP.loop 4 ?_;refine aP.next (fun K hK=>?_)
  go_wp2_with fail
  refine (cQ _ _).mono ?_;rw [h1];rintro e w1 ⟨rfl,rfl⟩
  go_wp2_with fail
  exact bodyPost_ret (results_tmp Tryz.results149 _ _ _) rfl ⟨⟨_,rfl,by simp [*]⟩,rfl⟩
 ·go_enter Tryz.func149,Tryz.ntmps149
  go_wp2_with fail
  refine aP.loop 4 ?_;refine aP.next (fun K hK=>?_)
  go_wp2_with fail
  refine (cQ _ _).mono ?_;rw [h1];rintro e w1 ⟨rfl,rfl⟩
  go_wp2_with fail
  refine aP.next (fun K hK=>?_)
  go_wp2_with fail
  refine (cQ _ _).mono ?_;rw [h2];rintro e w1 ⟨rfl,rfl⟩
  go_wp2_with fail
  exact bodyPost_ret (results_tmp Tryz.results149 _ _ _) rfl ⟨⟨_,rfl,by simp [*]⟩,rfl⟩
 ·go_enter Tryz.func149,Tryz.ntmps149
  go_wp2_with fail
  refine aP.loop 4 ?_;refine aP.next (fun K hK=>?_)
  go_wp2_with fail
  refine (cQ _ _).mono ?_;rw [h1];rintro e w1 ⟨rfl,rfl⟩
  go_wp2_with fail
  refine aP.next (fun K hK=>?_)
  go_wp2_with fail
  refine (cQ _ _).mono ?_;rw [h2];rintro e w1 ⟨rfl,rfl⟩
  go_wp2_with fail
  refine aP.next (fun K hK=>?_)
  go_wp2_with fail
  refine (cQ _ _).mono ?_;rw [h3];rintro e w1 ⟨rfl,rfl⟩
  go_wp2_with fail
  exact bodyPost_ret (results_tmp Tryz.results149 _ _ _) rfl ⟨⟨_,rfl,by simp [*]⟩,rfl⟩
 ·go_enter Tryz.func149,Tryz.ntmps149
  go_wp2_with fail
  refine aP.loop 4 ?_;refine aP.next (fun K hK=>?_)
  go_wp2_with fail
  refine (cQ _ _).mono ?_;rw [h1];rintro e w1 ⟨rfl,rfl⟩
  go_wp2_with fail
  refine aP.next (fun K hK=>?_)
  go_wp2_with fail
  refine (cQ _ _).mono ?_;rw [h2];rintro e w1 ⟨rfl,rfl⟩
  go_wp2_with fail
  refine aP.next (fun K hK=>?_)
  go_wp2_with fail
  refine (cQ _ _).mono ?_;rw [h3];rintro e w1 ⟨rfl,rfl⟩
  go_wp2_with fail
  refine aP.next (fun K hK=>?_)
  go_wp2_with fail
  exact bodyPost_ret (results_tmp Tryz.results149 _ _ _) rfl ⟨⟨_,rfl,by simp [*]⟩,rfl⟩
theorem kY (g:Nat) (t:TypeId) (x y z:Int) (w:World) (hb:Box w g #[.int .i64 x,.int .i64 y,.int .i64 z] t) :
  Calls Tryz.prog 110 #[.slice (some ⟨g,0,none⟩) 3 3,.func (.func 111) #[] #[]] w fun e w' =>
   e=.returned (.bool (bad x || (bad y || bad z)))∧w'=w:=by
 go_enter Tryz.func110,Tryz.ntmps110
 go_wp2_with fail
 refine (nZ g t x y z _ hb).mono ?_;rintro e w1 ⟨⟨r,rfl,hr⟩,rfl⟩;have HR:=η hr;clear hr hb;go_wp2
 all_goals exact bodyPost_ret (results_tmp Tryz.results110 _ _ _) rfl ⟨by rw [← HR.out];rfl,rfl⟩
def far (a:V):Bool:=bad a.x || (bad a.y || bad a.z)
theorem iu (a:V):far a=false↔jc a:=by
 simp only [far,bad,jc,Bool.or_eq_false_iff,decide_eq_false_iff_not];omega
theorem outside_any (a:V) (w:World) :
  Calls Tryz.prog 55 #[bX a] w fun e w'=>e=.returned (.bool (far a))∧Below w.heap.size w w':=by
 obtain ⟨W,hW,b1,hB,hS⟩:=aG w #[.int .i64 a.x,.int .i64 a.y,.int .i64 a.z] 46;have B1:=η b1;obtain ⟨x0,x1,x2,-⟩:=b1.three;clear b1 hS;unfold bX
 go_enter Tryz.func55,Tryz.ntmps55
 go_wp2_with fail
 refine (kY w.heap.size _ a.x a.y a.z _ B1.out).mono ?_;rintro e w1 ⟨rfl,rfl⟩;go_wp2;exact bodyPost_ret (results_tmp Tryz.results55 _ _ _) rfl ⟨rfl,hB⟩
end Go.Proofs.Υ
end
