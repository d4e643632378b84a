/- Package cell: outside, order. -/
import Derived.Test.YtodehkjinmgflaaGreatDoorP1
import Derived.Shelf.Abstract
set_option linter.all false
set_option maxHeartbeats 100000000
set_option maxRecDepth 20000
namespace Go.Proofs.Υ
open Go Go.RowKit Tryz
def bad(x:Int):Bool:=decide (x < -4096) || decide (x > 4096)
theorem cK(x:Int)(w:World):Calls prog 159 #[.int .i64 x] w fun e w'=>e=.returned (.bool (bad x))∧w'=w:=by
 go_enter func159,ntmps159
 go_wp2
 ·exact bodyPost_ret (results_tmp results159 _ _ _) rfl ⟨rfl,rfl⟩
 ·exact bodyPost_ret (results_tmp results159 _ _ _) rfl ⟨by show _=Ending.returned (Value.bool (bad x));rw[show bad x=true by simp[bad, *]];rfl,rfl⟩
theorem enters111:Enters prog 159:=
 enters_of func159 Z rfl
theorem ry(g:Nat)(t:TypeId)(x y z:Int)(w:World)(hb:Box w g #[.int .i64 x,.int .i64 y,.int .i64 z] t):
 Calls prog 200 #[.slice (some ⟨g,0,none⟩) 3 3,.func (.func 159) #[] #[]] w fun e w' =>
  (∃r:Int,e=.returned (.int .i64 r)∧decide (r≥0)=(bad x || (bad y || bad z)))∧w'=w:=by
 obtain⟨E,F,G,-⟩:=hb.three;have C:=enters111;have key:(bad x=true)∨(bad x=false∧bad y=true)∨(bad x=false∧bad y=false∧bad z=true)∨(bad x=false∧bad y=false∧bad z=false):=by
  cases bad x<;>cases bad y<;>cases bad z<;>simp
 clear hb
 rcases key with j|⟨j,u⟩|⟨j,u,A⟩|⟨j,u,A⟩
 ·go_enter func200,ntmps200
  go_wp2_with fail
  refine aO.loop 4 ?_;refine aO.next (fun K hK=>?_)
  go_wp2_with fail
  refine(cK _ _).mono ?_;rw[j];rintro e i ⟨rfl,rfl⟩
  go_wp2_with fail
  exact bodyPost_ret (results_tmp results200 _ _ _) rfl ⟨⟨_,rfl,by simp[*]⟩,rfl⟩
 ·go_enter func200,ntmps200
  go_wp2_with fail
  refine aO.loop 4 ?_;refine aO.next (fun K hK=>?_)
  go_wp2_with fail
  refine(cK _ _).mono ?_;rw[j];rintro e i ⟨rfl,rfl⟩
  go_wp2_with fail
  refine aO.next (fun K hK=>?_)
  go_wp2_with fail
  refine(cK _ _).mono ?_;rw[u];rintro e i ⟨rfl,rfl⟩
  go_wp2_with fail
  exact bodyPost_ret (results_tmp results200 _ _ _) rfl ⟨⟨_,rfl,by simp[*]⟩,rfl⟩
 ·go_enter func200,ntmps200
  go_wp2_with fail
  refine aO.loop 4 ?_;refine aO.next (fun K hK=>?_)
  go_wp2_with fail
  refine(cK _ _).mono ?_;rw[j];rintro e i ⟨rfl,rfl⟩
  go_wp2_with fail
  refine aO.next (fun K hK=>?_)
  go_wp2_with fail
  refine(cK _ _).mono ?_;rw[u];rintro e i ⟨rfl,rfl⟩
  go_wp2_with fail
  refine aO.next (fun K hK=>?_)
  go_wp2_with fail
  refine(cK _ _).mono ?_;rw[A];rintro e i ⟨rfl,rfl⟩
  go_wp2_with fail
  exact bodyPost_ret (results_tmp results200 _ _ _) rfl ⟨⟨_,rfl,by simp[*]⟩,rfl⟩
 ·go_enter func200,ntmps200
  go_wp2_with fail
  refine aO.loop 4 ?_;refine aO.next (fun K hK=>?_)
  go_wp2_with fail
  refine(cK _ _).mono ?_;rw[j];rintro e i ⟨rfl,rfl⟩
  go_wp2_with fail
  refine aO.next (fun K hK=>?_)
  go_wp2_with fail
  refine(cK _ _).mono ?_;rw[u];rintro e i ⟨rfl,rfl⟩
  go_wp2_with fail
  refine aO.next (fun K hK=>?_)
  go_wp2_with fail
  refine(cK _ _).mono ?_;rw[A];rintro e i ⟨rfl,rfl⟩
  go_wp2_with fail
  refine aO.next (fun K hK=>?_)
  go_wp2_with fail
  exact bodyPost_ret (results_tmp results200 _ _ _) rfl ⟨⟨_,rfl,by simp[*]⟩,rfl⟩
theorem nh(g:Nat)(t:TypeId)(x y z:Int)(w:World)(hb:Box w g #[.int .i64 x,.int .i64 y,.int .i64 z] t):
 Calls prog 158 #[.slice (some ⟨g,0,none⟩) 3 3,.func (.func 159) #[] #[]] w fun e w' =>
  e=.returned (.bool (bad x || (bad y || bad z)))∧w'=w:=by
 go_enter func158,ntmps158
 go_wp2_with fail
 refine(ry g t x y z _ hb).mono ?_;rintro e u ⟨⟨r,rfl,i⟩,rfl⟩;have j:=O i;clear i hb;go_wp2
 all_goals exact bodyPost_ret (results_tmp results158 _ _ _) rfl ⟨by rw[<-j.o];rfl,rfl⟩
def far(a:V):Bool:=bad a.x || (bad a.y || bad a.z)
theorem mx(a:V):far a=false↔mM a:=by
 simp only[far,bad,mM,Bool.or_eq_false_iff,decide_eq_false_iff_not];omega
theorem n8(a:V)(w:World):
 Calls prog 126 #[dK a] w fun e w'=>e=.returned (.bool (far a))∧Below w.heap.size w w':=by
 obtain⟨W,u,b1,j,hS⟩:=aA w #[.int .i64 a.x,.int .i64 a.y,.int .i64 a.z] 77;have i:=O b1;obtain⟨C,E,F,-⟩:=b1.three;clear b1 hS;unfold dK
 go_enter func126,ntmps126
 go_wp2_with fail
 refine(nh w.heap.size _ a.x a.y a.z _ i.o).mono ?_;rintro e A ⟨rfl,rfl⟩;go_wp2;exact bodyPost_ret (results_tmp results126 _ _ _) rfl ⟨rfl,j⟩
end Go.Proofs.Υ
