/- Lemmas. -/
import Derived.Test.YtodehkjinmgflaaGreatDoorE1
import Derived.Shelf.Abstract
set_option linter.all false
set_option maxHeartbeats 0
set_option maxRecDepth 99999
namespace Go.Proofs.Υ
open Go Go.RowKit Tryz
def bad(x:Int):Bool:=decide (x < -4096) || decide (x > 4096)
theorem cJ(x:Int)(w:World):Calls prog 159 #[.int .i64 x] w fun e w'=>e=.returned (.bool (bad x))/\w'=w:=by
 go_enter func159,ntmps159
 go_wp2
 ·exact bodyPost_ret (results_tmp results159 _ _ _) rfl ⟨rfl,rfl⟩
 ·exact bodyPost_ret (results_tmp results159 _ _ _) rfl ⟨by show _=Ending.returned (Value.bool (bad x));rw[show bad x=true by simp[bad, *]];rfl,rfl⟩
theorem enters111:Enters prog 159:=
 enters_of func159 Z rfl
theorem rW(g:Nat)(t:TypeId)(x y z:Int)(w:World)(hb:Box w g #[.int .i64 x,.int .i64 y,.int .i64 z] t):
 Calls prog 200 #[.slice (some ⟨g,0,none⟩) 3 3,.func (.func 159) #[] #[]] w fun e w' =>
  (∃r:Int,e=.returned (.int .i64 r)/\decide (r≥0)=(bad x || (bad y || bad z)))/\w'=w:=by
 obtain⟨F,G,H,-⟩:=hb.three;have E:=enters111;have key:(bad x=true)\/(bad x=false/\bad y=true)\/(bad x=false/\bad y=false/\bad z=true)\/(bad x=false/\bad y=false/\bad z=false):=by
  cases bad x<;>cases bad y<;>cases bad z<;>simp
 clear hb
 rcases key with u|⟨u,A⟩|⟨u,A,C⟩|⟨u,A,C⟩
 ·go_enter func200,ntmps200
  go_wp2_with fail
  refine aT.loop 4 ?_;refine aT.next (fun K hK=>?_)
  go_wp2_with fail
  refine(cJ _ _).mono ?_;rw[u];rintro e j ⟨rfl,rfl⟩
  go_wp2_with fail
  exact bodyPost_ret (results_tmp results200 _ _ _) rfl ⟨⟨_,rfl,by simp[*]⟩,rfl⟩
 ·go_enter func200,ntmps200
  go_wp2_with fail
  refine aT.loop 4 ?_;refine aT.next (fun K hK=>?_)
  go_wp2_with fail
  refine(cJ _ _).mono ?_;rw[u];rintro e j ⟨rfl,rfl⟩
  go_wp2_with fail
  refine aT.next (fun K hK=>?_)
  go_wp2_with fail
  refine(cJ _ _).mono ?_;rw[A];rintro e j ⟨rfl,rfl⟩
  go_wp2_with fail
  exact bodyPost_ret (results_tmp results200 _ _ _) rfl ⟨⟨_,rfl,by simp[*]⟩,rfl⟩
 ·go_enter func200,ntmps200
  go_wp2_with fail
  refine aT.loop 4 ?_;refine aT.next (fun K hK=>?_)
  go_wp2_with fail
  refine(cJ _ _).mono ?_;rw[u];rintro e j ⟨rfl,rfl⟩
  go_wp2_with fail
  refine aT.next (fun K hK=>?_)
  go_wp2_with fail
  refine(cJ _ _).mono ?_;rw[A];rintro e j ⟨rfl,rfl⟩
  go_wp2_with fail
  refine aT.next (fun K hK=>?_)
  go_wp2_with fail
  refine(cJ _ _).mono ?_;rw[C];rintro e j ⟨rfl,rfl⟩
  go_wp2_with fail
  exact bodyPost_ret (results_tmp results200 _ _ _) rfl ⟨⟨_,rfl,by simp[*]⟩,rfl⟩
 ·go_enter func200,ntmps200
  go_wp2_with fail
  refine aT.loop 4 ?_;refine aT.next (fun K hK=>?_)
  go_wp2_with fail
  refine(cJ _ _).mono ?_;rw[u];rintro e j ⟨rfl,rfl⟩
  go_wp2_with fail
  refine aT.next (fun K hK=>?_)
  go_wp2_with fail
  refine(cJ _ _).mono ?_;rw[A];rintro e j ⟨rfl,rfl⟩
  go_wp2_with fail
  refine aT.next (fun K hK=>?_)
  go_wp2_with fail
  refine(cJ _ _).mono ?_;rw[C];rintro e j ⟨rfl,rfl⟩
  go_wp2_with fail
  refine aT.next (fun K hK=>?_)
  go_wp2_with fail
  exact bodyPost_ret (results_tmp results200 _ _ _) rfl ⟨⟨_,rfl,by simp[*]⟩,rfl⟩
theorem nM(g:Nat)(t:TypeId)(x y z:Int)(w:World)(hb:Box w g #[.int .i64 x,.int .i64 y,.int .i64 z] t):
 Calls prog 158 #[.slice (some ⟨g,0,none⟩) 3 3,.func (.func 159) #[] #[]] w fun e w' =>
  e=.returned (.bool (bad x || (bad y || bad z)))/\w'=w:=by
 go_enter func158,ntmps158
 go_wp2_with fail
 refine(rW g t x y z _ hb).mono ?_;rintro e A ⟨⟨r,rfl,j⟩,rfl⟩;have u:=O j;clear j hb;go_wp2
 all_goals exact bodyPost_ret (results_tmp results158 _ _ _) rfl ⟨by rw[<-u.o];rfl,rfl⟩
def far(a:V):Bool:=bad a.x || (bad a.y || bad a.z)
theorem mL(a:V):far a=false↔m7 a:=by
 simp only[far,bad,m7,Bool.or_eq_false_iff,decide_eq_false_iff_not];omega
theorem oE(a:V)(w:World):
 Calls prog 126 #[dQ a] w fun e w'=>e=.returned (.bool (far a))/\Bl w w':=by
 obtain⟨W,A,b1,u,hS⟩:=aB w #[.int .i64 a.x,.int .i64 a.y,.int .i64 a.z] 77;have j:=O b1;obtain⟨E,F,G,-⟩:=b1.three;clear b1 hS;unfold dQ
 go_enter func126,ntmps126
 go_wp2_with fail
 refine(nM w.heap.size _ a.x a.y a.z _ j.o).mono ?_;rintro e C ⟨rfl,rfl⟩;go_wp2;exact bodyPost_ret (results_tmp results126 _ _ _) rfl ⟨rfl,u⟩
end Go.Proofs.Υ
