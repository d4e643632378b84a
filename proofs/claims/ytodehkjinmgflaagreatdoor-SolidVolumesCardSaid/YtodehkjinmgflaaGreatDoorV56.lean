/- SolidVolumes: whatever the input (the library's listed tables lie as the program's text lays them), the call returns true, and the input reads as it did: the tied card. -/
import Derived.Test.YtodehkjinmgflaaGreatDoorV55
import Derived.Test.YtodehkjinmgflaaGreatDoorV57
import Derived.Test.YtodehkjinmgflaaGreatDoorCards
import Derived.Test.YtodehkjinmgflaaGreatDoorTie
import Derived.Stop.LaidErr
import Derived.Lay
set_option linter.all false
set_option maxHeartbeats 100000000
section
namespace Go.Proofs.YtodehkjinmgflaaGreatDoor
open Go.Proofs.Υ
open Go Go.ChangeShapes Go.WideShapes Go.ChangeAt Go.WideElems Go.RowKit
theorem laid_ints {l:List Nat} (i:Nat) (hi:i<l.length):(l.map fun (n:Nat)=>(n:Int)).getD i 0=(l.getD i 0:Nat):=by
 simp [List.getD,hi]
theorem tg {W:World} (h:laidMetH Tryz.prog Rows.solidVolumesRow.laid W):Tab W∧Pow W:=by
 rw [MakeChecks.laidMetH_plain _ _ _ Z] at h;have h1:=laidMet.tail (show laidMet Tryz.prog (_ :: _) W from h);have h2:=laidMet.tail (show laidMet Tryz.prog (_ :: _) W from h1);have t1 : Lib.TabIs Tryz.prog W "math/bits.deBruijn64tab" .u8 (sO.map fun (n : Nat) => (n : Int)) :=
  Lib.tabIs_of_head (g:=0) (t:=318) (e:=5) (n:=64) Z Z Z Tryz.underlying5 Z Z (show laidMet Tryz.prog ((_,Lib.tabData .u8 (sO.map fun (n:Nat)=>(n:Int))) :: _) W from h1)
 have t2:Pow W:=
  Lib.tabIs_of_head (g:=1) (t:=351) (e:=177) (n:=20) Z Z Z Tryz.underlying177 Z Z (show laidMet Tryz.prog ((_,Lib.tabData .u64 Lib.pow10Tab) :: _) W from h2)
 have hcell:∀ i,i<64→W.cell? ⟨0,i,none⟩=some (.int .u8 (sO.getD i 0:Nat)):=fun i hi=>by
  have hl:i<sO.length:=by show i<64;exact hi
  have:=t1.cell (g:=0) Z i (by simpa using hl)
  rwa [laid_ints i hl] at this
 refine ⟨⟨?_,hcell⟩,t2⟩;have:=hcell 0 I;unfold World.cell? at this
 cases hq:W.heap[0]? with
 | none=>simp [hq] at this
 | some o=>exact (Array.getElem?_eq_some_iff.1 hq).1
set_option maxRecDepth 100000 in
theorem kT (os:Os) (started:os.Started) (H:Type) (enc:TypeId × Value→H) :
  ReturnsInHanded {} Tryz.checked os 5 .any (fun w args=>(Rows.solidVolumesSpec.pre enc Tryz.prog Tryz.f5 [] false w args∧laidMetH Tryz.prog Rows.solidVolumesRow.laid w)∧sizedMet enc Tryz.prog Tryz.f5 (OpenSpec.ofChange Rows.solidVolumesSpec) false w args)
   (Rows.solidVolumesSpec.post enc Tryz.prog Tryz.f5 false true false false):=by
 refine returnsInHanded_of_calls (C:=Tryz.checked) own started Z
  (ChangeSpec.witness_shaped (enc:=enc) (C:=Tryz.checked) (os:=os) (X:=fun w _=>laidMetH Tryz.prog Rows.solidVolumesRow.laid w) false (World.laidAll Tryz.prog os Rows.solidVolumesRow.laid) #[.agg #[.int .u8 0,.slice none 0 0],.agg #[.int .i8 0,.int .i8 0,.int .i8 0,.int .i8 0,.int .i8 0,.int .i8 0,.int .i8 0,.int .u8 0]] 8 (World.laidAll_os _ _ _) (World.shaped_of_ZipB Z Z) Z Z Z
   (by rw [MakeChecks.laidMetH_plain _ _ _ Z];exact laidMet_laidAll _ Z Z)) ?_
 intro w tape i _ hsh _ hok hpre _;obtain ⟨_,_,_,fn',hfn',_,_,_,_,hval0⟩:=hok;obtain rfl:fn'=Tryz.f5:=Option.some.inj (hfn'.symm.trans Tryz.func5);obtain ⟨⟨⟨ds,gs,before,hw,-⟩,hL0⟩,-⟩:=hpre;have hW0:=DataW.Whole.of_heap (w':=w.forCall tape i) (by rfl) hw;have hL:=hL0.of_heap (w':=w.forCall tape i) (by rfl);clear hw hL0 hfn';generalize hgw:w.forCall tape i=W at hsh hval0 hW0 hL ⊢;generalize hga:i.args=args at hval0 hW0 ⊢
 suffices hs:Calls Tryz.prog 5 args W fun e W'=>∃ v,e=.returned v∧Rows.solidVolumesSpec.post enc Tryz.prog Tryz.f5 false true false false W args v W' from hs.mono fun e W' ⟨v,he,hp⟩=>by
  subst he;exact ChangeSpec.post_blind hp
 have hval:∀ (j:Nat) t v,Tryz.f5.params[j]?=some t→args[j]?=some v→Value.okWide Tryz.prog W .any w.heap.size t v:=hval0;obtain ⟨p,q,hA0,hV,rfl,hfz,hnd⟩:=hW0;have hW':DataW.Whole enc Tryz.prog Tryz.f5.params.toList Rows.solidVolumesSpec.vars false W args.toList ds gs (p ++ q):=⟨p,q,hA0,hV,rfl,hfz,hnd⟩;have hA:DataW.TrodAll enc Tryz.prog W 0 (fun _=>true) true Tryz.f5.params.toList args.toList ds p:=hA0;rw [Tryz.params5] at hA hval;obtain ⟨v0,v1,d0,d1,p0,p1,rfl,rfl,rfl,h0,h1⟩:=trodAll_two hA;obtain ⟨rfl,rfl⟩:=trodVars_none hV;obtain ⟨D,a,len,cap,B,rfl,hD,hlen,hB⟩:=body_arg (hval 0 24 v0 rfl rfl) h0;obtain ⟨T,N,E,rfl,hq1⟩:=place_arg (hval 1 31 v1 rfl rfl) h1;clear hA0 hval0;simp only [List.append_nil,List.append_assoc] at hW';have hlt:∀ x ∈ p0 ++ p1,x.block<W.heap.size:=fun x hx=>by simpa using hW'.lt x hx
 have hVar:jh W:=cell_of_shapedOpen_int (P:=Tryz.prog) (g:=2) (t:=3) (zero:=#[.int .i64 0]) hsh (of_decide_eq_true Z) Z rfl Z Z Tryz.underlying3;obtain ⟨hT,-⟩:=tg hL;refine (mT (fun v h1 h2=>known11_any v h1 h2) D a len cap B T N E W hT hVar hD hlen hB hq1).mono fun e W' ⟨he,hb⟩=>?_
 subst he;refine ⟨_,rfl,_,_,_,[],p0 ++ p1,[],hW',?_,?_,rfl,hb.frame _,fun h=>by cases h⟩
 ·exact trodAll_mk1 (shut_bool Tryz.underlying4 true)
 ·exact trodAll_mk2 (Below.trod laidOut Z (of_decide_eq_true Z) h0 hb fun x hx=>hlt x (List.mem_append.2 (.inl hx)))
   (Below.trod laidOut Z (of_decide_eq_true Z) h1 hb fun x hx=>hlt x (List.mem_append.2 (.inr hx)))
end Go.Proofs.YtodehkjinmgflaaGreatDoor
end

section
namespace Go.Proofs.YtodehkjinmgflaaGreatDoor
open Go.Proofs.Υ
open Go Go.ChangeShapes Go.WideShapes Go.ChangeAt Go.WideElems Go.RowKit
theorem lp:Rows.SolidVolumesSaid:=
 OpenClaim.holds_of_wide 5 Tryz.f5 rfl rfl rfl rfl rfl rfl rfl ⟨rfl,rfl,rfl,rfl,rfl⟩ rfl rfl rfl rfl rfl (by as_aux_lemma=>kernel_rfl) Tryz.func5 kU
  (of_decide_eq_true (by as_aux_lemma=>kernel_rfl)) (by unfold Func.isWrapper;first | (rw [if_pos (by decide +kernel)];kernel_rfl) | (rw [if_neg (by decide +kernel)];exact ⟨rfl,rfl⟩))
  (fun os started H enc _=>kT os started H enc)
theorem solidVolumes_card : Rows.SolidVolumesCardSaid :=
  Claim7.holds_tied_plain_at .later [] [.data, .data, .data, .data, .sentinel, .sentinel, .pinned] true (true, "10bb324ee293b3b36d2ddd027ec3b0bea130319021d3e5a28c270bd09d56b5d9") true
    lp (fun _ h => by cases h) (by as_aux_lemma => kernel_rfl) (fun _ h => by cases h) solidVolumes_row_tie rfl ⟨rfl, rfl⟩ (by as_aux_lemma => kernel_rfl) rfl
    (fun f fn hf hfn => by
      obtain rfl : f = 5 := Option.some.inj ((show Tryz.prog.funcNamed "dowel/dowellaw11.SolidVolumes" = some 5 by kernel_rfl).symm.trans hf) |>.symm
      obtain rfl : fn = Tryz.f5 := (Option.some.inj (Tryz.func5.symm.trans hfn)).symm
      exact ⟨by as_aux_lemma => kernel_rfl, fun j t ht => by
        rw [Tryz.params5] at ht
        have h3 : t = 24 ∨ t = 31 := by
          rcases j with _ | _ | j
          · exact .inl (by simpa using ht.symm)
          · exact .inr (by simpa using ht.symm)
          · simp at ht
        rcases h3 with rfl | rfl
        · exact (show Tryz.prog.wantsStandIn 24 = false by kernel_rfl)
        · exact (show Tryz.prog.wantsStandIn 31 = false by kernel_rfl)⟩)
    (by as_aux_lemma => kernel_rfl)
#print axioms solidVolumes_card
end Go.Proofs.YtodehkjinmgflaaGreatDoor
end
