/- CellPlaces: whatever the input (the library's listed tables lie as the program's text lays them), the call returns true, and the input reads as it did: the tied card. -/
import Derived.Test.YtaibkpbklfodiaaGreatDoorP26
import Derived.Test.YtaibkpbklfodiaaGreatDoorP46
import Derived.Test.YtaibkpbklfodiaaGreatDoorP32
import Derived.Test.YtaibkpbklfodiaaGreatDoorCards
import Derived.Test.YtaibkpbklfodiaaGreatDoorTie
import Derived.Stop.LaidErr
import Derived.Shelf.Vars
import Derived.Lay
import Derived.SevenTiedAt
set_option linter.all false
set_option maxHeartbeats 100000000
section
namespace Go.Proofs.YtaibkpbklfodiaaGreatDoor
open Go.Proofs.Υ
open Go Go.ChangeShapes Go.WideShapes Go.ChangeAt Go.WideElems Go.RowKit Dowel
theorem laid_ints {l:List Nat} (i:Nat) (hi:i<l.length):(l.map fun (n:Nat)=>(n:Int)).getD i 0=(l.getD i 0:Nat):=by
 simp [List.getD,hi]
theorem ph {W:World} (h:laidMetH Tryz.prog Rows.cellPlacesRow.laid W):Tab W∧Pow W:=by
 rw [MakeChecks.laidMetH_plain _ _ _ κ] at h;have h1:=laidMet.tail (show laidMet Tryz.prog (_ :: _) W from h);have h2:=laidMet.tail (show laidMet Tryz.prog (_ :: _) W from h1);have t1 : Lib.TabIs Tryz.prog W "math/bits.deBruijn64tab" .u8 (oV.map fun (n : Nat) => (n : Int)) :=
  Lib.tabIs_of_head (g:=0) (t:=244) (e:=5) (n:=64) κ κ κ Tryz.underlying5 κ κ (show laidMet Tryz.prog ((_,Lib.tabData .u8 (oV.map fun (n:Nat)=>(n:Int))) :: _) W from h1)
 have t2:Pow W:=
  Lib.tabIs_of_head (g:=1) (t:=307) (e:=116) (n:=20) κ κ κ Tryz.underlying116 κ κ (show laidMet Tryz.prog ((_,Lib.tabData .u64 Lib.pow10Tab) :: _) W from h2)
 have hcell:∀ i,i<64→W.cell? ⟨0,i,none⟩=some (.int .u8 (oV.getD i 0:Nat)):=fun i hi=>by
  have hl:i<oV.length:=by show i<64;exact hi
  have:=t1.cell (g:=0) κ i (by simpa using hl)
  rwa [laid_ints i hl] at this
 refine ⟨⟨?_,hcell⟩,t2⟩;have:=hcell 0 ω;unfold World.cell? at this
 cases hq:W.heap[0]? with
 | none=>simp [hq] at this
 | some o=>exact (Array.getElem?_eq_some_iff.1 hq).1
set_option maxRecDepth 100000 in
theorem ki (os:Os) (started:os.Started) (H:Type) (enc:TypeId × Value→H) :
  ReturnsInHanded {} Tryz.checked os 9 .any (fun w args=>(Rows.cellPlacesSpec.pre enc Tryz.prog Tryz.f9 [] false w args∧laidMetH Tryz.prog Rows.cellPlacesRow.laid w)∧sizedMet enc Tryz.prog Tryz.f9 (OpenSpec.ofChange Rows.cellPlacesSpec) false w args)
   (Rows.cellPlacesSpec.post enc Tryz.prog Tryz.f9 false true false false):=by
 refine returnsInHanded_of_calls (C:=Tryz.checked) own started κ
  (ChangeSpec.witness_shaped (enc:=enc) (C:=Tryz.checked) (os:=os) (X:=fun w _=>laidMetH Tryz.prog Rows.cellPlacesRow.laid w) false (World.laidAll Tryz.prog os Rows.cellPlacesRow.laid) #[.slice none 0 0,.agg #[.int .i8 0,.int .i8 0,.int .i8 0],.agg #[.int .u8 0,.int .u8 0,.int .u8 0,.int .u8 0,.int .u8 0]] 8 (World.laidAll_os _ _ _) (World.shaped_of_ZipB κ κ) κ κ κ
   (by rw [MakeChecks.laidMetH_plain _ _ _ κ];exact laidMet_laidAll _ κ κ)) ?_
 intro w tape i _ hsh _ hok hpre _;obtain ⟨_,_,_,fn',hfn',_,_,_,_,hval0⟩:=hok;obtain rfl:fn'=Tryz.f9:=Option.some.inj (hfn'.symm.trans Tryz.func9);obtain ⟨⟨⟨ds,gs,before,hw,-⟩,hL0⟩,-⟩:=hpre;have hW0:=DataW.Whole.of_heap (w':=w.forCall tape i) (by rfl) hw;have hL:=hL0.of_heap (w':=w.forCall tape i) (by rfl);clear hw hL0 hfn';generalize hgw:w.forCall tape i=W at hsh hval0 hW0 hL ⊢;generalize hga:i.args=args at hval0 hW0 ⊢
 suffices hs:Calls Tryz.prog 9 args W fun e W'=>∃ v,e=.returned v∧Rows.cellPlacesSpec.post enc Tryz.prog Tryz.f9 false true false false W args v W' from hs.mono fun e W' ⟨v,he,hp⟩=>by
  subst he;exact ChangeSpec.post_blind hp
 have hval:∀ (j:Nat) t v,Tryz.f9.params[j]?=some t→args[j]?=some v→Value.okWide Tryz.prog W .any w.heap.size t v:=hval0;obtain ⟨p,q,hA0,hV,rfl,hfz,hnd⟩:=hW0;have hW':DataW.Whole enc Tryz.prog Tryz.f9.params.toList Rows.cellPlacesSpec.vars false W args.toList ds gs (p ++ q):=⟨p,q,hA0,hV,rfl,hfz,hnd⟩;have hA:DataW.TrodAll enc Tryz.prog W 0 (fun _=>true) true Tryz.f9.params.toList args.toList ds p:=hA0;rw [Tryz.params9] at hA hval;obtain ⟨v0,v1,v2,d0,d1,d2,p0,p1,p2,rfl,rfl,rfl,h0,h1,h2⟩:=trodAll_three hA;obtain ⟨rfl,rfl⟩:=trodVars_none hV;obtain ⟨a,len,cap,P,rfl,hP⟩:=pts8_of (hval 0 36 v0 rfl rfl) h0;obtain ⟨n,rfl,hn⟩:=arr8_of (hval 1 38 v1 rfl rfl) h1;obtain ⟨X,rfl,hX⟩:=arr5_of (hval 2 86 v2 rfl rfl) h2;clear hA0 hval0;simp only [List.append_nil,List.append_assoc] at hW';have hlt:∀ x ∈ p0 ++ (p1 ++ p2),x.block<W.heap.size:=fun x hx=>by simpa using hW'.lt x hx
 have hVar:ic W:=cell_of_shapedOpen_int (P:=Tryz.prog) (g:=2) (t:=3) (zero:=#[.int .i64 0]) hsh (of_decide_eq_true κ) κ rfl κ κ Tryz.underlying3;obtain ⟨hT,hPw⟩:=ph hL;refine (nH known_any a len cap P n X W hT hVar hPw hP hn hX).mono fun e W' ⟨he,hb⟩=>?_
 subst he;refine ⟨_,rfl,_,_,_,[],p0 ++ (p1 ++ p2),[],hW',?_,?_,rfl,hb.frame _,fun h=>by cases h⟩
 ·exact trodAll_mk1 (shut_bool Tryz.underlying4 true)
 ·exact trodAll_mk3 (Below.trod pS κ (of_decide_eq_true κ) h0 hb fun x hx=>hlt x (List.mem_append.2 (.inl hx)))
   (Below.trod pS κ (of_decide_eq_true κ) h1 hb fun x hx=>hlt x (List.mem_append.2 (.inr (List.mem_append.2 (.inl hx)))))
   (Below.trod pS κ (of_decide_eq_true κ) h2 hb fun x hx=>hlt x (List.mem_append.2 (.inr (List.mem_append.2 (.inr hx)))))
theorem ld:Rows.CellPlacesSaid:=
 OpenClaim.holds_of_wide 9 Tryz.f9 rfl rfl rfl rfl rfl rfl rfl ⟨rfl,rfl,rfl,rfl,rfl⟩ rfl rfl rfl rfl rfl κ Tryz.func9 κ
  (of_decide_eq_true κ) (by unfold Func.isWrapper;first | (rw [if_pos (by decide +kernel)];kernel_rfl) | (rw [if_neg (by decide +kernel)];exact ⟨rfl,rfl⟩))
  (fun os started H enc _=>ki os started H enc)
theorem cellPlaces_card : Rows.CellPlacesCardSaid :=
  Claim7.holds_tied_plain_at .later [] [.data, .data, .data, .data, .sentinel, .sentinel, .pinned] true (true, "6c65cc7416c67665389b7af0e84806a2ebd9a42af6f1548673da5a11f68942ee") true
    ld (fun _ h => by cases h) (by kernel_rfl) (fun _ h => by cases h) cellPlaces_row_tie rfl ⟨rfl, rfl⟩ (by kernel_rfl) rfl
    (fun f fn hf hfn => by
      obtain rfl : f = 9 := Option.some.inj ((show Tryz.prog.funcNamed "dowel/dowellaw09.CellPlaces" = some 9 by kernel_rfl).symm.trans hf) |>.symm
      obtain rfl : fn = Tryz.f9 := (Option.some.inj (Tryz.func9.symm.trans hfn)).symm
      exact ⟨by kernel_rfl, fun j t ht => by
        rw [Tryz.params9] at ht
        have h3 : t = 36 ∨ t = 38 ∨ t = 86 := by
          rcases j with _ | _ | _ | j
          · exact .inl (by simpa using ht.symm)
          · exact .inr (.inl (by simpa using ht.symm))
          · exact .inr (.inr (by simpa using ht.symm))
          · simp at ht
        rcases h3 with rfl | rfl | rfl
        · exact (show Tryz.prog.wantsStandIn 36 = false by kernel_rfl)
        · exact (show Tryz.prog.wantsStandIn 38 = false by kernel_rfl)
        · exact (show Tryz.prog.wantsStandIn 86 = false by kernel_rfl)⟩)
    (by kernel_rfl)
#print axioms cellPlaces_card
end Go.Proofs.YtaibkpbklfodiaaGreatDoor
end
