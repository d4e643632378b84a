/- CellHulls: whatever the input (the library's listed tables lie as the program's text lays them), the call returns true, and the input reads as it did: the tied card. -/
import Derived.Test.YtaibkpbklfodiaaGreatDoorV37
import Derived.Lib.SlicesCompact
import Derived.Lib.SliceRun
import Derived.Test.YtaibkpbklfodiaaGreatDoorCards
import Derived.Test.YtaibkpbklfodiaaGreatDoorTie
import Derived.SevenTiedAt
set_option linter.all false
section
namespace Go.Proofs
open Go.Shelf
def Tryz.sortPt_ren:Go.Shelf.Ren:=⟨fun | 6=>75 | 15=>127 | 14=>126 | 28=>160 | 29=>161 | 20=>152 | 21=>153 | 22=>154 | 23=>155 | 24=>156 | 25=>157 | 26=>158 | 27=>159 | 46=>192 | 47=>193 | 48=>194 | 49=>195 | 50=>196 | 57=>212 | n=>n,fun | 22=>22 | 24=>46 | 25=>44 | 3=>3 | 39=>185 | 0=>0 | 53=>191 | 55=>116 | 4=>4 | 46=>222 | 45=>221 | 50=>142 | 5=>5 | 9=>9 | 66=>255 | 70=>259 | 76=>273 | 77=>274 | n=>n,fun | n=>n⟩
theorem Tryz.sortPt:Go.Proofs.SlLaysF0.n6 Tryz.prog Tryz.sortPt_ren:={
 mixed:=by kernel_rfl
 f6:=⟨Tryz.f75.name,by decide,Tryz.func75.trans (congrArg some (by kernel_rfl))⟩
 f14:=⟨Tryz.f126.name,by decide,Tryz.func126.trans (congrArg some (by kernel_rfl))⟩
 f15:=Tryz.func127.trans (congrArg some (by kernel_rfl))
 f20:=⟨Tryz.f152.name,by decide,Tryz.func152.trans (congrArg some (by kernel_rfl))⟩
 f21:=⟨Tryz.f153.name,by decide,Tryz.func153.trans (congrArg some (by kernel_rfl))⟩
 f22:=⟨Tryz.f154.name,by decide,Tryz.func154.trans (congrArg some (by kernel_rfl))⟩
 f23:=⟨Tryz.f155.name,by decide,Tryz.func155.trans (congrArg some (by kernel_rfl))⟩
 f24:=⟨Tryz.f156.name,by decide,Tryz.func156.trans (congrArg some (by kernel_rfl))⟩
 f25:=⟨Tryz.f157.name,by decide,Tryz.func157.trans (congrArg some (by kernel_rfl))⟩
 f26:=⟨Tryz.f158.name,by decide,Tryz.func158.trans (congrArg some (by kernel_rfl))⟩
 f27:=⟨Tryz.f159.name,by decide,Tryz.func159.trans (congrArg some (by kernel_rfl))⟩
 f28:=Tryz.func160.trans (congrArg some (by kernel_rfl))
 f29:=Tryz.func161.trans (congrArg some (by kernel_rfl))
 f46:=⟨Tryz.f192.name,by decide,Tryz.func192.trans (congrArg some (by kernel_rfl))⟩
 f47:=Tryz.func193.trans (congrArg some (by kernel_rfl))
 f48:=Tryz.func194.trans (congrArg some (by kernel_rfl))
 f49:=⟨Tryz.f195.name,by decide,Tryz.func195.trans (congrArg some (by kernel_rfl))⟩
 f50:=⟨Tryz.f196.name,by decide,Tryz.func196.trans (congrArg some (by kernel_rfl))⟩
 f57:=⟨Tryz.f212.name,by decide,Tryz.func212.trans (congrArg some (by kernel_rfl))⟩
 t0:=Tryz.underlying0
 a0:=Tryz.isAgg0
 z0:=Tryz.sizeOf0
 v0:=Tryz.zeroValue0
 t3:=Tryz.underlying3
 a3:=Tryz.isAgg3
 z3:=Tryz.sizeOf3
 v3:=Tryz.zeroValue3
 t4:=Tryz.underlying4
 a4:=Tryz.isAgg4
 z4:=Tryz.sizeOf4
 v4:=Tryz.zeroValue4
 t5:=Tryz.underlying5
 a5:=Tryz.isAgg5
 z5:=Tryz.sizeOf5
 v5:=Tryz.zeroValue5
 t9:=Tryz.underlying9
 a9:=Tryz.isAgg9
 z9:=Tryz.sizeOf9
 v9:=Tryz.zeroValue9
 t22:=Tryz.underlying22
 a22:=Tryz.isAgg22
 z22:=Tryz.sizeOf22
 v22:=Tryz.zeroValue22
 t25:=Tryz.underlying44
 a25:=Tryz.isAgg44
 z25:=Tryz.sizeOf44
 v25:=Tryz.zeroValue44
 t39:=Tryz.underlying185
 a39:=Tryz.isAgg185
 z39:=Tryz.sizeOf185
 v39:=Tryz.zeroValue185
 t45:=Tryz.underlying221
 a45:=Tryz.isAgg221
 z45:=Tryz.sizeOf221
 v45:=Tryz.zeroValue221
 t46:=Tryz.underlying222
 a46:=Tryz.isAgg222
 z46:=Tryz.sizeOf222
 v46:=Tryz.zeroValue222
 t50:=Tryz.underlying142
 a50:=Tryz.isAgg142
 z50:=Tryz.sizeOf142
 v50:=Tryz.zeroValue142
 t53:=Tryz.underlying191
 a53:=Tryz.isAgg191
 z53:=Tryz.sizeOf191
 v53:=Tryz.zeroValue191
 t55:=Tryz.underlying116
 a55:=Tryz.isAgg116
 z55:=Tryz.sizeOf116
 v55:=Tryz.zeroValue116
 t66:=Tryz.underlying255
 a66:=Tryz.isAgg255
 z66:=Tryz.sizeOf255
 v66:=Tryz.zeroValue255
 t70:=Tryz.underlying259
 a70:=Tryz.isAgg259
 z70:=Tryz.sizeOf259
 v70:=Tryz.zeroValue259
 t76:=Tryz.underlying273
 a76:=Tryz.isAgg273
 z76:=Tryz.sizeOf273
 v76:=Tryz.zeroValue273
 t77:=Tryz.underlying274
 a77:=Tryz.isAgg274
 z77:=Tryz.sizeOf274
 v77:=Tryz.zeroValue274 }
end Go.Proofs
end
section
namespace Go.Proofs.YtaibkpbklfodiaaGreatDoor
open Go Go.ChangeShapes Go.WideShapes Go.ChangeAt Go.WideElems Go.RowKit Dowel
set_option maxRecDepth 100000 in
theorem cells64 {H:Type} {enc:TypeId × Value→H} {W:World} {n:Nat} {cl:List Value} {x:DataW H × List MemPlace} (ht:DataW.trod enc Tryz.prog W 0 (fun _=>true) true n 46 cl=some x) :
  ∃ p:V,cl=[.int .i64 p.x,.int .i64 p.y,.int .i64 p.z]:=by
 obtain ⟨xs,m,-,-,hcl3,hxs,hx⟩:=DataW.trod_array Tryz.underlying46 ht
 have c0:=hx 0 (by omega)
 have c1:=hx 1 (by omega)
 have c2:=hx 2 (by omega)
 match xs,hxs with
 | [x0,x1,x2],_ =>
  rw [show Tryz.prog.cellsOf 3=1 by kernel_rfl] at c0 c1 c2
  rw [show Tryz.prog.cellsOf 46=3 by kernel_rfl] at hcl3
  match cl,hcl3 with
  | [u0,u1,u2],_ =>
   obtain ⟨k0,e0,-,w0⟩:=DataW.trod_int Tryz.underlying3 (show DataW.trod _ _ _ _ _ _ _ _ [u0]=some x0 from c0)
   obtain ⟨k1,e1,-,w1⟩:=DataW.trod_int Tryz.underlying3 (show DataW.trod _ _ _ _ _ _ _ _ [u1]=some x1 from c1)
   obtain ⟨k2,e2,-,w2⟩:=DataW.trod_int Tryz.underlying3 (show DataW.trod _ _ _ _ _ _ _ _ [u2]=some x2 from c2)
   cases e0
   cases e1
   cases e2
   exact ⟨⟨k0,k1,k2⟩,rfl⟩
set_option maxRecDepth 100000 in
theorem ptsL_of {H:Type} {enc:TypeId × Value→H} {W:World} {base:Nat} {v:Value} {d:DataW H} {p:List MemPlace} (hv:Value.okWide Tryz.prog W .any base 22 v) (h0:DataW.Trod enc Tryz.prog W 0 (fun _=>true) true 22 v d p) :
  ∃ a len cap P,v=.slice a len cap∧Pts W a len cap P:=by
 unfold Value.okWide at hv
 rw [Tryz.underlying22] at hv
 simp only at hv
 obtain ⟨c,hc⟩:∃ c,v=c:=⟨_,rfl⟩
 obtain ⟨fuel,h0⟩:=h0
 obtain ⟨aa,len,cap,rfl⟩:∃ aa nn cc,v=.slice aa nn cc:=by
  cases v with
  | slice aa nn cc=>exact ⟨_,_,_,rfl⟩
  | _=>simp only [Cell.okWide,Cell.ok,Tryz.underlying22] at hv
 rcases DataW.trod_slice Tryz.underlying22 h0 with ⟨hcs,-⟩ | ⟨a,len',cap',elems,rest,n',-,hcs,-,-,hl,-,hlen,hel,-,-⟩
 ·have:Value.slice aa len cap=.slice none 0 0:=(List.cons.inj (show [Value.slice aa len cap]=[.slice none 0 0] from hcs)).1
  obtain ⟨rfl,rfl,rfl⟩:=Value.slice.inj this
  exact ⟨none,0,0,fun _=>⟨0,0,0⟩,rfl,Nat.le_refl _,(fun _=>rfl),(fun x h=>by cases h)⟩
 ·have:Value.slice aa len cap=.slice (some a) len' cap':=(List.cons.inj (show [Value.slice aa len cap]=[.slice (some a) len' cap'] from hcs)).1
  obtain ⟨rfl,e2,e3⟩:=Value.slice.inj this
  clear this
  subst e2 e3
  simp only [Cell.okWide,Cell.ok,Tryz.underlying22] at hv
  obtain ⟨-,-,-,hsp,row,cells,hshape,-⟩:=hv
  obtain ⟨b,off,sp⟩:=a
  simp only at hsp
  subst hsp
  have hb:b<W.heap.size:=by
   unfold World.shape? at hshape
   cases hq:W.heap[b]? with
   | none=>simp [hq] at hshape
   | some o=>exact (Array.getElem?_eq_some_iff.1 hq).1
  have hex:∀ i,i<len→∃ p:V,W.cell? ⟨b,off+i*3,none⟩=some (.int .i64 p.x)∧W.cell? ⟨b,off+i*3+1,none⟩=some (.int .i64 p.y)∧W.cell? ⟨b,off+i*3+2,none⟩=some (.int .i64 p.z):=fun i hi=>by
   have h1:=hel i hi
   obtain ⟨y,hyi⟩:∃ y,elems[i]?=some y:=⟨_,List.getElem?_eq_getElem (by omega)⟩
   rw [hyi,show Tryz.prog.cellsOf 46=3 by kernel_rfl,Option.bind_eq_some_iff] at h1
   obtain ⟨cl,hcl,ht⟩:=h1
   unfold World.cells? at hcl
   rw [if_pos (Nat.zero_le _)] at hcl
   obtain ⟨p,rfl⟩:=cells64 ht
   have g0:=mapM_some_get hcl 0 0 rfl
   have g1:=mapM_some_get hcl 1 1 rfl
   have g2:=mapM_some_get hcl 2 2 rfl
   rw [add_none,add_none] at g0 g1 g2
   exact ⟨p,g0,g1,g2⟩
  refine ⟨some ⟨b,off,none⟩,len,cap,fun i=>if h:i<len then (hex i h).choose else ⟨0,0,0⟩,rfl,hl,(fun h=>by cases h),fun x hx=>?_⟩
  ·cases hx
   refine ⟨rfl,hb,fun i hi=>?_⟩
   simp only [dif_pos hi]
   exact (hex i hi).choose_spec
end Go.Proofs.YtaibkpbklfodiaaGreatDoor
end
section
namespace Dowel
open Go Go.RowKit Go.Proofs Go.Sort Go.Proofs.YtaibkpbklfodiaaGreatDoor
instance : Inhabited V := ⟨V.zero⟩
theorem cmpV_trans (x y z:V) (h1:cmpV x y<0) (h2:cmpV y z<0):cmpV x z<0:=cmpL_lt_trans _ _ _ h1 h2
theorem cmpV_ge (x y z:V) (h1:¬ cmpV x y<0) (h2:¬ cmpV y z<0):¬ cmpV x z<0:=cmpL_ge_trans _ _ _ h1 h2
theorem cmpV_self (x:V):cmpV x x=0:=cmpL_self _
theorem cmpV_swap (x y:V):cmpV y x=- cmpV x y:=cmpL_swap _ _
end Dowel
namespace Go.Proofs.YtaibkpbklfodiaaGreatDoor
open Go.RowKit Dowel Go.Sort
set_option maxHeartbeats 400000 in
theorem corder_grow (a b:V) (w:World) :
  Calls Tryz.prog 56 #[vecV a,vecV b] w fun e w'=>e=.returned (.int .i64 (cmpV a b))∧∃ q os',w'=grow (w.drewN q) os':=by
 obtain ⟨W,hW,b1,b2,hB,hS⟩:=boxes2 w #[.int .i64 a.x,.int .i64 a.y,.int .i64 a.z] #[.int .i64 b.x,.int .i64 b.y,.int .i64 b.z] 46 46
 have B1:=Lib.hid b1
 have B2:=Lib.hid b2
 obtain ⟨x0,x1,x2,-⟩:=b1.three
 obtain ⟨y0,y1,y2,-⟩:=b2.three
 have HW:=Lib.hid hW
 have HC:Hid (cmpL [a.x,a.y,a.z] [b.x,b.y,b.z]=cmpV a b):=by exact rfl
 clear b1 b2 hS hB
 unfold vecV
 go_enter Tryz.func56,Tryz.ntmps56
 go_wp2_with fail
 go_quiet (first | (go_at_call 104;refine Calls.quiet_of_same (slicesCompare_any _ _ 3 3 3 3 _ _ _ ((Ints.of_box B1.out).below (below_drewN (Below.refl _ _) _)) ((Ints.of_box B2.out).below (below_drewN (Below.refl _ _) _)) (by omega) (by omega))))
 go_wp2
 exact bodyPost_ret (results_tmp Tryz.results56 _ _ _) rfl ⟨by rw [← HC.out];rfl,_,_,by rw [← HW.out,alloc_eq_grow,alloc_eq_grow,grow_grow];rfl⟩
set_option maxHeartbeats 1000000 in
theorem sortPts_any (v:Value) (l:List V) (base:Nat) (w:World) (hO:OwnV w base v l) (hl:l.length≤262144) :
  Calls Tryz.prog 75 #[v,.func (.func 56) #[] #[]] w fun e w'=>e=.returned (.tuple #[]) ∧
   (∃ l',l'.Perm l∧l'.Pairwise (fun a b=>cmpV a b≤0)∧OwnV w' base v l')∧Go.RowKit.Below base w w':=by
 by_cases h0:l.length=0
 ·have:l=[]:=List.length_eq_zero_iff.1 h0
  subst this
  obtain ⟨p,cap,rfl⟩:∃ p cap,v=.slice p 0 cap:=by
   obtain ⟨_,⟨rfl,_⟩ | ⟨g,c,_,rfl,_⟩⟩:=hO
   ·exact ⟨_,_,rfl⟩
   ·exact ⟨_,_,rfl⟩
  have hc:=AnyF.slices_SortFunc_none Tryz.sortPt p cap (.func (.func 56) #[] #[]) w
  change Calls Tryz.prog 75 _ _ _ at hc
  exact hc.mono fun e w' ⟨he,hw⟩=>⟨he,⟨[],List.Perm.refl _,List.Pairwise.nil,by rw [hw];exact hO⟩,by rw [hw];exact Go.RowKit.Below.refl _ _⟩
 ·have hpos:0<l.length:=by omega
  have hO':=hO
  obtain ⟨hlen,⟨rfl,h1⟩ | ⟨g,cap,cur,rfl,hg,hh,hn,hm,hs,ht⟩⟩:=hO
  ·exact absurd h1 h0
  have hgl:g<w.heap.size:=(Array.getElem?_eq_some_iff.1 hh).1
  have eg:∀ args w,(callFunc 56 args).run Tryz.prog w=.ok (.enter 56 args) w:=enters_of Tryz.func56 (by kernel_rfl) rfl
  obtain ⟨d,hd⟩:∃ d:Array V,d=l.toArray:=⟨_,rfl⟩
  have hds:l.length=d.size:=by rw [hd];simp
  have hdl:d.toList=l:=by rw [hd]
  have hone:∀ x:V,∀ u ∈ v3 x,u.oneCell'=true:=fun x u hu=>by
   simp [v3] at hu
   rcases hu with rfl | rfl | rfl <;> rfl
  have hH:HoldsK v3 3 w g 0 d:=holdsK_own _ 3 v3_len (by omega) d hds (by rw [hdl]) hO'
  have hcmp:CmpLays Tryz.prog 56 #[] v3 3 cmpV g 0 d.size w:=by
   intro m os dk _ x y
   exact corder_grow x y _
  have hswo:SWO (ltOf cmpV):=by
   refine ⟨fun x=>by simp [ltOf,cmpV_self],fun x y z h1 h2=>?_,fun x y z h1 h2=>?_⟩
   ·simp only [ltOf,decide_eq_true_eq] at *;exact cmpV_trans _ _ _ h1 h2
   ·simp only [ltOf,decide_eq_false_iff_not] at *;exact cmpV_ge _ _ _ h1 h2
  have hc:=AnyQ.slices_SortFunc Tryz.sortPt 3 Tryz.isAgg46 Tryz.sizeOf46 v3 v3_len hone _ hswo 56 #[] g 0 cap d w eg hcmp hH hgl (by omega)
  change Calls Tryz.prog 75 _ _ _ at hc
  rw [← hds] at hc
  refine hc.mono fun e w' ⟨he,d',m,os,hp,hsd,hw⟩=>?_
  obtain ⟨hps,_,hpp⟩:=hp
  have hd's:l.length=d'.size:=by rw [hps];exact hds
  have hperm:d'.toList.Perm l:=by
   have ext:∀ (k:Nat) (x:Array V),k=x.size→x.extract 0 k=x:=fun k x hk=>by subst hk;simp
   have e1:=ext _ d' hd's
   have e2:=ext _ d hds
   rw [e1,e2] at hpp
   have:=hpp
   rwa [hdl] at this
  refine ⟨he,⟨d'.toList,hperm,?_,?_⟩,?_⟩
  ·rw [List.pairwise_iff_getElem]
   intro i j hi hj hij
   have hj2:j<d'.size:=by simpa using hj
   have hi2:i<d'.size:=by simpa using hi
   have:=hsd i j (Nat.zero_le _) hij (by omega)
   simp only [ltOf,decide_eq_false_iff_not] at this
   have e1:d'[j]! = d'.toList[j]:=by simp [hj2]
   have e2:d'[i]! = d'.toList[i]:=by simp [hi2]
   rw [e1,e2,cmpV_swap] at this
   omega
  ·rw [hw]
   have hlen':d'.toList.length=l.length:=by rw [Array.length_toList];exact hd's.symm
   show World.ownsRow _ _ _ _ _ _ _
   rw [hlen']
   exact sorted_own _ 3 v3_len (by omega) d' hd's m os hh hg hn hm hs
  ·rw [hw];exact sortWorldK_below _ 3 w g 0 m d' os base hg hgl
end Go.Proofs.YtaibkpbklfodiaaGreatDoor
end
section
namespace Dowel
open V Go Go.Lib Go.Proofs.YtaibkpbklfodiaaGreatDoor
def bitV (E:Nat) (L:List V) (k:Nat):List V:=(bitsOf E k).map (ofL L)
theorem bitV_succ {E k:Nat} {L:List V}:bitV E L (k+1)=if E.testBit k=true then bitV E L k ++ [ofL L k] else bitV E L k:=by
 unfold bitV bitsOf
 rw [List.range_succ,List.filter_append]
 split <;> rename_i h
 ·rw [List.filter_cons_of_pos h];simp
 ·rw [List.filter_cons_of_neg h];simp
theorem bitV_hull {P:Nat→V} {len E:Nat} {fs:List RF} (hn:∀ i,i<len→Near (P i)) (hf:Full4 P len) (h:RingsOk (ofL (sortV P len)) (sortV P len).length fs E):bitV E (sortV P len) (sortV P len).length=hullR P len:=by
 have hs:=same_sortV P len
 have hS:=sorted_sortV hn
 have hF:=(hs.symm.full4 hf).full
 refine sorted_unique Lex Lex.irrefl (fun a b h1 h2=>Lex.irrefl _ (lex_trans h1 h2)) _ _ ?_ (sorted_takeV _) fun x=>?_
 ·unfold bitV bitsOf
  rw [List.pairwise_map]
  refine List.Pairwise.imp_of_mem ?_ (List.Pairwise.sublist List.filter_sublist (List.pairwise_lt_range (n:=(sortV P len).length)))
  intro i j hi hj hij
  exact hS.lt i j hij (List.mem_range.mp (List.mem_filter.mp hj).1)
 ·unfold hullR
  rw [mem_takeV]
  unfold bitV bitsOf
  rw [List.mem_map]
  constructor
  ·rintro ⟨v,hv,rfl⟩
   obtain ⟨h1,h2⟩:=List.mem_filter.mp hv
   have hv:=List.mem_range.mp h1
   obtain ⟨i,hi,e⟩:=(hs _).mp ⟨v,hv,rfl⟩
   refine ⟨i,hi,e,?_⟩
   rw [← hs.extreme]
   exact (extremeR_iff hS.inj v hv).mpr ((h.bit hS hF v).mp h2).2
  ·rintro ⟨i,hi,e,hx⟩
   obtain ⟨v,hv,ev⟩:=(hs x).mpr ⟨i,hi,e⟩
   rw [← hs.extreme,← ev] at hx
   exact ⟨v,List.mem_filter.mpr ⟨List.mem_range.mpr hv,(h.bit hS hF v).mpr ⟨hv,(extremeR_iff hS.inj v hv).mp hx⟩⟩,ev⟩
theorem bitV_length {E:Nat} {L:List V} (hE:∀ v,E.testBit v=true→v<L.length) (hL:L.length≤64):(bitsOf E 64).length=(bitV E L L.length).length:=by
 unfold bitV
 rw [List.length_map,bitsOf_gap E L.length 64 hL fun i h1 _=>by
  cases hb:E.testBit i
  ·rfl
  ·exact absurd (hE i hb) (by omega)]
theorem cmpV_le {a b:V} (h:cmpV a b≤0):a=b∨Lex a b:=by
 rcases lex_tri a b with h1 | h1 | h1
 ·exact .inr h1
 ·exact .inl h1
 ·have h2:=(cmpV_lt b a).mpr h1
  have h3:=cmpV_swap a b
  omega
theorem compactUpTo_ok (d:Array V) (hs:∀ i j,i<j→j<d.size→cmpV d[i]! d[j]!≤0):∀ m,m≤d.size →
  (compactUpTo d m).Pairwise Lex∧(∀ x,x ∈ compactUpTo d m↔∃ j,j<m∧d[j]! = x)∧∀ x ∈ compactUpTo d m,x=d[m - 1]!∨Lex x d[m - 1]!
 | 0,_=>by
  have e:compactUpTo d 0=[]:=rfl
  rw [e]
  exact ⟨List.Pairwise.nil,fun x=>⟨fun h=>absurd h (by simp),fun ⟨j,hj,_⟩=>absurd hj (by omega)⟩,fun x h=>absurd h (by simp)⟩
 | m+1,hm=>by
  obtain ⟨h1,h2,h3⟩:=compactUpTo_ok d hs m (by omega)
  rw [compactUpTo_succ,Nat.add_sub_cancel]
  by_cases hk:keeps d m=true
  ·rw [if_pos hk]
   have hlt:∀ x ∈ compactUpTo d m,Lex x d[m]! := fun x hx=>by
    have hm0:m≠0:=fun e=>by
     subst e
     obtain ⟨j,hj,_⟩:=(h2 x).mp hx
     omega
    have hne:d[m]!≠d[m - 1]! := by
     have:=of_decide_eq_true hk
     rcases this with h | h
     ·exact absurd h hm0
     ·exact h
    have hl:Lex d[m - 1]! d[m]! := by
     rcases cmpV_le (hs (m - 1) m (by omega) (by omega)) with h | h
     ·exact absurd h.symm hne
     ·exact h
    rcases h3 x hx with h | h
    ·rw [h];exact hl
    ·exact lex_trans h hl
   refine ⟨List.pairwise_append.mpr ⟨h1,List.pairwise_singleton _ _,fun a ha b hb=>by rw [List.mem_singleton.mp hb];exact hlt a ha⟩,fun x=>?_,fun x hx=>?_⟩
   ·rw [List.mem_append,List.mem_singleton,h2]
    constructor
    ·rintro (⟨j,hj,e⟩ | e)
     ·exact ⟨j,by omega,e⟩
     ·exact ⟨m,by omega,e.symm⟩
    ·rintro ⟨j,hj,e⟩
     by_cases h:j=m
     ·subst h;exact .inr e.symm
     ·exact .inl ⟨j,by omega,e⟩
   ·rcases List.mem_append.mp hx with h | h
    ·exact .inr (hlt x h)
    ·exact .inl (List.mem_singleton.mp h)
  ·rw [if_neg hk,List.append_nil]
   have hm0:0<m:=by
    rcases Nat.eq_zero_or_pos m with h | h
    ·subst h;exact absurd (keeps_lt_one d 0 (by omega)) hk
    ·exact h
   have he:d[m]! = d[m - 1]! := Classical.byContradiction fun h=>hk (keeps_pos h)
   refine ⟨h1,fun x=>?_,fun x hx=>by rw [he];exact h3 x hx⟩
   rw [h2]
   constructor
   ·rintro ⟨j,hj,e⟩;exact ⟨j,by omega,e⟩
   ·rintro ⟨j,hj,e⟩
    by_cases h:j=m
    ·subst h;exact ⟨j - 1,by omega,by rw [← he];exact e⟩
    ·exact ⟨j,by omega,e⟩
theorem compact_sorted {l l':List V} (hp:l'.Perm l) (hs:l'.Pairwise fun a b=>cmpV a b≤0):Lib.compact l'=sortV (ofL l) l.length:=by
 have hs':∀ i j,i<j→j<l'.toArray.size→cmpV l'.toArray[i]! l'.toArray[j]!≤0:=fun i j hij hj=>by
  have hj2:j<l'.length:=by simpa using hj
  have hi2:i<l'.length:=by omega
  have:=List.pairwise_iff_getElem.mp hs i j hi2 hj2 hij
  simpa [hi2,hj2] using this
 obtain ⟨h1,h2,-⟩:=compactUpTo_ok l'.toArray hs' l'.length (by simp)
 refine sorted_unique Lex Lex.irrefl (fun a b h1 h2=>Lex.irrefl _ (lex_trans h1 h2)) _ _ h1 (sorted_takeV _) fun x=>?_
 unfold sortV
 rw [mem_takeV]
 refine (h2 x).trans ?_
 have e:(∃ j,j<l'.length∧l'.toArray[j]! = x)↔x ∈ l':=by
  rw [List.mem_iff_getElem]
  constructor
  ·rintro ⟨j,hj,e⟩;exact ⟨j,hj,by simpa [hj] using e⟩
  ·rintro ⟨j,hj,e⟩;exact ⟨j,hj,by simpa [hj] using e⟩
 rw [e,hp.mem_iff,mem_ofL]
 exact ⟨fun ⟨i,hi,e⟩=>⟨i,hi,e,rfl⟩,fun ⟨i,hi,e,_⟩=>⟨i,hi,e⟩⟩
theorem sortV_congr {P Q:Nat→V} {n:Nat} (h:∀ i,i<n→P i=Q i):sortV P n=sortV Q n:=by
 unfold sortV
 have key:∀ k,k≤n→takeV P (fun _=>true) k=takeV Q (fun _=>true) k:=fun k=>by
  induction k with
  | zero=>intro _;rfl
  | succ k ih =>
   intro hk
   unfold takeV
   rw [ih (by omega),h k (by omega)]
 exact key n (Nat.le_refl _)
end Dowel
end
section
namespace Dowel
open Go Go.RowKit Go.Proofs.YtaibkpbklfodiaaGreatDoor
theorem Pts.src {w:World} {a:Option Addr} {n cap:Nat} {P:Nat→V} (h:Pts w a n cap P):SrcS w 3 a n (((List.range n).map P).flatMap v3):=by
 have hl:(((List.range n).map P).flatMap v3).length=n*3:=by rw [flat_len v3_len];simp
 cases a with
 | none =>
  have hn0:n=0:=by have h1:=h.nil rfl;have h2:=h.le;omega
  rw [hn0]
  exact SrcS.none w 3
 | some x =>
  obtain ⟨h1,h2,h3⟩:=h.at_ x rfl
  obtain ⟨b,off,sp⟩:=x
  simp only at h1
  subst h1
  refine SrcS.some hl fun j hj=>?_
  rw [hl] at hj
  have hi:j / 3<n:=Nat.div_lt_of_lt_mul (by omega)
  have hg:((List.range n).map P)[j / 3]?=some (P (j / 3)):=by rw [List.getElem?_map,List.getElem?_range hi];rfl
  have hc:=flat_cell v3 3 v3_len _ (j / 3) (j % 3) _ hg (Nat.mod_lt _ (by omega))
  rw [show j / 3*3+j % 3=j by omega] at hc
  rw [hc]
  obtain ⟨c0,c1,c2⟩:=h3 (j / 3) hi
  have hr:j % 3=0∨j % 3=1∨j % 3=2:=by omega
  rcases hr with e | e | e
  ·rw [e];have:off+j=off+j / 3*3:=by omega
   rw [this];exact c0
  ·rw [e];have:off+j=off+j / 3*3+1:=by omega
   rw [this];exact c1
  ·rw [e];have:off+j=off+j / 3*3+2:=by omega
   rw [this];exact c2
end Dowel
namespace Go.Proofs.YtaibkpbklfodiaaGreatDoor
open Go.RowKit Dowel
set_option maxRecDepth 20000 in
set_option maxHeartbeats 1000000 in
theorem clonePts_any (a:Option Addr) (len cap:Nat) (P:Nat→V) (w:World) (hP:Pts w a len cap P) (hl:len≤262144) :
  Calls Tryz.prog 74 #[.slice a len cap] w fun e w'=>(∃ v,e=.returned v∧OwnV w' w.heap.size v ((List.range len).map P))∧Below w.heap.size w w':=by
 obtain ⟨i0,hinf,hz0,hz1,hz2⟩:=info_parts infoVz
 have HS:=Lib.hid hP.src
 have hn:a=none→len=0:=fun e=>by have h1:=hP.nil e;have h2:=hP.le;omega
 have HP:=Lib.hid hP
 clear hP
 cases a with
 | none =>
  have:=hn rfl
  subst this
  clear hn HS HP
  have hq:=fun w=>Lib.run_eql_slice_nil (P:=Tryz.prog) w 22 46 none 0 cap 0 0 Tryz.underlying22
  go_enter Tryz.func74,Tryz.ntmps74
  go_wp2
  exact bodyPost_ret (results_tmp Tryz.results74 _ _ _) rfl ⟨⟨_,rfl,OwnG.nil _ _ _ _ _⟩,Below.refl _ _⟩
 | some x =>
  clear hn HP
  have hq:=fun w=>Lib.run_eql_slice_nil (P:=Tryz.prog) w 22 46 (some x) len cap 0 0 Tryz.underlying22
  go_enter Tryz.func74,Tryz.ntmps74
  go_wp2_with (at_builtin;refine wpList_append_src _ rfl _ _ 22 rfl w.heap.size 46 i0 (.agg #[.int .i64 0,.int .i64 0,.int .i64 0]) 3 24 Tryz.underlying22 hinf hz0 hz1 hz2 rfl (by decide) _ _ _ rfl (World.ownsRow_made w #[] 0 (Nat.le_refl _) (Nat.zero_le _) rfl) _ _ _ _ rfl (HS.out.below ((Below.refl _ _).alloc (Nat.le_refl _) _)) (v3_one _) (by unfold maxLen;omega) (by omega) (by simp) ?_)
  intro v1 w7 ho1 hg1
  have B67:=Lib.hid (show Below w.heap.size w w7 from ((Below.refl _ _).alloc (Nat.le_refl _) _).grown hg1 (by simp) (fun g e=>by cases e;exact Nat.le_refl _))
  have HO1:=Lib.hid (show OwnV w7 w.heap.size v1 ((List.range len).map P) from by
   show World.ownsRow _ _ _ _ _ _ _
   rw [show ((List.range len).map P).length=len by simp]
   exact ho1)
  clear ho1 hg1
  go_wp2
  exact bodyPost_ret (results_tmp Tryz.results74 _ _ _) rfl ⟨⟨_,rfl,HO1.out⟩,B67.out⟩
end Go.Proofs.YtaibkpbklfodiaaGreatDoor
end
section
namespace Dowel
open Go Go.RowKit Go.Proofs Go.Sort Go.Lib
section
variable {w : World} {base g n cap k : Nat} {t : TypeId} {xs : List Value}
theorem owns_prefix (h:w.ownsRow base t k (.slice (some ⟨g,0,none⟩) n cap) n xs) {m:Nat} (hm:m≤n):w.ownsRow base t k (.slice (some ⟨g,0,none⟩) m cap) m (xs.take (m*k)):=by
 obtain ⟨hl,⟨e,_⟩ | ⟨g',cap',cur,e,hg,hh,hn,hmx,hs,ht⟩⟩:=h
 ·cases e
 ·cases e
  have hk:=Nat.mul_le_mul_right k hm
  exact ⟨by rw [List.length_take,hl,Nat.min_eq_left hk],.inr ⟨_,_,cur,rfl,hg,hh,by omega,hmx,hs,by rw [← ht,List.take_take,Nat.min_eq_left hk]⟩⟩
theorem owns_put (h:w.ownsRow base t k (.slice (some ⟨g,0,none⟩) n cap) n xs) (j:Nat) (u:Value):(w.setCell ⟨g,j,none⟩ u).ownsRow base t k (.slice (some ⟨g,0,none⟩) n cap) n (xs.set j u):=by
 obtain ⟨hl,⟨e,_⟩ | ⟨g',cap',cur,e,hg,hh,hn,hmx,hs,ht⟩⟩:=h
 ·cases e
 ·cases e
  refine ⟨by rw [List.length_set,hl],.inr ⟨_,_,cur.setIfInBounds j u,rfl,hg,heap_setCell_same w g j cur t u hh,hn,hmx,by simp [hs],?_⟩⟩
  rw [Array.toList_setIfInBounds,List.take_set,ht]
theorem owns_hi (h:w.ownsRow base t k (.slice (some ⟨g,0,none⟩) n cap) n xs) {j:Nat} (hj:n*k≤j) (u:Value):(w.setCell ⟨g,j,none⟩ u).ownsRow base t k (.slice (some ⟨g,0,none⟩) n cap) n xs:=by
 have:=owns_put h j u
 rwa [List.set_eq_of_length_le (by rw [h.1];exact hj)] at this
theorem owns_setCells (vs:List Value):∀ {w:World} {o:Nat},w.ownsRow base t k (.slice (some ⟨g,0,none⟩) n cap) n xs→n*k≤o→(w.setCells g o vs).ownsRow base t k (.slice (some ⟨g,0,none⟩) n cap) n xs:=by
 induction vs with
 | nil=>intro w o h _;exact h
 | cons v r ih=>intro w o h ho;exact ih (owns_hi h ho v) (by omega)
theorem below_setCells {a:World} (vs:List Value):∀ {w:World} {o:Nat},Go.RowKit.Below base a w→base≤g→Go.RowKit.Below base a (w.setCells g o vs):=by
 induction vs with
 | nil=>intro w o h _;exact h
 | cons v r ih=>intro w o h hg;exact ih (h.setCell (p:=⟨g,o,none⟩) hg v) hg
end
theorem flat_set3:∀ (L:List V) (i:Nat) (p:V),i<L.length→(((L.flatMap v3).set (i*3) (.int .i64 p.x)).set (i*3+1) (.int .i64 p.y)).set (i*3+2) (.int .i64 p.z)=(L.set i p).flatMap v3
 | [],_,_,h=>by simp at h
 | q :: L,0,p,_=>rfl
 | q :: L,i+1,p,h=>by
  have ih:=flat_set3 L i p (by simpa using h)
  rw [List.set_cons_succ,List.flatMap_cons,List.flatMap_cons,← ih,show (i+1)*3=i*3+3 by omega]
  rfl
theorem OwnV.len {w:World} {base g n cap:Nat} {L:List V} (h:OwnV w base (.slice (some ⟨g,0,none⟩) n cap) L):n=L.length:=by
 obtain ⟨_,⟨e,_⟩ | ⟨g',cap',cur,e,_⟩⟩:=h
 ·cases e
 ·cases e;rfl
theorem OwnV.free {w:World} {base g n cap:Nat} {L:List V} (h:OwnV w base (.slice (some ⟨g,0,none⟩) n cap) L) (j:Nat):w.frozen? ⟨g,j,none⟩=false:=by
 obtain ⟨_,⟨e,_⟩ | ⟨g',cap',cur,e,_,hh,_⟩⟩:=h
 ·cases e
 ·cases e;exact frozen_of_row w g j cur _ hh
theorem OwnV.put {w:World} {base g n cap:Nat} {L:List V} (h:OwnV w base (.slice (some ⟨g,0,none⟩) n cap) L) {i:Nat} (hi:i<L.length) (p:V) :
  OwnV (((w.setCell ⟨g,i*3,none⟩ (.int .i64 p.x)).setCell ⟨g,i*3+1,none⟩ (.int .i64 p.y)).setCell ⟨g,i*3+2,none⟩ (.int .i64 p.z)) base (.slice (some ⟨g,0,none⟩) n cap) (L.set i p):=by
 obtain rfl:=h.len
 unfold OwnV OwnG
 rw [← flat_set3 L i p hi,List.length_set]
 exact owns_put (owns_put (owns_put h _ _) _ _) _ _
theorem OwnV.cut {w:World} {base g n cap:Nat} {L:List V} (h:OwnV w base (.slice (some ⟨g,0,none⟩) n cap) L) {m:Nat} (hm:m≤n) (vs:List Value):OwnV (w.setCells g (m*3) vs) base (.slice (some ⟨g,0,none⟩) m cap) (L.take m):=by
 obtain rfl:=h.len
 have h1:=owns_setCells vs (owns_prefix h hm) (Nat.le_refl _)
 unfold OwnV OwnG
 rw [List.length_take,Nat.min_eq_left hm,flat_take v3_len]
 exact h1
theorem run_clear_rows {P:Program} (w:World) (t e ty:TypeId) (z:Value) (k:Nat) (ht:P.underlying t=some (.slice e)) (hv:∀ w,(zeroValue e).run P w=.ok z w) (h1:∀ (m:Nat) (u:Value),u ∈ (Builtin.zeroCells z.cells m).toList→u.oneCell'=true)
  (hlen:∀ m,(Builtin.zeroCells z.cells m).size=m*k) (b o n c:Nat) (hn:0<n) (hc:∀ j,j<n*k→(w.cell? ⟨b,o+j,none⟩).isSome=true) (hf:∀ j,j<n*k→w.frozen? ⟨b,o+j,none⟩=false) :
  (Builtin.clear_ #[t] ty #[.slice (some ⟨b,o,none⟩) n c]).run P w=.ok (.tuple #[]) (w.setCells b o (Builtin.zeroCells z.cells n).toList):=by
 have hst:=run_storeCells_cells (P:=P) b o (Builtin.zeroCells z.cells n).toList 0 w (by rw [Array.length_toList,hlen];simpa using hc) (by rw [Array.length_toList,hlen];simpa using hf) (h1 n)
 simp only [Nat.add_zero] at hst
 obtain ⟨m,rfl⟩:∃ m,n=m+1:=⟨n - 1,by omega⟩
 simp [Builtin.clear_,run_underlying ht,hv,hst]
theorem OwnV.cellAt {w:World} {base g n cap:Nat} {L:List V} (h:OwnV w base (.slice (some ⟨g,0,none⟩) n cap) L) {i:Nat} (hi:i<L.length) :
  w.cell? ⟨g,i*3,none⟩=some (.int .i64 (L.getD i default).x)∧w.cell? ⟨g,i*3+1,none⟩=some (.int .i64 (L.getD i default).y)∧w.cell? ⟨g,i*3+2,none⟩=some (.int .i64 (L.getD i default).z):=by
 obtain ⟨b1,_,e1,-,-,-,c1⟩:=OwnG.at_ v3_len h i _ (getD_some default hi)
 cases e1
 exact ⟨c1 0 (by omega),c1 1 (by omega),c1 2 (by omega)⟩
theorem compact_short {l:List V} (h:l.length<2):Lib.compact l=l:=by
 match l,h with
 | [],_=>rfl
 | [x],_=>rfl
theorem keepsA {l:List V} {k:Nat} (hk:k+1<l.length):(l.toArray)[k+1]! = l.getD (k+1) default∧(l.toArray)[k+1 - 1]! = l.getD k default:=by
 constructor
 ·simp [hk]
 ·have:k<l.length:=by omega
  simp [this]
end Dowel
namespace Go.Proofs.YtaibkpbklfodiaaGreatDoor
open Go.RowKit Dowel Go.Lib
theorem zero46 (w:World):(zeroValue 46).run Tryz.prog w=.ok (.agg #[.int .i64 0,.int .i64 0,.int .i64 0]) w:=by
 obtain ⟨i0,hinf,hz0,-,-⟩:=info_parts infoVz
 simp [zeroValue,typeInfo,hinf,hz0]
theorem clear_pts (w:World) (g o n c:Nat) (hn:0<n) (hc:∀ j,j<n*3→(w.cell? ⟨g,o+j,none⟩).isSome=true) (hf:∀ j,j<n*3→w.frozen? ⟨g,o+j,none⟩=false) :
  ∃ vs,∀ ty,(Builtin.clear_ #[22] ty #[.slice (some ⟨g,o,none⟩) n c]).run Tryz.prog w=.ok (.tuple #[]) (w.setCells g o vs):=
 ⟨_,fun ty=>run_clear_rows w _ _ ty _ 3 Tryz.underlying22 zero46 (fun m u hu=>by
  simp only [Builtin.zeroCells,Array.toList_map,List.mem_map] at hu
  obtain ⟨i,-,rfl⟩:=hu
  have h3:i % 3<3:=Nat.mod_lt _ (by omega)
  show ((#[Value.int .i64 0,.int .i64 0,.int .i64 0]:Array Value)[i % 3]!).oneCell'=true
  generalize i % 3=r at h3
  match r,h3 with
  | 0,_=>rfl
  | 1,_=>rfl
  | 2,_=>rfl) (fun m=>by simp [Builtin.zeroCells,Value.cells]) g o n c hn hc hf⟩
set_option maxHeartbeats 4000000 in
set_option maxRecDepth 20000 in
theorem compactPts_any (v:Value) (l:List V) (base:Nat) (w:World) (hO:OwnV w base v l) (hl:l.length≤262144) :
  Calls Tryz.prog 76 #[v] w fun e w'=>(∃ v',e=.returned v'∧OwnV w' base v' (Lib.compact l))∧Go.RowKit.Below base w w':=by
 obtain ⟨a,cap,rfl,hc,hm,hf⟩:=hO.form
 obtain ⟨N,hN⟩:∃ N,l.length=N:=⟨_,rfl⟩
 by_cases h2:N<2
 ·have HR:=Lib.hid (show OwnV w base (.slice a N cap) (Lib.compact l) from by rw [compact_short (by omega),← hN];exact hO)
  rw [hN]
  clear hO hf hN hc hm
  have h2i:(N:Int)<2:=by omega
  go_enter Tryz.func76,Tryz.ntmps76
  go_wp2
  exact bodyPost_ret (results_tmp Tryz.results76 _ _ _) rfl ⟨⟨_,rfl,HR.out⟩,Go.RowKit.Below.refl _ _⟩
 have h2i:¬ (N:Int)<2:=by omega
 obtain ⟨g,rfl,hg,hgb,-⟩:∃ g,a=some ⟨g,0,none⟩∧g<w.heap.size∧base≤g∧True:=by
  rcases hf with ⟨_,h,_⟩ | ⟨g,h1,h3,h4,_⟩
  ·subst h;simp at hN;omega
  ·exact ⟨g,h1,h3,h4,trivial⟩
 have HO:=Lib.hid hO
 have HN:=Lib.hid (show l.length≤N∧N≤l.length from ⟨by omega,by omega⟩)
 have HGB:=Lib.hid hgb
 rw [hN] at HO hc ⊢
 clear hO hN hf hg hgb
 have e46:=eq46
 go_enter Tryz.func76,Tryz.ntmps76
 go_wp2_with fail
 go_loopw [3] (fun kv wr=>∃ k:Nat,k+1≤N∧kv=.int .i64 ((k+1:Nat):Int)∧Hid (∀ j,j<k+1→keeps l.toArray j=true)∧Hid (OwnV wr base (.slice (some ⟨g,0,none⟩) N cap) l)∧Hid (Go.RowKit.Below base w wr)) (fun kv _=>N - (intOf kv).toNat)
 case atStart=>exact ⟨0,by omega,rfl,keeps_lt_one _,HO.out,Go.RowKit.Below.refl _ _⟩
 case round =>
  obtain ⟨k,hk,rfl,HK,HO1,HB1⟩:=hrel
  obtain ⟨w1,rfl⟩:∃ w1,w1=wr:=⟨_,rfl⟩
  by_cases h0:k+1=N
  ·have hnl:¬ ((k+1:Nat):Int)<(N:Int):=by omega
   have HR:=Lib.hid (show OwnV w1 base (.slice (some ⟨g,0,none⟩) N cap) (Lib.compact l) from by
    have e:Lib.compact l=l:=by
     unfold Lib.compact
     rw [compactUpTo_all _ _ (fun j hj=>HK.out j (by have:=HN.out;omega))]
     refine List.ext_getElem (by simp) fun i h1 h2=>?_
     have:i<l.length:=by simpa using h1
     simp [this]
    rw [e];exact HO1.out)
   clear h0
   go_wp2
   exact bodyPost_ret (results_tmp Tryz.results76 _ _ _) rfl ⟨⟨_,rfl,HR.out⟩,HB1.out⟩
  ·have hkl:k+1<N:=by omega
   have hlt:((k+1:Nat):Int)<(N:Int):=by omega
   have HKL:=Lib.hid hkl
   obtain ⟨p0,p1,p2⟩:=OwnV.cellAt HO1.out (show k+1<l.length by have:=HN.out;omega)
   obtain ⟨q0,q1,q2⟩:=OwnV.cellAt HO1.out (show k<l.length by have:=HN.out;omega)
   obtain ⟨p,hp⟩:∃ p,l.getD (k+1) default=p:=⟨_,rfl⟩
   obtain ⟨q,hq⟩:∃ q,l.getD k default=q:=⟨_,rfl⟩
   rw [hp] at p0 p1 p2
   rw [hq] at q0 q1 q2
   have HKE:=Lib.hid (show l.toArray[k+1]! = p∧l.toArray[k+1 - 1]! = q from by
    obtain ⟨h1,h2⟩:=keepsA (l:=l) (k:=k) (by have:=HN.out;omega)
    exact ⟨h1.trans hp,h2.trans hq⟩)
   have hk6:k<262144:=by have:=HN.out;omega
   clear hp hq h0
   by_cases hpq:p=q
   ·have hbq:(p.x == q.x && p.y == q.y && p.z == q.z)=true:=by rw [hpq];simp
    have HPQ:=Lib.hid hpq
    clear hpq
    go_wp2_with fail
    go_region
    have HB2:=Lib.hid (below_drewN HB1.out 1)
    have HO2:=Lib.hid (OwnG.below HO1.out (below_drewN (Go.RowKit.Below.refl _ _) 1))
    clear p0 p1 p2 q0 q1 q2
    have hck:k+1≤cap:=by omega
    go_wp2_with fail
    go_loopw [3,5] (fun kv jv wr=>∃ (kk k2:Nat) (dk:Array V),kv=.int .i64 (kk:Nat)∧jv=.int .i64 ((k2+1:Nat):Int)∧k+1+(k2+1)≤N∧Hid (CompInv l.toArray (k+1+(k2+1)) kk dk)∧Hid (OwnV wr base (.slice (some ⟨g,0,none⟩) N cap) dk.toList)∧Hid (Go.RowKit.Below base w wr)) (fun _ jv _=>N - (intOf jv).toNat)
    case atStart=>exact ⟨k+1,0,l.toArray,rfl,rfl,by have:=HKL.out;omega,CompInv.start HK.out (keeps_neg (by omega) (by rw [HKE.out.1,HKE.out.2];exact HPQ.out)),HO2.out,HB2.out⟩
    case round =>
     obtain ⟨kk,k2,dk,rfl,rfl,hle,HI,HO3,HB3⟩:=hrel
     obtain ⟨w3,rfl⟩:∃ w3,w3=wr:=⟨_,rfl⟩
     have HSZ:=Lib.hid (show dk.toList.length≤N∧N≤dk.toList.length from by have h1:=HI.out.size;have h2:=HN.out;rw [Array.length_toList];simp at h1;omega)
     have hk26:k2<262144:=by have:=HN.out;omega
     have hkk:=HI.out.lt
     have hkk6:kk<262144:=by have:=HN.out;omega
     by_cases hend:k+1+(k2+1)=N
     ·have hnl2:¬ ((k2+1:Nat):Int)<((N - (k+1):Nat):Int):=by omega
      have hkn:kk<N:=by omega
      have HCQ:=Lib.hid (show dk.toList.take kk=Lib.compact l from by
       have h1:=HI.out.len
       have h2:=HI.out.low
       have h3:=HI.out.size
       have hmN:k+1+(k2+1)=l.length:=by have:=HN.out;omega
       rw [hmN] at h1 h2
       refine List.ext_getElem? fun j=>?_
       by_cases hj:j<kk
       ·rw [List.getElem?_take_of_lt hj,show (Lib.compact l)[j]?=some dk[j]! from h2 j hj]
        have:j<dk.size:=by have:=HSZ.out;rw [Array.length_toList] at this;omega
        simp [this]
       ·rw [List.getElem?_eq_none (by rw [List.length_take];omega),List.getElem?_eq_none (by show (compactUpTo _ _).length≤j;omega)])
      have hfl:(dk.toList.flatMap v3).length=dk.toList.length*3:=flat_len v3_len _
      obtain ⟨vs,hcl⟩:=clear_pts w3 g (kk*3) (N - kk) (cap - kk) (by omega) (fun j hj=>by
       have hj2:kk*3+j<dk.toList.length*3:=by have:=HSZ.out;rw [Nat.sub_mul] at hj;omega
       have h:=HO3.out
       have hn:=OwnV.len h
       rw [hn] at h
       rw [World.ownsRow.cellAt (show World.ownsRow _ _ _ _ _ _ _ from h) (kk*3+j) hj2,List.getElem?_eq_getElem (by rw [hfl];exact hj2)]
       rfl) (fun j _=>OwnV.free HO3.out _)
      have HFI:=Lib.hid (show OwnV (w3.setCells g (kk*3) vs) base (.slice (some ⟨g,0,none⟩) kk cap) (Lib.compact l) from by
       rw [← HCQ.out];exact OwnV.cut HO3.out (by omega) vs)
      have HBI:=Lib.hid (below_setCells (g:=g) (o:=kk*3) vs HB3.out HGB.out)
      have hkc:kk<cap:=by omega
      clear hfl hend
      go_wp2
      exact bodyPost_ret (results_tmp Tryz.results76 _ _ _) rfl ⟨⟨_,rfl,HFI.out⟩,HBI.out⟩
     ·have hm:k+1+(k2+1)<N:=by omega
      have hlt2:((k2+1:Nat):Int)<((N - (k+1):Nat):Int):=by omega
      obtain ⟨c0,c1,c2⟩:=OwnV.cellAt HO3.out (show k+1+(k2+1)<dk.toList.length by have:=HSZ.out;omega)
      obtain ⟨d0,d1,d2⟩:=OwnV.cellAt HO3.out (show k+1+k2<dk.toList.length by have:=HSZ.out;omega)
      have HDU:=Lib.hid (show l.toArray[k+1+(k2+1)]! = dk.toList.getD (k+1+(k2+1)) default∧l.toArray[k+1+(k2+1) - 1]! = dk.toList.getD (k+1+k2) default from by
       have hs:=HSZ.out
       rw [Array.length_toList] at hs
       refine ⟨?_,?_⟩
       ·rw [← HI.out.high (k+1+(k2+1)) (by omega)];simp [show k+1+(k2+1)<dk.size by omega]
       ·rw [← HI.out.high (k+1+(k2+1) - 1) (by omega),show k+1+(k2+1) - 1=k+1+k2 by omega];simp [show k+1+k2<dk.size by omega])
      obtain ⟨p,hp⟩:∃ p,dk.toList.getD (k+1+(k2+1)) default=p:=⟨_,rfl⟩
      obtain ⟨q,hq⟩:∃ q,dk.toList.getD (k+1+k2) default=q:=⟨_,rfl⟩
      rw [hp] at c0 c1 c2 HDU
      rw [hq] at d0 d1 d2 HDU
      rw [show (k+1+(k2+1))*3=(k+1)*3+(k2+1)*3 by omega] at c0 c1 c2
      rw [show (k+1+k2)*3=(k+1)*3+k2*3 by omega] at d0 d1 d2
      clear hp hq hend
      by_cases hpq2:p=q
      ·have hbq:(p.x == q.x && p.y == q.y && p.z == q.z)=true:=by rw [hpq2];simp
       have HPQ2:=Lib.hid hpq2
       clear hpq2
       go_wp2_with fail
       go_region
       go_wp2
       go_round
       case rel=>exact ⟨kk,k2+1,dk,rfl,rfl,by omega,HI.out.skip (keeps_neg (by omega) (by rw [HDU.out.1,HDU.out.2];exact HPQ2.out)),OwnG.below HO3.out (below_drewN (Go.RowKit.Below.refl _ _) _),below_drewN HB3.out _⟩
       case measure=>simp [intOf];omega
      ·have hbq:(p.x == q.x && p.y == q.y && p.z == q.z)=false:=by
        refine Bool.eq_false_iff.mpr fun h=>hpq2 ?_
        simp only [Bool.and_eq_true,beq_iff_eq] at h
        exact V.ext' h.1.1 h.1.2 h.2
       have HPQ2:=Lib.hid hpq2
       clear hpq2
       obtain ⟨r0,r1,r2⟩:=OwnV.cellAt HO3.out (show kk<dk.toList.length by have:=HSZ.out;omega)
       have g0:=OwnV.free HO3.out (kk*3)
       have g1:=OwnV.free HO3.out (kk*3+1)
       have g2:=OwnV.free HO3.out (kk*3+2)
       generalize dk.toList.getD kk default=old at r0 r1 r2
       have hkn:kk<N:=by omega
       have hkni:(kk:Int)<(N:Int):=by omega
       have hkd:kk<dk.toList.length:=by have:=HSZ.out;omega
       have HKD:=Lib.hid hkd
       clear hkd
       go_wp2_with fail
       go_region
       go_wp2_with fail
       go_round
       case rel=>exact ⟨kk+1,k2+1,dk.setIfInBounds kk p,rfl,rfl,by omega,by
        have h:=HI.out.keep (by have:=HSZ.out;have h4:=HI.out.size;rw [Array.length_toList] at this;omega) (keeps_pos (by rw [HDU.out.1,HDU.out.2];exact HPQ2.out))
        rw [HDU.out.1] at h;exact h,by
        rw [Array.toList_setIfInBounds]
        exact OwnG.below (OwnV.put HO3.out HKD.out p) ((Go.RowKit.Below.refl _ _).drew),(((HB3.out.setCell (p:=⟨g,kk*3,none⟩) HGB.out _).setCell (p:=⟨g,kk*3+1,none⟩) HGB.out _).setCell (p:=⟨g,kk*3+2,none⟩) HGB.out _).drew⟩
       case measure=>simp [intOf];omega
   ·have hbq:(p.x == q.x && p.y == q.y && p.z == q.z)=false:=by
     refine Bool.eq_false_iff.mpr fun h=>hpq ?_
     simp only [Bool.and_eq_true,beq_iff_eq] at h
     exact V.ext' h.1.1 h.1.2 h.2
    have HPQ:=Lib.hid hpq
    clear hpq
    go_wp2_with fail
    go_region
    go_wp2
    go_round
    case rel=>exact ⟨k+1,by have:=HKL.out;omega,rfl,(fun j hj=>by
     by_cases e:j=k+1
     ·subst e
      refine keeps_pos ?_
      rw [HKE.out.1,HKE.out.2];exact HPQ.out
     ·exact HK.out j (by omega)),OwnG.below HO1.out (below_drewN (Go.RowKit.Below.refl _ _) _),below_drewN HB1.out _⟩
    case measure=>have:=HKL.out;simp [intOf];omega
end Go.Proofs.YtaibkpbklfodiaaGreatDoor
end
section
namespace Dowel
open Go Go.RowKit Go.Proofs.YtaibkpbklfodiaaGreatDoor
theorem far_any_iff {P:Nat→V} {len:Nat}:(List.range len).any (fun k=>far (P k))=true↔∃ i,i<len∧far (P i)=true:=by
 rw [List.any_eq_true]
 exact ⟨fun ⟨i,hi,h⟩=>⟨i,List.mem_range.mp hi,h⟩,fun ⟨i,hi,h⟩=>⟨i,List.mem_range.mpr hi,h⟩⟩
theorem bit_eq {E:Nat} (k:Nat) (hE:E<18446744073709551616):(bits .and .u64 ((E:Int) / 2 ^ k) 1 == 1)=E.testBit k:=by
 have e1:((E:Int) / 2 ^ k)=((E >>> k:Nat):Int):=by
  rw [Nat.shiftRight_eq_div_pow]
  push_cast
  rfl
 have h1:E >>> k<18446744073709551616:=Nat.lt_of_le_of_lt (by rw [Nat.shiftRight_eq_div_pow];exact Nat.div_le_self _ _) hE
 have e2:bits .and .u64 ((E >>> k:Nat):Int) 1=((E >>> k &&& 1:Nat):Int):=by
  rw [← u64_and_nat _ _ h1 (by decide)];rfl
 rw [e1,e2]
 unfold Nat.testBit
 rw [Nat.and_comm 1,Nat.and_one_is_mod]
 have h2:E >>> k % 2<2:=Nat.mod_lt _ (by omega)
 generalize E >>> k % 2=r at h2
 have:r=0∨r=1:=by omega
 rcases this with rfl | rfl <;> rfl
theorem own_len {w:World} {base M:Nat} {a:Option Addr} {c:Nat} {l:List V} (h:OwnV w base (.slice a M c) l) (hm:l.length≤M∧M≤l.length):w.ownsRow base 46 3 (.slice a M c) M (l.flatMap v3):=by
 have e:l.length=M:=by omega
 have:=h
 unfold OwnV OwnG at this
 rwa [e] at this
theorem map_ofL {P:Nat→V} {len i:Nat} (hi:i<len):ofL ((List.range len).map P) i=P i:=by
 unfold ofL
 rw [List.getD_eq_getElem?_getD,List.getElem?_map,List.getElem?_range hi];rfl
end Dowel
namespace Go.Proofs.YtaibkpbklfodiaaGreatDoor
open Go.RowKit Dowel
open Classical
set_option maxHeartbeats 4000000 in
set_option maxRecDepth 20000 in
theorem chull_any (a:Option Addr) (len cap:Nat) (P:Nat→V) (w:World) (hT:Tab w) (hP:Pts w a len cap P) (hlen:len≤4611686018427387904) :
  Calls Tryz.prog 30 #[.slice a len cap] w fun e w'=>RetHull P len w.heap.size w' e∧Below w.heap.size w w':=by
 obtain ⟨W,hW,b1,hB,hS⟩:=boxes1 w #[.slice none 0 0] 24
 obtain ⟨i0,hinf,hz0,hz1,hz2⟩:=info_parts infoVz
 obtain ⟨z0,z1⟩:=b1.one
 have HT:=Lib.hid (hT.below hB hT.1)
 have HP:=Lib.hid (hP.below hB)
 have B1:=Lib.hid b1
 have HB:=Lib.hid hB
 have HS:=Lib.hid hS
 obtain ⟨res,hres⟩:∃ res,hullE P len=res:=⟨_,rfl⟩
 have HRES:=Lib.hid hres
 have HERR:=Lib.hid (show ∀ (wr:World),Below W.heap.size W wr→Below w.heap.size w (wr.setCell ⟨w.heap.size,0,none⟩ (.slice none 0 0)) from fun wr h=>(below_call hB h (by omega)).setCell (p:=⟨w.heap.size,0,none⟩) (Nat.le_refl _) _)
 have HBX:=Lib.hid (show ∀ (wr:World) (u:Value),Below W.heap.size W wr→Box (wr.setCell ⟨w.heap.size,0,none⟩ u) w.heap.size #[u] 24 from fun wr u h=>(b1.below h b1.lt).set 0 u)
 have HZ:=Lib.hid (show ∀ (wr:World),Below W.heap.size W wr→wr.cell? ⟨w.heap.size,0,none⟩=some (.slice none 0 0)∧wr.frozen? ⟨w.heap.size,0,none⟩=false from fun wr h=>(b1.below h b1.lt).one)
 clear hP hB hS b1 hres hT
 by_cases h64:64<len
 ·have e:res=6:=by rw [← HRES.out];unfold hullE;rw [if_pos h64]
  subst e
  have h64i:(64:Int)<(len:Int):=by omega
  go_enter Tryz.func30,Tryz.ntmps30
  go_wp2
  exact ret_box1 Tryz.results30 (w.heap.size) (HBX.out W _ (Below.refl _ _)) _ rfl Tryz.underlying24 rfl infoCell rfl ⟨RetHull.err HRES.out (by decide),HERR.out W (Below.refl _ _)⟩
 have hl64:len≤64:=by omega
 have h64i:¬ (64:Int)<(len:Int):=by omega
 have HR:Hid ((if ∃ i,i<len∧far (P i)=true then (2:Int) else if len=0∨¬ Full4 P len then 23 else if 16<(hullR P len).length then 6 else 0)=res):=by
  rw [← HRES.out];unfold hullE;rw [if_neg h64];exact rfl
 have eg:∀ args w,(callFunc 55 args).run Tryz.prog w=.ok (.enter 55 args) w:=enters_of Tryz.func55 (by kernel_rfl) rfl
 have HCF:=Lib.hid (containsPts_any 55 #[] (fun k=>far (P k)) a len cap P W HP.out hl64 eg (fun w' _ k _=>outside_any (P k) w'))
 clear h64 eg
 go_enter Tryz.func30,Tryz.ntmps30
 go_wp2_with fail
 refine HCF.out.mono ?_
 rintro e w2 ⟨rfl,hb2⟩
 have H2:=Lib.hid hb2
 clear hb2 z0 z1
 obtain ⟨z0,z1⟩:=HZ.out w2 H2.out
 cases hfar:(List.range len).any (fun k=>far (P k))
 case true =>
  have e:res=2:=by rw [← HR.out,if_pos (far_any_iff.mp hfar)]
  subst e
  clear hfar
  go_wp2
  exact ret_box1 Tryz.results30 (w.heap.size) (HBX.out w2 _ H2.out) _ rfl Tryz.underlying24 rfl infoCell rfl ⟨RetHull.err HRES.out (by decide),HERR.out w2 H2.out⟩
 case false =>
  have hnf:¬ ∃ i,i<len∧far (P i)=true:=fun h=>by rw [far_any_iff.mpr h] at hfar;cases hfar
  have HNR:=Lib.hid (show ∀ q,q<len→Near (P q) from fun q hq=>(far_iff _).mp (by
   cases h:far (P q)
   ·rfl
   ·exact absurd ⟨q,hq,h⟩ hnf))
  have HR4:Hid ((if len=0∨¬ Full4 P len then (23:Int) else if 16<(hullR P len).length then 6 else 0)=res):=by
   rw [← HR.out,if_neg hnf];exact rfl
  clear hnf hfar HR
  go_wp2_with fail
  refine (clonePts_any a len cap P w2 (HP.out.below H2.out) (by omega)).mono ?_
  rintro e w3 ⟨⟨vq,rfl,hv3⟩,hb3⟩
  have H3:=Lib.hid (below_call H2.out hb3 (Nat.le_refl _))
  have V3:=Lib.hid (OwnG.down hv3 (by have:=H2.out.size;exact this))
  clear hv3 hb3 z0 z1
  go_wp2_with fail
  refine (sortPts_any vq _ W.heap.size w3 V3.out (by simp;omega)).mono ?_
  rintro e w4 ⟨rfl,⟨l',hp,hs,hv4⟩,hb4⟩
  have H4:=Lib.hid (Below.trans H3.out hb4)
  have HL':=Lib.hid hp.length_eq
  have HCS:=Lib.hid (compact_sorted hp hs)
  have V4:=Lib.hid hv4
  clear hv4 hb4 hp hs
  go_wp2_with fail
  refine (compactPts_any vq l' W.heap.size w4 V4.out (by rw [HL'.out];simp;omega)).mono ?_
  rintro e w5 ⟨⟨v5,rfl,hv5⟩,hb5⟩
  have H5:=Lib.hid (Below.trans H4.out hb5)
  have e5:Lib.compact l'=sortV P len:=by
   rw [HCS.out,List.length_map,List.length_range]
   exact sortV_congr fun i hi=>map_ofL hi
  rw [e5] at hv5
  have V5:=Lib.hid hv5
  clear hv5 hb5 e5 HCS HL' V4 V3
  have HSM:=Lib.hid (same_sortV P len)
  have HSO:=Lib.hid (sorted_sortV HNR.out)
  have HLL:=Lib.hid (show (sortV P len).length≤len from length_takeV _)
  have HHU:=Lib.hid (fun (hf:Full4 P len) (fs:List RF) (E:Nat) (h:RingsOk (ofL (sortV P len)) (sortV P len).length fs E)=>bitV_hull HNR.out hf h)
  obtain ⟨L,hL⟩:∃ L,sortV P len=L:=⟨_,rfl⟩
  rw [hL] at V5 HSM HSO HLL HHU
  clear hL
  obtain ⟨la,lc,rfl,hpl⟩:=OwnV.pts V5.out
  obtain ⟨N,hN⟩:∃ N,L.length=N:=⟨_,rfl⟩
  have HN:=Lib.hid (show L.length≤N∧N≤L.length from ⟨by omega,by omega⟩)
  rw [hN] at hpl HSM HSO HLL HHU ⊢
  have HLP:=Lib.hid hpl
  clear hN hpl
  go_wp2_with fail
  refine (cflat_any la N lc (ofL L) w5 HLP.out (by have:=HLL.out;omega) (fun i hi=>(HSO.out.near i hi).le)).mono ?_
  rintro e w6 ⟨⟨fl,rfl,hfl⟩,hb6⟩
  have H6:=Lib.hid (below_call H5.out hb6 (Nat.le_refl _))
  have HL6:=Lib.hid (HLP.out.below hb6)
  clear hb6
  obtain ⟨z0,z1⟩:=HZ.out w6 H6.out
  cases fl
  case true =>
   have e:res=23:=by rw [← HR4.out,if_pos (.inr fun h=>hfl.mp rfl (HSM.out.symm.full4 h))]
   subst e
   clear hfl
   go_wp2
   exact ret_box1 Tryz.results30 (w.heap.size) (HBX.out w6 _ H6.out) _ rfl Tryz.underlying24 rfl infoCell rfl ⟨RetHull.err HRES.out (by decide),HERR.out w6 H6.out⟩
  case false =>
   have hf4L:Full4 (ofL L) N:=Classical.byContradiction fun hc=>absurd (hfl.mpr hc) (by decide)
   have hf4:Full4 P len:=HSM.out.full4 hf4L
   have HF:=Lib.hid hf4L
   have hl0:len≠0:=fun e=>by
    subst e
    obtain ⟨i,j,k,m,hi,-⟩:=hf4;omega
   have HR5:Hid ((if 16<(hullR P len).length then (6:Int) else 0)=res):=by
    rw [← HR4.out,if_neg (show ¬ (len=0∨¬ Full4 P len) from by
     rintro (h | h)
     ·exact hl0 h
     ·exact h hf4)];exact rfl
   have HH2:=Lib.hid (fun fs E h=>HHU.out hf4 fs E h)
   clear hfl hf4 hf4L hl0 HR4 HHU
   go_wp2_with fail
   refine (rings_any la N lc (ofL L) w6 (HT.out.below H6.out HT.out.1) HL6.out (by have:=HLL.out;omega) (fun i hi=>(HSO.out.near i hi).le) HSO.out HF.out.full).mono ?_
   rintro e w7 ⟨⟨pv,rv,fs,E,rfl,-,-,-,hok⟩,hb7⟩
   have H7:=Lib.hid (below_call H6.out hb7 (Nat.le_refl _))
   have HL7:=Lib.hid (HL6.out.below hb7)
   have HBV:=Lib.hid (HH2.out fs E hok)
   have HBIT:=Lib.hid (fun v=>hok.bit HSO.out HF.out.full v)
   have hE64:=hok.bits.1
   have hlen:=bitV_length (E:=E) (L:=L) (fun v hv=>by have:=((hok.bit HSO.out HF.out.full v).mp hv).1;have:=HN.out;omega) (by have:=HN.out;have:=HLL.out;omega)
   clear hb7 hok HH2 z0 z1
   obtain ⟨z0,z1⟩:=HZ.out w7 H7.out
   have hLN:L.length=N:=by have:=HN.out;omega
   rw [hLN,HBV.out] at hlen
   clear hLN
   have hones:=ones_any E w7 hE64
   rw [hlen] at hones
   obtain ⟨K,hK⟩:∃ K,(hullR P len).length=K:=⟨_,rfl⟩
   rw [hK] at hones HR5
   have HK:=Lib.hid (show (hullR P len).length≤K∧K≤(hullR P len).length from ⟨by omega,by omega⟩)
   have HONE:=Lib.hid hones
   have HE64:=Lib.hid hE64
   clear hones hlen hK
   go_wp2_with fail
   refine HONE.out.mono ?_
   rintro e w8 ⟨rfl,rfl⟩
   by_cases h16:16<K
   ·have e:res=6:=by rw [← HR5.out,if_pos h16]
    subst e
    have h16i:(16:Int)<(K:Int):=by omega
    go_wp2
    exact ret_box1 Tryz.results30 (w.heap.size) (HBX.out w8 _ H7.out) _ rfl Tryz.underlying24 rfl infoCell rfl ⟨RetHull.err HRES.out (by decide),HERR.out w8 H7.out⟩
   have e:res=0:=by rw [← HR5.out,if_neg h16]
   subst e
   have h16i:¬ (16:Int)<(K:Int):=by omega
   go_upto_region 14 with fail
   obtain ⟨w9,hw9,b9,hb9,hs9⟩:=boxes1 w8 #[.slice none 0 0] 24
   rw [hw9]
   have B9:=Lib.hid b9
   have HB9:=Lib.hid hb9
   have HS9:=Lib.hid hs9
   have hN64:N≤64:=by have:=HLL.out;omega
   clear b9 hb9 hs9 hw9 h16 z0 z1
   go_wp2_with fail
   go_loopw [39] (fun iv wr=>∃ k,k≤N∧iv=.int .i64 (k:Nat)∧∃ ov,Hid (Box wr w8.heap.size #[ov] 24)∧Hid (OwnV wr w8.heap.size ov (bitV E L k))∧Hid (Below w8.heap.size w8 wr)) (fun iv _=>N - (intOf iv).toNat)
   case atStart=>exact ⟨0,Nat.zero_le _,rfl,_,B9.out,OwnG.nil _ _ _ _ _,HB9.out⟩
   case round =>
    obtain ⟨k,hk,rfl,ov,HBO,HO,HR8⟩:=hrel
    obtain ⟨wk,rfl⟩:∃ wk,wk=wr:=⟨_,rfl⟩
    have HWK:=Lib.hid (below_call H7.out HR8.out (Nat.le_refl _))
    by_cases h0:k=N
    ·have hnl:¬ (k:Int)<(N:Int):=by omega
     obtain ⟨z0,z1⟩:=HZ.out wk HWK.out
     obtain ⟨o0,-⟩:=HBO.out.one
     have HO9:=Lib.hid (show OwnV wk w8.heap.size ov (hullR P len) from by
      have e:k=N:=h0
      rw [← HBV.out,← e];exact HO.out)
     obtain ⟨oa,oc,hov,-,-,-⟩:=OwnG.form HO9.out
     subst hov
     obtain ⟨M,hM⟩:∃ M,(hullR P len).length=M:=⟨_,rfl⟩
     rw [hM] at HO9 o0 HBO HO
     clear hM
     have HO8:=Lib.hid (HO9.out.set (B1.out.below HWK.out B1.out.lt) (by decide) 0 (.slice oa M oc))
     have HDO:=Lib.hid (show w.heap.size≤w8.heap.size from by have:=H7.out.size;have:=HS.out;omega)
     clear h0
     go_wp2
     exact ret_box1 Tryz.results30 (w.heap.size) (HBX.out wk _ HWK.out) _ rfl Tryz.underlying24 rfl infoCell rfl ⟨⟨_,by rw [HRES.out];rfl,fun h=>absurd HRES.out h,fun _=>OwnG.down HO8.out HDO.out⟩,(below_call HB.out HWK.out (by have:=HS.out;omega)).setCell (p:=⟨w.heap.size,0,none⟩) (Nat.le_refl _) _⟩
    have hkl:k<N:=by omega
    have hlt:(k:Int)<(N:Int):=by omega
    have HKL:=Lib.hid hkl
    obtain ⟨b,off,rfl,hb,-,hcc⟩:=(HL7.out.below HR8.out).cells (by omega)
    obtain ⟨q0,q1,q2⟩:=hcc k hkl
    obtain ⟨p,hp⟩:∃ p,ofL L k=p:=⟨_,rfl⟩
    rw [hp] at q0 q1 q2
    have HP':=Lib.hid hp
    have HBK:=Lib.hid (bitV_succ (E:=E) (L:=L) (k:=k))
    obtain ⟨oa,oc,hov,-,-,-⟩:=OwnG.form HO.out
    subst hov
    obtain ⟨M,hM⟩:∃ M,(bitV E L k).length=M:=⟨_,rfl⟩
    have HM:=Lib.hid (show M≤64∧(bitV E L k).length≤M∧M≤(bitV E L k).length from by
     have h1:(bitV E L k).length≤k:=by unfold bitV;rw [List.length_map];exact bitsOf_length E k
     omega)
    rw [hM] at HBO HO
    have hbb:=bit_eq (E:=E) k HE64.out
    obtain ⟨bt,hbt⟩:∃ bt,E.testBit k=bt:=⟨_,rfl⟩
    rw [hbt] at hbb
    have HBT:=Lib.hid hbt
    obtain ⟨o0,o1⟩:=HBO.out.one
    clear hcc hp h0 hM hbt
    cases bt
    case false =>
     go_wp2_with fail
     go_round
     case rel=>exact ⟨k+1,HKL.out,rfl,_,(HBO.out.below ((Below.refl _ _).alloc (Nat.le_refl _) _) HBO.out.lt),(by
      rw [HBK.out,if_neg (by rw [HBT.out];decide)]
      exact OwnG.below HO.out ((Below.refl _ _).alloc (Nat.le_refl _) _)),HR8.out.alloc HR8.out.size _⟩
     case measure=>show N - ((k:Int)+1).toNat<N - (k:Int).toNat;have:=HKL.out;omega
    case true =>
     go_upto_region 17 with fail
     obtain ⟨wx,hwx,bx,hbx,hsx⟩:=boxes1 wk #[.int .i64 p.x,.int .i64 p.y,.int .i64 p.z] 46
     rw [hwx]
     have HBX2:=Lib.hid (HBO.out.below hbx HBO.out.lt)
     have HOX:=Lib.hid (OwnG.below HO.out hbx)
     have HRX:=Lib.hid (below_call HR8.out hbx (Nat.le_refl _))
     have hbsx:=HRX.out.size
     have HBSX:=Lib.hid hbsx
     clear o0 o1 hbsx
     obtain ⟨o0,o1⟩:=HBX2.out.one
     obtain ⟨x0,x1,x2,-⟩:=bx.three
     have hm64:M≤64:=HM.out.1
     clear hwx hbx hsx bx q0 q1 q2
     go_wp2_with (at_builtin;refine wpList_append_src _ rfl _ _ 22 rfl w8.heap.size 46 i0 (.agg #[.int .i64 0,.int .i64 0,.int .i64 0]) 3 24 Tryz.underlying22 hinf hz0 hz1 hz2 rfl (by decide) _ _ _ rfl (World.ownsRow.alloc (own_len HOX.out HM.out.2) _) _ _ _ (v3 p) rfl (src_new wx (v3 p) _ 3 1 rfl) (v3_one1 p) (by unfold maxLen;omega) (by omega) (by have:=HBSX.out;simp;omega) ?_)
     intro v2 wy ho2 hg2
     have hne:=own_box_ne (own_len HOX.out HM.out.2) HBX2.out (by decide)
     have HBY:=Lib.hid (show Box wy w8.heap.size #[.slice oa M oc] 24 from Box.grown (HBX2.out.old _) hg2 hne)
     clear hne
     have HRY:=Lib.hid (show Below w8.heap.size w8 wy from (HRX.out.alloc HBSX.out _).grown hg2 (by have:=HBSX.out;simp;omega) (fun g e=>own_ge (own_len HOX.out HM.out.2) g e))
     have HOY:=Lib.hid (show OwnV wy w8.heap.size v2 (bitV E L (k+1)) from by
      rw [HBK.out,if_pos HBT.out,HP'.out]
      refine OwnG.app (n:=M+1) (by have:=HM.out;simp;omega) ?_
      rw [List.flatMap_singleton]
      exact ho2)
     obtain ⟨va,vc,hv2,-,-,-⟩:=OwnG.form HOY.out
     subst hv2
     obtain ⟨M2,hM2⟩:∃ M2,(bitV E L (k+1)).length=M2:=⟨_,rfl⟩
     rw [hM2] at HOY ⊢
     obtain ⟨o0,o1⟩:=HBY.out.one
     clear ho2 hg2 x0 x1 x2 hM2
     go_wp2
     go_round
     case rel=>exact ⟨k+1,HKL.out,rfl,.slice va M2 vc,HBY.out.set 0 (.slice va M2 vc),OwnG.set HOY.out HBY.out (by decide) 0 (.slice va M2 vc),HRY.out.setCell (p:=⟨w8.heap.size,0,none⟩) (Nat.le_refl _) _⟩
     case measure=>show N - ((k:Int)+1).toNat<N - (k:Int).toNat;have:=HKL.out;omega
end Go.Proofs.YtaibkpbklfodiaaGreatDoor
end
section
namespace Dowel
open Go Go.RowKit Go.Proofs.YtaibkpbklfodiaaGreatDoor
section
variable {P : Program} {Q : Exit → Act → World → Prop} {ops : Array Oper}
theorem wp_region_k {id rest:Nat} {a:Act} {w:World} (St:Nat→World→World→Prop) (Rs:List RSpec) (al:List Nat) (A:(Nat→Value)→Act) (listed1:Array Bool) (hm:P.follows .mixedOrders=true) (L:List Nat)
  (hdn:downB .any ops L=true) (hre:restB .any ops L=true) (hdi:distB ops L=true) (hcl:closeB .any ops L (fun i=>(Rs.getD i (isN 0)).deps)=true) (hl1:setAll (Array.replicate ops.size false) L=listed1) (hsz:ops.size=L.length+rest)
  (hst:∀ i j,i ∈ L→j ∈ L→i≠j→∀ l w w',St i w w'→(Rs.getD j (isN 0)).rel l w→(Rs.getD j (isN 0)).rel l w') (hA:∀ y,putAll ops y L a=A y)
  (hop:OpsOk (wpOp P ops Q) .any ops (fun w'=>Below w.heap.size w w') (fun i=>Rs.getD i (isN 0)) St al A L)
  (hend:∀ y w',Below w.heap.size w w'→(∀ i,L.contains i=true→(Rs.getD i (isN 0)).rel ((Rs.getD i (isN 0)).deps.map y) w')→(∀ i ∈ al,∀ j ∈ al,L.contains i=true→L.contains j=true→i≠j→y i≠y j)→wpAny P .any ops Q rest listed1 (A y) w'):(Code.region id ops true).wp P Q a w:=
 wp_region_inv L (fun i=>Rs.getD i (isN 0)) St al A listed1 hm hdn hre hdi hcl hl1 hsz hst (Below.refl _ _).drew hA hop hend
theorem wp_append_of {o:Oper} {a:Act} {w w':World} {K:Act→World→Prop} (s x:Operand) (t:TypeId) (ho:o.op=.call { callee:=.builtin .append,args:=#[s,x],argTypes:=#[t,t] })
  (v u v':Value) (hs:a.eval s=v) (hx:a.eval x=u) (hr:(Builtin.append_ #[t,t] o.type #[v,u]).run P w=.ok v' w') (h:K (a.put o.dst v') w'):o.wp P a w K Q:=by
 unfold Oper.wp execOp
 simp only [ho,resolve,invoke,builtin,Sem.run_bind,Sem.run_pure,Result.andThen_ok,List.map_toArray,List.map_cons,List.map_nil,hs,hx,hr]
 exact h
end
structure KT (base:Nat) (e:TypeId) (k n:Nat) (w w':World):Prop where
 below:Below base w w'
 box:∀ g cs t,t≠e→Box w g cs t→Box w' g cs t
 empty:∀ g,Box w g #[] e→Box w' g #[] e
 row:∀ v m xs,m≤n→w.ownsRow base e k v m xs→w'.ownsRow base e k v m xs
theorem KT.of_below {base k n:Nat} {e:TypeId} {w w':World} (hb:base≤w.heap.size) (h:Below w.heap.size w w'):KT base e k n w w':=
 ⟨h.mono hb,fun _ _ _ _ b=>b.below h b.lt,fun _ b=>b.below h b.lt,fun _ _ _ _ r=>own_below r h⟩
section
variable {P : Program}
theorem run_append_kt (w:World) (base:Nat) (t ty e:TypeId) (i:TypeInfo) (z:Value) (size bytes:Nat) (ht:P.underlying t=some (.slice e)) (hi:P.info? e=some i) (hz:i.zero=some z)
  (hsize:i.size=size) (hby:i.bytes=bytes) (hzs:z.cells.size=size) (hsz:0<size)
  (v:Value) (n:Nat) (xs:List Value) (hown:w.ownsRow base e size v n xs) (hn0:0<n)
  (a:Addr) (m c:Nat) (news:List Value) (hl:news.length=m*size) (hnews:∀ j u,news[j]?=some u→w.cell? (a.add j)=some u) (h1:∀ u ∈ news,u.oneCell'=true)
  (h63:n+m≤maxLen) (hbytes:(n+m)*bytes≤140737488355328) (hbase:base≤w.heap.size) :
  ∃ v' w',(Builtin.append_ #[t,t] ty #[v,.slice (some a) m c]).run P w=.ok v' w'∧w'.ownsRow base e size v' (n+m) (xs ++ news)∧KT base e size n w w':=by
 obtain ⟨v',w',hr,h2,h3,-⟩:=run_append_own (P:=P) w base t ty e i z size bytes ht hi hz hsize hby hzs hsz v n xs hown a m c news hl hnews h1 h63 hbytes hbase
 refine ⟨v',w',hr,h2,?_⟩
 have hown':=hown
 obtain ⟨hxl,⟨rfl,h0⟩ | ⟨g,cap,cur,rfl,hbg,hg,hnc,hcm,hcs,htake⟩⟩:=hown
 ·omega
 subst hsize
 by_cases hroom:n+m≤cap
 ·have hfit:n*i.size+news.length≤cur.size:=by rw [hl,hcs,← Nat.add_mul];exact Nat.mul_le_mul_right _ hroom
  have hr2:=run_append_room (P:=P) w t ty e i ht hi g n cap cur hg a m c news hl hnews h1 hroom hfit
  rw [hr] at hr2
  injection hr2 with hv hw
  have hgr:∀ g' cs t',Box w g' cs t'→g'≠g→Box w' g' cs t':=fun g' cs t' b hne=>Box.grown b h3 (fun e=>hne (by simpa [Value.ownBlock] using e))
  refine ⟨(Below.refl base w).grown h3 hbase (fun g' e=>by cases e;exact hbg),fun g' cs t' hne b=>hgr g' cs t' b fun e'=>?_,fun g' b=>hgr g' _ _ b fun e'=>?_,fun v2 m2 xs2 hm2 r2=>?_⟩
  ·subst e'
   unfold Box at b
   rw [hg] at b
   injection b with b
   injection b with _ b _
   exact hne b.symm
  ·subst e'
   unfold Box at b
   rw [hg] at b
   injection b with b
   injection b with b _ _
   rw [b] at hcs
   have:0<cap*i.size:=Nat.mul_pos (by omega) hsz
   simp at hcs
   omega
  ·obtain ⟨hl2,⟨rfl,h0⟩ | ⟨g2,cap2,cur2,rfl,hbg2,hg2,hnc2,hcm2,hcs2,htake2⟩⟩:=r2
   ·exact ⟨hl2,.inl ⟨rfl,h0⟩⟩
   ·by_cases e2:g2=g
    ·subst e2
     rw [hg] at hg2
     injection hg2 with hg2
     injection hg2 with hg2 _ _
     subst hg2
     refine ⟨hl2,.inr ⟨g2,cap2,_,rfl,hbg2,by rw [hw];exact setRow_heap w g2 cur _ e _ hg,hnc2,hcm2,?_,?_⟩⟩
     ·simp only [List.size_toArray,List.length_append,List.length_take,List.length_drop,Array.length_toList]
      rw [← hcs2]
      omega
     ·have hm:m2*i.size≤n*i.size:=Nat.mul_le_mul_right _ hm2
      have hn:n*i.size≤cur.size:=by omega
      rw [List.append_assoc,List.take_append_of_le_length (by rw [List.length_take,Array.length_toList,Nat.min_eq_left hn];exact hm),List.take_take,Nat.min_eq_left hm,htake2]
    ·refine ⟨hl2,.inr ⟨g2,cap2,cur2,rfl,hbg2,?_,hnc2,hcm2,hcs2,htake2⟩⟩
     rw [h3.block g2 (Array.getElem?_eq_some_iff.1 hg2).1 (by simpa [Value.ownBlock] using e2)]
     exact hg2
 ·have holds:∀ j u,xs[j]?=some u→w.cell? ((⟨g,0,none⟩:Addr).add j)=some u:=hown'.cells (g:=g) rfl
  subst hby
  have hr2:=run_append_grow (P:=P) w t ty e i z ht hi hz ⟨g,0,none⟩ n cap xs hown'.1 holds a m c news hl hnews (by omega) (by simp only [maxLen] at h63;omega) (growslice_fits (by omega) hbytes)
  rw [hr] at hr2
  injection hr2 with hv hw
  exact KT.of_below hbase (by rw [hw];exact ((Below.refl _ _).drew).alloc (Nat.le_refl _) _)
theorem run_append_empty {m:Nat} (w:World) (base:Nat) (t ty e:TypeId) (i:TypeInfo) (z:Value) (size bytes:Nat) (ht:P.underlying t=some (.slice e)) (hi:P.info? e=some i) (hz:i.zero=some z)
  (hsize:i.size=size) (hby:i.bytes=bytes) (hzs:z.cells.size=size) (hsz:0<size)
  (g:Nat) (hg:base≤g) (hb:Box w g #[] e) (hm0:0<m)
  (a:Addr) (c:Nat) (news:List Value) (hl:news.length=m*size) (hnews:∀ j u,news[j]?=some u→w.cell? (a.add j)=some u) (h1:∀ u ∈ news,u.oneCell'=true)
  (h63:m≤maxLen) (hbytes:m*bytes≤140737488355328) (hbase:base≤w.heap.size) :
  ∃ v' w',(Builtin.append_ #[t,t] ty #[.slice (some ⟨g,0,none⟩) 0 0,.slice (some a) m c]).run P w=.ok v' w'∧w'.ownsRow base e size v' m news∧Below w.heap.size w w':=by
 have hown:w.ownsRow base e size (.slice (some ⟨g,0,none⟩) 0 0) 0 []:=⟨by simp,.inr ⟨g,0,#[],rfl,hg,hb,Nat.le_refl _,Nat.zero_le _,by simp,by simp⟩⟩
 obtain ⟨v',w',hr,h2,h3,-⟩:=run_append_own (P:=P) w base t ty e i z size bytes ht hi hz hsize hby hzs hsz _ 0 [] hown a m c news hl hnews h1 (by simpa using h63) (by simpa using hbytes) hbase
 refine ⟨v',w',hr,by simpa using h2,?_⟩
 subst hsize
 subst hby
 have hr2:=run_append_grow (P:=P) w t ty e i z ht hi hz ⟨g,0,none⟩ 0 0 [] (by simp) (fun j u h=>by simp at h) a m c news hl hnews (by omega) (by simp only [maxLen] at h63;omega) (growslice_fits (by omega) (by simpa using hbytes))
 rw [hr] at hr2
 injection hr2 with hv hw
 rw [hw]
 exact ((Below.refl _ _).drew).alloc (Nat.le_refl _) _
end
theorem hullR_same {P Q:Nat→V} {N M:Nat} (h:Same P N Q M):hullR P N=hullR Q M:=by
 refine sorted_unique Lex Lex.irrefl (fun a b h1 h2=>Lex.irrefl _ (lex_trans h1 h2)) _ _ (sorted_takeV _) (sorted_takeV _) fun x=>?_
 unfold hullR
 rw [mem_takeV,mem_takeV]
 constructor
 ·rintro ⟨i,hi,e,hx⟩
  obtain ⟨j,hj,e2⟩:=(h x).mp ⟨i,hi,e⟩
  exact ⟨j,hj,e2,by rw [← h.extreme];exact hx⟩
 ·rintro ⟨i,hi,e,hx⟩
  obtain ⟨j,hj,e2⟩:=(h x).mpr ⟨i,hi,e⟩
  exact ⟨j,hj,e2,by rw [h.extreme];exact hx⟩
theorem hullE_same {P Q:Nat→V} {N M:Nat} (h:Same P N Q M) (h0:hullE P N=0) (hM:M≤64):hullE Q M=0:=by
 unfold hullE at h0 ⊢
 split at h0
 ·omega
 ·split at h0
  ·omega
  ·rename_i h1 h2
   split at h0
   ·omega
   ·rename_i h3
    rw [hullR_same h] at h0
    rw [if_neg (by omega),if_neg (fun ⟨i,hi,e⟩=>h2 (by
     obtain ⟨j,hj,e2⟩:=(h _).mpr ⟨i,hi,rfl⟩
     exact ⟨j,hj,by rw [e2];exact e⟩)),if_neg (fun hc=>h3 (by
     rcases hc with hc | hc
     ·refine .inl (Classical.byContradiction fun hn=>?_)
      obtain ⟨j,hj,_⟩:=(h (P 0)).mp ⟨0,by omega,rfl⟩
      omega
     ·exact .inr fun hf=>hc (h.full4 hf)))]
    exact h0
theorem same_more {P:Nat→V} {len:Nat}:Same P len (ofL ((List.range len).map P ++ hullR P len)) ((List.range len).map P ++ hullR P len).length:=fun p=>by
 rw [← mem_ofL,List.mem_append,List.mem_map]
 constructor
 ·rintro ⟨i,hi,e⟩;exact .inl ⟨i,List.mem_range.mpr hi,e⟩
 ·rintro (⟨i,hi,e⟩ | h)
  ·exact ⟨i,List.mem_range.mp hi,e⟩
  ·unfold hullR at h
   rw [mem_takeV] at h
   obtain ⟨i,hi,e,_⟩:=h
   exact ⟨i,hi,e⟩
end Dowel
namespace Dowel
open Go Go.RowKit Go.Proofs.YtaibkpbklfodiaaGreatDoor
theorem hullE_ok {P:Nat→V} {len:Nat} (h:hullE P len=0):HullOk P len∧(hullR P len).length≤16∧0<len:=by
 unfold hullE at h
 split at h
 ·omega
 ·split at h
  ·omega
  ·rename_i h1 h2
   split at h
   ·omega
   ·rename_i h3
    have hf:Full4 P len:=Classical.byContradiction fun hc=>h3 (.inr hc)
    have h0:0<len:=Nat.pos_of_ne_zero fun e=>h3 (.inl e)
    refine ⟨hullR_ok (fun i hi=>(far_iff _).mp (by
     cases hh:far (P i)
     ·rfl
     ·exact absurd ⟨i,hi,hh⟩ h2)) h0 hf,?_,h0⟩
    split at h <;> omega
theorem map_ofL_self (l:List V):(List.range l.length).map (ofL l)=l:=by
 refine List.ext_getElem (by simp) fun i h1 h2=>?_
 simp [ofL,h2]
def StC (n:Nat) (w w':World):Prop:=∃ g u u',n≤g∧Box w g #[u] 24∧w'=w.setCell ⟨g,0,none⟩ u'
def StH (n len i:Nat) (w w':World):Prop:=if i=5 then KT n 46 3 len w w' else if i=11 then StC n w w' else Below w.heap.size w w'
theorem StH.old {n len i:Nat} {w w':World} (h5:i≠5) (h11:i≠11) (h:Below w.heap.size w w'):StH n len i w w':=by
 unfold StH;rw [if_neg h5,if_neg h11];exact h
theorem StH.five {n len:Nat} {w w':World} (h:KT n 46 3 len w w'):StH n len 5 w w':=by
 unfold StH;rw [if_pos rfl];exact h
theorem StH.eleven {n len:Nat} {w w':World} (h:StC n w w'):StH n len 11 w w':=by
 unfold StH;rw [if_neg (by decide),if_pos rfl];exact h
theorem StH.cases {n len i:Nat} {w w':World} (h:StH n len i w w'):(i=5∧KT n 46 3 len w w')∨(i=11∧StC n w w')∨Below w.heap.size w w':=by
 unfold StH at h
 by_cases h5:i=5
 ·rw [if_pos h5] at h;exact .inl ⟨h5,h⟩
 ·rw [if_neg h5] at h
  by_cases h11:i=11
  ·rw [if_pos h11] at h;exact .inr (.inl ⟨h11,h⟩)
  ·rw [if_neg h11] at h;exact .inr (.inr h)
abbrev RowV (n m:Nat) (xs:List Value) (v:Value) (w:World):Prop:=w.ownsRow n 46 3 v m xs
def hp0 (n:Nat) (v:Value) (w:World):Prop:=∃ g,v=.slice (some ⟨g,0,none⟩) 0 0∧n≤g∧Box w g #[] 46
def hp2 (n m:Nat) (xs:List Value) (v:Value) (w:World):Prop:=RowV n m xs v w
def hp6 (n M:Nat) (xs:List Value) (v:Value) (w:World):Prop:=∃ z zc,v=.tuple #[.agg #[.slice z M zc],.int .i64 0]∧RowV n M xs (.slice z M zc) w
def hp8 (n M:Nat) (xs:List Value) (v:Value) (w:World):Prop:=∃ z zc,v=.agg #[.slice z M zc]∧RowV n M xs (.slice z M zc) w
def hp10 (n:Nat) (v:Value) (w:World):Prop:=∃ g u,v=.pointer (some ⟨g,0,none⟩)∧n≤g∧Box w g #[u] 24
def r11 (n M:Nat) (xs:List Value):RSpec:=⟨[10],fun l w=>∃ g z zc,l=[.pointer (some ⟨g,0,none⟩)]∧n≤g∧Box w g #[.slice z M zc] 24∧RowV n M xs (.slice z M zc) w⟩
def hullRs (n len M:Nat) (LX CX:List Value) (c1 c3 c4:Value):List RSpec:=[isP 0 (hp0 n),isV 1 c1,isP 2 (hp2 n len LX),isV 3 c3,isV 4 c4,isP 5 (hp2 n (len+M) (LX ++ CX)),isP 6 (hp6 n M CX),isP 7 (hp6 n M CX),isP 8 (hp8 n M CX),isV 9 (.int .i64 0),isP 10 (hp10 n),r11 n M CX]
theorem box_ne {w:World} {g g':Nat} {cs cs':Array Value} {t t':TypeId} (h:Box w g cs t) (h':Box w g' cs' t') (hne:t≠t'):g≠g':=fun e=>by
 subst e
 unfold Box at h h'
 rw [h] at h'
 injection h' with h'
 injection h' with _ h' _
 exact hne h'
theorem hullRs_ok {n len M:Nat} {LX CX:List Value} {c1 c3 c4:Value} (hM:M≤len):∀ i j,i ∈ [0,1,2,3,4,5,6,7,8,9,10,11]→j ∈ [0,1,2,3,4,5,6,7,8,9,10,11]→i≠j→∀ l w w',StH n len i w w'→((hullRs n len M LX CX c1 c3 c4).getD j (isN 0)).rel l w→((hullRs n len M LX CX c1 c3 c4).getD j (isN 0)).rel l w':=by
 intro i j _ hj hij l w w' hst hr
 have hc:=hst.cases
 have rowS:∀ {m xs v},RowV n m xs v w→StC n w w'→RowV n m xs v w':=fun r ⟨g,u,u',hg,hb,e⟩=>by rw [e];exact own_set r hb (by decide) 0 u'
 have boxS:∀ {g cs t},Box w g cs t→t≠24→StC n w w'→Box w' g cs t:=fun b ht ⟨g,u,u',hg,hb,e⟩=>by
  rw [e]
  exact Box.grown b (grown_set w g 0 u') (fun e=>box_ne b hb ht (by simpa using e))
 have hj':j=0∨j=1∨j=2∨j=3∨j=4∨j=5∨j=6∨j=7∨j=8∨j=9∨j=10∨j=11:=by simpa using hj
 rcases hj' with rfl | rfl | rfl | rfl | rfl | rfl | rfl | rfl | rfl | rfl | rfl | rfl
 ·obtain ⟨v,h1,g,h2,h3,h4⟩:=hr
  refine ⟨v,h1,g,h2,h3,?_⟩
  rcases hc with ⟨_,h⟩ | ⟨_,h⟩ | h
  ·exact h.empty g h4
  ·exact boxS h4 (by decide) h
  ·exact h4.below h h4.lt
 ·exact hr
 ·obtain ⟨v,h1,h2⟩:=hr
  refine ⟨v,h1,?_⟩
  rcases hc with ⟨_,h⟩ | ⟨_,h⟩ | h
  ·exact h.row _ _ _ (Nat.le_refl _) h2
  ·exact rowS h2 h
  ·exact own_below h2 h
 ·exact hr
 ·exact hr
 ·obtain ⟨v,h1,h2⟩:=hr
  refine ⟨v,h1,?_⟩
  rcases hc with ⟨e,h⟩ | ⟨_,h⟩ | h
  ·exact absurd e hij
  ·exact rowS h2 h
  ·exact own_below h2 h
 ·obtain ⟨v,h1,z,zc,h3,h2⟩:=hr
  refine ⟨v,h1,z,zc,h3,?_⟩
  rcases hc with ⟨_,h⟩ | ⟨_,h⟩ | h
  ·exact h.row _ _ _ hM h2
  ·exact rowS h2 h
  ·exact own_below h2 h
 ·obtain ⟨v,h1,z,zc,h3,h2⟩:=hr
  refine ⟨v,h1,z,zc,h3,?_⟩
  rcases hc with ⟨_,h⟩ | ⟨_,h⟩ | h
  ·exact h.row _ _ _ hM h2
  ·exact rowS h2 h
  ·exact own_below h2 h
 ·obtain ⟨v,h1,z,zc,h3,h2⟩:=hr
  refine ⟨v,h1,z,zc,h3,?_⟩
  rcases hc with ⟨_,h⟩ | ⟨_,h⟩ | h
  ·exact h.row _ _ _ hM h2
  ·exact rowS h2 h
  ·exact own_below h2 h
 ·exact hr
 ·obtain ⟨v,h1,g,u,h2,h3,h4⟩:=hr
  rcases hc with ⟨_,h⟩ | ⟨_,g',u0,u1,hg,hb,e⟩ | h
  ·exact ⟨v,h1,g,u,h2,h3,h.box g _ _ (by decide) h4⟩
  ·by_cases eg:g=g'
   ·subst eg
    exact ⟨v,h1,g,u1,h2,h3,by rw [e];exact hb.set 0 u1⟩
   ·exact ⟨v,h1,g,u,h2,h3,by rw [e];exact Box.grown h4 (grown_set w g' 0 u1) (fun e=>eg (by simpa using e))⟩
  ·exact ⟨v,h1,g,u,h2,h3,h4.below h h4.lt⟩
 ·obtain ⟨g,z,zc,h1,h3,h4,h2⟩:=hr
  rcases hc with ⟨_,h⟩ | ⟨e,h⟩ | h
  ·exact ⟨g,z,zc,h1,h3,h.box g _ _ (by decide) h4,h.row _ _ _ hM h2⟩
  ·exact absurd e hij
  ·exact ⟨g,z,zc,h1,h3,h4.below h h4.lt,own_below h2 h⟩
end Dowel
end
section
namespace Dowel
open Go Go.RowKit Go.Proofs.YtaibkpbklfodiaaGreatDoor
theorem made195 {k:Nat} (h:k<195):(madeCells #[Value.int .i64 0,.int .i64 0,.int .i64 0] 195)[k]?=some (.int .i64 0):=by
 have h3:k % 3=0∨k % 3=1∨k % 3=2:=by omega
 unfold madeCells
 rw [Array.getElem?_map,Array.getElem?_eq_getElem (by simpa using h),Array.getElem_range]
 show some (#[Value.int .i64 0,.int .i64 0,.int .i64 0][k % 3]!)=_
 rcases h3 with e | e | e <;> rw [e] <;> rfl
end Dowel
namespace Go.Proofs.YtaibkpbklfodiaaGreatDoor
open Go.RowKit Dowel
set_option maxHeartbeats 1000000 in
theorem vectors_own (v v':Value) (l:List V) (base base':Nat) (w:World) (h:OwnV w base v l) (h':OwnV w base' v' l) (hl:l.length≤262144) :
  Calls Tryz.prog 32 #[v,v'] w fun e w'=>e=.returned (.bool true)∧Below w.heap.size w w':=by
 obtain ⟨a,cap,rfl,hp⟩:=OwnV.pts h
 obtain ⟨a',cap',rfl,hp'⟩:=OwnV.pts h'
 obtain ⟨N,hN⟩:∃ N,l.length=N:=⟨_,rfl⟩
 have HP:=Lib.hid hp
 have HP':=Lib.hid hp'
 rw [hN] at HP HP' hl ⊢
 have e46:=eq46
 clear hp hp' h h' hN
 go_enter Tryz.func32,Tryz.ntmps32
 go_wp2_with fail
 go_loopw [5] (fun iv wr=>∃ i:Nat,i≤N∧iv=.int .i64 (i:Nat)∧Hid (Below w.heap.size w wr)) (fun iv _=>N - (intOf iv).toNat)
 case atStart=>exact ⟨0,Nat.zero_le _,rfl,Below.refl _ _⟩
 case round =>
  obtain ⟨i,hi,rfl,HB⟩:=hrel
  by_cases h0:i=N
  ·have hn:¬ (i:Int)<(N:Int):=by omega
   go_wp2_with fail
   go_ret
   exact ⟨rfl,HB.out⟩
  ·have hlt:(i:Int)<(N:Int):=by omega
   obtain ⟨b,off,rfl,-,-,hcc⟩:=(HP.out.below HB.out).cells (by omega)
   obtain ⟨b',off',rfl,-,-,hcc'⟩:=(HP'.out.below HB.out).cells (by omega)
   obtain ⟨q0,q1,q2⟩:=hcc i (by omega)
   obtain ⟨r0,r1,r2⟩:=hcc' i (by omega)
   obtain ⟨p,hp⟩:∃ p,ofL l i=p:=⟨_,rfl⟩
   rw [hp] at q0 q1 q2 r0 r1 r2
   have hbq:(p.x == p.x && p.y == p.y && p.z == p.z)=true:=by simp
   clear hcc hcc' hp
   go_wp2_with fail
   go_quiet (fail)
   rename_i k
   go_wp2_with fail
   go_round
   case rel=>exact ⟨i+1,by omega,rfl,below_drewN HB.out _⟩
   case measure=>show N - ((i:Int)+1).toNat<N - (i:Int).toNat;omega
theorem RetHull.own {P:Nat→V} {N base:Nat} {w:World} {e:Ending} (h:RetHull P N base w e):∃ u l,e=.returned (.tuple #[.agg #[u],.int .i64 (hullE P N)])∧OwnV w base u l∧(hullE P N≠0→l=[])∧(hullE P N=0→l=hullR P N):=by
 obtain ⟨u,he,h1,h2⟩:=h
 by_cases h0:hullE P N=0
 ·exact ⟨u,_,he,h2 h0,fun h=>absurd h0 h,fun _=>rfl⟩
 ·refine ⟨u,[],he,?_,fun _=>rfl,fun h=>absurd h h0⟩
  rw [h1 h0];exact OwnG.nil _ _ _ _ _
set_option maxRecDepth 100000 in
set_option maxHeartbeats 8000000 in
theorem cellHulls_any (hkn:∀ v,Tab v→Calls Tryz.prog 10 #[] v fun e w'=>e=.returned (.bool true)∧Below v.heap.size v w') (a:Option Addr) (len cap:Nat) (P:Nat→V) (w:World) (hT:Tab w) (hP:Pts w a len cap P) :
  Calls Tryz.prog 7 #[.slice a len cap] w fun e w'=>e=.returned (.bool true)∧Below w.heap.size w w':=by
 have HKN:=Lib.hid hkn
 have HT:=Lib.hid hT
 have HP:=Lib.hid hP
 have KT:Hid (∀ w',Below w.heap.size w w'→Tab w'):=fun w' h=>HT.out.below h HT.out.1
 have KP:Hid (∀ w',Below w.heap.size w w'→Pts w' a len cap P):=fun w' h=>HP.out.below h
 clear hkn hT hP
 go_enter Tryz.func7,Tryz.ntmps7
 go_wp2_with fail
 refine (HKN.out w (KT.out w (Below.refl _ _))).mono ?_
 rintro e w1 ⟨rfl,hb1⟩
 have L1:=Lib.hid hb1
 clear hb1
 by_cases h10:10<len
 ·have h10':(10:Int)<(len:Int):=by omega
  go_wp2_with fail
  refine (HKN.out w1 (KT.out w1 L1.out)).mono ?_
  rintro e w2 ⟨rfl,hb2⟩
  have L2:=Lib.hid (below_call L1.out hb2 (Nat.le_refl _))
  go_wp2_with fail
  go_ret
  exact ⟨rfl,L2.out⟩
 have h10':¬ (10:Int)<(len:Int):=by omega
 have HLE:=Lib.hid (show len≤10 by omega)
 clear h10
 go_wp2_with fail
 refine (chull_any a len cap P w1 (KT.out w1 L1.out) (KP.out w1 L1.out) (by have:=HLE.out;omega)).mono ?_
 rintro e w2 ⟨hr2,hb2⟩
 obtain ⟨u,l,rfl,hu,hl0,hl1⟩:=RetHull.own hr2
 obtain ⟨er,her⟩:∃ er,hullE P len=er:=⟨_,rfl⟩
 have HER:=Lib.hid her
 rw [her] at hl0 hl1 ⊢
 have L2:=Lib.hid (below_call L1.out hb2 (Nat.le_refl _))
 have HU:=Lib.hid hu
 have HL0:=Lib.hid hl0
 have HL1:=Lib.hid hl1
 obtain ⟨ua,uc,hus,-,-,-⟩:=OwnG.form hu
 have HLL:=Lib.hid (show l.length≤10 from by
  by_cases h:er=0
  ·rw [hl1 h];exact Nat.le_trans (length_takeV _) HLE.out
  ·rw [hl0 h];simp)
 clear hr2 hb2 hu hl0 hl1 her h10'
 subst hus
 obtain ⟨M,hM⟩:∃ M,l.length=M:=⟨_,rfl⟩
 have HM:=Lib.hid (show l.length≤M∧M≤l.length from ⟨by omega,by omega⟩)
 rw [hM] at HU ⊢
 clear hM
 go_upto_region 4 with fail
 obtain ⟨w3,hw3,b3,hb3,hs3⟩:=boxes1 w2 #[.slice ua M uc] 24
 rw [hw3]
 have L3:=Lib.hid (below_call L2.out hb3 (Nat.le_refl _))
 have U3:=Lib.hid (OwnG.below HU.out hb3)
 have B3:=Lib.hid b3
 clear hw3 b3 hb3 hs3
 go_wp2_with fail
 refine (rhull_any a len cap P w3 (KP.out w3 L3.out) (by have:=HLE.out;omega)).mono ?_
 rintro e w4 ⟨hr4,hb4⟩
 obtain ⟨u',l',rfl,hu',hl0,hl1⟩:=RetHull.own hr4
 rw [HER.out] at hl0 hl1 ⊢
 have hll:l'=l:=by
  by_cases h:er=0
  ·rw [hl1 h,HL1.out h]
  ·rw [hl0 h,HL0.out h]
 subst hll
 have L4:=Lib.hid (below_call L3.out hb4 (Nat.le_refl _))
 have U4:=Lib.hid (OwnG.below U3.out hb4)
 have B4:=Lib.hid (B3.out.below hb4 B3.out.lt)
 have V4:=Lib.hid hu'
 obtain ⟨va,vc,hvs,-,-,-⟩:=OwnG.form hu'
 clear hr4 hb4 hu' hl0 hl1
 subst hvs
 rw [show l'.length=M by have:=HM.out;omega] at V4 ⊢
 go_upto_region 5 with fail
 obtain ⟨w5,hw5,b5,hb5,hs5⟩:=boxes1 w4 #[.slice va M vc] 24
 rw [hw5]
 have L5:=Lib.hid (below_call L4.out hb5 (Nat.le_refl _))
 have U5:=Lib.hid (OwnG.below U4.out hb5)
 have V5:=Lib.hid (OwnG.below V4.out hb5)
 have B5:=Lib.hid (B4.out.below hb5 B4.out.lt)
 have C5:=Lib.hid b5
 clear hw5 b5 hb5 hs5
 obtain ⟨i0,hi,hz0,hz1,hz2⟩:=info_parts infoV3
 obtain ⟨Mk,hMk⟩:∃ M,madeCells #[Value.int .i64 0,.int .i64 0,.int .i64 0] 195=M:=⟨_,rfl⟩
 have hmk:∀ W:World,(Instr.makeSlice 22 (.int .i64 65) (.int .i64 65)).run Tryz.prog W=.ok (.slice (some ⟨W.heap.size,0,none⟩) 65 65) (W.alloc (.cells Mk 46)):=fun W=>by
  have h:=run_makeSlice (P:=Tryz.prog) W 22 46 i0 (.agg #[.int .i64 0,.int .i64 0,.int .i64 0]) Tryz.underlying22 hi hz0 .i64 .i64 65 65 (by omega) (by omega) (by rw [hz1];decide) (by rw [hz2];decide) (by decide)
  rw [hz1] at h
  rw [← hMk]
  exact h
 have HMK:=Lib.hid hMk
 clear hMk
 go_wp2_with fail
 obtain ⟨w6,hw6,b6,hb6,hs6⟩:=boxes1 w5 Mk 46
 rw [hw6]
 have L6:=Lib.hid (below_call L5.out hb6 (Nat.le_refl _))
 have HB6:=Lib.hid hb6
 refine (chull_any (some ⟨w5.heap.size,0,none⟩) 65 65 (fun _=>⟨0,0,0⟩) w6 (KT.out w6 L6.out) ⟨Nat.le_refl _,(fun h=>by cases h),fun x hx=>?_⟩ (by omega)).mono ?_
 ·cases hx
  refine ⟨rfl,b6.lt,fun i hi=>?_⟩
  have hc:∀ k,k<195→w6.cell? ⟨w5.heap.size,k,none⟩=some (.int .i64 0):=fun k hk=>by
   rw [b6.cell k,← HMK.out];exact made195 hk
  exact ⟨hc (0+i*3) (by omega),hc (0+i*3+1) (by omega),hc (0+i*3+2) (by omega)⟩
 rintro e w7 ⟨⟨z,rfl,hz,-⟩,hb7⟩
 have h6:hullE (fun _=>⟨0,0,0⟩) 65=6:=by unfold hullE;rw [if_pos (by omega)]
 have hz':=hz (by rw [h6];decide)
 subst hz'
 rw [h6]
 have L7:=Lib.hid (below_call L6.out hb7 (Nat.le_refl _))
 have U7:=Lib.hid (OwnG.below (OwnG.below U5.out HB6.out) hb7)
 have V7:=Lib.hid (OwnG.below (OwnG.below V5.out HB6.out) hb7)
 have B7:=Lib.hid ((B5.out.below HB6.out B5.out.lt).below hb7 (by have:=B5.out.lt;have:=HB6.out.size;omega))
 have C7:=Lib.hid ((C5.out.below HB6.out C5.out.lt).below hb7 (by have:=C5.out.lt;have:=HB6.out.size;omega))
 clear hb7 hz h6 hw6 b6 hb6 hs6 hmk
 go_upto_region 6 with fail
 obtain ⟨w8,hw8,b8,hb8,hs8⟩:=boxes1 w7 #[.slice none 0 0] 24
 rw [hw8]
 have L8:=Lib.hid (below_call L7.out hb8 (Nat.le_refl _))
 have U8:=Lib.hid (OwnG.below U7.out hb8)
 have V8:=Lib.hid (OwnG.below V7.out hb8)
 have B8:=Lib.hid (B7.out.below hb8 B7.out.lt)
 have C8:=Lib.hid (C7.out.below hb8 C7.out.lt)
 clear hw8 b8 hb8 hs8
 obtain ⟨z0,-⟩:=B8.out.one
 obtain ⟨y0,-⟩:=C8.out.one
 have hee:(er != er)=false:=bne_self_eq_false _
 go_wp2_with fail
 refine (vectors_own _ _ l' _ _ w8 U8.out V8.out (by have:=HLL.out;omega)).mono ?_
 rintro e w9 ⟨rfl,hb9⟩
 have L9:=Lib.hid (below_call L8.out hb9 (Nat.le_refl _))
 have U9:=Lib.hid (OwnG.below U8.out hb9)
 have B9:=Lib.hid (B8.out.below hb9 B8.out.lt)
 clear hb9 z0 y0
 by_cases h0:er=0
 case neg =>
  have hne:(er != 0)=true:=by simpa using h0
  go_wp2_with fail
  go_ret
  exact ⟨rfl,L9.out⟩
 case pos =>
  subst h0
  have hl':l'=hullR P len:=HL1.out rfl
  obtain ⟨hok,h16,hlp⟩:=hullE_ok HER.out
  have HLP:=Lib.hid hlp
  have HML:=Lib.hid (show M≤len from by have h1:=HM.out;rw [hl'] at h1;have h2:=length_takeV (Q:=P) (p:=fun p=>extremeR P len (planesR P len) p) len;change (hullR P len).length≤len at h2;omega)
  have HVAL:=Lib.hid (show checkR (ofL l') M=0 from by
   have h1:=checkR_valid.mpr (hok.valid h16)
   rw [← hl'] at h1
   rwa [show l'.length=M by have:=HM.out;omega] at h1)
  have HHR:=Lib.hid (show hullR (ofL ((List.range len).map P ++ l')) (len+M)=l' from by
   have h1:=(hullR_same (same_more (P:=P) (len:=len))).symm
   rw [← hl'] at h1
   rwa [List.length_append,List.length_map,List.length_range,show l'.length=M by have:=HM.out;omega] at h1)
  have HE0:=Lib.hid (show hullE (ofL ((List.range len).map P ++ l')) (len+M)=0 from by
   have h1:=hullE_same (same_more (P:=P) (len:=len)) HER.out (by
    have:=length_takeV (Q:=P) (p:=fun p=>extremeR P len (planesR P len) p) len
    change (hullR P len).length≤len at this
    have:=HLE.out
    rw [List.length_append,List.length_map,List.length_range];omega)
   rw [← hl'] at h1
   rwa [List.length_append,List.length_map,List.length_range,show l'.length=M by have:=HM.out;omega] at h1)
  have hM0:0<M:=by
   have h4:=(hok.valid h16).four
   have h5:=HM.out
   rw [hl'] at h5;omega
  obtain ⟨LX,hLX⟩:∃ LX,((List.range len).map P).flatMap v3=LX:=⟨_,rfl⟩
  obtain ⟨CX,hCX⟩:∃ CX,l'.flatMap v3=CX:=⟨_,rfl⟩
  have HLN:=Lib.hid (show ((List.range len).map P ++ l').length=len+M from by rw [List.length_append,List.length_map,List.length_range];have:=HM.out;omega)
  have hsx:=(KP.out w9 L9.out).src
  rw [hLX] at hsx
  obtain ⟨hlx,⟨_,h⟩ | ⟨pb,rfl,hpx⟩⟩:=hsx
  ·omega
  obtain ⟨ca,cc,ecu,hpc⟩:=OwnV.pts U9.out
  rw [show l'.length=M by have:=HM.out;omega] at ecu hpc
  cases ecu
  have hsc:=hpc.src
  rw [show (List.range M).map (ofL l')=l' from by have h1:=map_ofL_self l';rwa [show l'.length=M by have:=HM.out;omega] at h1,hCX] at hsc
  obtain ⟨hcx,⟨_,h⟩ | ⟨ub,rfl,hpcx⟩⟩:=hsc
  ·omega
  have HLX:=Lib.hid hlx
  have HCX:=Lib.hid hcx
  have HPX:Hid (∀ w',Below w9.heap.size w9 w'→∀ j u,LX[j]?=some u→w'.cell? (pb.add j)=some u):=fun w' h j u hu=>(h.cell (World.block_lt_of_cell? w9 _ (hpx j u hu))).trans (hpx j u hu)
  have HPC:Hid (∀ w',Below w9.heap.size w9 w'→∀ j u,CX[j]?=some u→w'.cell? (ub.add j)=some u):=fun w' h j u hu=>(h.cell (World.block_lt_of_cell? w9 _ (hpcx j u hu))).trans (hpcx j u hu)
  have HX1:=Lib.hid (show ∀ u ∈ LX,u.oneCell'=true from by rw [← hLX];exact v3_one _)
  have HC1:=Lib.hid (show ∀ u ∈ CX,u.oneCell'=true from by rw [← hCX];exact v3_one _)
  have HPL:Hid (∀ v w',hp2 w9.heap.size (len+M) (LX ++ CX) v w'→OwnV w' w9.heap.size v ((List.range len).map P ++ l')):=fun v w' h=>by
   show World.ownsRow _ _ _ _ _ _ _
   rw [HLN.out,List.flatMap_append,hLX,hCX];exact h
  have KT9:Hid (∀ w',Below w9.heap.size w9 w'→Tab w'):=fun w' h=>KT.out w' (below_call L9.out h (Nat.le_refl _))
  have own_len2:∀ {v:Value} {w:World} {b:Nat},OwnV w b v l'→l'.length≤M∧M≤l'.length→RowV b M CX v w:=fun {v w b} h hm=>by
   have e:l'.length=M:=by omega
   have h':World.ownsRow _ _ _ _ _ _ _:=h
   rw [e,hCX] at h';exact h'
  have own_of2:∀ {v:Value} {w:World} {b:Nat},RowV b M CX v w→l'.length≤M∧M≤l'.length→OwnV w b v l':=fun {v w b} h hm=>by
   have e:l'.length=M:=by omega
   show World.ownsRow _ _ _ _ _ _ _
   rw [e,hCX];exact h
  clear hl' hok h16 hlp hlx hcx hpx hpcx hpc
  go_wp2_with fail
  refine wp_region_k (rest:=1) (StH w9.heap.size len) (hullRs w9.heap.size len M LX CX (.slice (some pb) len cap) (.pointer (some ⟨w2.heap.size,0,none⟩)) (.slice (some ub) M uc)) [] ?A10 #[true,true,true,true,true,true,true,true,true,true,true,true,false] (by kernel_rfl) [0,1,2,3,4,5,6,7,8,9,10,11] (by kernel_rfl) (by kernel_rfl) (by kernel_rfl) (by kernel_rfl) (by kernel_rfl) (by kernel_rfl) (hullRs_ok HML.out) ?hA ?hop ?hend
  case hA =>
   intro y
   simp only [putAll,dstOf,List.getElem?_toArray,List.getElem?_cons_zero,List.getElem?_cons_succ,Option.bind_some,Act.put,List.setIfInBounds_toArray,List.set_cons_zero,List.set_cons_succ]
   exact rfl
  case hop =>
   refine OpsOk.cons (i:=0) rfl (fun y w' hS hD K hK=>?_) ?_
   ·as_aux_lemma =>
     go_simp
     exact hK.out _ _ (hS.alloc hS.size _) (StH.old (by decide) (by decide) ((Below.refl _ _).alloc (Nat.le_refl _) _)) (isP.put (p:=(hp0 w9.heap.size)) ⟨_,rfl,hS.size,Box.new _ _ _ _ rfl⟩) (fun h=>absurd h (by decide))
   refine OpsOk.cons (i:=1) rfl (fun y w' hS hD K hK=>?_) ?_
   ·as_aux_lemma =>
     go_simp
     exact hK.out _ w' hS (StH.old (by decide) (by decide) (Below.refl _ _)) isV.put (fun h=>absurd h (by decide))
   refine OpsOk.cons (i:=2) rfl (fun y w' hS hD K hK=>?_) ?_
   ·as_aux_lemma =>
     have e0:=isP.get (i:=0) (p:=(hp0 w9.heap.size)) (hD 0 (by kernel_rfl))
     have e1:y 1=.slice (some pb) len cap:=isV.get (i:=1) (c:=.slice (some pb) len cap) (hD 1 (by kernel_rfl))
     obtain ⟨g0,eq0,hg0,hb0⟩:=e0
     simp only [eq0,e1] at hK ⊢
     obtain ⟨v',w'',hr,hrow,hbl⟩:=run_append_empty (P:=Tryz.prog) w' w9.heap.size 22 22 46 i0 (.agg #[.int .i64 0,.int .i64 0,.int .i64 0]) 3 24 Tryz.underlying22 hi hz0 hz1 hz2 rfl (by decide) g0 hg0 hb0 HLP.out pb cap LX HLX.out (HPX.out w' hS) HX1.out (by have:=HLE.out;unfold maxLen;omega) (by have:=HLE.out;omega) hS.size
     refine iteInduction (motive:=fun p=>p) (fun _=>?_) (fun h=>absurd (by kernel_rfl) h)
     refine wp_append_of (.tmp 52) (.tmp 53) 22 rfl _ _ v' rfl rfl hr ?_
     exact hK.out v' w'' (below_call hS hbl (Nat.le_refl _)) (StH.old (by decide) (by decide) hbl) (isP.put (p:=(hp2 w9.heap.size len LX)) hrow) (fun h=>absurd h (by decide))
   refine OpsOk.cons (i:=3) rfl (fun y w' hS hD K hK=>?_) ?_
   ·as_aux_lemma =>
     go_simp
     exact hK.out _ w' hS (StH.old (by decide) (by decide) (Below.refl _ _)) isV.put (fun h=>absurd h (by decide))
   refine OpsOk.cons (i:=4) rfl (fun y w' hS hD K hK=>?_) ?_
   ·as_aux_lemma =>
     have e3:y 3=.pointer (some ⟨w2.heap.size,0,none⟩):=isV.get (i:=3) (c:=.pointer (some ⟨w2.heap.size,0,none⟩)) (hD 3 (by kernel_rfl))
     have bx:=B9.out.below hS B9.out.lt
     obtain ⟨c0,-⟩:=bx.one
     simp only [e3] at hK ⊢
     go_simp
     exact hK.out _ w' hS (StH.old (by decide) (by decide) (Below.refl _ _)) isV.put (fun h=>absurd h (by decide))
   refine OpsOk.cons (i:=5) rfl (fun y w' hS hD K hK=>?_) ?_
   ·as_aux_lemma =>
     have e2:=isP.get (i:=2) (p:=(hp2 w9.heap.size len LX)) (hD 2 (by kernel_rfl))
     have e4:y 4=.slice (some ub) M uc:=isV.get (i:=4) (c:=.slice (some ub) M uc) (hD 4 (by kernel_rfl))
     obtain ⟨v',w'',hr,hrow,hkt⟩:=run_append_kt (P:=Tryz.prog) w' w9.heap.size 22 22 46 i0 (.agg #[.int .i64 0,.int .i64 0,.int .i64 0]) 3 24 Tryz.underlying22 hi hz0 hz1 hz2 rfl (by decide) (y 2) len LX e2 HLP.out ub M uc CX HCX.out (HPC.out w' hS) HC1.out (by have:=HLE.out;have:=HML.out;unfold maxLen;omega) (by have:=HLE.out;have:=HML.out;omega) hS.size
     simp only [e4] at hK ⊢
     refine iteInduction (motive:=fun p=>p) (fun _=>?_) (fun h=>absurd (by kernel_rfl) h)
     refine wp_append_of (.tmp 54) (.tmp 56) 22 rfl _ _ v' rfl rfl hr ?_
     exact hK.out v' w'' (hS.trans hkt.below) (StH.five hkt) (isP.put (p:=(hp2 w9.heap.size (len+M) (LX ++ CX))) hrow) (fun h=>absurd h (by decide))
   refine OpsOk.cons (i:=6) rfl (fun y w' hS hD K hK=>?_) ?_
   ·as_aux_lemma =>
     have e5:=isP.get (i:=5) (p:=(hp2 w9.heap.size (len+M) (LX ++ CX))) (hD 5 (by kernel_rfl))
     have ho:OwnV w' w9.heap.size (y 5) ((List.range len).map P ++ l'):=HPL.out _ _ e5
     obtain ⟨ga,gc,eq5,hp5⟩:=OwnV.pts ho
     rw [HLN.out] at eq5 hp5
     simp only [eq5] at hK ⊢
     go_simp
     refine (chull_any ga (len+M) gc _ w' (KT9.out w' hS) hp5 (by have:=HLE.out;have:=HML.out;omega)).mono ?_
     rintro e w'' ⟨⟨z,rfl,-,hz⟩,hb⟩
     have hz:=hz HE0.out
     rw [HHR.out] at hz
     rw [HE0.out]
     obtain ⟨za,zc,ez,-,-,-⟩:=OwnG.form hz
     subst ez
     have hrow:RowV w9.heap.size M CX (.slice za l'.length zc) w'':=own_base (own_len2 hz HM.out) hS.size
     have hlm:l'.length=M:=by have:=HM.out;omega
     rw [hlm] at hrow ⊢
     exact hK.out _ w'' (below_call hS hb (Nat.le_refl _)) (StH.old (by decide) (by decide) hb) (isP.put (p:=(hp6 w9.heap.size M CX)) ⟨za,zc,rfl,hrow⟩) (fun h=>absurd h (by decide))
   refine OpsOk.cons (i:=7) rfl (fun y w' hS hD K hK=>?_) ?_
   ·as_aux_lemma =>
     have e6:=isP.get (i:=6) (p:=(hp6 w9.heap.size M CX)) (hD 6 (by kernel_rfl))
     obtain ⟨za,zc,eq6,hrow⟩:=e6
     simp only [eq6] at hK ⊢
     go_simp
     exact hK.out _ w' hS (StH.old (by decide) (by decide) (Below.refl _ _)) (isP.put (p:=(hp6 w9.heap.size M CX)) ⟨za,zc,rfl,hrow⟩) (fun h=>absurd h (by decide))
   refine OpsOk.cons (i:=8) rfl (fun y w' hS hD K hK=>?_) ?_
   ·as_aux_lemma =>
     have e7:=isP.get (i:=7) (p:=(hp6 w9.heap.size M CX)) (hD 7 (by kernel_rfl))
     obtain ⟨za,zc,eq7,hrow⟩:=e7
     simp only [eq7] at hK ⊢
     go_simp
     exact hK.out _ w' hS (StH.old (by decide) (by decide) (Below.refl _ _)) (isP.put (p:=(hp8 w9.heap.size M CX)) ⟨za,zc,rfl,hrow⟩) (fun h=>absurd h (by decide))
   refine OpsOk.cons (i:=9) rfl (fun y w' hS hD K hK=>?_) ?_
   ·as_aux_lemma =>
     have e7:=isP.get (i:=7) (p:=(hp6 w9.heap.size M CX)) (hD 7 (by kernel_rfl))
     obtain ⟨za,zc,eq7,hrow⟩:=e7
     simp only [eq7] at hK ⊢
     go_simp
     exact hK.out _ w' hS (StH.old (by decide) (by decide) (Below.refl _ _)) isV.put (fun h=>absurd h (by decide))
   refine OpsOk.cons (i:=10) rfl (fun y w' hS hD K hK=>?_) ?_
   ·as_aux_lemma =>
     go_simp
     exact hK.out _ _ (hS.alloc hS.size _) (StH.old (by decide) (by decide) ((Below.refl _ _).alloc (Nat.le_refl _) _)) (isP.put (p:=(hp10 w9.heap.size)) ⟨_,_,rfl,hS.size,Box.new _ _ _ _ rfl⟩) (fun h=>absurd h (by decide))
   refine OpsOk.cons (i:=11) rfl (fun y w' hS hD K hK=>?_) ?_
   ·as_aux_lemma =>
     have e8:=isP.get (i:=8) (p:=(hp8 w9.heap.size M CX)) (hD 8 (by kernel_rfl))
     have e10:=isP.get (i:=10) (p:=(hp10 w9.heap.size)) (hD 10 (by kernel_rfl))
     obtain ⟨za,zc,eq8,hrow⟩:=e8
     obtain ⟨gx,ux,eq10,hgx,hbx⟩:=e10
     obtain ⟨c0,f0⟩:=hbx.one
     simp only [eq8,eq10] at hK ⊢
     go_simp
     exact hK.out undef _ (hS.setCell (p:=⟨gx,0,none⟩) hgx _) (StH.eleven ⟨gx,ux,_,hgx,hbx,rfl⟩) ⟨gx,za,zc,by show [upd y 11 undef 10]=_;rw [upd_ne _ (by decide),eq10],hgx,hbx.set 0 _,own_set hrow hbx (by decide) 0 _⟩ (fun h=>absurd h (by decide))
   exact OpsOk.nil
  case hend =>
   intro y w' hS hR hF
   obtain ⟨gx,za,zc,eq,hgx,hbx,hrow⟩:=hR 11 (by kernel_rfl)
   have e10:y 10=.pointer (some ⟨gx,0,none⟩):=(List.cons.inj eq).1
   have e9:y 9=.int .i64 0:=isV.get (i:=9) (c:=.int .i64 0) (hR 9 (by kernel_rfl))
   simp only [e9,e10]
   refine wpAny_one (i:=12) (listed2:=#[true,true,true,true,true,true,true,true,true,true,true,true,true]) (by kernel_rfl) rfl (by kernel_rfl) (fun K hK=>?_)
   go_simp
   refine hK.out _ _ ?_
   clear hK K
   refine wpAny_over (by kernel_rfl) ?_
   have LF:=Lib.hid (below_call L9.out hS (Nat.le_refl _))
   have BX:=Lib.hid hbx
   have RX:=Lib.hid (show OwnV w' w9.heap.size (.slice za M zc) l' from own_of2 hrow HM.out)
   have UF:=Lib.hid (OwnG.below U9.out hS)
   have BF:=Lib.hid (B9.out.below hS B9.out.lt)
   obtain ⟨x0,-⟩:=hbx.one
   obtain ⟨z0,-⟩:=BF.out.one
   clear hS hR hF eq hgx hbx hrow e9 e10
   go_wp2_with fail
   refine (vectors_own _ _ l' _ _ w' RX.out UF.out (by have:=HLL.out;omega)).mono ?_
   rintro e wA ⟨rfl,hbA⟩
   have LA:=Lib.hid (below_call LF.out hbA (Nat.le_refl _))
   have BA:=Lib.hid (BF.out.below hbA BF.out.lt)
   have UA:=Lib.hid (OwnG.below UF.out hbA)
   clear hbA x0 z0
   obtain ⟨z0,-⟩:=BA.out.one
   obtain ⟨qa,qc,eqq,hpq⟩:=OwnV.pts UA.out
   rw [show l'.length=M by have:=HM.out;omega] at eqq hpq
   cases eqq
   have HCK:=Lib.hid (check_any _ M _ (ofL l') wA (KT.out wA LA.out) hpq (by have:=HML.out;have:=HLE.out;omega))
   rw [HVAL.out] at HCK
   clear hpq
   go_wp2_with fail
   refine HCK.out.mono ?_
   rintro e wB ⟨rfl,hbB⟩
   have LB:=Lib.hid (below_call LA.out hbB (Nat.le_refl _))
   clear hbB z0
   go_wp2_with fail
   go_ret
   exact ⟨rfl,LB.out⟩
end Go.Proofs.YtaibkpbklfodiaaGreatDoor
end
section
namespace Go.Proofs.YtaibkpbklfodiaaGreatDoor
open Go Go.ChangeShapes Go.WideShapes Go.ChangeAt Go.WideElems Go.RowKit Dowel
theorem door_met (os:Os) (args:Array Value):laidMetH Tryz.prog Rows.cellHullsRow.laid ((World.doorLaid Tryz.prog 400 os).forCall (fun _ _=>0) ⟨#[],args,[]⟩).memory:=
 laidMetH_of_parts3 (fuel:=8) (laidMet_of_run' 8 (by kernel_rfl) (by kernel_rfl)) (by kernel_rfl) (by kernel_rfl)
set_option maxRecDepth 100000 in
theorem cellHulls_lifted (os:Os) (started:os.Started) (H:Type) (enc:TypeId × Value→H) :
  ReturnsInHanded {} Tryz.checked os 7 .any (fun w args=>(Rows.cellHullsSpec.pre enc Tryz.prog Tryz.f7 [] false w args∧laidMetH Tryz.prog Rows.cellHullsRow.laid w)∧sizedMet enc Tryz.prog Tryz.f7 (OpenSpec.ofChange Rows.cellHullsSpec) false w args)
   (Rows.cellHullsSpec.post enc Tryz.prog Tryz.f7 false true false false):=by
 refine returnsInHanded_of_change_and (C:=Tryz.checked) (X:=fun w _=>laidMetH Tryz.prog Rows.cellHullsRow.laid w) (fun _ _ _ hh h=>h.of_heap hh) own started (by kernel_rfl) Tryz.func7
  (ChangeSpec.witness_shaped (enc:=enc) (C:=Tryz.checked) (os:=os) (X:=fun w _=>laidMetH Tryz.prog Rows.cellHullsRow.laid w) false (World.doorLaid Tryz.prog 400 os) #[.slice none 0 0] 8 rfl (World.shaped_of_RefB (by kernel_rfl) (by kernel_rfl)) (by kernel_rfl) (by kernel_rfl) (by kernel_rfl) (door_met os _)) ?_
 intro W base args ds gs before hval0 hW _ _ hL _
 have hval:∀ (j:Nat) t v,Tryz.f7.params[j]?=some t→args[j]?=some v→Value.okWide Tryz.prog W .any base t v:=hval0
 have hW':=hW
 obtain ⟨p,q,hA0,hV,rfl,hfz,hnd⟩:=hW
 have hA:DataW.TrodAll enc Tryz.prog W 0 (fun _=>true) true Tryz.f7.params.toList args.toList ds p:=hA0
 rw [Tryz.params7] at hA hval
 obtain ⟨v0,d0,rfl,rfl,h0⟩:=trodAll_one hA
 obtain ⟨rfl,rfl⟩:=trodVars_none hV
 obtain ⟨a,len,cap,P,rfl,hP⟩:=ptsL_of (hval 0 22 v0 rfl rfl) h0
 clear hA0 hval0
 simp only [List.append_nil] at hW'
 have hlt:∀ x ∈ p,x.block<W.heap.size:=fun x hx=>by simpa using hW'.lt x hx
 refine (cellHulls_any known_any a len cap P W (tab_of_laid (show laidMetH Tryz.prog Rows.cellChecksRow.laid W from hL)) hP).mono fun e W' ⟨he,hb⟩=>?_
 subst he
 refine ⟨_,rfl,_,_,_,[],p,[],hW',?_,?_,rfl,hb.frame _,fun h=>by cases h⟩
 ·exact trodAll_mk1 (shut_bool Tryz.underlying4 true)
 ·exact trodAll_mk1 (Below.trod laidOut (by kernel_rfl) (of_decide_eq_true (by kernel_rfl)) h0 hb hlt)
theorem cellHulls_holds:Rows.CellHullsSaid:=
 OpenClaim.holds_of_wide 7 Tryz.f7 rfl rfl rfl rfl rfl rfl rfl ⟨rfl,rfl,rfl,rfl,rfl⟩ rfl rfl rfl rfl rfl (by kernel_rfl) Tryz.func7 (by kernel_rfl)
  (of_decide_eq_true (by kernel_rfl)) (by unfold Func.isWrapper;first | (rw [if_pos (by decide +kernel)];kernel_rfl) | (rw [if_neg (by decide +kernel)];exact ⟨rfl,rfl⟩))
  (fun os started H enc _=>cellHulls_lifted os started H enc)
theorem cellHulls_card : Rows.CellHullsCardSaid :=
  Claim7.holds_tied_plain_at .later [] [.data, .data, .data] true (true, "6c65cc7416c67665389b7af0e84806a2ebd9a42af6f1548673da5a11f68942ee") true
    cellHulls_holds (fun _ h => by cases h) (by kernel_rfl) (fun _ h => by cases h) cellHulls_row_tie rfl ⟨rfl, rfl⟩ (by kernel_rfl) rfl
    (fun f fn hf hfn => by
      obtain rfl : f = 7 := Option.some.inj ((show Tryz.prog.funcNamed "dowel/dowellaw09.CellHulls" = some 7 by kernel_rfl).symm.trans hf) |>.symm
      obtain rfl : fn = Tryz.f7 := (Option.some.inj (Tryz.func7.symm.trans hfn)).symm
      exact ⟨by kernel_rfl, fun j t ht => by
        rw [Tryz.params7] at ht
        have h3 : t = 22 := by
          rcases j with _ | j
          · simpa using ht.symm
          · simp at ht
        subst h3
        exact (show Tryz.prog.wantsStandIn 22 = false by kernel_rfl)⟩)
    (by kernel_rfl)
#print axioms cellHulls_card
end Go.Proofs.YtaibkpbklfodiaaGreatDoor
end
