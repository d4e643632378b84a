/- How lists of triples of small numbers, and triples, read. How lists of five bytes read. -/
import Derived.Test.YtaibkpbklfodiaaGreatDoorP22
import Derived.Test.YtaibkpbklfodiaaGreatDoorP25
set_option linter.all false
set_option maxHeartbeats 100000000
section
namespace Go.Proofs.Υ
open Go Go.ChangeShapes Go.WideShapes Go.ChangeAt Go.WideElems Go.RowKit Dowel
theorem i8_of {k:Int} (h:(Lit.int .i8 k).wf=true):Le 128 k:=by
 simp only [Lit.wf,Bool.and_eq_true,decide_eq_true_eq] at h;have h1:IntKind.i8.min=-128:=by decide
 have h2:IntKind.i8.max=127:=by decide
 rw [h1,h2] at h;unfold Le;omega
set_option maxRecDepth 100000 in
theorem cells8 {H:Type} {enc:TypeId × Value→H} {W:World} {n:Nat} {cl:List Value} {x:DataW H × List MemPlace} (ht:DataW.trod enc Tryz.prog W 0 (fun _=>true) true n 38 cl=some x) :
  ∃ p:V,cl=[.int .i8 p.x,.int .i8 p.y,.int .i8 p.z]∧LeV 128 p:=by
 obtain ⟨xs,m,-,-,hcl3,hxs,hx⟩:=DataW.trod_array Tryz.underlying38 ht;have c0:=hx 0 ω;have c1:=hx 1 ω;have c2:=hx 2 ω
 match xs,hxs with
 | [x0,x1,x2],_ =>
  rw [show Tryz.prog.cellsOf 37=1 by kernel_rfl] at c0 c1 c2;rw [show Tryz.prog.cellsOf 38=3 by kernel_rfl] at hcl3
  match cl,hcl3 with
  | [u0,u1,u2],_ =>
   obtain ⟨k0,e0,-,w0⟩:=DataW.trod_int Tryz.underlying37 (show DataW.trod _ _ _ _ _ _ _ _ [u0]=some x0 from c0);obtain ⟨k1,e1,-,w1⟩:=DataW.trod_int Tryz.underlying37 (show DataW.trod _ _ _ _ _ _ _ _ [u1]=some x1 from c1);obtain ⟨k2,e2,-,w2⟩:=DataW.trod_int Tryz.underlying37 (show DataW.trod _ _ _ _ _ _ _ _ [u2]=some x2 from c2);cases e0;cases e1;cases e2;exact ⟨⟨k0,k1,k2⟩,rfl,i8_of w0,i8_of w1,i8_of w2⟩
set_option maxRecDepth 100000 in
theorem arr8_of {H:Type} {enc:TypeId × Value→H} {W:World} {base:Nat} {v:Value} {d:DataW H} {p:List MemPlace} (hv:Value.okWide Tryz.prog W .any base 38 v) (h0:DataW.Trod enc Tryz.prog W 0 (fun _=>true) true 38 v d p) :
  ∃ n:V,v=.agg #[.int .i8 n.x,.int .i8 n.y,.int .i8 n.z]∧LeV 128 n:=by
 unfold Value.okWide at hv;rw [Tryz.underlying38] at hv;obtain ⟨cs,rfl,hsz,-⟩:=hv;rw [show Tryz.prog.cellsOf 38=3 by kernel_rfl] at hsz;obtain ⟨fuel,h0⟩:=h0;obtain ⟨n,he,hn⟩:=cells8 h0;exact ⟨n,by
  have:cs.toList=[.int .i8 n.x,.int .i8 n.y,.int .i8 n.z]:=he;rw [show cs=#[.int .i8 n.x,.int .i8 n.y,.int .i8 n.z] from Array.toList_inj.mp this],hn⟩
set_option maxRecDepth 100000 in
theorem pts8_of {H:Type} {enc:TypeId × Value→H} {W:World} {base:Nat} {v:Value} {d:DataW H} {p:List MemPlace} (hv:Value.okWide Tryz.prog W .any base 36 v) (h0:DataW.Trod enc Tryz.prog W 0 (fun _=>true) true 36 v d p) :
  ∃ a len cap P,v=.slice a len cap∧Pts8 W a len cap P:=by
 unfold Value.okWide at hv;rw [Tryz.underlying36] at hv;simp only at hv;obtain ⟨c,hc⟩:∃ c,v=c:=⟨_,rfl⟩;obtain ⟨fuel,h0⟩:=h0;obtain ⟨aa,len,cap,rfl⟩:∃ aa nn cc,v=.slice aa nn cc:=by
  cases v with
  | slice aa nn cc=>exact ⟨_,_,_,rfl⟩
  | _=>simp only [Cell.okWide,Cell.ok,Tryz.underlying36] at hv
 rcases DataW.trod_slice Tryz.underlying36 h0 with ⟨hcs,-⟩ | ⟨a,len',cap',elems,rest,n',-,hcs,-,-,hl,-,hlen,hel,-,-⟩
 ·have:Value.slice aa len cap=.slice none 0 0:=(List.cons.inj (show [Value.slice aa len cap]=[.slice none 0 0] from hcs)).1
  obtain ⟨rfl,rfl,rfl⟩:=Value.slice.inj this;exact ⟨none,0,0,fun _=>⟨0,0,0⟩,rfl,Nat.le_refl _,(fun _=>rfl),(fun x h=>by cases h),fun i hi=>by omega⟩
 ·have:Value.slice aa len cap=.slice (some a) len' cap':=(List.cons.inj (show [Value.slice aa len cap]=[.slice (some a) len' cap'] from hcs)).1
  obtain ⟨rfl,e2,e3⟩:=Value.slice.inj this;clear this;subst e2 e3;simp only [Cell.okWide,Cell.ok,Tryz.underlying36] at hv;obtain ⟨-,-,-,hsp,row,cells,hshape,-⟩:=hv;obtain ⟨b,off,sp⟩:=a;simp only at hsp;subst hsp;have hb:b<W.heap.size:=by
   unfold World.shape? at hshape
   cases hq:W.heap[b]? with
   | none=>simp [hq] at hshape
   | some o=>exact (Array.getElem?_eq_some_iff.1 hq).1
  have hex:∀ i,i<len→∃ p:V,LeV 128 p∧W.cell? ⟨b,off+i*3,none⟩=some (.int .i8 p.x)∧W.cell? ⟨b,off+i*3+1,none⟩=some (.int .i8 p.y)∧W.cell? ⟨b,off+i*3+2,none⟩=some (.int .i8 p.z):=fun i hi=>by
   have h1:=hel i hi;obtain ⟨y,hyi⟩:∃ y,elems[i]?=some y:=⟨_,List.getElem?_eq_getElem ω⟩;rw [hyi,show Tryz.prog.cellsOf 38=3 by kernel_rfl,Option.bind_eq_some_iff] at h1;obtain ⟨cl,hcl,ht⟩:=h1;unfold World.cells? at hcl;rw [if_pos (Nat.zero_le _)] at hcl;obtain ⟨p,rfl,hp⟩:=cells8 ht;have g0:=mapM_some_get hcl 0 0 rfl;have g1:=mapM_some_get hcl 1 1 rfl;have g2:=mapM_some_get hcl 2 2 rfl;rw [add_none,add_none] at g0 g1 g2;exact ⟨p,hp,g0,g1,g2⟩
  refine ⟨some ⟨b,off,none⟩,len,cap,fun i=>if h:i<len then (hex i h).choose else ⟨0,0,0⟩,rfl,hl,(fun h=>by cases h),fun x hx=>?_,fun i hi=>?_⟩
  ·cases hx
   refine ⟨rfl,hb,fun i hi=>?_⟩;simp only [dif_pos hi];exact (hex i hi).choose_spec.2
  ·simp only [dif_pos hi]
   exact (hex i hi).choose_spec.1
end Go.Proofs.Υ
end

section
namespace Go.Proofs.Υ
open Go Go.ChangeShapes Go.WideShapes Go.ChangeAt Go.WideElems Go.RowKit Dowel
theorem u8_of {k:Int} (h:(Lit.int .u8 k).wf=true):0≤k∧k≤255:=by
 simp only [Lit.wf,Bool.and_eq_true,decide_eq_true_eq] at h;have h1:IntKind.u8.min=0:=by decide
 have h2:IntKind.u8.max=255:=by decide
 rw [h1,h2] at h;omega
set_option maxRecDepth 100000 in
theorem cells5 {H:Type} {enc:TypeId × Value→H} {W:World} {n:Nat} {cl:List Value} {x:DataW H × List MemPlace} (ht:DataW.trod enc Tryz.prog W 0 (fun _=>true) true n 86 cl=some x) :
  ∃ X:Nat→Nat,cl=[.int .u8 (X 0:Nat),.int .u8 (X 1:Nat),.int .u8 (X 2:Nat),.int .u8 (X 3:Nat),.int .u8 (X 4:Nat)]∧∀ j,X j<256:=by
 obtain ⟨xs,m,-,-,hcl3,hxs,hx⟩:=DataW.trod_array Tryz.underlying86 ht;have c0:=hx 0 ω;have c1:=hx 1 ω;have c2:=hx 2 ω;have c3:=hx 3 ω;have c4:=hx 4 ω
 match xs,hxs with
 | [x0,x1,x2,x3,x4],_ =>
  rw [show Tryz.prog.cellsOf 5=1 by kernel_rfl] at c0 c1 c2 c3 c4;rw [show Tryz.prog.cellsOf 86=5 by kernel_rfl] at hcl3
  match cl,hcl3 with
  | [u0,u1,u2,u3,u4],_ =>
   obtain ⟨k0,e0,-,w0⟩:=DataW.trod_int Tryz.underlying5 (show DataW.trod _ _ _ _ _ _ _ _ [u0]=some x0 from c0);obtain ⟨k1,e1,-,w1⟩:=DataW.trod_int Tryz.underlying5 (show DataW.trod _ _ _ _ _ _ _ _ [u1]=some x1 from c1);obtain ⟨k2,e2,-,w2⟩:=DataW.trod_int Tryz.underlying5 (show DataW.trod _ _ _ _ _ _ _ _ [u2]=some x2 from c2);obtain ⟨k3,e3,-,w3⟩:=DataW.trod_int Tryz.underlying5 (show DataW.trod _ _ _ _ _ _ _ _ [u3]=some x3 from c3);obtain ⟨k4,e4,-,w4⟩:=DataW.trod_int Tryz.underlying5 (show DataW.trod _ _ _ _ _ _ _ _ [u4]=some x4 from c4);cases e0;cases e1;cases e2;cases e3;cases e4;have:=u8_of w0;have:=u8_of w1;have:=u8_of w2;have:=u8_of w3;have:=u8_of w4;obtain ⟨z0,rfl⟩:∃ z:Nat,k0=z:=⟨k0.toNat,by omega⟩;obtain ⟨z1,rfl⟩:∃ z:Nat,k1=z:=⟨k1.toNat,by omega⟩;obtain ⟨z2,rfl⟩:∃ z:Nat,k2=z:=⟨k2.toNat,by omega⟩;obtain ⟨z3,rfl⟩:∃ z:Nat,k3=z:=⟨k3.toNat,by omega⟩;obtain ⟨z4,rfl⟩:∃ z:Nat,k4=z:=⟨k4.toNat,by omega⟩;exact ⟨fun n=>match n with | 0=>z0 | 1=>z1 | 2=>z2 | 3=>z3 | 4=>z4 | _=>0,rfl,fun j=>by
    match j with
    | 0=>show z0<256;omega
    | 1=>show z1<256;omega
    | 2=>show z2<256;omega
    | 3=>show z3<256;omega
    | 4=>show z4<256;omega
    | _+5=>show 0<256;omega⟩
set_option maxRecDepth 100000 in
theorem arr5_of {H:Type} {enc:TypeId × Value→H} {W:World} {base:Nat} {v:Value} {d:DataW H} {p:List MemPlace} (hv:Value.okWide Tryz.prog W .any base 86 v) (h0:DataW.Trod enc Tryz.prog W 0 (fun _=>true) true 86 v d p) :
  ∃ X:Nat→Nat,v=.agg #[.int .u8 (X 0:Nat),.int .u8 (X 1:Nat),.int .u8 (X 2:Nat),.int .u8 (X 3:Nat),.int .u8 (X 4:Nat)]∧∀ j,X j<256:=by
 unfold Value.okWide at hv;rw [Tryz.underlying86] at hv;obtain ⟨cs,rfl,hsz,-⟩:=hv;obtain ⟨fuel,h0⟩:=h0;obtain ⟨X,he,hn⟩:=cells5 h0;exact ⟨X,by
  have:cs.toList=[.int .u8 (X 0:Nat),.int .u8 (X 1:Nat),.int .u8 (X 2:Nat),.int .u8 (X 3:Nat),.int .u8 (X 4:Nat)]:=he;rw [show cs=#[.int .u8 (X 0:Nat),.int .u8 (X 1:Nat),.int .u8 (X 2:Nat),.int .u8 (X 3:Nat),.int .u8 (X 4:Nat)] from Array.toList_inj.mp this],hn⟩
end Go.Proofs.Υ
end
