/- Package strings: ContainsFunc at decimal digits. Package rational: digits. Package integer: scale of no digits, Parse of the texts of small numbers. -/
import Derived.Test.YtaibkpbklfodiaaGreatDoorP40
import Derived.Test.YtaibkpbklfodiaaGreatDoorP10
import Derived.Lib.OthersKept
set_option linter.all false
set_option maxHeartbeats 100000000
section
namespace Dowel
open Go Go.RowKit
theorem iter_below {B:Nat} {a w:World} (h:Below B a w) (s:ByteArray) (hB:B≤w.heap.size):Below B a (w.iter s 0):=h.alloc hB _
def Digs (s:ByteArray):Prop:=∀ i (h:i<s.size),48≤(s[i]'h).toNat∧(s[i]'h).toNat≤57
def digsB (l:List UInt8):Bool:=l.all fun c=>decide (48≤c.toNat∧c.toNat≤57)
theorem digs_of {l:List UInt8} (h:digsB l=true):Digs ⟨l.toArray⟩:=fun i hi=>by
 have h1:=List.all_eq_true.1 h _ (List.getElem_mem (show i<l.length from hi));exact of_decide_eq_true h1
end Dowel
namespace Go.Proofs.Υ
open Go.RowKit Dowel
set_option maxRecDepth 20000
theorem isNot_any (c:Nat) (w:World) (h:48≤c∧c≤57):Calls Tryz.prog 237 #[.int .i32 c] w fun e w'=>e=.returned (.bool false)∧w'=w:=by
 have h1:¬ (c:Int)<48:=ω;have h2:¬ (57:Int)<c:=ω
 go_enter Tryz.func237,Tryz.ntmps237
 go_wp2;go_ret
 exact ⟨rfl,rfl⟩
theorem m6 (s:ByteArray) (hs:Digs s) (w:World):Calls Tryz.prog 261 #[.string s,.func (.func 237) #[] #[],.bool true] w fun e w'=>e=.returned (.int .i64 (-1))∧Below w.heap.size w w':=by
 have hk0:(w.iter s 0).heap[w.heap.size]?=some (.stringIter s 0):=by simpa using World.iter_heap w s 0
 have hb0:Below w.heap.size w (w.iter s 0):=iter_below β s ρ;have e237:∀ args w,(callFunc 237 args).run Tryz.prog w=.ok (.enter 237 args) w:=enters_of Tryz.func237 κ rfl
 go_enter Tryz.func261,Tryz.ntmps261
 go_wp2
 go_loopw [6] (fun ov wr=>∃ pos:Nat,ov=ov∧pos≤s.size∧wr.heap[w.heap.size]?=some (.stringIter s pos)∧Below w.heap.size w wr) (fun _ wr=>s.size - wr.iterPos w.heap.size)
 case atStart=>exact ⟨0,rfl,Nat.zero_le _,hk0,hb0⟩
 case round =>
  obtain ⟨pos,-,hps,hk,hnx⟩:=hrel;clear hk0 hb0;by_cases hp:pos<s.size
  ·have h128:=hs pos hp
   have hnext:∀ ty,(Instr.next (.pointer (some ⟨w.heap.size,0,none⟩)) true ty).run Tryz.prog wr=_:=fun ty=>Lib.run_next_ascii_at wr w.heap.size s pos ty hk hp ω
   have hk1:=Lib.iterAt_heap wr w.heap.size s pos (pos+1) hk;have hnx1:Below w.heap.size w (wr.iterAt w.heap.size s (pos+1)):=Lib.below_iterAt hnx ρ s (pos+1);have hmu:wr.iterPos w.heap.size=pos:=by simp [World.iterPos,hk]
   generalize wr.iterAt w.heap.size s (pos+1)=W1 at hnext hk1 hnx1
   go_wp2_with fail
   refine (isNot_any _ _ h128).mono ?_;rintro e w2 ⟨rfl,rfl⟩;go_wp2
   go_roundw
   case rel=>exact ⟨pos+1,trivial,by omega,hk1,hnx1⟩
   case measure =>
    have hmu2:w2.iterPos w.heap.size=pos+1:=by simp [World.iterPos,hk1]
    rw [hmu,hmu2];omega
  ·have hnext:∀ ty,(Instr.next (.pointer (some ⟨w.heap.size,0,none⟩)) true ty).run Tryz.prog wr=_:=fun ty=>Lib.run_next_end_at wr w.heap.size s pos ty hk hp
   go_wp2;go_ret
   exact ⟨rfl,hnx⟩
theorem kf (s:ByteArray) (hs:Digs s) (w:World):Calls Tryz.prog 236 #[.string s,.func (.func 237) #[] #[]] w fun e w'=>e=.returned (.bool false)∧Below w.heap.size w w':=by
 go_enter Tryz.func236,Tryz.ntmps236
 go_wp2_with (first | (go_at_call 261;refine (m6 s hs _).mono ?_;rintro e w1 ⟨rfl,hb⟩) | go_in)
 go_ret;exact ⟨rfl,hb⟩
end Go.Proofs.Υ
end

section
namespace Dowel
open Go Go.RowKit
def RetIntOK (w:World) (e:Ending) (z:Int):Prop:=∃ v,e=.returned (.tuple #[v,.int .i64 0])∧aN w v z
theorem ny:∀ u,u<256→digsB (dn u)=true∧Lib.parseUintB 32 (dn u)=.ok u∧0<(dn u).length∧(dn u).length≤3∧(((dn u).getD 0 0).toNat=48↔u=0)∧(u=0→(dn u).length=1):=by decide +kernel
theorem cut_sign (z:Int) (hz:z.natAbs<256):Lib.trimPrefix (gW z) [45]=dn z.natAbs∧Lib.hasPrefix (gW z) [45]=decide (z<0):=by
 have h:∀ u,u<256→Lib.hasPrefix (dn u) [45]=false:=by decide +kernel
 unfold gW Lib.trimPrefix;by_cases h0:z<0
 ·rw [if_pos h0,decide_eq_true h0,show Lib.hasPrefix (45 :: dn z.natAbs) [45]=true from rfl,if_pos rfl];exact ⟨rfl,rfl⟩
 ·rw [if_neg h0,decide_eq_false h0,h _ hz];exact ⟨rfl,rfl⟩
end Dowel
namespace Go.Proofs.Υ
open Go.RowKit Dowel
set_option maxRecDepth 20000
theorem scale_nil (b:Int) (p:Nat) (w:World) (hp:p<4294967296) :
  Calls Tryz.prog 239 #[.slice none 0 0,.int .u32 b,.int .u32 (p:Nat)] w fun e w'=>(∃ a n cap ds,e=.returned (.slice a n cap)∧Mag w' a n cap ds∧Nz ds∧val ds=p∧n≤1)∧Below w.heap.size w w':=by
 have hdg:Dg [p]:=Dg.cons hp Dg.nil
 go_enter Tryz.func239,Tryz.ntmps239
 go_wp2_with (at_make;refine fA _ rfl _ _ rfl _ _ _ _ rfl rfl 1 ?c1 ?c2 ?c3 ?_)
 case c1=>rfl
 case c2=>rfl
 case c3=>omega
 intro w0 hown0 hgrow0;have HO:=η hown0;have HG:=η hgrow0;clear hown0 hgrow0;go_wp2;refine aP.loop 1 ?_;refine aP.next (fun K hK=>?_);have hoc:=HO.out.cell 0 ω;have hof:=HO.out.free 0
 go_wp2_with fail
 refine (eK _ _ _ [p] _ (Own.mag (HO.out.stored 0 p _ rfl) hdg) ω).mono ?_;rintro e w' ⟨⟨n,hm,hn,hnz,hv,rfl⟩,rfl⟩;have HM:=η hm;have HN:=η hnz;have HVV:=η (show val (([p]:List Nat).take n)=p by rw [hv];simp [val]);clear hm hnz hv;go_wp2;go_ret;exact ⟨⟨_,_,_,_,rfl,HM.out,HN.out,HVV.out,hn⟩,HG.out.setCell ρ _⟩
theorem oE (z:Int) (w:World) (hz:z.natAbs<256) :
  Calls Tryz.prog 217 #[.string ⟨(gW z).toArray⟩] w fun e w'=>RetIntOK w' e z∧Below w.heap.size w w':=by
 obtain ⟨hc1,hc2⟩:=cut_sign z hz;obtain ⟨u,hu⟩:∃ u,z.natAbs=u:=⟨_,rfl⟩;rw [hu] at hc1 hz;obtain ⟨f1,f2,f3,f4,f5,f6⟩:=ny u hz;obtain ⟨S,hS⟩:∃ S:ByteArray,⟨(gW z).toArray⟩=S:=⟨_,rfl⟩;obtain ⟨D,hD⟩:∃ D:ByteArray,⟨(dn u).toArray⟩=D:=⟨_,rfl⟩;obtain ⟨b,hb⟩:∃ b,decide (z<0)=b:=⟨_,rfl⟩;have hs4:S.size≤4:=by rw [← hS];exact jD z
 have hcut:=fun w=>Tryz.strings_CutPrefix S ⟨#[45]⟩ w
 rw [show S.data.toList=gW z from by rw [← hS],show (⟨#[45]⟩:ByteArray).data.toList=[45] from rfl,hc1,hc2,hD,hb] at hcut;have hdg:=digs_of f1;rw [hD] at hdg;have hd0:D.toList.isEmpty=false:=by
  rw [← hD,ByteArray.toList_mk]
  cases h:dn u with
  | nil=>rw [h] at f3;exact absurd f3 ν
  | cons x y=>rfl
 have hdz:D.size=(dn u).length:=by rw [← hD];rfl
 have h00:∀ (E:ByteArray) (_:⟨(dn u).toArray⟩=E) (h:0<E.size),(E[0]'h).toNat=((dn u).getD 0 0).toNat:=by
  rintro _ rfl h;rw [List.getD_eq_getElem?_getD,List.getElem?_eq_getElem f3];rfl
 obtain ⟨n,hn⟩:∃ n,(dn u).length=n:=⟨_,rfl⟩;rw [hn] at hdz f3 f4 f6;have hdp:0<D.size:=ω;have key:(b=false∧¬ (1:Int)<(n:Int)∧((D[0]'hdp).toNat:Int)=48)∨¬ ((D[0]'hdp).toNat:Int)=48:=by
  rw [h00 D hD hdp];by_cases h0:u=0
  ·exact .inl ⟨by rw [← hb];exact decide_eq_false ω,by have:=f6 h0;omega,by have:=f5.2 h0;omega⟩
  ·exact .inr (fun h=>h0 (f5.1 ω))
 have HDG:=η hdg;have HFU:=η f2;obtain ⟨W,hW,b1,hB,hSZ⟩:=aG w #[.bool false,.slice none 0 0] 54;have HB:=η hB;have B1:=η b1;have HS4:=η hs4;have hs5:¬ (65536:Int)<(S.size:Int):=ω;obtain ⟨x0,x1,-⟩:=b1.two;clear hB b1 hSZ hdg f1 f2 hc1 hc2 hs4;rw [hS]
 go_enter Tryz.func217,Tryz.ntmps217
 go_wp2_with fail
 refine (hcut _).mono ?_;rintro e w1 ⟨rfl,rfl⟩
 go_wp2_with fail
 refine (kf D HDG.out _).mono ?_;rintro e w2 ⟨rfl,hb2⟩;have B2:=η (B1.out.below hb2 B1.out.lt);have HB2:=η (ae HB.out hb2 ρ);obtain ⟨x0,x1,-⟩:=B2.out.two;clear hb2 h00 f5 f6;have hex:D.extract 0 n=D:=by rw [← hdz];exact ByteArray.extract_zero_size
 have hpu:Lib.parseUintB 32 D.data.toList=.ok u:=by rw [← hD];exact HFU.out
 have hu32:IntKind.u32.wrap (u:Int)=(u:Int):=by rw [IntKind.wrap_u32];omega
 have hsg:sgn b u=z:=by
  rw [← hb];unfold sgn;by_cases hz0:z<0
  ·rw [decide_eq_true hz0,if_pos rfl];omega
  ·rw [decide_eq_false hz0];show ((u:Nat):Int)=z;omega
 have hn9:((n:Int) - 1) % 9+1=(n:Int):=ω
 rcases key with ⟨kb,kn,kc⟩ | kc <;> (
  go_wp2_with fail
  refine aP.loop 2 ?_;refine aP.next (fun K hK=>?_)
  go_wp2_with fail
  go_loopw [8,48] (fun bv iv wr=>∃ (k:Nat) (y:Int),k≤n∧bv=.int .u32 y∧iv=.int .i64 (k:Nat)∧wr=w2) (fun _ iv _=>n - (intOf iv).toNat)
  case atStart=>exact ⟨0,1,by omega,rfl,rfl,rfl⟩
  case round =>
   obtain ⟨k,y,hk,rfl,rfl,rfl⟩:=hrel;by_cases h0:k=n
   ·have hlt:¬ (k:Int)<(n:Int):=ω
    go_wp2_with fail
    refine (Tryz.strconv_ParseUint_10_at32_ok D ω u hpu _).mono ?_;rintro e w3 ⟨rfl,hw3⟩;have hb3:Below wr.heap.size wr w3:=by
     rcases hw3 with rfl | rfl
     ·exact Below.refl _ _
     ·exact Lib.bytesWorld_below _ _ _
    have B3:=η (B2.out.below hb3 B2.out.lt);have HB3:=η (ae HB2.out hb3 (by have:=HB.out.size;have:=HB2.out.size;omega));clear hw3 hb3 x0 x1
    go_wp2_with fail
    refine (scale_nil y u _ ω).mono ?_;rintro e w4 ⟨⟨a2,n2,c2,d2,rfl,hm2,hn2,hv2,hl2⟩,hb4⟩;have M4:=η hm2;have HV4:=η hv2;have B4:=η (B3.out.below hb4 B3.out.lt);have HB4:=η (ae HB3.out hb4 (ψ HB3.out.size));clear hm2 hn2 hv2 hb4
    go_wp2_with fail
    refine aP.next (fun K hK=>?_)
    go_wp2_with fail
    refine (dz _ a2 n2 c2 d2 _ M4.out ω).mono ?_;rintro e w5 ⟨⟨v5,rfl,hv5⟩,hb5⟩;rw [HV4.out,show sgn _ u=z from by first | exact hsg | (rw [← kb];exact hsg)] at hv5;have B5:=η (B4.out.below hb5 B4.out.lt);have HB5:=η (ae HB4.out hb5 (ψ HB4.out.size));have HV5:=η hv5;obtain ⟨s5,a5,n5,c5,d5,rfl,-⟩:=hv5;obtain ⟨y0,y1,y2,y3⟩:=B5.out.two;clear hb5
    go_wp2_with fail
    exact bP Tryz.results217 w.heap.size (B5.out.set2 _ _) _ rfl Tryz.underlying54 rfl dh rfl ⟨⟨_,rfl,HV5.out.store2 B5.out _ _⟩,aO HB5.out ρ _ _⟩
   ·have hlt:(k:Int)<(n:Int):=ω
    have hkn:k<n:=ω
    go_wp2_with fail
    go_round
    case rel=>exact ⟨k+1,_,hkn,rfl,rfl,trivial⟩
    case measure=>show n - ((k:Int)+1).toNat<n - (k:Int).toNat;omega)
end Go.Proofs.Υ
end
