/- Lemmas. -/
import Derived.Test.YtodehkjinmgflaaGreatDoorV38
set_option linter.all false
set_option maxHeartbeats 0
set_option maxRecDepth 99999
namespace Go.Proofs.Υ
open Go Go.RowKit Tryz
theorem iter_below{B:Nat}{a w:World}(h:Below B a w)(s:ByteArray)(e:B<=w.heap.size):Below B a (w.iter s 0):=h.alloc e _
def Digs(s:ByteArray):Prop:=∀i (h:i<s.size),48<=(s[i]'h).toNat/\(s[i]'h).toNat<=57
def digsB(l:List UInt8):Bool:=l.all fun c=>decide (48<=c.toNat/\c.toNat<=57)
theorem digs_of{l:List UInt8}(h:digsB l=true):Digs ⟨l.toArray⟩:=fun i hi=>by
 have e:=List.all_eq_true.1 h _ (List.getElem_mem (show i<l.length from hi));exact of_decide_eq_true e
theorem isNot_any(c:Nat)(w:World)(h:48<=c/\c<=57):Calls prog 238 #[.int .i32 c] w fun e w'=>e=.returned (.bool false)/\w'=w:=by
 have i:¬ (c:Int)<48:=I;have j:¬ (57:Int)<c:=I
 go_enter func238,ntmps238
 go_wp2;go_ret
 exact⟨rfl,rfl⟩
theorem qp(s:ByteArray)(W:Digs s)(w:World):Calls prog 299 #[.string s,.func (.func 238) #[] #[],.bool true] w fun e w'=>e=.returned (.int .i64 (-1))/\Bl w w':=by
 have E:(w.iter s 0).heap[w.heap.size]?=some (.stringIter s 0):=by simpa using World.iter_heap w s 0
 have C:Bl w (w.iter s 0):=iter_below β s ρ;have Q:∀args w,(callFunc 238 args).run prog w=.ok (.enter 238 args) w:=enters_of func238 Z rfl
 go_enter func299,ntmps299
 go_wp2
 go_loopw [6] (fun R wr=>∃pos:Nat,R=R/\pos<=s.size/\wr.heap[w.heap.size]?=some (.stringIter s pos)/\Bl w wr) (fun _ wr=>s.size-wr.iterPos w.heap.size)
 case atStart=>exact⟨0,rfl,Nat.zero_le _,E,C⟩
 case round =>
  obtain⟨pos,-,U,H,G⟩:=hrel;clear E C;by_cases L:pos<s.size
  ·have A:=W pos L
   have i:∀ty,(Instr.next (.pointer (some ⟨w.heap.size,0,none⟩)) true ty).run prog wr=_:=fun ty=>Lib.run_next_ascii_at wr w.heap.size s pos ty H L I
   have u:=Lib.iterAt_heap wr w.heap.size s pos (pos+1) H;have j:Bl w (wr.iterAt w.heap.size s (pos+1)):=Lib.below_iterAt G ρ s (pos+1);have J:wr.iterPos w.heap.size=pos:=by simp[World.iterPos,H]
   generalize wr.iterAt w.heap.size s (pos+1)=Y at i u j
   go_wp2_with fail
   refine(isNot_any _ _ A).mono ?_;rintro e X ⟨rfl,rfl⟩;go_wp2
   go_roundw
   case rel=>exact⟨pos+1,trivial,by omega,u,j⟩
   case measure =>
    have F:X.iterPos w.heap.size=pos+1:=by simp[World.iterPos,u]
    rw[J,F];omega
  ·have i:∀ty,(Instr.next (.pointer (some ⟨w.heap.size,0,none⟩)) true ty).run prog wr=_:=fun ty=>Lib.run_next_end_at wr w.heap.size s pos ty H L
   go_wp2;go_ret
   exact⟨rfl,G⟩
theorem mD(s:ByteArray)(i:Digs s)(w:World):Calls prog 237 #[.string s,.func (.func 238) #[] #[]] w fun e w'=>e=.returned (.bool false)/\Bl w w':=by
 go_enter func237,ntmps237
 go_wp2_with (first|(go_at_call 299;refine(qp s i _).mono ?_;rintro e j ⟨rfl,hb⟩)|go_in)
 go_ret;exact⟨rfl,hb⟩
def RetIntOK(w:World)(e:Ending)(z:Int):Prop:=∃v,e=.returned (.tuple #[v,.int .i64 0])/\aO w v z
theorem qI:∀u,u<256->digsB (cY u)=true/\Lib.parseUintB 32 (cY u)=.ok u/\0<(cY u).length/\(cY u).length<=3/\(((cY u).getD 0 0).toNat=48↔u=0)/\(u=0->(cY u).length=1):=by decide +kernel
theorem cut_sign(z:Int)(e:z.natAbs<256):Lib.trimPrefix (dT z) [45]=cY z.natAbs/\Lib.hasPrefix (dT z) [45]=decide (z<0):=by
 have h:∀u,u<256->Lib.hasPrefix (cY u) [45]=false:=by decide +kernel
 unfold dT Lib.trimPrefix;by_cases h0:z<0
 ·rw[if_pos h0,decide_eq_true h0,show Lib.hasPrefix (45::cY z.natAbs) [45]=true from rfl,if_pos rfl];exact⟨rfl,rfl⟩
 ·rw[if_neg h0,decide_eq_false h0,h _ e];exact⟨rfl,rfl⟩
theorem scale_nil(b:Int)(p:Nat)(w:World)(Y:p<4294967296):
 Calls prog 240 #[.slice none 0 0,.int .u32 b,.int .u32 (p:Nat)] w fun e w'=>(∃a n u F,e=.returned (.slice a n u)/\Mag w' a n u F/\Nz F/\val F=p/\n<=1)/\Bl w w':=by
 have G:Dg [p]:=Dg.cons Y Dg.nil
 go_enter func240,ntmps240
 go_wp2_with (at_make;refine gI _ rfl _ _ rfl _ _ _ _ rfl rfl 1 ?c1 ?c2 ?c3 ?_)
 case c1=>rfl
 case c2=>rfl
 case c3=>omega
 intro w0 j i;obtain⟨C,L⟩:=η2 j i;clear j i;go_wp2;refine aN.loop 1 ?_;refine aN.next (fun K hK=>?_);have W:=C.o.cell 0 I;have X:=C.o.free 0
 go_wp2_with fail
 refine(ft _ _ _ [p] _ (Own.mag (C.o.stored 0 p _ rfl) G) I).mono ?_;rintro e w' ⟨⟨n,H,U,A,J,rfl⟩,rfl⟩;obtain⟨Q,R⟩:=η2 H A;have E:=O (show val (([p]:List Nat).take n)=p by rw[J];simp[val]);clear H A J;go_wp2;go_ret;exact⟨⟨_,_,_,_,rfl,Q.o,R.o,E.o,U⟩,L.o.setCell ρ _⟩
theorem sm(z:Int)(w:World)(hz:z.natAbs<256):
 Calls prog 194 #[.string ⟨(dT z).toArray⟩] w fun e w'=>RetIntOK w' e z/\Bl w w':=by
 obtain⟨F,X⟩:=cut_sign z hz;obtain⟨u,hu⟩:=χ z.natAbs;rw[hu]at F hz;obtain⟨f1,f2,f3,f4,f5,f6⟩:=qI u hz;obtain⟨S,hS⟩:∃S:ByteArray,⟨(dT z).toArray⟩=S:=⟨_,rfl⟩;obtain⟨D,hD⟩:∃D:ByteArray,⟨(cY u).toArray⟩=D:=⟨_,rfl⟩;obtain⟨b,hb⟩:=χ (decide (z<0));have ab:S.size<=4:=by rw[<-hS];exact pp z
 have hcut:=fun w=>strings_CutPrefix S ⟨#[45]⟩ w
 rw[show S.data.toList=dT z from by rw[<-hS],show(⟨#[45]⟩:ByteArray).data.toList=[45] from rfl,F,X,hD,hb]at hcut;have G:=digs_of f1;rw[hD]at G;have a4:D.toList.isEmpty=false:=by
  rw[<-hD,ByteArray.toList_mk]
  cases h:cY u with
  | nil=>rw[h]at f3;exact absurd f3 ν
  | cons x y=>rfl
 have Y:D.size=(cY u).length:=by rw[<-hD];rfl
 have U:∀(E:ByteArray) (_:⟨(cY u).toArray⟩=E) (h:0<E.size),(E[0]'h).toNat=((cY u).getD 0 0).toNat:=by
  rintro _ rfl h;rw[List.getD_eq_getElem?_getD,List.getElem?_eq_getElem f3];rfl
 obtain⟨n,hn⟩:=χ ((cY u).length);rw[hn]at Y f3 f4 f6;have H:0<D.size:=I;have key:(b=false/\¬ (1:Int)<(n:Int)/\((D[0]'H).toNat:Int)=48)\/¬ ((D[0]'H).toNat:Int)=48:=by
  rw[U D hD H];by_cases h0:u=0
  ·exact .inl ⟨by rw[<-hb];exact decide_eq_false I,by have:=f6 h0;omega,by have:=f5.2 h0;omega⟩
  ·exact .inr (fun h=>h0 (f5.1 I))
 obtain⟨ao,ap⟩:=η2 G f2;obtain⟨W,hW,b1,hB,av⟩:=aB w #[.bool false,.slice none 0 0] 53;obtain⟨HB,B1,a3⟩:=η3 hB b1 ab;have a9:¬ (65536:Int)<(S.size:Int):=I;obtain⟨x0,x1,-⟩:=b1.two;clear hB b1 av G f1 f2 F X ab;rw[hS]
 go_enter func194,ntmps194
 go_wp2_with fail
 refine(hcut _).mono ?_;rintro e w1 ⟨rfl,rfl⟩
 go_wp2_with fail
 refine(mD D ao.o _).mono ?_;rintro e w2 ⟨rfl,i⟩;obtain⟨B2,L⟩:=η2 (B1.o.to i) (ae HB.o i ρ);obtain⟨x0,x1,-⟩:=B2.o.two;clear i U f5 f6;have a6:D.extract 0 n=D:=by rw[<-Y];exact ByteArray.extract_zero_size
 have a0:Lib.parseUintB 32 D.data.toList=.ok u:=by rw[<-hD];exact ap.o
 have a1:IntKind.u32.wrap (u:Int)=(u:Int):=by rw[IntKind.wrap_u32];omega
 have ac:sgn b u=z:=by
  rw[<-hb];unfold sgn;by_cases ag:z<0
  ·rw[decide_eq_true ag,if_pos rfl];omega
  ·rw[decide_eq_false ag];show((u:Nat):Int)=z;omega
 have a8:((n:Int)-1) % 9+1=(n:Int):=I
 rcases key with⟨kb,kn,kc⟩|kc<;>(
  go_wp2_with fail
  refine aN.loop 2 ?_;refine aN.next (fun K hK=>?_)
  go_wp2_with fail
  go_loopw [8,48] (fun bv iv wr=>∃(k:Nat) (y:Int),k<=n/\bv=.int .u32 y/\iv=.int .i64 (k:Nat)/\wr=w2) (fun _ iv _=>n-(intOf iv).toNat)
  case atStart=>exact⟨0,1,by omega,rfl,rfl,rfl⟩
  case round =>
   obtain⟨k,y,hk,rfl,rfl,rfl⟩:=hrel;by_cases h0:k=n
   ·have ay:¬ (k:Int)<(n:Int):=I
    go_wp2_with fail
    refine(strconv_ParseUint_10_at32_ok D I u a0 _).mono ?_;rintro e w3 ⟨rfl,af⟩;have j:Bl wr w3:=by
     rcases af with rfl|rfl
     ·exact Below.refl _ _
     ·exact Lib.bytesWorld_below _ _ _
    have B3:=O (B2.o.to j);have Q:=O (ae L.o j (by have:=HB.o.size;have:=L.o.size;omega));clear af j x0 x1
    go_wp2_with fail
    refine(scale_nil y u _ I).mono ?_;rintro e w4 ⟨⟨a2,n2,c2,d2,rfl,aa,az,ad,a7⟩,A⟩;obtain⟨M4,ar,B4,R⟩:=η4 aa ad (B3.o.to A) (ae Q.o A (ψ Q.o.size));clear aa az ad A
    go_wp2_with fail
    refine aN.next (fun K hK=>?_)
    go_wp2_with fail
    refine(dM _ a2 n2 c2 d2 _ M4.o I).mono ?_;rintro e w5 ⟨⟨v5,rfl,J⟩,C⟩;rw[ar.o,show sgn _ u=z from by first|exact ac|(rw[<-kb];exact ac)]at J;obtain⟨B5,an,au⟩:=η3 (B4.o.to C) (ae R.o C (ψ R.o.size)) J;obtain⟨s5,a5,n5,c5,d5,rfl,-⟩:=J;obtain⟨y0,y1,y2,y3⟩:=B5.o.two;clear C
    go_wp2_with fail
    exact bS results194 w.heap.size (B5.o.set2 _ _) _ rfl underlying53 rfl di rfl ⟨⟨_,rfl,au.o.store2 B5.o _ _⟩,aM an.o ρ _ _⟩
   ·have ay:(k:Int)<(n:Int):=I
    have aw:k<n:=I
    go_wp2_with fail
    go_round
    case rel=>exact⟨k+1,_,aw,rfl,rfl,trivial⟩
    case measure=>exact μ)
end Go.Proofs.Υ
