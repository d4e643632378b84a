/- Lemmas. -/
import Derived.Test.YtodehkjinmgflaaGreatDoorE38
set_option linter.all false
set_option maxHeartbeats 0
set_option maxRecDepth 99999
namespace Go.Proofs.Υ
open Go Go.RowKit Tryz
theorem iter_below{B:Nat}{a w:World}(h:Below B a w)(s:ByteArray)(e:B<=w.heap.size):Below B a (w.iter s 0):=h.alloc e _
def Digs(s:ByteArray):Prop:=∀i (h:i<s.size),48<=(s[i]'h).toNat/\(s[i]'h).toNat<=57
def digsB(l:List UInt8):Bool:=l.all fun c=>decide (48<=c.toNat/\c.toNat<=57)
theorem digs_of{l:List UInt8}(h:digsB l=true):Digs ⟨l.toArray⟩:=fun i hi=>by
 have e:=List.all_eq_true.1 h _ (List.getElem_mem (show i<l.length from hi));exact of_decide_eq_true e
theorem isNot_any(c:Nat)(w:World)(h:48<=c/\c<=57):Calls prog 238 #[.int .i32 c] w fun e w'=>e=.returned (.bool false)/\w'=w:=by
 have j:¬ (c:Int)<48:=I;have u:¬ (57:Int)<c:=I
 go_enter func238,ntmps238
 go_wp2;go_ret
 exact⟨rfl,rfl⟩
theorem qK(s:ByteArray)(X:Digs s)(w:World):Calls prog 299 #[.string s,.func (.func 238) #[] #[],.bool true] w fun e w'=>e=.returned (.int .i64 (-1))/\Bl w w':=by
 have F:(w.iter s 0).heap[w.heap.size]?=some (.stringIter s 0):=by simpa using World.iter_heap w s 0
 have E:Bl w (w.iter s 0):=iter_below β s ρ;have R:∀args w,(callFunc 238 args).run prog w=.ok (.enter 238 args) w:=enters_of func238 Z rfl
 go_enter func299,ntmps299
 go_wp2
 go_loopw [6] (fun U wr=>∃pos:Nat,U=U/\pos<=s.size/\wr.heap[w.heap.size]?=some (.stringIter s pos)/\Bl w wr) (fun _ wr=>s.size-wr.iterPos w.heap.size)
 case atStart=>exact⟨0,rfl,Nat.zero_le _,F,E⟩
 case round =>
  obtain⟨pos,-,W,J,H⟩:=hrel;clear F E;by_cases Q:pos<s.size
  ·have C:=X pos Q
   have j:∀ty,(Instr.next (.pointer (some ⟨w.heap.size,0,none⟩)) true ty).run prog wr=_:=fun ty=>Lib.run_next_ascii_at wr w.heap.size s pos ty J Q I
   have A:=Lib.iterAt_heap wr w.heap.size s pos (pos+1) J;have u:Bl w (wr.iterAt w.heap.size s (pos+1)):=Lib.below_iterAt H ρ s (pos+1);have L:wr.iterPos w.heap.size=pos:=by simp[World.iterPos,J]
   generalize wr.iterAt w.heap.size s (pos+1)=W1 at j A u
   go_wp2_with fail
   refine(isNot_any _ _ C).mono ?_;rintro e Y ⟨rfl,rfl⟩;go_wp2
   go_roundw
   case rel=>exact⟨pos+1,trivial,by omega,A,u⟩
   case measure =>
    have G:Y.iterPos w.heap.size=pos+1:=by simp[World.iterPos,A]
    rw[L,G];omega
  ·have j:∀ty,(Instr.next (.pointer (some ⟨w.heap.size,0,none⟩)) true ty).run prog wr=_:=fun ty=>Lib.run_next_end_at wr w.heap.size s pos ty J Q
   go_wp2;go_ret
   exact⟨rfl,H⟩
theorem mP(s:ByteArray)(j:Digs s)(w:World):Calls prog 237 #[.string s,.func (.func 238) #[] #[]] w fun e w'=>e=.returned (.bool false)/\Bl w w':=by
 go_enter func237,ntmps237
 go_wp2_with (first|(go_at_call 299;refine(qK s j _).mono ?_;rintro e u ⟨rfl,hb⟩)|go_in)
 go_ret;exact⟨rfl,hb⟩
def RetIntOK(w:World)(e:Ending)(z:Int):Prop:=∃v,e=.returned (.tuple #[v,.int .i64 0])/\aU w v z
theorem rf:∀u,u<256->digsB (cZ u)=true/\Lib.parseUintB 32 (cZ u)=.ok u/\0<(cZ u).length/\(cZ u).length<=3/\(((cZ u).getD 0 0).toNat=48↔u=0)/\(u=0->(cZ u).length=1):=by decide +kernel
theorem cut_sign(z:Int)(e:z.natAbs<256):Lib.trimPrefix (dY z) [45]=cZ z.natAbs/\Lib.hasPrefix (dY z) [45]=decide (z<0):=by
 have h:∀u,u<256->Lib.hasPrefix (cZ u) [45]=false:=by decide +kernel
 unfold dY Lib.trimPrefix;by_cases h0:z<0
 ·rw[if_pos h0,decide_eq_true h0,show Lib.hasPrefix (45::cZ z.natAbs) [45]=true from rfl,if_pos rfl];exact⟨rfl,rfl⟩
 ·rw[if_neg h0,decide_eq_false h0,h _ e];exact⟨rfl,rfl⟩
theorem scale_nil(b:Int)(p:Nat)(w:World)(hp:p<4294967296):
 Calls prog 240 #[.slice none 0 0,.int .u32 b,.int .u32 (p:Nat)] w fun e w'=>(∃a n A G,e=.returned (.slice a n A)/\Mag w' a n A G/\Nz G/\val G=p/\n<=1)/\Bl w w':=by
 have H:Dg [p]:=Dg.cons hp Dg.nil
 go_enter func240,ntmps240
 go_wp2_with (at_make;refine gJ _ rfl _ _ rfl _ _ _ _ rfl rfl 1 ?c1 ?c2 ?c3 ?_)
 case c1=>rfl
 case c2=>rfl
 case c3=>omega
 intro w0 u j;obtain⟨E,Q⟩:=η2 u j;clear u j;go_wp2;refine aT.loop 1 ?_;refine aT.next (fun K hK=>?_);have X:=E.o.cell 0 I;have Y:=E.o.free 0
 go_wp2_with fail
 refine(fm _ _ _ [p] _ (Own.mag (E.o.stored 0 p _ rfl) H) I).mono ?_;rintro e w' ⟨⟨n,J,W,C,L,rfl⟩,rfl⟩;obtain⟨R,U⟩:=η2 J C;have F:=O (show val (([p]:List Nat).take n)=p by rw[L];simp[val]);clear J C L;go_wp2;go_ret;exact⟨⟨_,_,_,_,rfl,R.o,U.o,F.o,W⟩,Q.o.setCell ρ _⟩
theorem sO(z:Int)(w:World)(hz:z.natAbs<256):
 Calls prog 194 #[.string ⟨(dY z).toArray⟩] w fun e w'=>RetIntOK w' e z/\Bl w w':=by
 obtain⟨G,Y⟩:=cut_sign z hz;obtain⟨u,hu⟩:=χ z.natAbs;rw[hu]at G hz;obtain⟨f1,f2,f3,f4,f5,f6⟩:=rf u hz;obtain⟨S,hS⟩:∃S:ByteArray,⟨(dY z).toArray⟩=S:=⟨_,rfl⟩;obtain⟨D,hD⟩:∃D:ByteArray,⟨(cZ u).toArray⟩=D:=⟨_,rfl⟩;obtain⟨b,hb⟩:=χ (decide (z<0));have ac:S.size<=4:=by rw[<-hS];exact pM z
 have hcut:=fun w=>strings_CutPrefix S ⟨#[45]⟩ w
 rw[show S.data.toList=dY z from by rw[<-hS],show(⟨#[45]⟩:ByteArray).data.toList=[45] from rfl,G,Y,hD,hb]at hcut;have H:=digs_of f1;rw[hD]at H;have a6:D.toList.isEmpty=false:=by
  rw[<-hD,ByteArray.toList_mk]
  cases h:cZ u with
  | nil=>rw[h]at f3;exact absurd f3 ν
  | cons x y=>rfl
 have aa:D.size=(cZ u).length:=by rw[<-hD];rfl
 have X:∀(E:ByteArray) (_:⟨(cZ u).toArray⟩=E) (h:0<E.size),(E[0]'h).toNat=((cZ u).getD 0 0).toNat:=by
  rintro _ rfl h;rw[List.getD_eq_getElem?_getD,List.getElem?_eq_getElem f3];rfl
 obtain⟨n,hn⟩:=χ ((cZ u).length);rw[hn]at aa f3 f4 f6;have J:0<D.size:=I;have key:(b=false/\¬ (1:Int)<(n:Int)/\((D[0]'J).toNat:Int)=48)\/¬ ((D[0]'J).toNat:Int)=48:=by
  rw[X D hD J];by_cases h0:u=0
  ·exact .inl ⟨by rw[<-hb];exact decide_eq_false I,by have:=f6 h0;omega,by have:=f5.2 h0;omega⟩
  ·exact .inr (fun h=>h0 (f5.1 I))
 obtain⟨ap,ar⟩:=η2 H f2;obtain⟨W,hW,b1,hB,aw⟩:=aB w #[.bool false,.slice none 0 0] 53;obtain⟨HB,B1,a4⟩:=η3 hB b1 ac;have ba:¬ (65536:Int)<(S.size:Int):=I;obtain⟨x0,x1,-⟩:=b1.two;clear hB b1 aw H f1 f2 G Y ac;rw[hS]
 go_enter func194,ntmps194
 go_wp2_with fail
 refine(hcut _).mono ?_;rintro e w1 ⟨rfl,rfl⟩
 go_wp2_with fail
 refine(mP D ap.o _).mono ?_;rintro e w2 ⟨rfl,j⟩;obtain⟨B2,Q⟩:=η2 (B1.o.to j) (ae HB.o j ρ);obtain⟨x0,x1,-⟩:=B2.o.two;clear j X f5 f6;have a7:D.extract 0 n=D:=by rw[<-aa];exact ByteArray.extract_zero_size
 have a1:Lib.parseUintB 32 D.data.toList=.ok u:=by rw[<-hD];exact ar.o
 have a3:IntKind.u32.wrap (u:Int)=(u:Int):=by rw[IntKind.wrap_u32];omega
 have ad:sgn b u=z:=by
  rw[<-hb];unfold sgn;by_cases an:z<0
  ·rw[decide_eq_true an,if_pos rfl];omega
  ·rw[decide_eq_false an];show((u:Nat):Int)=z;omega
 have a9:((n:Int)-1) % 9+1=(n:Int):=I
 rcases key with⟨kb,kn,kc⟩|kc<;>(
  go_wp2_with fail
  refine aT.loop 2 ?_;refine aT.next (fun K hK=>?_)
  go_wp2_with fail
  go_loopw [8,48] (fun bv iv wr=>∃(k:Nat) (y:Int),k<=n/\bv=.int .u32 y/\iv=.int .i64 (k:Nat)/\wr=w2) (fun _ iv _=>n-(intOf iv).toNat)
  case atStart=>exact⟨0,1,by omega,rfl,rfl,rfl⟩
  case round =>
   obtain⟨k,y,hk,rfl,rfl,rfl⟩:=hrel;by_cases h0:k=n
   ·have az:¬ (k:Int)<(n:Int):=I
    go_wp2_with fail
    refine(strconv_ParseUint_10_at32_ok D I u a1 _).mono ?_;rintro e w3 ⟨rfl,ag⟩;have A:Bl wr w3:=by
     rcases ag with rfl|rfl
     ·exact Below.refl _ _
     ·exact Lib.bytesWorld_below _ _ _
    have B3:=O (B2.o.to A);have R:=O (ae Q.o A (by have:=HB.o.size;have:=Q.o.size;omega));clear ag A x0 x1
    go_wp2_with fail
    refine(scale_nil y u _ I).mono ?_;rintro e w4 ⟨⟨a2,n2,c2,d2,rfl,ab,a0,af,a8⟩,C⟩;obtain⟨M4,au,B4,U⟩:=η4 ab af (B3.o.to C) (ae R.o C (ψ R.o.size));clear ab a0 af C
    go_wp2_with fail
    refine aT.next (fun K hK=>?_)
    go_wp2_with fail
    refine(dK _ a2 n2 c2 d2 _ M4.o I).mono ?_;rintro e w5 ⟨⟨v5,rfl,L⟩,F⟩;rw[au.o,show sgn _ u=z from by first|exact ad|(rw[<-kb];exact ad)]at L;obtain⟨B5,ao,av⟩:=η3 (B4.o.to F) (ae U.o F (ψ U.o.size)) L;obtain⟨s5,a5,n5,c5,d5,rfl,-⟩:=L;obtain⟨y0,y1,y2,y3⟩:=B5.o.two;clear F
    go_wp2_with fail
    exact bQ results194 w.heap.size (B5.o.set2 _ _) _ rfl underlying53 rfl dh rfl ⟨⟨_,rfl,av.o.store2 B5.o _ _⟩,aS ao.o ρ _ _⟩
   ·have az:(k:Int)<(n:Int):=I
    have ay:k<n:=I
    go_wp2_with fail
    go_round
    case rel=>exact⟨k+1,_,ay,rfl,rfl,trivial⟩
    case measure=>exact μ)
end Go.Proofs.Υ
