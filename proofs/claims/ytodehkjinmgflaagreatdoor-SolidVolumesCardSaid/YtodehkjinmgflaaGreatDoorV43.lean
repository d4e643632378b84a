/- Lemmas. -/
import Derived.Test.YtodehkjinmgflaaGreatDoorV41
import Derived.Test.YtodehkjinmgflaaGreatDoorV33
import Derived.Test.YtodehkjinmgflaaGreatDoorV42
set_option linter.all false
set_option maxHeartbeats 0
set_option maxRecDepth 99999
namespace Go.Proofs.Υ
open Go Go.RowKit Tryz
def dU(x:Rat):ByteArray:=⟨(kS x).toArray⟩
def oB(s:Q3):Prop:=li s.x/\li s.y/\li s.z
theorem oB.at{s:Q3}(h:oB s):∀k,li (s.at k)
 | 0=>h.1
 | 1=>h.2.1
 | _+2=>h.2.2
def ptS(s:Q3):Array Value:=#[.string (dU s.x),.string (dU s.y),.string (dU s.z)]
theorem index_pt(s:Q3)(k:Nat)(j:k<3)(w:World):(Instr.index 47 (.agg (ptS s)) (.int .i64 (k:Nat))).run prog w=.ok (.string (dU (s.at k))) w:=by
 have h0:∀w,(Instr.index 47 (.agg (ptS s)) (.int .i64 0)).run prog w=.ok (.string (dU s.x)) w:=fun _=>by kernel_rfl
 have e:∀w,(Instr.index 47 (.agg (ptS s)) (.int .i64 1)).run prog w=.ok (.string (dU s.y)) w:=fun _=>by kernel_rfl
 have i:∀w,(Instr.index 47 (.agg (ptS s)) (.int .i64 2)).run prog w=.ok (.string (dU s.z)) w:=fun _=>by kernel_rfl
 obtain rfl|rfl|rfl:k=0\/k=1\/k=2:=I
 ·exact h0 w
 ·exact e w
 ·exact i w
theorem vread_any(gr:Nat)(s:Q3)(w:World)(ap:∀args w,(callFunc gr args).run prog w=.ok (.enter gr args) w)(U:∀k w',Bl w w'->Calls prog gr #[.string ⟨(kS (s.at k)).toArray⟩] w' fun e X=>ko X e (s.at k)/\Bl w' X):
 Calls prog 98 #[.agg (ptS s),.func (.func gr) #[] #[]] w fun e w'=>qW w' e s/\Bl w w':=by
 obtain⟨W,hW,b1,b2,b3,hB,hS⟩:=cC w (ptS s) (ah RC.zero RC.zero RC.zero) (ah RC.zero RC.zero RC.zero) 47 57 57;obtain⟨af,HB,au,B1,B2,B3⟩:=η6 U hB hS b1 b2 b3;clear hB hS b1 b2 b3 U;rw[lS]at hW;unfold ptS at hW⊢
 go_enter func98,ntmps98
 go_wp2_with (refine aj rfl _ _ rfl w.heap.size 0 rfl (ptS s) _ (fun j hj=>B1.o.whole j hj) underlying47 rfl jb ?_)
 go_loopw [12] (fun kv wr=>∃k:Nat,k<=3/\kv=.int .i64 (k:Nat)/\Hid (mO wr (w.heap.size+2) k s.at 57)/\Hid (Box wr (w.heap.size+1) (ah RC.zero RC.zero RC.zero) 57)/\Hid (Bl w wr)) (fun kv _=>3-(intOf kv).toNat)
 case atStart=>exact⟨0,by omega,rfl,⟨_,_,_,B3.o,fun h=>absurd h I,fun h=>absurd h I,fun h=>absurd h I⟩,B2.o,HB.o⟩
 case round =>
  obtain⟨k,hk,rfl,HO,G,HR⟩:=hrel;obtain⟨Y,rfl⟩:=φ wr;by_cases h0:k=3
  ·have aw:¬ (k:Int)<3:=I
   have HD:=O (show mO Y (w.heap.size+2) 3 s.at 57 from h0▸HO.o);obtain⟨A,C,E,hb,h2,h3,h4⟩:=HD.o;obtain⟨aa,HQ⟩:=η2 hb (show am Y (.agg (ah A C E)) s from⟨A,C,E,rfl,h2 I,h3 I,h4 I⟩);clear h0 hb h2 h3 h4
   go_wp2_with (first|refine aj rfl _ _ rfl (w.heap.size+2) 0 rfl (ah A C E) _ (fun j hj=>aa.o.whole j hj) underlying57 rfl aZ ?_|refine wpList_store_row rfl 57 _ _ rfl (w.heap.size+1) (ah A C E) rfl rfl 57 _ G.o aZ rfl (bC A C E) ?_)
   rw[<-fh G.o A C E];exact bS results98 (w.heap.size+1) (G.o.s12 A C E) _ rfl underlying57 rfl aZ rfl ⟨⟨_,rfl,HQ.o.put12 G.o A C E⟩,aX HR.o I A C E⟩
  ·have av:(k:Int)<3:=I
   have H:k<3:=I;have F:=O H;have ao:=fun w=>index_pt s k H w
   obtain⟨T,hT⟩:=χ (dU (s.at k));have hc:=fun w' h=>af.o k w' h
   rw[show(⟨(kS (s.at k)).toArray⟩:ByteArray)=T from hT]at hc;rw[hT]at ao;have HC:=O hc;clear h0 hc hT
   go_wp2_with fail
   refine(HC.o Y HR.o).mono ?_;rintro e w3 ⟨⟨v,rfl,hv⟩,u⟩;obtain⟨ab,L,ac⟩:=η3 (HO.o.below u) (G.o.to u) (ae HR.o u ρ);obtain⟨r,rfl,hr⟩:=hv.rcv;have V3:=O hr;clear u hv hr HO G HR
   go_upto_region 6 with(refine aA rfl _ _ _ rfl _ (#[.bool r.s,.slice r.a r.n r.c,.bool r.t,.slice r.b r.m r.d]) rfl rfl bD rfl rfl ?_)
   obtain⟨w4,Q,b4,i,an⟩:=aB w3 #[.bool r.s,.slice r.a r.n r.c,.bool r.t,.slice r.b r.m r.d] 55;rw[Q];obtain⟨J,ag,ad,V4⟩:=η4 (ab.o.below i) (L.o.to i) (ae ac.o i ρ) (V3.o.below i);obtain⟨y0,y1,y2,y3,-⟩:=b4.four;obtain⟨r0,R⟩:=J.o.at4 H;have ar:=O R;obtain⟨⟨x0,x1,x2,x3⟩,x4,x5,x6,x7⟩:=R;clear Q i b4 an
   go_wp2_with fail
   clear x0 x1 x2 x3 x4 x5 x6 x7;go_round
   case rel =>
    change ∃k',k'<=3/\_/\Hid (mO (put4 w4 (w.heap.size+2) (k*4) r) _ _ _ _)/\_;exact⟨k+1,F.o,rfl,J.o.put F.o V4.o,ag.o.oput4 I _ _,bj ad.o I _ _⟩
   case measure=>exact μ (ψ F.o)
theorem o7(s:Q3)(w:World)(hV:jh w)(hs:oB s):
 Calls prog 53 #[.agg (ptS s)] w fun e w'=>qW w' e s/\Bl w w':=by
 obtain⟨W,J,b1,b2,G,hS⟩:=bU w (ptS s) (ah RC.zero RC.zero RC.zero) 47 57;obtain⟨X,U,R,H⟩:=η4 (vread_any 99 s W (enters_of func99 Z rfl) (fun k w' h=>rparse_any (s.at k) w' ((hV.below G).below h) (hs.at k))) G b1 b2;clear G hS b1 b2;rw[lS]at J;unfold ptS at J⊢
 go_enter func53,ntmps53
 go_wp2_with (refine aj rfl _ _ rfl w.heap.size 0 rfl (ptS s) _ (fun j hj=>R.o.whole j hj) underlying47 rfl jb ?_)
 refine X.o.mono ?_;rintro e w3 ⟨⟨v,rfl,Q⟩,i⟩;obtain⟨E,F⟩:=η2 (H.o.to i) (ae U.o i ρ);obtain⟨u,A,C,rfl,L⟩:=Q.rcv;have Y:=O L;clear i Q L
 go_wp2_with (refine wpList_store_row rfl 57 _ _ rfl (w.heap.size+1) (ah u A C) rfl rfl 57 _ E.o aZ rfl (bC u A C) ?_)
 rw[<-fh E.o u A C];exact bS results53 (w.heap.size+1) (E.o.s12 u A C) _ rfl underlying57 rfl aZ rfl ⟨⟨_,rfl,Y.o.put12 E.o u A C⟩,aX F.o I u A C⟩
def plc(q:Q4)(s:Q3):Array Value:=#[.int .i64 q.a,.int .i64 q.b,.int .i64 q.c,.int .i64 q.d,.string (dU s.x),.string (dU s.y),.string (dU s.z)]
theorem gcd_step(g a:Nat):Nat.gcd a (g % a)=Nat.gcd g a:=by rw[Nat.gcd_comm g a,Nat.gcd_rec a g,Nat.gcd_comm]
theorem tH{q:Q4}(h:∀i,(q.at i).natAbs<=12):∀k,(gsQ q k).1<=12/\(gsQ q k).2.natAbs<=12
 | 0=>by simp[gsQ]
 | k+1=>by
  have j:=tH h k;have e:=h k;refine⟨?_,?_⟩
  ·show Nat.gcd _ _<=12
   by_cases h0:(q.at k).natAbs=0
   ·rw[h0,Nat.gcd_zero_right];exact j.1
   ·exact Nat.le_trans (Nat.gcd_le_right _ I) e
  ·show(if(gsQ q k).2=0 then q.at k else(gsQ q k).2).natAbs<=12
   split
   ·exact e
   ·exact j.2
theorem Box.shift3{w:World}{g:Nat}{q:Q4}{s:Q3}{t:TypeId}(h:Box w g (plc q s) t)(j:Nat)(e:j<(ptS s).size):w.cell? ⟨g,4+j,none⟩=(ptS s)[j]? := by
 rw[h.cell];have i:j<3:=e;obtain rfl|rfl|rfl:j=0\/j=1\/j=2:=I
 all_goals rfl
theorem eqTurn(a b c d e f g h:Int)(w:World):(Op.equalIn 10000 44 (.agg #[.int .i64 a,.int .i64 b,.int .i64 c,.int .i64 d]) (.agg #[.int .i64 e,.int .i64 f,.int .i64 g,.int .i64 h])).run prog w=.ok (a == e&&b == f&&c == g&&d == h) w:=by
 have u3:=underlying3;have C:=isAgg3;have z3:=sizeOf3;rw[show(10000:Nat)=9999+1 from rfl,Op.equalIn];simp only[Sem.run_bind,run_underlying underlying44,Result.andThen_ok];simp only[Std.Legacy.Range.forIn_eq_forIn_range',Std.Legacy.Range.size,Nat.sub_zero,Nat.add_sub_cancel,Nat.div_one,List.range'_succ,List.range'_zero,List.forIn_cons,List.forIn_nil];go_simp;by_cases i:a=e<;>by_cases j:b=f<;>by_cases u:c=g<;>by_cases A:d=h<;>simp[i,j,u,A]
theorem index_q4(q:Q4)(k:Nat)(u:k<4)(w:World):(Instr.index 44 (.agg #[.int .i64 q.a,.int .i64 q.b,.int .i64 q.c,.int .i64 q.d]) (.int .i64 (k:Nat))).run prog w=.ok (.int .i64 (q.at k)) w:=by
 have h0:∀w,(Instr.index 44 (.agg #[.int .i64 q.a,.int .i64 q.b,.int .i64 q.c,.int .i64 q.d]) (.int .i64 0)).run prog w=.ok (.int .i64 q.a) w:=fun _=>by kernel_rfl
 have e:∀w,(Instr.index 44 (.agg #[.int .i64 q.a,.int .i64 q.b,.int .i64 q.c,.int .i64 q.d]) (.int .i64 1)).run prog w=.ok (.int .i64 q.b) w:=fun _=>by kernel_rfl
 have i:∀w,(Instr.index 44 (.agg #[.int .i64 q.a,.int .i64 q.b,.int .i64 q.c,.int .i64 q.d]) (.int .i64 2)).run prog w=.ok (.int .i64 q.c) w:=fun _=>by kernel_rfl
 have j:∀w,(Instr.index 44 (.agg #[.int .i64 q.a,.int .i64 q.b,.int .i64 q.c,.int .i64 q.d]) (.int .i64 3)).run prog w=.ok (.int .i64 q.d) w:=fun _=>by kernel_rfl
 obtain rfl|rfl|rfl|rfl:k=0\/k=1\/k=2\/k=3:=I
 ·exact h0 w
 ·exact e w
 ·exact i w
 ·exact j w
theorem mcheck_any(q:Q4)(s:Q3)(w:World)(hV:jh w)(R:∀i,(q.at i).natAbs<=12)(hs:oB s):
 Calls prog 52 #[.agg (plc q s)] w fun e w'=>e=.returned (.int .i64 (tS q:Nat))/\Bl w w':=by
 obtain⟨W,hW,b1,hB,hS⟩:=aB w (plc q s) 49;obtain⟨HB,B1,U,HQ⟩:=η4 hB b1 hS R;have aa:=tH R;obtain⟨an,HP⟩:=η2 aa (fun w' (h:Bl w w')=>o7 s w' (hV.below h) hs);obtain⟨x0,x1,x2,x3⟩:Γ4 W w.heap.size 0 (.int .i64 q.a) w.heap.size 1 (.int .i64 q.b) w.heap.size 2 (.int .i64 q.c) w.heap.size 3 (.int .i64 q.d):=⟨b1.cell 0,b1.cell 1,b1.cell 2,b1.cell 3⟩;have eT:=eqTurn;have ab:=fun k hk=>index_q4 q k hk
 have ao:=O ab;by_cases h0:q.a=0/\q.b=0/\q.c=0/\q.d=0
 ·rw[show tS q=19 from if_pos h0]
  obtain⟨y0,y1,y2,y3⟩:=h0;rw[y0]at x0;rw[y1]at x1;rw[y2]at x2;rw[y3]at x3;clear y0 y1 y2 y3 b1 hB hS R aa ab hV hs;unfold plc at hW⊢
  go_enter func52,ntmps52
  go_wp2;go_ret
  exact⟨rfl,HB.o⟩
 have a9:(q.a == 0&&q.b == 0&&q.c == 0&&q.d == 0)=false:=by
  rw[Bool.eq_false_iff];intro h;simp only[Bool.and_eq_true,beq_iff_eq]at h;exact h0 ⟨h.1.1.1,h.1.1.2,h.1.2,h.2⟩
 have aw:=O (show tS q=if(gsQ q 4).1≠1\/(gsQ q 4).2<0 then 3 else 0 from if_neg h0);clear b1 hB hS R aa ab hV hs h0;unfold plc at hW⊢
 go_enter func52,ntmps52
 go_wp2_with fail
 go_loopw [18] (fun iv wr=>∃k:Nat,k<=4/\iv=.int .i64 (k:Nat)/\wr=W) (fun iv _=>4-(intOf iv).toNat)
 case atStart=>exact⟨0,by omega,rfl,rfl⟩
 case round =>
  obtain⟨k,hk,rfl,rfl⟩:=hrel;obtain⟨w1,rfl⟩:=φ wr;by_cases h4:k=4
  ·have Q:¬ (k:Int)<4:=I
   clear h4
   go_wp2_with fail
   go_loopw [5,6,30] (fun gv sv iv wr=>∃k:Nat,k<=4/\gv=.int .i64 ((gsQ q k).1:Nat)/\sv=.int .i64 (gsQ q k).2/\iv=.int .i64 (k:Nat)/\Hid (Bl w1 wr)) (fun _ _ iv _=>4-(intOf iv).toNat)
   case atStart=>exact⟨0,by omega,rfl,rfl,rfl,Below.refl _ _⟩
   case round =>
    obtain⟨k,hk,rfl,rfl,rfl,HL⟩:=hrel;obtain⟨wk,rfl⟩:=φ wr;by_cases h4:k=4
    ·have Q:¬ (k:Int)<4:=I
     subst h4;have L:=an.o 4;obtain⟨H,C⟩:=χ ((gsQ q 4).1);obtain⟨s0,E⟩:=χ ((gsQ q 4).2);rw[C,E]at L⊢;have X:=aw.o;rw[C,E]at X;have HC:=O X;clear C E X;by_cases hg:H=1
     ·by_cases hs:s0<0
      ·have a4:tS q=3:=by rw[HC.o,if_pos (.inr hs)]
       subst hg
       go_wp2_with fail
       go_ret;exact⟨rfl,ae HB.o HL.o (ψ U.o)⟩
      ·have a3:tS q=0:=by rw[HC.o,if_neg (fun h=>h.elim (fun h=>h hg) hs)]
       subst hg;obtain⟨B2,ad⟩:=η2 (B1.o.to HL.o) (ae HB.o HL.o (ψ U.o));clear Q
       go_wp2_with (refine aj rfl _ _ rfl w.heap.size 4 rfl (ptS s) _ (fun j hj=>B2.o.shift3 j hj) underlying47 rfl jb ?_)
       refine(HP.o _ ad.o).mono ?_;rintro e w3 ⟨⟨v,rfl,hv⟩,ar⟩;obtain⟨o0,o1,o2,rfl,-⟩:=hv.rcv;have af:=O (ae ad.o ar ρ);clear ar hv
       go_wp2_with (refine aA rfl _ _ _ rfl _ (ah o0 o1 o2) rfl rfl aZ rfl (bC o0 o1 o2) ?_)
       go_ret;exact⟨by rw[a3];rfl,af.o.alloc af.o.size _⟩
     ·have a4:tS q=3:=by rw[HC.o,if_pos (.inl hg)]
      have a6:¬ (H:Int)=1:=I
      go_wp2_with fail
      go_ret;exact⟨rfl,ae HB.o HL.o (ψ U.o)⟩
    ·have Q:(k:Int)<4:=I
     have F:k<4:=I;have hx:=ao.o k F;have R:=HQ.o k;have L:=an.o k;have J:(gsQ q (k+1)).1=Nat.gcd (gsQ q k).1 (q.at k).natAbs:=rfl;have u:(gsQ q (k+1)).2=if(gsQ q k).2=0 then q.at k else(gsQ q k).2:=rfl
     obtain⟨n,hn⟩:=χ (q.at k);simp only[hn]at hx R J u;obtain⟨H,C⟩:=χ ((gsQ q k).1);obtain⟨s0,E⟩:=χ ((gsQ q k).2);rw[C]at J L⊢;rw[E]at u L⊢;obtain⟨ay,az⟩:=η2 J F;have au:max n (-n)=((n.natAbs:Nat):Int):=by rw[Int.max_def];split<;>omega
     have a0:=O au;obtain⟨s1,ac⟩:=χ ((gsQ q (k+1)).2);have a2:=O ac;rw[ac]at u;by_cases hz:s0=0<;>(
      first|rw[if_pos hz]at u|rw[if_neg hz]at u
      have a1:=O u;clear u C E ac J h4 au
      go_wp2_with fail
      go_loopw [5,9] (fun gv av wr=>∃G A:Nat,gv=.int .i64 (G:Nat)/\av=.int .i64 (A:Nat)/\Nat.gcd G A=Nat.gcd H n.natAbs/\Hid (Bl w1 wr)) (fun _ av _=>(intOf av).toNat)
      case atStart=>exact⟨H,n.natAbs,rfl,by rw[a0.o],rfl,HL.o⟩
      case round =>
       obtain⟨G,A,rfl,rfl,Y,ap⟩:=hrel;have ag:=O Y;by_cases hA:A=0
       ·subst hA
        clear Y
        go_wp2_with fail
        go_round
        case rel=>exact⟨k+1,az.o,by rw[ay.o,<-ag.o,Nat.gcd_zero_right],by rw[a2.o,a1.o],rfl,ap.o⟩
        case measure=>exact μ
       ·have a5:¬ (A:Int)=0:=I
        clear Y
        go_wp2_with fail
        go_quiet (fail)
        go_wp2
        go_roundw
        case rel=>exact⟨A,G % A,rfl,rfl,by rw[gcd_step,ag.o],aF ap.o _⟩
        case measure =>
         have h:=Nat.mod_lt G (show 0<A by omega);show(((G % A:Nat):Int)).toNat<((A:Nat):Int).toNat;omega)
  ·have Q:(k:Int)<4:=I
   have F:k<4:=I;have hx:=ao.o k F;have R:=HQ.o k;obtain⟨n,hn⟩:=χ (q.at k);simp only[hn]at hx R;have a7:¬ n < -12:=I;have a8:¬ 12<n:=I;clear h4
   go_wp2_with fail
   go_round
   case rel=>exact⟨k+1,F,rfl,trivial⟩
   case measure=>exact μ
end Go.Proofs.Υ
