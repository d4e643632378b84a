/- Package vector: Parse of the texts of halves. Package motion: Check. Package motion: Quarters. -/
import Derived.Test.YtaibkpbklfodiaaGreatDoorP42
import Derived.Test.YtaibkpbklfodiaaGreatDoorP35
import Derived.Test.YtaibkpbklfodiaaGreatDoorP43
import Derived.Test.YtaibkpbklfodiaaGreatDoorP36
import Derived.Laws.StructEq
set_option linter.all false
set_option maxHeartbeats 100000000
section
namespace Dowel
open Go Go.RowKit Go.Proofs.Υ
def fV (x:Rat):ByteArray:=⟨(jX x).toArray⟩
def lT (s:Q3):Prop:=jA s.x∧jA s.y∧jA s.z
theorem lT.at {s:Q3} (h:lT s):∀ k,jA (s.at k)
 | 0=>h.1
 | 1=>h.2.1
 | _+2=>h.2.2
def ptS (s:Q3):Array Value:=#[.string (fV s.x),.string (fV s.y),.string (fV s.z)]
end Dowel
namespace Go.Proofs.Υ
open Go.RowKit Dowel
set_option maxRecDepth 20000
theorem index_pt (s:Q3) (k:Nat) (hk:k<3) (w:World):(Instr.index 107 (.agg (ptS s)) (.int .i64 (k:Nat))).run Tryz.prog w=.ok (.string (fV (s.at k))) w:=by
 have h0:∀ w,(Instr.index 107 (.agg (ptS s)) (.int .i64 0)).run Tryz.prog w=.ok (.string (fV s.x)) w:=fun _=>by kernel_rfl
 have h1:∀ w,(Instr.index 107 (.agg (ptS s)) (.int .i64 1)).run Tryz.prog w=.ok (.string (fV s.y)) w:=fun _=>by kernel_rfl
 have h2:∀ w,(Instr.index 107 (.agg (ptS s)) (.int .i64 2)).run Tryz.prog w=.ok (.string (fV s.z)) w:=fun _=>by kernel_rfl
 obtain rfl | rfl | rfl:k=0∨k=1∨k=2:=ω
 ·exact h0 w
 ·exact h1 w
 ·exact h2 w
theorem vread_any (s:Q3) (w:World) (hV:ic w) (hs:lT s) :
  Calls Tryz.prog 163 #[.agg (ptS s),.func (.func 164) #[] #[]] w fun e w'=>nM w' e s∧Below w.heap.size w w':=by
 obtain ⟨W,hW,b1,b2,b3,hB,hS⟩:=cW w (ptS s) (ah RC.zero RC.zero RC.zero) (ah RC.zero RC.zero RC.zero) 107 58 58;have hrp:=fun k w' (h:Below w.heap.size w w')=>rparse_any (s.at k) w' (hV.below h) (hs.at k)
 have HRP:=η hrp;have HB:=η hB;have HSZ:=η hS;have B1:=η b1;have B2:=η b2;have B3:=η b3;have e164:∀ args w,(callFunc 164 args).run Tryz.prog w=.ok (.enter 164 args) w:=enters_of Tryz.func164 κ rfl;clear hB hS b1 b2 b3 hrp;rw [ol] at hW;unfold ptS at hW ⊢
 go_enter Tryz.func163,Tryz.ntmps163
 go_wp2_with (refine aq rfl _ _ rfl w.heap.size 0 rfl (ptS s) _ (fun j hj=>B1.out.whole j hj) Tryz.underlying107 rfl g9 ?_)
 go_loopw [12] (fun kv wr=>∃ k:Nat,k≤3∧kv=.int .i64 (k:Nat)∧Hid (kE wr (w.heap.size+2) k s.at 58)∧Hid (Box wr (w.heap.size+1) (ah RC.zero RC.zero RC.zero) 58)∧Hid (Below w.heap.size w wr)) (fun kv _=>3 - (intOf kv).toNat)
 case atStart=>exact ⟨0,by omega,rfl,⟨_,_,_,B3.out,fun h=>absurd h ω,fun h=>absurd h ω,fun h=>absurd h ω⟩,B2.out,HB.out⟩
 case round =>
  obtain ⟨k,hk,rfl,HO,HZ,HR⟩:=hrel;obtain ⟨wk,rfl⟩:∃ wk,wk=wr:=⟨_,rfl⟩;by_cases h0:k=3
  ·have hnl:¬ (k:Int)<3:=ω
   have HD:=η (show kE wk (w.heap.size+2) 3 s.at 58 from h0 ▸ HO.out);obtain ⟨o0,o1,o2,hb,h2,h3,h4⟩:=HD.out;have HBO:=η hb;have HQ:=η (show aA wk (.agg (ah o0 o1 o2)) s from ⟨o0,o1,o2,rfl,h2 ω,h3 ω,h4 ω⟩);clear h0 hb h2 h3 h4
   go_wp2_with (first | refine aq rfl _ _ rfl (w.heap.size+2) 0 rfl (ah o0 o1 o2) _ (fun j hj=>HBO.out.whole j hj) Tryz.underlying58 rfl aK ?_ | refine wpList_store_row rfl 58 _ _ rfl (w.heap.size+1) (ah o0 o1 o2) rfl rfl 58 _ HZ.out aK rfl (bU o0 o1 o2) ?_)
   rw [← jh HZ.out o0 o1 o2];exact bP Tryz.results163 (w.heap.size+1) (HZ.out.s12 o0 o1 o2) _ rfl Tryz.underlying58 rfl aK rfl ⟨⟨_,rfl,HQ.out.put12 HZ.out o0 o1 o2⟩,bw HR.out ω o0 o1 o2⟩
  ·have hlt:(k:Int)<3:=ω
   have hk3:k<3:=ω;have HK3:=η hk3;have hix:=fun w=>index_pt s k hk3 w
   obtain ⟨T,hT⟩:∃ T,fV (s.at k)=T:=⟨_,rfl⟩;have hc:=fun w' h=>HRP.out k w' h
   rw [show (⟨(jX (s.at k)).toArray⟩:ByteArray)=T from hT] at hc;rw [hT] at hix;have HC:=η hc;clear h0 hc hT
   go_wp2_with fail
   refine (HC.out wk HR.out).mono ?_;rintro e w3 ⟨⟨v,rfl,hv⟩,hb3⟩;have HO3:=η (HO.out.below hb3);have HZ3:=η (HZ.out.below hb3 HZ.out.lt);have HR3:=η (ae HR.out hb3 ρ);obtain ⟨r,rfl,hr⟩:=hv.rcv;have V3:=η hr;clear hb3 hv hr HO HZ HR
   go_upto_region 6 with (refine aB rfl _ _ _ rfl _ (#[.bool r.s,.slice r.a r.n r.c,.bool r.t,.slice r.b r.m r.d]) rfl rfl bL rfl rfl ?_)
   obtain ⟨w4,hW4,b4,hB4,hS4⟩:=aG w3 #[.bool r.s,.slice r.a r.n r.c,.bool r.t,.slice r.b r.m r.d] 56;rw [hW4];have HO4:=η (HO3.out.below hB4);have HZ4:=η (HZ3.out.below hB4 HZ3.out.lt);have HR4:=η (ae HR3.out hB4 ρ);have V4:=η (V3.out.below hB4);obtain ⟨y0,y1,y2,y3,-⟩:=b4.four;obtain ⟨r0,hat⟩:=HO4.out.at4 hk3;have HAT:=η hat;obtain ⟨⟨x0,x1,x2,x3⟩,x4,x5,x6,x7⟩:=hat;clear hW4 hB4 b4 hS4
   go_wp2_with fail
   clear x0 x1 x2 x3 x4 x5 x6 x7;go_round
   case rel =>
    change ∃ k',k'≤3∧_∧Hid (kE (put4 w4 (w.heap.size+2) (k*4) r) _ _ _ _)∧_;exact ⟨k+1,HK3.out,rfl,HO4.out.put HK3.out V4.out,HZ4.out.oput4 ω _ _,aX HR4.out ω _ _⟩
   case measure=>show 3 - ((k:Int)+1).toNat<3 - (k:Int).toNat;have:=HK3.out;omega
theorem mq (s:Q3) (w:World) (hV:ic w) (hs:lT s) :
  Calls Tryz.prog 132 #[.agg (ptS s)] w fun e w'=>nM w' e s∧Below w.heap.size w w':=by
 obtain ⟨W,hW,b1,b2,hB,hS⟩:=da w (ptS s) (ah RC.zero RC.zero RC.zero) 107 58;have HC:=η (vread_any s W (hV.below hB) hs);have HB:=η hB;have B1:=η b1;have B2:=η b2;clear hB hS b1 b2;rw [ol] at hW;unfold ptS at hW ⊢
 go_enter Tryz.func132,Tryz.ntmps132
 go_wp2_with (refine aq rfl _ _ rfl w.heap.size 0 rfl (ptS s) _ (fun j hj=>B1.out.whole j hj) Tryz.underlying107 rfl g9 ?_)
 refine HC.out.mono ?_;rintro e w3 ⟨⟨v,rfl,hv⟩,hb3⟩;have HZ:=η (B2.out.below hb3 B2.out.lt);have HB3:=η (ae HB.out hb3 ρ);obtain ⟨o0,o1,o2,rfl,hq⟩:=hv.rcv;have HQ:=η hq;clear hb3 hv hq
 go_wp2_with (refine wpList_store_row rfl 58 _ _ rfl (w.heap.size+1) (ah o0 o1 o2) rfl rfl 58 _ HZ.out aK rfl (bU o0 o1 o2) ?_)
 rw [← jh HZ.out o0 o1 o2];exact bP Tryz.results132 (w.heap.size+1) (HZ.out.s12 o0 o1 o2) _ rfl Tryz.underlying58 rfl aK rfl ⟨⟨_,rfl,HQ.out.put12 HZ.out o0 o1 o2⟩,bw HB3.out ω o0 o1 o2⟩
end Go.Proofs.Υ
end

section
namespace Dowel
open Go Go.RowKit
def plc (q:Q4) (s:Q3):Array Value:=#[.int .i64 q.a,.int .i64 q.b,.int .i64 q.c,.int .i64 q.d,.string (fV s.x),.string (fV s.y),.string (fV s.z)]
theorem gcd_step (g a:Nat):Nat.gcd a (g % a)=Nat.gcd g a:=by rw [Nat.gcd_comm g a,Nat.gcd_rec a g,Nat.gcd_comm]
theorem gsQ_le {q:Q4} (h:∀ i,(q.at i).natAbs≤3):∀ k,(gsQ q k).1≤3∧(gsQ q k).2.natAbs≤3
 | 0=>by simp [gsQ]
 | k+1=>by
  have ih:=gsQ_le h k;have hk:=h k;refine ⟨?_,?_⟩
  ·show Nat.gcd _ _≤3
   by_cases h0:(q.at k).natAbs=0
   ·rw [h0,Nat.gcd_zero_right];exact ih.1
   ·exact Nat.le_trans (Nat.gcd_le_right _ ω) hk
  ·show (if (gsQ q k).2=0 then q.at k else (gsQ q k).2).natAbs≤3
   split
   ·exact hk
   ·exact ih.2
theorem Box.shift3 {w:World} {g:Nat} {q:Q4} {s:Q3} {t:TypeId} (h:Box w g (plc q s) t) (j:Nat) (hj:j<(ptS s).size):w.cell? ⟨g,4+j,none⟩=(ptS s)[j]? := by
 rw [h.cell];have h3:j<3:=hj;obtain rfl | rfl | rfl:j=0∨j=1∨j=2:=ω
 all_goals rfl
end Dowel
namespace Go.Proofs.Υ
open Go.RowKit Dowel
set_option maxRecDepth 20000
theorem eqTurn (a b c d e f g h:Int) (w:World):(Op.equalIn 10000 151 (.agg #[.int .i64 a,.int .i64 b,.int .i64 c,.int .i64 d]) (.agg #[.int .i64 e,.int .i64 f,.int .i64 g,.int .i64 h])).run Tryz.prog w=.ok (a == e && b == f && c == g && d == h) w:=by
 have u3:=Tryz.underlying3;have a3:=Tryz.isAgg3;have z3:=Tryz.sizeOf3;rw [show (10000:Nat)=9999+1 from rfl,Op.equalIn];simp only [Sem.run_bind,run_underlying Tryz.underlying151,Result.andThen_ok];simp only [Std.Legacy.Range.forIn_eq_forIn_range',Std.Legacy.Range.size,Nat.sub_zero,Nat.add_sub_cancel,Nat.div_one,List.range'_succ,List.range'_zero,List.forIn_cons,List.forIn_nil];go_simp;by_cases h1:a=e <;> by_cases h2:b=f <;> by_cases h3:c=g <;> by_cases h4:d=h <;> simp [h1,h2,h3,h4]
theorem index_q4 (q:Q4) (k:Nat) (hk:k<4) (w:World):(Instr.index 151 (.agg #[.int .i64 q.a,.int .i64 q.b,.int .i64 q.c,.int .i64 q.d]) (.int .i64 (k:Nat))).run Tryz.prog w=.ok (.int .i64 (q.at k)) w:=by
 have h0:∀ w,(Instr.index 151 (.agg #[.int .i64 q.a,.int .i64 q.b,.int .i64 q.c,.int .i64 q.d]) (.int .i64 0)).run Tryz.prog w=.ok (.int .i64 q.a) w:=fun _=>by kernel_rfl
 have h1:∀ w,(Instr.index 151 (.agg #[.int .i64 q.a,.int .i64 q.b,.int .i64 q.c,.int .i64 q.d]) (.int .i64 1)).run Tryz.prog w=.ok (.int .i64 q.b) w:=fun _=>by kernel_rfl
 have h2:∀ w,(Instr.index 151 (.agg #[.int .i64 q.a,.int .i64 q.b,.int .i64 q.c,.int .i64 q.d]) (.int .i64 2)).run Tryz.prog w=.ok (.int .i64 q.c) w:=fun _=>by kernel_rfl
 have h3:∀ w,(Instr.index 151 (.agg #[.int .i64 q.a,.int .i64 q.b,.int .i64 q.c,.int .i64 q.d]) (.int .i64 3)).run Tryz.prog w=.ok (.int .i64 q.d) w:=fun _=>by kernel_rfl
 obtain rfl | rfl | rfl | rfl:k=0∨k=1∨k=2∨k=3:=ω
 ·exact h0 w
 ·exact h1 w
 ·exact h2 w
 ·exact h3 w
theorem mX (q:Q4) (s:Q3) (w:World) (hV:ic w) (hq:∀ i,(q.at i).natAbs≤3) (hs:lT s) :
  Calls Tryz.prog 131 #[.agg (plc q s)] w fun e w'=>e=.returned (.int .i64 (nF q:Nat))∧Below w.heap.size w w':=by
 obtain ⟨W,hW,b1,hB,hS⟩:=aG w (plc q s) 153;have HB:=η hB;have B1:=η b1;have HSZ:=η hS;have HQ:=η hq;have hgs:=gsQ_le hq;have HGS:=η hgs;have HP:=η (fun w' (h:Below w.heap.size w w')=>mq s w' (hV.below h) hs);obtain ⟨x0,x1,x2,x3⟩:W.cell? ⟨w.heap.size,0,none⟩=some (.int .i64 q.a)∧W.cell? ⟨w.heap.size,1,none⟩=some (.int .i64 q.b)∧W.cell? ⟨w.heap.size,2,none⟩=some (.int .i64 q.c)∧W.cell? ⟨w.heap.size,3,none⟩=some (.int .i64 q.d):=⟨b1.cell 0,b1.cell 1,b1.cell 2,b1.cell 3⟩;have eT:=eqTurn;have hix:=fun k hk=>index_q4 q k hk
 have HIX:=η hix;by_cases h0:q.a=0∧q.b=0∧q.c=0∧q.d=0
 ·rw [show nF q=19 from if_pos h0]
  obtain ⟨y0,y1,y2,y3⟩:=h0;rw [y0] at x0;rw [y1] at x1;rw [y2] at x2;rw [y3] at x3;clear y0 y1 y2 y3 b1 hB hS hq hgs hix hV hs;unfold plc at hW ⊢
  go_enter Tryz.func131,Tryz.ntmps131
  go_wp2;go_ret
  exact ⟨rfl,HB.out⟩
 have hne:(q.a == 0 && q.b == 0 && q.c == 0 && q.d == 0)=false:=by
  rw [Bool.eq_false_iff];intro h;simp only [Bool.and_eq_true,beq_iff_eq] at h;exact h0 ⟨h.1.1.1,h.1.1.2,h.1.2,h.2⟩
 have HCK:=η (show nF q=if (gsQ q 4).1≠1∨(gsQ q 4).2<0 then 3 else 0 from if_neg h0);clear b1 hB hS hq hgs hix hV hs h0;unfold plc at hW ⊢
 go_enter Tryz.func131,Tryz.ntmps131
 go_wp2_with fail
 go_loopw [18] (fun iv wr=>∃ k:Nat,k≤4∧iv=.int .i64 (k:Nat)∧wr=W) (fun iv _=>4 - (intOf iv).toNat)
 case atStart=>exact ⟨0,by omega,rfl,rfl⟩
 case round =>
  obtain ⟨k,hk,rfl,rfl⟩:=hrel;obtain ⟨w1,rfl⟩:∃ w1,w1=wr:=⟨_,rfl⟩;by_cases h4:k=4
  ·have hlt:¬ (k:Int)<4:=ω
   clear h4
   go_wp2_with fail
   go_loopw [5,6,30] (fun gv sv iv wr=>∃ k:Nat,k≤4∧gv=.int .i64 ((gsQ q k).1:Nat)∧sv=.int .i64 (gsQ q k).2∧iv=.int .i64 (k:Nat)∧Hid (Below w1.heap.size w1 wr)) (fun _ _ iv _=>4 - (intOf iv).toNat)
   case atStart=>exact ⟨0,by omega,rfl,rfl,rfl,Below.refl _ _⟩
   case round =>
    obtain ⟨k,hk,rfl,rfl,rfl,HL⟩:=hrel;obtain ⟨wk,rfl⟩:∃ wk,wk=wr:=⟨_,rfl⟩;by_cases h4:k=4
    ·have hlt:¬ (k:Int)<4:=ω
     subst h4;have hgk:=HGS.out 4;obtain ⟨g0,hg0⟩:∃ g0,(gsQ q 4).1=g0:=⟨_,rfl⟩;obtain ⟨s0,hs0⟩:∃ s0,(gsQ q 4).2=s0:=⟨_,rfl⟩;rw [hg0,hs0] at hgk ⊢;have hck:=HCK.out;rw [hg0,hs0] at hck;have HC:=η hck;clear hg0 hs0 hck;by_cases hg:g0=1
     ·by_cases hs:s0<0
      ·have hc3:nF q=3:=by rw [HC.out,if_pos (.inr hs)]
       subst hg
       go_wp2_with fail
       go_ret;exact ⟨rfl,ae HB.out HL.out (ψ HSZ.out)⟩
      ·have hc0:nF q=0:=by rw [HC.out,if_neg (fun h=>h.elim (fun h=>h hg) hs)]
       subst hg;have B2:=η (B1.out.below HL.out B1.out.lt);have HB2:=η (ae HB.out HL.out (ψ HSZ.out));clear hlt
       go_wp2_with (refine aq rfl _ _ rfl w.heap.size 4 rfl (ptS s) _ (fun j hj=>B2.out.shift3 j hj) Tryz.underlying107 rfl g9 ?_)
       refine (HP.out _ HB2.out).mono ?_;rintro e w3 ⟨⟨v,rfl,hv⟩,hb3⟩;obtain ⟨o0,o1,o2,rfl,-⟩:=hv.rcv;have HB3:=η (ae HB2.out hb3 ρ);clear hb3 hv
       go_wp2_with (refine aB rfl _ _ _ rfl _ (ah o0 o1 o2) rfl rfl aK rfl (bU o0 o1 o2) ?_)
       go_ret;exact ⟨by rw [hc0];rfl,HB3.out.alloc HB3.out.size _⟩
     ·have hc3:nF q=3:=by rw [HC.out,if_pos (.inl hg)]
      have hg2:¬ (g0:Int)=1:=ω
      go_wp2_with fail
      go_ret;exact ⟨rfl,ae HB.out HL.out (ψ HSZ.out)⟩
    ·have hlt:(k:Int)<4:=ω
     have hk4:k<4:=ω;have hx:=HIX.out k hk4;have hq:=HQ.out k;have hgk:=HGS.out k;have hg1:(gsQ q (k+1)).1=Nat.gcd (gsQ q k).1 (q.at k).natAbs:=rfl;have hs1:(gsQ q (k+1)).2=if (gsQ q k).2=0 then q.at k else (gsQ q k).2:=rfl
     obtain ⟨n,hn⟩:∃ n,q.at k=n:=⟨_,rfl⟩;simp only [hn] at hx hq hg1 hs1;obtain ⟨g0,hg0⟩:∃ g0,(gsQ q k).1=g0:=⟨_,rfl⟩;obtain ⟨s0,hs0⟩:∃ s0,(gsQ q k).2=s0:=⟨_,rfl⟩;rw [hg0] at hg1 hgk ⊢;rw [hs0] at hs1 hgk ⊢;have HG1:=η hg1;have HKK:=η hk4;have hmx:max n (-n)=((n.natAbs:Nat):Int):=by rw [Int.max_def];split <;> omega
     have HMX:=η hmx;obtain ⟨s1,hs2⟩:∃ s1,(gsQ q (k+1)).2=s1:=⟨_,rfl⟩;have HS2:=η hs2;rw [hs2] at hs1;by_cases hz:s0=0 <;> (
      first | rw [if_pos hz] at hs1 | rw [if_neg hz] at hs1
      have HS1:=η hs1;clear hs1 hg0 hs0 hs2 hg1 h4 hmx
      go_wp2_with fail
      go_loopw [5,9] (fun gv av wr=>∃ G A:Nat,gv=.int .i64 (G:Nat)∧av=.int .i64 (A:Nat)∧Nat.gcd G A=Nat.gcd g0 n.natAbs∧Hid (Below w1.heap.size w1 wr)) (fun _ av _=>(intOf av).toNat)
      case atStart=>exact ⟨g0,n.natAbs,rfl,by rw [HMX.out],rfl,HL.out⟩
      case round =>
       obtain ⟨G,A,rfl,rfl,hgA,HL2⟩:=hrel;have HGA:=η hgA;by_cases hA:A=0
       ·subst hA
        clear hgA
        go_wp2_with fail
        go_round
        case rel=>exact ⟨k+1,HKK.out,by rw [HG1.out,← HGA.out,Nat.gcd_zero_right],by rw [HS2.out,HS1.out],rfl,HL2.out⟩
        case measure=>show 4 - ((k:Int)+1).toNat<4 - (k:Int).toNat;omega
       ·have hA1:¬ (A:Int)=0:=ω
        clear hgA
        go_wp2_with fail
        go_quiet (fail)
        go_wp2
        go_roundw
        case rel=>exact ⟨A,G % A,rfl,rfl,by rw [gcd_step,HGA.out],aJ HL2.out _⟩
        case measure =>
         have h:=Nat.mod_lt G (show 0<A by omega);show (((G % A:Nat):Int)).toNat<((A:Nat):Int).toNat;omega)
  ·have hlt:(k:Int)<4:=ω
   have hk4:k<4:=ω;have hx:=HIX.out k hk4;have hq:=HQ.out k;obtain ⟨n,hn⟩:∃ n,q.at k=n:=⟨_,rfl⟩;simp only [hn] at hx hq;have hn1:¬ n < -12:=ω;have hn2:¬ 12<n:=ω;clear h4
   go_wp2_with fail
   go_round
   case rel=>exact ⟨k+1,hk4,rfl,trivial⟩
   case measure=>show 4 - ((k:Int)+1).toNat<4 - (k:Int).toNat;omega
end Go.Proofs.Υ
end

section
namespace Dowel
open Go Go.RowKit Go.Proofs.Υ
def q4c (q:Q4):List Value:=[.int .i64 q.a,.int .i64 q.b,.int .i64 q.c,.int .i64 q.d]
def lZ (w:World) (base:Nat) (v:Value) (l:List Q4):Prop:=w.ownsRow base 151 4 v l.length (l.flatMap q4c)
theorem q4c_one (q:Q4):∀ u ∈ q4c q,u.oneCell'=true:=fun u hu=>by
 simp only [q4c,List.mem_cons,List.not_mem_nil,or_false] at hu
 rcases hu with rfl | rfl | rfl | rfl <;> rfl
theorem src_q4 (w:World) (q:Q4) (t:TypeId):iA (w.alloc (.cells #[.int .i64 q.a,.int .i64 q.b,.int .i64 q.c,.int .i64 q.d] t)) 4 (some ⟨w.heap.size,0,none⟩) 1 (q4c q):=
 ⟨rfl,.inr ⟨_,rfl,fun j u hu=>by rw [lk,Nat.zero_add,(Box.new w _ t _ rfl).cell,List.getElem?_toArray];exact hu⟩⟩
def zero3q:Q3:=⟨0,0,0⟩
theorem half_zero:lT zero3q:=⟨⟨.inl rfl,by decide⟩,⟨.inl rfl,by decide⟩,⟨.inl rfl,by decide⟩⟩
theorem quatN_le (n:Nat) (hn:n<81) (i:Nat):((iQ n).at i).natAbs≤3:=by
 match i with
 | 0=>simp only [iQ,Q4.at];omega
 | 1=>simp only [iQ,Q4.at];omega
 | 2=>simp only [iQ,Q4.at];omega
 | _+3=>simp only [iQ,Q4.at];omega
def sqs (q:Q4):Nat→Int
 | 0=>0
 | k+1=>sqs q k+q.at k*q.at k
theorem sqs_le {q:Q4} (h:∀ i,(q.at i).natAbs≤3):∀ k,0≤sqs q k∧sqs q k≤9*k
 | 0=>by simp [sqs]
 | k+1=>by
  have h1:=sqs_le h k;have h2:=sq_le (h k) (h k);have h3:0≤q.at k*q.at k:=by
   rcases Int.le_total 0 (q.at k) with h | h
   ·exact Int.mul_nonneg h h
   ·exact Int.mul_nonneg_of_nonpos_of_nonpos h h
  simp only [sqs];omega
theorem sqs_four (q:Q4):sqs q 4=q.sq:=by simp only [sqs,Q4.at,Q4.sq];omega
theorem oA:∀ n,(fI n).length≤n
 | 0=>Nat.le_refl _
 | n+1=>by
  have:=oA n;rw [gJ]
  split <;> simp <;> omega
end Dowel
namespace Go.Proofs.Υ
open Go.RowKit Dowel
set_option maxRecDepth 20000
theorem info4:(Tryz.prog.info? 151).map (fun i=>(i.zero,i.size,i.bytes))=some (some (.agg #[.int .i64 0,.int .i64 0,.int .i64 0,.int .i64 0]),4,32):=by kernel_rfl
theorem info4s:(Tryz.prog.info? 151).map (·.size)=some 4:=by kernel_rfl
theorem pE (w:World) (hV:ic w) :
  Calls Tryz.prog 85 #[] w fun e w'=>(∃ v,e=.returned v∧lZ w' w.heap.size v (fI 81))∧Below w.heap.size w w':=by
 obtain ⟨i0,hinf,hz0,hz1,hz2⟩:=info_parts info4;have HV:=η hV;clear hV
 go_enter Tryz.func85,Tryz.ntmps85
 go_wp2_with fail
 go_loopw [1,7] (fun ov nv wr=>∃ n:Nat,n≤81∧nv=.int .i64 (n:Nat)∧Hid (lZ wr w.heap.size ov (fI n))∧Hid (Below w.heap.size w wr)) (fun _ nv _=>81 - (intOf nv).toNat)
 case atStart=>exact ⟨0,by omega,rfl,World.ownsRow_nil _ _ _ _,Below.refl _ _⟩
 case round =>
  obtain ⟨n,hn,rfl,HO,HB⟩:=hrel;obtain ⟨wk,rfl⟩:∃ wk,wk=wr:=⟨_,rfl⟩;by_cases h0:n=81
  ·have hlt:¬ (n:Int)<81:=ω
   subst h0
   go_wp2_with fail
   go_ret;exact ⟨⟨_,rfl,HO.out⟩,HB.out⟩
  ·have hlt:(n:Int)<81:=ω
   have hn81:n<81:=ω;have HN:=η hn81
   go_upto_region 6 with (refine aB rfl _ _ _ rfl _ (#[.int .i64 ((n:Int) / 27 - 1),.int .i64 ((n:Int) / 9 % 3 - 1),.int .i64 ((n:Int) / 3 % 3 - 1),.int .i64 ((n:Int) % 3 - 1)]) rfl rfl info4s rfl rfl ?_)
   obtain ⟨qa,hqa⟩:∃ x,(n:Int) / 27 - 1=x:=⟨_,rfl⟩;obtain ⟨qb,hqb⟩:∃ x,(n:Int) / 9 % 3 - 1=x:=⟨_,rfl⟩;obtain ⟨qc,hqc⟩:∃ x,(n:Int) / 3 % 3 - 1=x:=⟨_,rfl⟩;obtain ⟨qd,hqd⟩:∃ x,(n:Int) % 3 - 1=x:=⟨_,rfl⟩;have hQ:iQ n=⟨qa,qb,qc,qd⟩:=by unfold iQ;rw [hqa,hqb,hqc,hqd]
   rw [hqa,hqb,hqc,hqd];have hq3:=quatN_le n hn81;rw [hQ] at hq3;have HQ3:=η hq3;have HQ:=η hQ;have HSQ:=η (sqs_le hq3);have HIX:=η (fun k hk=>index_q4 ⟨qa,qb,qc,qd⟩ k hk);obtain ⟨w4,hw4,b4,hb4,hs4⟩:=aG wk #[.int .i64 qa,.int .i64 qb,.int .i64 qc,.int .i64 qd] 151;rw [hw4];have B4:=η b4;have HB4:=η (ae HB.out hb4 ρ);have HO4:=η (show lZ w4 w.heap.size _ _ from aF HO.out hb4);have HV4:=η ((HV.out.below HB.out).below hb4);obtain ⟨x0,x1,x2,x3,-⟩:=b4.four;clear hw4 b4 hb4 hs4 hqa hqb hqc hqd hQ hq3 h0
   go_wp2_with fail
   go_loopw [4,26] (fun sv iv wr=>∃ k:Nat,k≤4∧sv=.int .i64 (sqs ⟨qa,qb,qc,qd⟩ k)∧iv=.int .i64 (k:Nat)∧wr=w4) (fun _ iv _=>4 - (intOf iv).toNat)
   case atStart=>exact ⟨0,by omega,rfl,rfl,rfl⟩
   case round =>
    obtain ⟨k,hk,rfl,rfl,rfl⟩:=hrel;by_cases h4:k=4
    ·have hlt4:¬ (k:Int)<4:=ω
     subst h4;rw [sqs_four];obtain ⟨sq,hsq⟩:∃ sq,(⟨qa,qb,qc,qd⟩:Q4).sq=sq:=⟨_,rfl⟩;rw [hsq];have HSQ2:=η hsq;clear hsq;by_cases h3:sq=3
     ·have hg:jx n=false:=by unfold jx;rw [HQ.out,HSQ2.out,h3];rfl
      go_wp2_with fail
      go_round
      case rel=>exact ⟨n+1,HN.out,rfl,show lZ _ _ _ _ from by rw [gJ,if_neg (by rw [hg];decide)];exact HO4.out,HB4.out⟩
      case measure=>show 81 - ((n:Int)+1).toNat<81 - (n:Int).toNat;have:=HN.out;omega
     ·have HG:Hid (jx n=decide (nF ⟨qa,qb,qc,qd⟩=0)):=by
       show jx n=_;unfold jx;rw [HQ.out,HSQ2.out,show (sq != 3)=true from by simpa using h3,Bool.true_and];rfl
      have HW:Hid (wr.heap.size=wr.heap.size):=rfl
      go_wp2_with fail
      refine (mX ⟨qa,qb,qc,qd⟩ zero3q wr HV4.out HQ3.out half_zero).mono ?_;rintro e w5 ⟨rfl,hb5⟩;have B5:=η (B4.out.below hb5 B4.out.lt);have HB5:=η (ae HB4.out hb5 (ψ HB4.out.size));have HO5:=η (show lZ w5 w.heap.size _ _ from aF HO4.out hb5);obtain ⟨x0,x1,x2,x3,-⟩:=B5.out.four;obtain ⟨ck,hck⟩:∃ ck,nF ⟨qa,qb,qc,qd⟩=ck:=⟨_,rfl⟩;rw [hck];have HG2:=η (show jx n=decide (ck=0) from by rw [← hck];exact HG.out);clear hb5 hck;by_cases hc:ck=0
      ·subst hc
       have HL:=η (oA n)
       go_wp2_with (at_builtin;refine bR _ rfl _ _ 149 rfl w.heap.size 151 i0 (.agg #[.int .i64 0,.int .i64 0,.int .i64 0,.int .i64 0]) 4 32 Tryz.underlying149 hinf hz0 hz1 hz2 rfl ν _ _ _ rfl (World.ownsRow.alloc HO5.out _) (some ⟨w5.heap.size,0,none⟩) 1 1 (q4c ⟨qa,qb,qc,qd⟩) rfl (src_q4 w5 ⟨qa,qb,qc,qd⟩ _) (q4c_one _) (by have:=HL.out;have:=HN.out;unfold maxLen;omega) (by have:=HL.out;have:=HN.out;omega) (by have:=HB5.out.size;simp;omega) ?_)
       intro v' w6 hown hgrow;have HB6:=η (show Below w.heap.size w w6 from (HB5.out.alloc HB5.out.size _).grown hgrow (by have:=HB5.out.size;simp;omega) (fun g e=>cJ HO5.out g e));have HO6:=η (show lZ w6 w.heap.size v' (fI (n+1)) from by
        rw [gJ,if_pos (by rw [HG2.out];rfl),HQ.out];unfold lZ;rw [List.length_append,List.flatMap_append]
        simpa using hown)
       clear hown hgrow;go_wp2;go_round
       case rel=>exact ⟨n+1,HN.out,rfl,HO6.out,HB6.out⟩
       case measure=>show 81 - ((n:Int)+1).toNat<81 - (n:Int).toNat;have:=HN.out;omega
      ·have hc2:((ck:Int) == 0)=false:=by rw [beq_eq_false_iff_ne];omega
       have hg:jx n=false:=by rw [HG2.out];exact decide_eq_false hc
       have HGF:=η hg;clear hg hc
       go_wp2_with fail
       go_round
       case rel=>exact ⟨n+1,HN.out,rfl,show lZ _ _ _ _ from by rw [gJ,if_neg (by rw [HGF.out];decide)];exact HO5.out,HB5.out⟩
       case measure=>show 81 - ((n:Int)+1).toNat<81 - (n:Int).toNat;have:=HN.out;omega
    ·have hlt4:(k:Int)<4:=ω
     have hk4:k<4:=ω;have hx:=HIX.out k hk4;have hp:=sq_le (HQ3.out k) (HQ3.out k);have hsk:=HSQ.out k;have hs1:sqs ⟨qa,qb,qc,qd⟩ (k+1)=sqs ⟨qa,qb,qc,qd⟩ k+(⟨qa,qb,qc,qd⟩:Q4).at k*(⟨qa,qb,qc,qd⟩:Q4).at k:=rfl;have HS1:=η hs1;obtain ⟨x,hx'⟩:∃ x,(⟨qa,qb,qc,qd⟩:Q4).at k=x:=⟨_,rfl⟩;obtain ⟨s,hs'⟩:∃ s,sqs ⟨qa,qb,qc,qd⟩ k=s:=⟨_,rfl⟩;have HXX:=η hx';have HSS:=η hs';simp only [hx'] at hx hp;simp only [hs'] at hsk ⊢;have w1:wrap64 (x*x)=x*x:=IntWalk.wrap64_in _ ⟨by omega,by omega⟩;have w2:wrap64 (s+x*x)=s+x*x:=IntWalk.wrap64_in _ ⟨by omega,by omega⟩;clear h4 hs1 hx' hs' hp hsk x0 x1 x2 x3
     go_wp2_with fail
     go_round
     case rel=>exact ⟨k+1,hk4,by rw [w2,HS1.out,HXX.out,HSS.out],rfl,trivial⟩
     case measure=>show 4 - ((k:Int)+1).toNat<4 - (k:Int).toNat;omega
end Go.Proofs.Υ
end
