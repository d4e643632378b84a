/- Lemmas. -/
import Derived.Test.YtodehkjinmgflaaGreatDoorV3
set_option linter.all false
set_option maxHeartbeats 0
set_option maxRecDepth 99999
namespace Go.Proofs.Υ
open Go Go.RowKit Tryz
theorem eq46(a b c d e f:Int)(w:World):(Op.equalIn 10000 77 (.agg #[.int .i64 a,.int .i64 b,.int .i64 c]) (.agg #[.int .i64 d,.int .i64 e,.int .i64 f])).run prog w=.ok (a == d&&b == e&&c == f) w:=by
 have u3:=underlying3;have A:=isAgg3;have z3:=sizeOf3;rw[show(10000:Nat)=9999+1 from rfl,Op.equalIn];simp only[Sem.run_bind,run_underlying underlying77,Result.andThen_ok];simp only[Std.Legacy.Range.forIn_eq_forIn_range',Std.Legacy.Range.size,Nat.sub_zero,Nat.add_sub_cancel,Nat.div_one,List.range'_succ,List.range'_zero,List.forIn_cons,List.forIn_nil];go_simp;by_cases i:a=d<;>by_cases j:b=e<;>by_cases u:c=f<;>simp[i,j,u]
theorem eqPoint(a b c:ByteArray)(w:World):(Op.equalIn 10000 47 (.agg #[.string a,.string b,.string c]) (.agg #[.string a,.string b,.string c])).run prog w=.ok true w:=by
 have u3:=underlying45;have e:=isAgg45;have z3:=sizeOf45;rw[show(10000:Nat)=9999+1 from rfl,Op.equalIn];simp only[Sem.run_bind,run_underlying underlying47,Result.andThen_ok];simp only[Std.Legacy.Range.forIn_eq_forIn_range',Std.Legacy.Range.size,Nat.sub_zero,Nat.add_sub_cancel,Nat.div_one,List.range'_succ,List.range'_zero,List.forIn_cons,List.forIn_nil];go_simp
def nH(e:Ending)(p:Prop):Prop:=∃r,e=.returned (.bool r)/\(r=true↔p)
theorem nH.yes{p:Prop}(h:p):nH (.returned (.bool true)) p:=⟨true,rfl,by simp[h]⟩
theorem Box.drew{w:World}{g:Nat}{cs:Array Value}{t:TypeId}(h:Box w g cs t):Box w.drew g cs t:=h
theorem jJ(g:Nat)(cb:Array Value)(A:Nat->Bool)(a:Option Addr)(len i:Nat)(P:Nat->V)(w:World)(G:Pts w a len i P)(u:len<=64)(F:∀args w,(callFunc g args).run prog w=.ok (.enter g args) w)(j:∀w',Bl w w'->∀k,k<len->Calls prog g (#[dP (P k)]++cb) w' fun e C=>e=.returned (.bool (A k))/\Bl w' C):
 Calls prog 125 #[.slice a len i,.func (.func g) #[] cb] w fun e w' =>
  e=.returned (.bool ((List.range len).any A))/\Bl w w':=by
 have E:=O (tG g cb A a len i P w G u F j);clear G j F
 go_enter func125,ntmps125
 go_wp2_with fail
 refine E.o.mono ?_;rintro e Q ⟨⟨r,rfl,H⟩,hb⟩;obtain⟨L,J⟩:=η2 H hb;clear H hb E;go_wp2
 all_goals exact bodyPost_ret (results_tmp results125 _ _ _) rfl ⟨by rw[<-L.o];rfl,J.o⟩
theorem enters114:∀args w,(callFunc 165 args).run prog w=.ok (.enter 165 args) w:=
 enters_of func165 Z rfl
theorem sT(a:Option Addr)(len u:Nat)(P:Nat->V)(w:World)(hP:Pts w a len u P)(au:len<=64)(aa:∀i,i<len->LeV 4096 (P i)):
 Calls prog 130 #[.slice a len u] w fun e w'=>nH e (¬ eA P len)/\Bl w w':=by
 obtain⟨W,hW,b1,hB,hS⟩:=aB w #[.slice a len u] 100;obtain⟨z0,z1⟩:=b1.one;obtain⟨HP,HN,B1,HB,HS,HW⟩:=η6 (hP.below hB) aa b1 hB hS hW;clear hP aa b1 hB hS hW
 go_enter func130,ntmps130
 go_wp2_with fail
 rw[HW.o]
 go_loopw [9] (fun v wr=>∃k:Nat,k<=len/\v=.int .i64 (k:Int)/\Hid (∀i j m,m<j->j<i->i<k->tri P i j m=V.zero)/\Hid (Bl W wr)) (fun v _=>len-(intOf v).toNat)
 case atStart=>exact⟨0,Nat.zero_le _,rfl,(fun i j m h1 C h3=>by omega),Below.refl _ _⟩
 case round =>
  obtain⟨i,hk,rfl,HJ,HR⟩:=hrel;by_cases h0:i=len
  ·have hn:¬ (i:Int)<(len:Int):=I
   have H0:=O h0;clear h0;go_wp2;exact bodyPost_ret (results_tmp results130 _ _ _) rfl ⟨nH.yes (by
    rw[<-H0.o];exact not_full4 fun i' j m h1 C h3=>HJ.o i' j m h1 C h3),ae HB.o HR.o (ψ HS.o)⟩
  ·have a7:(i:Int)<(len:Int):=I
   have H0:=O h0;clear h0;go_wp2;obtain⟨Wi,a5,bi,a3,a4⟩:=aB wr #[.int .i64 (i:Int)] 3;rw[a5];obtain⟨BI,R,b3⟩:=η3 bi (ae HR.o a3 ρ) a4;have a6:wr.heap.size<Wi.heap.size:=I;have b7:w.heap.size<Wi.heap.size:=by have:=HS.o;have:=R.o.size;omega
   clear a5 bi a3 a4;have Y:=O a7;clear a7 HR;generalize wr.heap.size=gi at *;clear wr
   go_loopw [13] (fun v wj=>∃k:Nat,k<=i/\v=.int .i64 (k:Int)/\Hid (∀j m,m<j->j<k->tri P i j m=V.zero)/\Hid (Bl Wi wj)) (fun v _=>i-(intOf v).toNat)
   case atStart=>exact⟨0,Nat.zero_le _,rfl,(fun j m h1 C=>by omega),Below.refl _ _⟩
   case round =>
    obtain⟨j,hj,rfl,a0,a2⟩:=hrel;by_cases h0:j=i
    ·have hn:¬ (j:Int)<(i:Int):=I
     have bs:=O h0;clear h0;go_wp2;go_round
     case rel=>exact⟨i+1,by have:=Y.o;omega,rfl,(fun i' j' m h1 C h3=>by
      by_cases e:i'=i
      ·subst e;exact a0.o j' m h1 (ψ bs.o)
      ·exact HJ.o i' j' m h1 C I),ae R.o a2.o (ψ R.o.size)⟩
     case measure=>exact μ (ψ Y.o)
    ·have ar:(j:Int)<(i:Int):=I
     clear h0;go_wp2;have H:=O ar;clear ar
     go_loopw [17] (fun v wm=>∃k:Nat,k<=j/\v=.int .i64 (k:Int)/\Hid (∀m,m<k->tri P i j m=V.zero)/\Hid (Bl Wi wm)) (fun v _=>j-(intOf v).toNat)
     case atStart=>exact⟨0,Nat.zero_le _,rfl,(fun m h1=>by omega),a2.o⟩
     case round =>
      obtain⟨m,hm,rfl,a1,F⟩:=hrel;by_cases h0:m=j
      ·have hn:¬ (m:Int)<(j:Int):=I
       have bt:=O h0;clear h0;go_wp2;go_round
       case rel=>exact⟨j+1,by have:=H.o;omega,rfl,(fun j' m' h1 C=>by
        by_cases e:j'=j
        ·subst e;exact a1.o m' (ψ bt.o)
        ·exact a0.o j' m' h1 I),F.o⟩
       case measure=>exact μ (ψ H.o)
      ·have b0:(m:Int)<(j:Int):=I
       clear h0;have ab:Bl W wr:=ae R.o F.o (ψ R.o.size);have X:i<len:=by have:=Y.o;omega
       have b8:j<i:=by have:=H.o;omega
       obtain⟨b,off,rfl,hb,hc,ag⟩:=HP.o.cells I;obtain⟨bc,be,bf⟩:=ag i X;obtain⟨bg,bk,bl⟩:=ag j I;obtain⟨bm,bp,br⟩:=ag m I;have ni:=HN.o i X;have nj:=HN.o j I;have nm:=HN.o m I;have ht:tri P i j m=V.cross (P j-P i) (P m-P i):=rfl;generalize P i=Q at *;generalize P j=pj at *;generalize P m=pm at *;have i1:((i:Nat):Int)<(len:Int):=I;have i2:((j:Nat):Int)<(len:Int):=I;have i3:((m:Nat):Int)<(len:Int):=I;have bV:=ab.size;have L:Hid (∀w',Bl wr w'->w'.cell? ⟨w.heap.size,0,none⟩=some (.slice (some ⟨b,off,none⟩) len u)/\w'.cell? ⟨gi,0,none⟩=some (.int .i64 (i:Int)) /\
        w'.cell? ⟨b,off+j*3,none⟩=some (.int .i64 pj.x)/\w'.cell? ⟨b,off+j*3+1,none⟩=some (.int .i64 pj.y)/\w'.cell? ⟨b,off+j*3+2,none⟩=some (.int .i64 pj.z) /\
        w'.cell? ⟨b,off+i*3,none⟩=some (.int .i64 Q.x)/\w'.cell? ⟨b,off+i*3+1,none⟩=some (.int .i64 Q.y)/\w'.cell? ⟨b,off+i*3+2,none⟩=some (.int .i64 Q.z) /\
        Γ3 w' b (off+m*3) (.int .i64 pm.x) b (off+m*3+1) (.int .i64 pm.y) b (off+m*3+2) (.int .i64 pm.z)):=fun w' h=>by
        have C:=ae ab h I;exact⟨keepC z0 C (by have:=HS.o;show w.heap.size<_;omega),keepC (BI.o.one.1) (ae F.o h (ψ F.o.size)) a6,keepC bg C hb,keepC bk C hb,keepC bl C hb,keepC bc C hb,keepC be C hb,keepC bf C hb,keepC bm C hb,keepC bp C hb,keepC br C hb⟩
       have a9:=nj.sub ni;have ba:=nm.sub ni;have L0:=O (Below.refl wr.heap.size wr);have bv:Hid (Bl wr wr.drew):=L0.o.drew;have aw:=fun v=>lL (pj-Q) (pm-Q) 8192 8192 v a9 ba I
       have ao:=a9.cross ba;rw[<-ht]at aw ao;generalize a8:tri P i j m=J at *;have av:=O a8;have az:Hid (∀v,Calls prog 163 #[dP (pj-Q),dP (pm-Q)] v fun e w'=>e=.returned (.agg #[.int .i64 J.x,.int .i64 J.y,.int .i64 J.z])/\Bl v w'):=aw;obtain⟨bu,U⟩:=η2 ao ab;have bF:=L.o _ L0.o;clear ag bc be bf bg bk bl bm bp br ht a8 aw ao ab bV z0 z1
       go_upto_region 10 with fail
       go_cut [6,17] (fun pv iv wx=>iv=.int .i64 (m:Int)/\∃nb:Nat,pv=.pointer (some ⟨nb,0,none⟩)/\Hid (Box wx nb #[.int .i64 J.x,.int .i64 J.y,.int .i64 J.z] 77)/\Hid (Bl wr wx)/\Hid (wr.heap.size<=nb))
       case first =>
        go_wp2_with fail
        go_region_held3 (fun w'=>w'.cell? ⟨w.heap.size,0,none⟩=some (.slice (some ⟨b,off,none⟩) len u)/\w'.cell? ⟨gi,0,none⟩=some (.int .i64 (i:Int)) /\
        w'.cell? ⟨b,off+j*3,none⟩=some (.int .i64 pj.x)/\w'.cell? ⟨b,off+j*3+1,none⟩=some (.int .i64 pj.y)/\w'.cell? ⟨b,off+j*3+2,none⟩=some (.int .i64 pj.z) /\
        w'.cell? ⟨b,off+i*3,none⟩=some (.int .i64 Q.x)/\w'.cell? ⟨b,off+i*3+1,none⟩=some (.int .i64 Q.y)/\w'.cell? ⟨b,off+i*3+2,none⟩=some (.int .i64 Q.z) /\
        Γ3 w' b (off+m*3) (.int .i64 pm.x) b (off+m*3+1) (.int .i64 pm.y) b (off+m*3+2) (.int .i64 pm.z))
         (first
          | with_reducible exact(L.o _ L3.o)
          | with_reducible exact(L.o _ (L3.o.alloc L3.o.size _))
          | with_reducible exact(L.o _ L2.o)
          | with_reducible exact(L.o _ (L2.o.alloc L2.o.size _))
          | with_reducible exact(L.o _ L1.o)
          | with_reducible exact(L.o _ (L1.o.alloc L1.o.size _))
          | with_reducible exact(L.o _ bv.o)
          | with_reducible exact(L.o _ (L0.o.alloc L0.o.size _).drew)
          | with_reducible exact(L.o _ (((L3.o.setCell NL.o _).setCell NL.o _).setCell NL.o _))
          | (trace_state;fail))
         (first
          | (have _g:=L2.o;clear _g;go_at_call 163;refine(az.o _).mono ?_;rintro e w3 ⟨rfl,af⟩
             have L3:=O (show Bl wr w3 from ae dZ af ρ)
             first
              | (have A:=O (show Box w3 _ _ _ from by with_reducible exact A.o.to af)
                 obtain⟨n0,n1,n2,n3,n4,n5⟩:=A.o.three)
              | (have A:=O (show Box w3 _ #[.int .i64 0,.int .i64 0,.int .i64 0] 77 from by with_reducible exact(Box.new _ _ _ _ rfl).below af (by simp))
                 have NL:=O L2.o.size;obtain⟨n0,n1,n2,n3,n4,n5⟩:=A.o.three)
              | skip
             clear af)
          | (have _g:=L1.o;clear _g;go_at_call 164;refine(gJ pm Q 4096 4096 _ nm ni I).mono ?_;rintro e w2 ⟨rfl,ad⟩
             have L2:=O (show Bl wr w2 from ae dZ ad ρ)
             first
              | (have A:=O (show Box w2 _ _ _ from by with_reducible exact A.o.to ad)
                 obtain⟨n0,n1,n2,n3,n4,n5⟩:=A.o.three)
              | (have A:=O (show Box w2 _ #[.int .i64 0,.int .i64 0,.int .i64 0] 77 from by with_reducible exact(Box.new _ _ _ _ rfl).below ad (by simp))
                 have NL:=O L1.o.size;obtain⟨n0,n1,n2,n3,n4,n5⟩:=A.o.three)
              | skip
             clear ad)
          | (go_at_call 164;refine(gJ pj Q 4096 4096 _ nj ni I).mono ?_;rintro e w1 ⟨rfl,G⟩
             have L1:=O (show Bl wr w1 from ae dZ G ρ)
             first
              | (have A:=O (show Box w1 _ _ _ from by with_reducible exact A.o.to G)
                 obtain⟨n0,n1,n2,n3,n4,n5⟩:=A.o.three)
              | (have A:=O (show Box w1 _ #[.int .i64 0,.int .i64 0,.int .i64 0] 77 from by with_reducible exact(Box.new _ _ _ _ rfl).drew.below G (Box.new _ _ _ _ rfl).drew.lt)
                 have NL:=O L0.o.size;obtain⟨n0,n1,n2,n3,n4,n5⟩:=A.o.three)
              | skip
             clear G))
        all_goals
         go_wp2_with fail
         go_meet
        all_goals first
         | (with_reducible exact⟨rfl,_,rfl,O (Box.new _ _ _ _ rfl),O (L3.o.alloc L3.o.size _),O L3.o.size⟩)
         | (with_reducible exact⟨rfl,_,rfl,O (A.o.set3 _ _ _),O (((L3.o.setCell NL.o _).setCell NL.o _).setCell NL.o _),O NL.o⟩)
       case rest =>
        obtain⟨rfl,nb,rfl,ay,E,ao⟩:=hcut;obtain⟨z0,zi,-⟩:=L.o _ E.o;clear bF L az;obtain⟨c0,c1,c2,-⟩:=ay.o.three;have b4:=eq46;by_cases hz:J=V.zero
        ·rw[hz]at c0 c1 c2
         simp only[V.zero]at c0 c1 c2;have HZ:=O hz;clear hz;go_wp2
         trace_state
         go_round
         case rel=>exact⟨m+1,by omega,rfl,(fun m' h1=>by
          by_cases e:m'=m
          ·rw[e,av.o,HZ.o]
          ·exact a1.o m' I),ae F.o E.o ρ⟩
         case measure=>exact μ
        ·have ca:(J.x == 0&&J.y == 0&&J.z == 0)=false:=by
          rw[Bool.eq_false_iff];intro h;simp at h;exact hz (V.ext' h.1.1 h.1.2 h.2)
         have b9:∀(fn:Fn) (first u:Array Value) (w:World),(Instr.makeFunc fn first u).run prog w=.ok (.func fn first u) w:=fun _ _ _ _=>rfl
         have HZ:=O hz;clear hz
         go_wp2_with fail
         refine(jJ 165 #[.pointer (some ⟨nb,0,none⟩),.pointer (some ⟨w.heap.size,0,none⟩),.pointer (some ⟨gi,0,none⟩)] (fun q=>V.dot J (P q-P i) != 0) _ len u P _ (HP.o.below (ae U.o E.o ρ)) au enters114 ?_).mono ?_
         ·intro w' ac k bI
          have bz:=ae U.o E.o ρ;have b5:=U.o.size;have b6:=E.o.size;exact flat1_any (P k) J nb w.heap.size gi _ _ _ _ len u i P w' (ay.o.to ac) ((B1.o.below bz (ψ HS.o)).below ac (ψ HS.o))
           ((BI.o.below (ae F.o E.o ρ) a6).below ac (ψ F.o.size))
           (HP.o.below (ae (ae U.o E.o ρ) ac ρ)) X au (HN.o k bI) (HN.o i X) (bu.o.mono I)
         rintro e w1 ⟨rfl,G⟩;have L1:=O G;clear G;generalize ap:(List.range len).any (fun q=>V.dot J (P q-P i) != 0)=an;have HA:=O ap;clear ap;go_wp2;refine bodyPost_ret (results_tmp results130 _ _ _) rfl ⟨⟨!an,rfl,?_⟩,ae HB.o (ae (ae U.o E.o ρ) L1.o ρ) (ψ HS.o)⟩;rw[rF i j m X I I (by rw[av.o];exact HZ.o),av.o,<-HA.o];simp
end Go.Proofs.Υ
