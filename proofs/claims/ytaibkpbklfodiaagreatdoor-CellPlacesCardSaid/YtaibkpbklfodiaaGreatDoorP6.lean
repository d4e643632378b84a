/- Package cell: flat. -/
import Derived.Test.YtaibkpbklfodiaaGreatDoorP4
import Derived.Test.YtaibkpbklfodiaaGreatDoorP5
set_option linter.all false
set_option maxHeartbeats 100000000
section
namespace Dowel
open Go Go.RowKit
def eS (e:Ending) (p:Prop):Prop:=∃ r,e=.returned (.bool r)∧(r=true↔p)
theorem eS.yes {p:Prop} (h:p):eS (.returned (.bool true)) p:=⟨true,rfl,by simp [h]⟩
theorem eS.no {p:Prop} (h:¬ p):eS (.returned (.bool false)) p:=⟨false,rfl,by simp [h]⟩
theorem Box.drew {w:World} {g:Nat} {cs:Array Value} {t:TypeId} (h:Box w g cs t):Box w.drew g cs t:=h
end Dowel
namespace Go.Proofs.Υ
open Go.RowKit Dowel
theorem lY (g:Nat) (cb:Array Value) (pr:Nat→Bool) (a:Option Addr) (len cap:Nat) (P:Nat→V) (w:World) (hP:Pts w a len cap P) (hlen:len≤64) (eg:∀ args w,(callFunc g args).run Tryz.prog w=.ok (.enter g args) w)
  (hcl:∀ w',Below w.heap.size w w'→∀ k,k<len→Calls Tryz.prog g (#[bX (P k)] ++ cb) w' fun e w''=>e=.returned (.bool (pr k))∧Below w'.heap.size w' w'') :
  Calls Tryz.prog 73 #[.slice a len cap,.func (.func g) #[] cb] w fun e w' =>
   e=.returned (.bool ((List.range len).any pr))∧Below w.heap.size w w':=by
 have HC:=η (pU g cb pr a len cap P w hP hlen eg hcl);clear hP hcl eg
 go_enter Tryz.func73,Tryz.ntmps73
 go_wp2_with fail
 refine HC.out.mono ?_;rintro e w1 ⟨⟨r,rfl,hr⟩,hb⟩;have HR:=η hr;have HB:=η hb;clear hr hb HC;go_wp2
 all_goals exact bodyPost_ret (results_tmp Tryz.results73 _ _ _) rfl ⟨by rw [← HR.out];rfl,HB.out⟩
theorem enters114:∀ args w,(callFunc 114 args).run Tryz.prog w=.ok (.enter 114 args) w:=
 enters_of Tryz.func114 κ rfl
set_option maxRecDepth 10000 in
theorem cflat_any (a:Option Addr) (len cap:Nat) (P:Nat→V) (w:World) (hP:Pts w a len cap P) (hlen:len≤64) (hnear:∀ i,i<len→LeV 4096 (P i)) :
    Calls Tryz.prog 57 #[.slice a len cap] w fun e w'=>eS e (¬ dq P len)∧Below w.heap.size w w':=by
  obtain ⟨W,hW,b1,hB,hS⟩:=aG w #[.slice a len cap] 22;obtain ⟨z0,z1⟩:=b1.one;have HP:=η (hP.below hB);have HN:=η hnear;have B1:=η b1;have HB:=η hB;have HS:=η hS;have HW:=η hW;clear hP hnear b1 hB hS hW
  go_enter Tryz.func57,Tryz.ntmps57
  go_wp2_with fail
  rw [HW.out]
  go_loopw [9] (fun v wr=>∃ k:Nat,k≤len∧v=.int .i64 (k:Int)∧Hid (∀ i j m,m<j→j<i→i<k→tri P i j m=V.zero)∧Hid (Below W.heap.size W wr)) (fun v _=>len - (intOf v).toNat)
  case atStart=>exact ⟨0,Nat.zero_le _,rfl,(fun i j m h1 h2 h3=>by omega),Below.refl _ _⟩
  case round =>
    obtain ⟨i,hk,rfl,HJ,HR⟩:=hrel;by_cases h0:i=len
    · have hn:¬ (i:Int)<(len:Int):=ω
      have H0:=η h0;clear h0;go_wp2;exact bodyPost_ret (results_tmp Tryz.results57 _ _ _) rfl ⟨eS.yes (by
        rw [← H0.out];exact not_full4 fun i' j m h1 h2 h3=>HJ.out i' j m h1 h2 h3),ae HB.out HR.out (ψ HS.out)⟩
    · have hlt:(i:Int)<(len:Int):=ω
      have H0:=η h0;clear h0;go_wp2;obtain ⟨Wi,hWi,bi,hBi,hSi⟩:=aG wr #[.int .i64 (i:Int)] 3;rw [hWi];have BI:=η bi;have HRi:=η (ae HR.out hBi ρ);have HSi:=η hSi;have hgi:wr.heap.size<Wi.heap.size:=ω;have hgl:w.heap.size<Wi.heap.size:=by have:=HS.out;have:=HRi.out.size;omega
      clear hWi bi hBi hSi;have hlt':=η hlt;clear hlt HR;generalize wr.heap.size=gi at *;clear wr
      go_loopw [13] (fun v wj=>∃ k:Nat,k≤i∧v=.int .i64 (k:Int)∧Hid (∀ j m,m<j→j<k→tri P i j m=V.zero)∧Hid (Below Wi.heap.size Wi wj)) (fun v _=>i - (intOf v).toNat)
      case atStart=>exact ⟨0,Nat.zero_le _,rfl,(fun j m h1 h2=>by omega),Below.refl _ _⟩
      case round =>
        obtain ⟨j,hj,rfl,HJ2,HR2⟩:=hrel;by_cases h0:j=i
        · have hn:¬ (j:Int)<(i:Int):=ω
          have H02:=η h0;clear h0;go_wp2;go_round
          case rel=>exact ⟨i+1,by have:=hlt'.out;omega,rfl,(fun i' j' m h1 h2 h3=>by
            by_cases e:i'=i
            · subst e;exact HJ2.out j' m h1 (ψ H02.out)
            · exact HJ.out i' j' m h1 h2 ω),ae HRi.out HR2.out (ψ HRi.out.size)⟩
          case measure=>show len - ((i:Int)+1).toNat<len - (i:Int).toNat;have:=hlt'.out;omega
        · have hjlt:(j:Int)<(i:Int):=ω
          clear h0;go_wp2;have hjlt':=η hjlt;clear hjlt
          go_loopw [17] (fun v wm=>∃ k:Nat,k≤j∧v=.int .i64 (k:Int)∧Hid (∀ m,m<k→tri P i j m=V.zero)∧Hid (Below Wi.heap.size Wi wm)) (fun v _=>j - (intOf v).toNat)
          case atStart=>exact ⟨0,Nat.zero_le _,rfl,(fun m h1=>by omega),HR2.out⟩
          case round =>
            obtain ⟨m,hm,rfl,HJ3,HR3⟩:=hrel;by_cases h0:m=j
            · have hn:¬ (m:Int)<(j:Int):=ω
              have H03:=η h0;clear h0;go_wp2;go_round
              case rel=>exact ⟨j+1,by have:=hjlt'.out;omega,rfl,(fun j' m' h1 h2=>by
                by_cases e:j'=j
                · subst e;exact HJ3.out m' (ψ H03.out)
                · exact HJ2.out j' m' h1 ω),HR3.out⟩
              case measure=>show i - ((j:Int)+1).toNat<i - (j:Int).toNat;have:=hjlt'.out;omega
            · have hmlt:(m:Int)<(j:Int):=ω
              clear h0;have hW':Below W.heap.size W wr:=ae HRi.out HR3.out (ψ HRi.out.size);have hil:i<len:=by have:=hlt'.out;omega
              have hjl:j<i:=by have:=hjlt'.out;omega
              obtain ⟨b,off,rfl,hb,hc,hcc⟩:=HP.out.cells ω;obtain ⟨pi0,pi1,pi2⟩:=hcc i hil;obtain ⟨pj0,pj1,pj2⟩:=hcc j ω;obtain ⟨pm0,pm1,pm2⟩:=hcc m ω;have ni:=HN.out i hil;have nj:=HN.out j ω;have nm:=HN.out m ω;have ht:tri P i j m=V.cross (P j - P i) (P m - P i):=rfl;generalize P i=pi at *;generalize P j=pj at *;generalize P m=pm at *;have i1:((i:Nat):Int)<(len:Int):=ω;have i2:((j:Nat):Int)<(len:Int):=ω;have i3:((m:Nat):Int)<(len:Int):=ω;have hs1:=hW'.size;have KP:Hid (∀ w',Below wr.heap.size wr w'→w'.cell? ⟨w.heap.size,0,none⟩=some (.slice (some ⟨b,off,none⟩) len cap)∧w'.cell? ⟨gi,0,none⟩=some (.int .i64 (i:Int)) ∧
                w'.cell? ⟨b,off+j*3,none⟩=some (.int .i64 pj.x)∧w'.cell? ⟨b,off+j*3+1,none⟩=some (.int .i64 pj.y)∧w'.cell? ⟨b,off+j*3+2,none⟩=some (.int .i64 pj.z) ∧
                w'.cell? ⟨b,off+i*3,none⟩=some (.int .i64 pi.x)∧w'.cell? ⟨b,off+i*3+1,none⟩=some (.int .i64 pi.y)∧w'.cell? ⟨b,off+i*3+2,none⟩=some (.int .i64 pi.z) ∧
                w'.cell? ⟨b,off+m*3,none⟩=some (.int .i64 pm.x)∧w'.cell? ⟨b,off+m*3+1,none⟩=some (.int .i64 pm.y)∧w'.cell? ⟨b,off+m*3+2,none⟩=some (.int .i64 pm.z)):=fun w' h=>by
                have h2:=ae hW' h ω;exact ⟨keepC z0 h2 (by have:=HS.out;show w.heap.size<_;omega),keepC (BI.out.one.1) (ae HR3.out h (ψ HR3.out.size)) hgi,keepC pj0 h2 hb,keepC pj1 h2 hb,keepC pj2 h2 hb,keepC pi0 h2 hb,keepC pi1 h2 hb,keepC pi2 h2 hb,keepC pm0 h2 hb,keepC pm1 h2 hb,keepC pm2 h2 hb⟩
              have nij:=nj.sub ni;have nim:=nm.sub ni;have L0:=η (Below.refl wr.heap.size wr);have L00:Hid (Below wr.heap.size wr wr.drew):=L0.out.drew;have hcr:=fun v=>jO (pj - pi) (pm - pi) 8192 8192 v nij nim ω
              have hnl:=nij.cross nim;rw [← ht] at hcr hnl;generalize htr:tri P i j m=nn at *;have HTR:=η htr;have HCR:Hid (∀ v,Calls Tryz.prog 112 #[bX (pj - pi),bX (pm - pi)] v fun e w'=>e=.returned (.agg #[.int .i64 nn.x,.int .i64 nn.y,.int .i64 nn.z])∧Below v.heap.size v w'):=hcr;have HNL:=η hnl;have HWW:=η hW';have hf1:=KP.out _ L0.out;clear hcc pi0 pi1 pi2 pj0 pj1 pj2 pm0 pm1 pm2 ht htr hcr hnl hW' hs1 z0 z1
              go_upto_region 10 with fail
              go_cut [6,17] (fun pv iv wx=>iv=.int .i64 (m:Int)∧∃ nb:Nat,pv=.pointer (some ⟨nb,0,none⟩)∧Hid (Box wx nb #[.int .i64 nn.x,.int .i64 nn.y,.int .i64 nn.z] 46)∧Hid (Below wr.heap.size wr wx)∧Hid (wr.heap.size≤nb))
              case first =>
                go_wp2_with fail
                go_region_held3 (fun w'=>w'.cell? ⟨w.heap.size,0,none⟩=some (.slice (some ⟨b,off,none⟩) len cap)∧w'.cell? ⟨gi,0,none⟩=some (.int .i64 (i:Int)) ∧
                w'.cell? ⟨b,off+j*3,none⟩=some (.int .i64 pj.x)∧w'.cell? ⟨b,off+j*3+1,none⟩=some (.int .i64 pj.y)∧w'.cell? ⟨b,off+j*3+2,none⟩=some (.int .i64 pj.z) ∧
                w'.cell? ⟨b,off+i*3,none⟩=some (.int .i64 pi.x)∧w'.cell? ⟨b,off+i*3+1,none⟩=some (.int .i64 pi.y)∧w'.cell? ⟨b,off+i*3+2,none⟩=some (.int .i64 pi.z) ∧
                w'.cell? ⟨b,off+m*3,none⟩=some (.int .i64 pm.x)∧w'.cell? ⟨b,off+m*3+1,none⟩=some (.int .i64 pm.y)∧w'.cell? ⟨b,off+m*3+2,none⟩=some (.int .i64 pm.z))
                  (first | with_reducible exact (KP.out _ L3.out)
                         | with_reducible exact (KP.out _ (L3.out.alloc L3.out.size _))
                         | with_reducible exact (KP.out _ L2.out)
                         | with_reducible exact (KP.out _ (L2.out.alloc L2.out.size _))
                         | with_reducible exact (KP.out _ L1.out)
                         | with_reducible exact (KP.out _ (L1.out.alloc L1.out.size _))
                         | with_reducible exact (KP.out _ L00.out)
                         | with_reducible exact (KP.out _ (L0.out.alloc L0.out.size _).drew)
                         | with_reducible exact (KP.out _ (((L3.out.setCell NL.out _).setCell NL.out _).setCell NL.out _))
                         | (trace_state;fail))
                  (first
                    | (have _g:=L2.out;clear _g;go_at_call 112;refine (HCR.out _).mono ?_;rintro e w3 ⟨rfl,hb3⟩
                       have L3:=η (show Below wr.heap.size wr w3 from by first | with_reducible exact ae L2.out hb3 ρ | with_reducible exact ae (L2.out.alloc L2.out.size _) hb3 ρ)
                       first
                         | (have NB:=η (show Box w3 _ _ _ from by with_reducible exact NB.out.below hb3 NB.out.lt)
                            obtain ⟨n0,n1,n2,n3,n4,n5⟩:=NB.out.three)
                         | (have NB:=η (show Box w3 _ #[.int .i64 0,.int .i64 0,.int .i64 0] 46 from by with_reducible exact (Box.new _ _ _ _ rfl).below hb3 (by simp))
                            have NL:=η L2.out.size;obtain ⟨n0,n1,n2,n3,n4,n5⟩:=NB.out.three)
                         | skip
                       clear hb3)
                    | (have _g:=L1.out;clear _g;go_at_call 113;refine (fC pm pi 4096 4096 _ nm ni ω).mono ?_;rintro e w2 ⟨rfl,hb2⟩
                       have L2:=η (show Below wr.heap.size wr w2 from by first | with_reducible exact ae L1.out hb2 ρ | with_reducible exact ae (L1.out.alloc L1.out.size _) hb2 ρ)
                       first
                         | (have NB:=η (show Box w2 _ _ _ from by with_reducible exact NB.out.below hb2 NB.out.lt)
                            obtain ⟨n0,n1,n2,n3,n4,n5⟩:=NB.out.three)
                         | (have NB:=η (show Box w2 _ #[.int .i64 0,.int .i64 0,.int .i64 0] 46 from by with_reducible exact (Box.new _ _ _ _ rfl).below hb2 (by simp))
                            have NL:=η L1.out.size;obtain ⟨n0,n1,n2,n3,n4,n5⟩:=NB.out.three)
                         | skip
                       clear hb2)
                    | (go_at_call 113;refine (fC pj pi 4096 4096 _ nj ni ω).mono ?_;rintro e w1 ⟨rfl,hb1⟩
                       have L1:=η (show Below wr.heap.size wr w1 from by first | with_reducible exact ae L00.out hb1 ρ | with_reducible exact ae (L0.out.alloc L0.out.size _).drew hb1 ρ)
                       first
                         | (have NB:=η (show Box w1 _ _ _ from by with_reducible exact NB.out.below hb1 NB.out.lt)
                            obtain ⟨n0,n1,n2,n3,n4,n5⟩:=NB.out.three)
                         | (have NB:=η (show Box w1 _ #[.int .i64 0,.int .i64 0,.int .i64 0] 46 from by with_reducible exact (Box.new _ _ _ _ rfl).drew.below hb1 (Box.new _ _ _ _ rfl).drew.lt)
                            have NL:=η L0.out.size;obtain ⟨n0,n1,n2,n3,n4,n5⟩:=NB.out.three)
                         | skip
                       clear hb1))
                all_goals
                  go_wp2_with fail
                  go_meet
                all_goals first
                  | (with_reducible exact ⟨rfl,_,rfl,η (Box.new _ _ _ _ rfl),η (L3.out.alloc L3.out.size _),η L3.out.size⟩)
                  | (with_reducible exact ⟨rfl,_,rfl,η (NB.out.set3 _ _ _),η (((L3.out.setCell NL.out _).setCell NL.out _).setCell NL.out _),η NL.out⟩)
              case rest =>
                obtain ⟨rfl,nb,rfl,hnb,hbc,hnl⟩:=hcut;obtain ⟨z0,zi,-⟩:=KP.out _ hbc.out;clear hf1 KP HCR;obtain ⟨c0,c1,c2,-⟩:=hnb.out.three;have e46:=eq46;by_cases hz:nn=V.zero
                · rw [hz] at c0 c1 c2
                  simp only [V.zero] at c0 c1 c2;have HZ:=η hz;clear hz;go_wp2
                  trace_state
                  go_round
                  case rel=>exact ⟨m+1,by omega,rfl,(fun m' h1=>by
                    by_cases e:m'=m
                    · rw [e,HTR.out,HZ.out]
                    · exact HJ3.out m' ω),ae HR3.out hbc.out ρ⟩
                  case measure=>show j - ((m:Int)+1).toNat<j - (m:Int).toNat;omega
                · have hzz:(nn.x == 0 && nn.y == 0 && nn.z == 0)=false:=by
                    rw [Bool.eq_false_iff];intro h;simp at h;exact hz (V.ext' h.1.1 h.1.2 h.2)
                  have hmf:∀ (fn:Fn) (first cap:Array Value) (w:World),(Instr.makeFunc fn first cap).run Tryz.prog w=.ok (.func fn first cap) w:=fun _ _ _ _=>rfl
                  have HZ:=η hz;clear hz
                  go_wp2_with fail
                  refine (lY 114 #[.pointer (some ⟨nb,0,none⟩),.pointer (some ⟨w.heap.size,0,none⟩),.pointer (some ⟨gi,0,none⟩)] (fun q=>V.dot nn (P q - P i) != 0) _ len cap P _ (HP.out.below (ae HWW.out hbc.out ρ)) hlen enters114 ?_).mono ?_
                  · intro w' hb' k hkl
                    have hbw:=ae HWW.out hbc.out ρ;have hW1:=HWW.out.size;have hW2:=hbc.out.size;exact flat1_any (P k) nn nb w.heap.size gi _ _ _ _ len cap i P w' (hnb.out.below hb' hnb.out.lt) ((B1.out.below hbw (ψ HS.out)).below hb' (ψ HS.out))
                      ((BI.out.below (ae HR3.out hbc.out ρ) hgi).below hb' (ψ HR3.out.size))
                      (HP.out.below (ae (ae HWW.out hbc.out ρ) hb' ρ)) hil hlen (HN.out k hkl) (HN.out i hil) (HNL.out.mono ω)
                  rintro e w1 ⟨rfl,hb1⟩;have L1:=η hb1;clear hb1;generalize hany:(List.range len).any (fun q=>V.dot nn (P q - P i) != 0)=an;have HA:=η hany;clear hany;go_wp2;refine bodyPost_ret (results_tmp Tryz.results57 _ _ _) rfl ⟨⟨!an,rfl,?_⟩,ae HB.out (ae (ae HWW.out hbc.out ρ) L1.out ρ) (ψ HS.out)⟩;rw [n8 i j m hil ω ω (by rw [HTR.out];exact HZ.out),HTR.out,← HA.out];simp
end Go.Proofs.Υ
end
