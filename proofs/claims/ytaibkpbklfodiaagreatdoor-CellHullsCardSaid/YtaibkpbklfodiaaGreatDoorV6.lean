/- Package cell: flat. -/
import Derived.Test.YtaibkpbklfodiaaGreatDoorV4
import Derived.Test.YtaibkpbklfodiaaGreatDoorV5
set_option linter.all false
/- Package cell: flat. -/
section
namespace Dowel
open Go Go.RowKit
def RetIff (e:Ending) (p:Prop):Prop:=∃ r,e=.returned (.bool r)∧(r=true↔p)
theorem RetIff.yes {p:Prop} (h:p):RetIff (.returned (.bool true)) p:=⟨true,rfl,by simp [h]⟩
theorem RetIff.no {p:Prop} (h:¬ p):RetIff (.returned (.bool false)) p:=⟨false,rfl,by simp [h]⟩
theorem Box.drew {w:World} {g:Nat} {cs:Array Value} {t:TypeId} (h:Box w g cs t):Box w.drew g cs t:=h
end Dowel
namespace Go.Proofs.YtaibkpbklfodiaaGreatDoor
open Go.RowKit Dowel
set_option maxHeartbeats 1000000 in
theorem containsPts_any (g:Nat) (cb:Array Value) (pr:Nat→Bool) (a:Option Addr) (len cap:Nat) (P:Nat→V) (w:World) (hP:Pts w a len cap P) (hlen:len≤64) (eg:∀ args w,(callFunc g args).run Tryz.prog w=.ok (.enter g args) w)
  (hcl:∀ w',Below w.heap.size w w'→∀ k,k<len→Calls Tryz.prog g (#[vecV (P k)] ++ cb) w' fun e w''=>e=.returned (.bool (pr k))∧Below w'.heap.size w' w'') :
  Calls Tryz.prog 73 #[.slice a len cap,.func (.func g) #[] cb] w fun e w' =>
   e=.returned (.bool ((List.range len).any pr))∧Below w.heap.size w w':=by
 have HC:=Lib.hid (indexPts_any g cb pr a len cap P w hP hlen eg hcl)
 clear hP hcl eg
 go_enter Tryz.func73,Tryz.ntmps73
 go_wp2_with fail
 refine HC.out.mono ?_
 rintro e w1 ⟨⟨r,rfl,hr⟩,hb⟩
 have HR:=Lib.hid hr
 have HB:=Lib.hid hb
 clear hr hb HC
 go_wp2
 all_goals exact bodyPost_ret (results_tmp Tryz.results73 _ _ _) rfl ⟨by rw [← HR.out];rfl,HB.out⟩
theorem enters114:∀ args w,(callFunc 114 args).run Tryz.prog w=.ok (.enter 114 args) w:=
 enters_of Tryz.func114 (by kernel_rfl) rfl
set_option maxHeartbeats 2000000 in
set_option maxRecDepth 10000 in
theorem cflat_any (a:Option Addr) (len cap:Nat) (P:Nat→V) (w:World) (hP:Pts w a len cap P) (hlen:len≤64) (hnear:∀ i,i<len→LeV 4096 (P i)) :
    Calls Tryz.prog 57 #[.slice a len cap] w fun e w'=>RetIff e (¬ Full4 P len)∧Below w.heap.size w w':=by
  obtain ⟨W,hW,b1,hB,hS⟩:=boxes1 w #[.slice a len cap] 22
  obtain ⟨z0,z1⟩:=b1.one
  have HP:=Lib.hid (hP.below hB)
  have HN:=Lib.hid hnear
  have B1:=Lib.hid b1
  have HB:=Lib.hid hB
  have HS:=Lib.hid hS
  have HW:=Lib.hid hW
  clear hP hnear b1 hB hS hW
  go_enter Tryz.func57,Tryz.ntmps57
  go_wp2_with fail
  rw [HW.out]
  go_loopw [9] (fun v wr=>∃ k:Nat,k≤len∧v=.int .i64 (k:Int)∧Hid (∀ i j m,m<j→j<i→i<k→tri P i j m=V.zero)∧Hid (Below W.heap.size W wr)) (fun v _=>len - (intOf v).toNat)
  case atStart=>exact ⟨0,Nat.zero_le _,rfl,(fun i j m h1 h2 h3=>by omega),Below.refl _ _⟩
  case round =>
    obtain ⟨i,hk,rfl,HJ,HR⟩:=hrel
    by_cases h0:i=len
    · have hn:¬ (i:Int)<(len:Int):=by omega
      have H0:=Lib.hid h0
      clear h0
      go_wp2
      exact bodyPost_ret (results_tmp Tryz.results57 _ _ _) rfl ⟨RetIff.yes (by
        rw [← H0.out];exact not_full4 fun i' j m h1 h2 h3=>HJ.out i' j m h1 h2 h3),below_call HB.out HR.out (by have:=HS.out;omega)⟩
    · have hlt:(i:Int)<(len:Int):=by omega
      have H0:=Lib.hid h0
      clear h0
      go_wp2
      obtain ⟨Wi,hWi,bi,hBi,hSi⟩:=boxes1 wr #[.int .i64 (i:Int)] 3
      rw [hWi]
      have BI:=Lib.hid bi
      have HRi:=Lib.hid (below_call HR.out hBi (Nat.le_refl _))
      have HSi:=Lib.hid hSi
      have hgi:wr.heap.size<Wi.heap.size:=by omega
      have hgl:w.heap.size<Wi.heap.size:=by have:=HS.out;have:=HRi.out.size;omega
      clear hWi bi hBi hSi
      have hlt':=Lib.hid hlt
      clear hlt HR
      generalize wr.heap.size=gi at *
      clear wr
      go_loopw [13] (fun v wj=>∃ k:Nat,k≤i∧v=.int .i64 (k:Int)∧Hid (∀ j m,m<j→j<k→tri P i j m=V.zero)∧Hid (Below Wi.heap.size Wi wj)) (fun v _=>i - (intOf v).toNat)
      case atStart=>exact ⟨0,Nat.zero_le _,rfl,(fun j m h1 h2=>by omega),Below.refl _ _⟩
      case round =>
        obtain ⟨j,hj,rfl,HJ2,HR2⟩:=hrel
        by_cases h0:j=i
        · have hn:¬ (j:Int)<(i:Int):=by omega
          have H02:=Lib.hid h0
          clear h0
          go_wp2
          go_round
          case rel=>exact ⟨i+1,by have:=hlt'.out;omega,rfl,(fun i' j' m h1 h2 h3=>by
            by_cases e:i'=i
            · subst e;exact HJ2.out j' m h1 (by have:=H02.out;omega)
            · exact HJ.out i' j' m h1 h2 (by omega)),below_call HRi.out HR2.out (by have:=HRi.out.size;omega)⟩
          case measure=>show len - ((i:Int)+1).toNat<len - (i:Int).toNat;have:=hlt'.out;omega
        · have hjlt:(j:Int)<(i:Int):=by omega
          clear h0
          go_wp2
          have hjlt':=Lib.hid hjlt
          clear hjlt
          go_loopw [17] (fun v wm=>∃ k:Nat,k≤j∧v=.int .i64 (k:Int)∧Hid (∀ m,m<k→tri P i j m=V.zero)∧Hid (Below Wi.heap.size Wi wm)) (fun v _=>j - (intOf v).toNat)
          case atStart=>exact ⟨0,Nat.zero_le _,rfl,(fun m h1=>by omega),HR2.out⟩
          case round =>
            obtain ⟨m,hm,rfl,HJ3,HR3⟩:=hrel
            by_cases h0:m=j
            · have hn:¬ (m:Int)<(j:Int):=by omega
              have H03:=Lib.hid h0
              clear h0
              go_wp2
              go_round
              case rel=>exact ⟨j+1,by have:=hjlt'.out;omega,rfl,(fun j' m' h1 h2=>by
                by_cases e:j'=j
                · subst e;exact HJ3.out m' (by have:=H03.out;omega)
                · exact HJ2.out j' m' h1 (by omega)),HR3.out⟩
              case measure=>show i - ((j:Int)+1).toNat<i - (j:Int).toNat;have:=hjlt'.out;omega
            · have hmlt:(m:Int)<(j:Int):=by omega
              clear h0
              have hW':Below W.heap.size W wr:=below_call HRi.out HR3.out (by have:=HRi.out.size;omega)
              have hil:i<len:=by have:=hlt'.out;omega
              have hjl:j<i:=by have:=hjlt'.out;omega
              obtain ⟨b,off,rfl,hb,hc,hcc⟩:=HP.out.cells (by omega)
              obtain ⟨pi0,pi1,pi2⟩:=hcc i hil
              obtain ⟨pj0,pj1,pj2⟩:=hcc j (by omega)
              obtain ⟨pm0,pm1,pm2⟩:=hcc m (by omega)
              have ni:=HN.out i hil
              have nj:=HN.out j (by omega)
              have nm:=HN.out m (by omega)
              have ht:tri P i j m=V.cross (P j - P i) (P m - P i):=rfl
              generalize P i=pi at *
              generalize P j=pj at *
              generalize P m=pm at *
              have i1:((i:Nat):Int)<(len:Int):=by omega
              have i2:((j:Nat):Int)<(len:Int):=by omega
              have i3:((m:Nat):Int)<(len:Int):=by omega
              have hs1:=hW'.size
              have KP:Hid (∀ w',Below wr.heap.size wr w'→w'.cell? ⟨w.heap.size,0,none⟩=some (.slice (some ⟨b,off,none⟩) len cap)∧w'.cell? ⟨gi,0,none⟩=some (.int .i64 (i:Int)) ∧
                w'.cell? ⟨b,off+j*3,none⟩=some (.int .i64 pj.x)∧w'.cell? ⟨b,off+j*3+1,none⟩=some (.int .i64 pj.y)∧w'.cell? ⟨b,off+j*3+2,none⟩=some (.int .i64 pj.z) ∧
                w'.cell? ⟨b,off+i*3,none⟩=some (.int .i64 pi.x)∧w'.cell? ⟨b,off+i*3+1,none⟩=some (.int .i64 pi.y)∧w'.cell? ⟨b,off+i*3+2,none⟩=some (.int .i64 pi.z) ∧
                w'.cell? ⟨b,off+m*3,none⟩=some (.int .i64 pm.x)∧w'.cell? ⟨b,off+m*3+1,none⟩=some (.int .i64 pm.y)∧w'.cell? ⟨b,off+m*3+2,none⟩=some (.int .i64 pm.z)):=fun w' h=>by
                have h2:=below_call hW' h (by omega)
                exact ⟨keepC z0 h2 (by have:=HS.out;show w.heap.size<_;omega),keepC (BI.out.one.1) (below_call HR3.out h (by have:=HR3.out.size;omega)) hgi,keepC pj0 h2 hb,keepC pj1 h2 hb,keepC pj2 h2 hb,keepC pi0 h2 hb,keepC pi1 h2 hb,keepC pi2 h2 hb,keepC pm0 h2 hb,keepC pm1 h2 hb,keepC pm2 h2 hb⟩
              have nij:=nj.sub ni
              have nim:=nm.sub ni
              have L0:=Lib.hid (Below.refl wr.heap.size wr)
              have L00:Hid (Below wr.heap.size wr wr.drew):=L0.out.drew
              have hcr:=fun v=>ccross_any (pj - pi) (pm - pi) 8192 8192 v nij nim (by omega)
              have hnl:=nij.cross nim
              rw [← ht] at hcr hnl
              generalize htr:tri P i j m=nn at *
              have HTR:=Lib.hid htr
              have HCR:Hid (∀ v,Calls Tryz.prog 112 #[vecV (pj - pi),vecV (pm - pi)] v fun e w'=>e=.returned (.agg #[.int .i64 nn.x,.int .i64 nn.y,.int .i64 nn.z])∧Below v.heap.size v w'):=hcr
              have HNL:=Lib.hid hnl
              have HWW:=Lib.hid hW'
              have hf1:=KP.out _ L0.out
              clear hcc pi0 pi1 pi2 pj0 pj1 pj2 pm0 pm1 pm2 ht htr hcr hnl hW' hs1 z0 z1
              go_upto_region 10 with fail
              go_cut [6,17] (fun pv iv wx=>iv=.int .i64 (m:Int)∧∃ nb:Nat,pv=.pointer (some ⟨nb,0,none⟩)∧Hid (Box wx nb #[.int .i64 nn.x,.int .i64 nn.y,.int .i64 nn.z] 46)∧Hid (Below wr.heap.size wr wx)∧Hid (wr.heap.size≤nb))
              case first =>
                go_wp2_with fail
                go_region_held3 (fun w'=>w'.cell? ⟨w.heap.size,0,none⟩=some (.slice (some ⟨b,off,none⟩) len cap)∧w'.cell? ⟨gi,0,none⟩=some (.int .i64 (i:Int)) ∧
                w'.cell? ⟨b,off+j*3,none⟩=some (.int .i64 pj.x)∧w'.cell? ⟨b,off+j*3+1,none⟩=some (.int .i64 pj.y)∧w'.cell? ⟨b,off+j*3+2,none⟩=some (.int .i64 pj.z) ∧
                w'.cell? ⟨b,off+i*3,none⟩=some (.int .i64 pi.x)∧w'.cell? ⟨b,off+i*3+1,none⟩=some (.int .i64 pi.y)∧w'.cell? ⟨b,off+i*3+2,none⟩=some (.int .i64 pi.z) ∧
                w'.cell? ⟨b,off+m*3,none⟩=some (.int .i64 pm.x)∧w'.cell? ⟨b,off+m*3+1,none⟩=some (.int .i64 pm.y)∧w'.cell? ⟨b,off+m*3+2,none⟩=some (.int .i64 pm.z))
                  (first | with_reducible exact (KP.out _ L3.out)
                         | with_reducible exact (KP.out _ (L3.out.alloc L3.out.size _))
                         | with_reducible exact (KP.out _ L2.out)
                         | with_reducible exact (KP.out _ (L2.out.alloc L2.out.size _))
                         | with_reducible exact (KP.out _ L1.out)
                         | with_reducible exact (KP.out _ (L1.out.alloc L1.out.size _))
                         | with_reducible exact (KP.out _ L00.out)
                         | with_reducible exact (KP.out _ (L0.out.alloc L0.out.size _).drew)
                         | with_reducible exact (KP.out _ (((L3.out.setCell NL.out _).setCell NL.out _).setCell NL.out _))
                         | (trace_state;fail))
                  (first
                    | (have _g:=L2.out;clear _g;go_at_call 112;refine (HCR.out _).mono ?_;rintro e w3 ⟨rfl,hb3⟩
                       have L3:=Lib.hid (show Below wr.heap.size wr w3 from by first | with_reducible exact below_call L2.out hb3 (Nat.le_refl _) | with_reducible exact below_call (L2.out.alloc L2.out.size _) hb3 (Nat.le_refl _))
                       first
                         | (have NB:=Lib.hid (show Box w3 _ _ _ from by with_reducible exact NB.out.below hb3 NB.out.lt)
                            obtain ⟨n0,n1,n2,n3,n4,n5⟩:=NB.out.three)
                         | (have NB:=Lib.hid (show Box w3 _ #[.int .i64 0,.int .i64 0,.int .i64 0] 46 from by with_reducible exact (Box.new _ _ _ _ rfl).below hb3 (by simp))
                            have NL:=Lib.hid L2.out.size
                            obtain ⟨n0,n1,n2,n3,n4,n5⟩:=NB.out.three)
                         | skip
                       clear hb3)
                    | (have _g:=L1.out;clear _g;go_at_call 113;refine (csub_any pm pi 4096 4096 _ nm ni (by omega)).mono ?_;rintro e w2 ⟨rfl,hb2⟩
                       have L2:=Lib.hid (show Below wr.heap.size wr w2 from by first | with_reducible exact below_call L1.out hb2 (Nat.le_refl _) | with_reducible exact below_call (L1.out.alloc L1.out.size _) hb2 (Nat.le_refl _))
                       first
                         | (have NB:=Lib.hid (show Box w2 _ _ _ from by with_reducible exact NB.out.below hb2 NB.out.lt)
                            obtain ⟨n0,n1,n2,n3,n4,n5⟩:=NB.out.three)
                         | (have NB:=Lib.hid (show Box w2 _ #[.int .i64 0,.int .i64 0,.int .i64 0] 46 from by with_reducible exact (Box.new _ _ _ _ rfl).below hb2 (by simp))
                            have NL:=Lib.hid L1.out.size
                            obtain ⟨n0,n1,n2,n3,n4,n5⟩:=NB.out.three)
                         | skip
                       clear hb2)
                    | (go_at_call 113;refine (csub_any pj pi 4096 4096 _ nj ni (by omega)).mono ?_;rintro e w1 ⟨rfl,hb1⟩
                       have L1:=Lib.hid (show Below wr.heap.size wr w1 from by first | with_reducible exact below_call L00.out hb1 (Nat.le_refl _) | with_reducible exact below_call (L0.out.alloc L0.out.size _).drew hb1 (Nat.le_refl _))
                       first
                         | (have NB:=Lib.hid (show Box w1 _ _ _ from by with_reducible exact NB.out.below hb1 NB.out.lt)
                            obtain ⟨n0,n1,n2,n3,n4,n5⟩:=NB.out.three)
                         | (have NB:=Lib.hid (show Box w1 _ #[.int .i64 0,.int .i64 0,.int .i64 0] 46 from by with_reducible exact (Box.new _ _ _ _ rfl).drew.below hb1 (Box.new _ _ _ _ rfl).drew.lt)
                            have NL:=Lib.hid L0.out.size
                            obtain ⟨n0,n1,n2,n3,n4,n5⟩:=NB.out.three)
                         | skip
                       clear hb1))
                all_goals
                  go_wp2_with fail
                  go_meet
                all_goals first
                  | (with_reducible exact ⟨rfl,_,rfl,Lib.hid (Box.new _ _ _ _ rfl),Lib.hid (L3.out.alloc L3.out.size _),Lib.hid L3.out.size⟩)
                  | (with_reducible exact ⟨rfl,_,rfl,Lib.hid (NB.out.set3 _ _ _),Lib.hid (((L3.out.setCell NL.out _).setCell NL.out _).setCell NL.out _),Lib.hid NL.out⟩)
              case rest =>
                obtain ⟨rfl,nb,rfl,hnb,hbc,hnl⟩:=hcut
                obtain ⟨z0,zi,-⟩:=KP.out _ hbc.out
                clear hf1 KP HCR
                obtain ⟨c0,c1,c2,-⟩:=hnb.out.three
                have e46:=eq46
                by_cases hz:nn=V.zero
                · rw [hz] at c0 c1 c2
                  simp only [V.zero] at c0 c1 c2
                  have HZ:=Lib.hid hz
                  clear hz
                  go_wp2
                  trace_state
                  go_round
                  case rel=>exact ⟨m+1,by omega,rfl,(fun m' h1=>by
                    by_cases e:m'=m
                    · rw [e,HTR.out,HZ.out]
                    · exact HJ3.out m' (by omega)),below_call HR3.out hbc.out (Nat.le_refl _)⟩
                  case measure=>show j - ((m:Int)+1).toNat<j - (m:Int).toNat;omega
                · have hzz:(nn.x == 0 && nn.y == 0 && nn.z == 0)=false:=by
                    rw [Bool.eq_false_iff];intro h;simp at h;exact hz (V.ext' h.1.1 h.1.2 h.2)
                  have hmf:∀ (fn:Fn) (first cap:Array Value) (w:World),(Instr.makeFunc fn first cap).run Tryz.prog w=.ok (.func fn first cap) w:=fun _ _ _ _=>rfl
                  have HZ:=Lib.hid hz
                  clear hz
                  go_wp2_with fail
                  refine (containsPts_any 114 #[.pointer (some ⟨nb,0,none⟩),.pointer (some ⟨w.heap.size,0,none⟩),.pointer (some ⟨gi,0,none⟩)] (fun q=>V.dot nn (P q - P i) != 0) _ len cap P _ (HP.out.below (below_call HWW.out hbc.out (Nat.le_refl _))) hlen enters114 ?_).mono ?_
                  · intro w' hb' k hkl
                    have hbw:=below_call HWW.out hbc.out (Nat.le_refl _)
                    have hW1:=HWW.out.size
                    have hW2:=hbc.out.size
                    exact flat1_any (P k) nn nb w.heap.size gi _ _ _ _ len cap i P w' (hnb.out.below hb' hnb.out.lt) ((B1.out.below hbw (by have:=HS.out;omega)).below hb' (by have:=HS.out;omega))
                      ((BI.out.below (below_call HR3.out hbc.out (Nat.le_refl _)) hgi).below hb' (by have:=HR3.out.size;omega))
                      (HP.out.below (below_call (below_call HWW.out hbc.out (Nat.le_refl _)) hb' (Nat.le_refl _))) hil hlen (HN.out k hkl) (HN.out i hil) (HNL.out.mono (by omega))
                  rintro e w1 ⟨rfl,hb1⟩
                  have L1:=Lib.hid hb1
                  clear hb1
                  generalize hany:(List.range len).any (fun q=>V.dot nn (P q - P i) != 0)=an
                  have HA:=Lib.hid hany
                  clear hany
                  go_wp2
                  refine bodyPost_ret (results_tmp Tryz.results57 _ _ _) rfl ⟨⟨!an,rfl,?_⟩,below_call HB.out (below_call (below_call HWW.out hbc.out (Nat.le_refl _)) L1.out (Nat.le_refl _)) (by have:=HS.out;omega)⟩
                  rw [full4_iff_all i j m hil (by omega) (by omega) (by rw [HTR.out];exact HZ.out),HTR.out,← HA.out]
                  simp
end Go.Proofs.YtaibkpbklfodiaaGreatDoor
end
