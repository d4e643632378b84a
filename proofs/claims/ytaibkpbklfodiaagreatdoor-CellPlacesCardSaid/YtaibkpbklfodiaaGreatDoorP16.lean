/- Package cell: Check. The reference: vectors of ints. The reference: gcd, Primitive. The reference: side. The reference: Flat. Printed by gen/ref4.py. The reference: Planes. Printed by gen/ref5.py. The reference: Extreme. Printed by gen/ref6.py. The reference: Check. When a cell has no error. -/
import Derived.Test.YtaibkpbklfodiaaGreatDoorP14
import Derived.Test.YtaibkpbklfodiaaGreatDoorP15
import Derived.Test.YtaibkpbklfodiaaGreatDoorP2
import Derived.Test.YtaibkpbklfodiaaGreatDoorP1
import Derived.Laws.StructEq
set_option linter.all false
set_option maxHeartbeats 100000000
section
namespace Dowel
open Go Go.RowKit
open Go.Proofs.Υ (far iu)
open Classical in
noncomputable def iM (P:Nat→V):Nat→Nat→Option Int
 | 0,_=>none
 | f+1,i=>if far (P i)=true then some 2 else if 0<i∧¬ Lex (P (i - 1)) (P i) then some 8 else iM P f (i+1)
open Classical in
noncomputable def lA (P:Nat→V) (len:Nat):Int:=if len<4∨¬ dq P len then 23 else if ∀ v,v<len→lp P len v then 0 else 24
noncomputable def lc (P:Nat→V) (len:Nat):Int:=if 16<len then 6 else (iM P len 0).getD (lA P len)
theorem scan_far {P:Nat→V} {f i:Nat} (h:far (P i)=true):iM P (f+1) i=some 2:=by unfold iM;rw [if_pos h]
theorem mH {P:Nat→V} {f i:Nat} (h:far (P i)=false) (h2:0<i) (h3:¬ Lex (P (i - 1)) (P i)):iM P (f+1) i=some 8:=by
 unfold iM;rw [if_neg (by rw [h];decide),if_pos ⟨h2,h3⟩]
theorem jg {P:Nat→V} {f i:Nat} (h:far (P i)=false) (h3:0<i→Lex (P (i - 1)) (P i)):iM P (f+1) i=iM P f (i+1):=by
 conv=>lhs;unfold iM
 rw [if_neg (by rw [h];decide),if_neg (fun ⟨a,b⟩=>b (h3 a))]
theorem Lex.trans {a b c:V} (h1:Lex a b) (h2:Lex b c):Lex a c:=by unfold Lex at *;omega
theorem ot {P:Nat→V} {len:Nat} (hn:∀ q,q<len→far (P q)=false) (hl:∀ q,q<len→0<q→Lex (P (q - 1)) (P q)):Sorted P len:=by
 refine ⟨fun p q hpq hq=>?_,fun p hp=>(iu _).mp (hn p hp)⟩;have:∀ d,p+1+d<len→Lex (P p) (P (p+1+d)):=by
  intro d
  induction d with
  | zero=>intro h;have:=hl (p+1) ω ω;simpa using this
  | succ d ih =>
   intro h;have h1:=ih ω;have h2:=hl (p+1+(d+1)) h ω;rw [show p+1+(d+1) - 1=p+1+d by omega] at h2;exact h1.trans h2
 have e:=this (q - p - 1) ω
 rwa [show p+1+(q - p - 1)=q by omega] at e
theorem RingsOk.bit {P:Nat→V} {N E:Nat} {fs:List RF} (h:RingsOk P N fs E) (hS:Sorted P N) (hfull:fG P N) (v:Nat):E.testBit v=true↔v<N∧lp P N v:=by
 rw [h.bits.2 v,decide_eq_true_iff,extr_iff hS hfull v]
 constructor
 ·rintro ⟨f,hf,hv⟩
  obtain ⟨b,hF,_,hr⟩:=h.ok f hf;exact ⟨f.n,b,hF,hr ▸ hv⟩
 ·rintro ⟨n,b,hF,hv⟩
  obtain ⟨f,hf,ho⟩:=h.all n b hF;obtain ⟨b',hF',ho',hr⟩:=h.ok f hf;refine ⟨f,hf,?_⟩;have hv1:=(hF.ring_mem hS v).mp hv;have hm:=(aD.mp hv1.1);have e:aH P N f.n b'=aH P N n b:=by
   unfold aH;refine List.filter_congr fun i hi=>?_
   exact mask_inj _ _ N (ho'.symm.trans ho) i (List.mem_range.mp hi)
  rw [hr,hF'.ring_mem hS v];rw [e];exact hv1
theorem pop_all {N E:Nat} (hN:N≤64) (hE:∀ v,E.testBit v=true→v<N):((bA E 64).length<N)↔¬ ∀ v,v<N→E.testBit v=true:=by
 have e:bA E 64=bA E N:=jP E N 64 hN fun i h1 _=>by
  cases hb:E.testBit i
  ·rfl
  ·exact absurd (hE i hb) ω
 rw [e];unfold bA;have hl:=List.length_filter_le (fun i=>E.testBit i) (List.range N);rw [List.length_range] at hl
 constructor
 ·intro h hall
  rw [List.filter_eq_self.mpr (fun i hi=>hall i (List.mem_range.mp hi)),List.length_range] at h;omega
 ·intro h
  refine Nat.lt_of_le_of_ne hl fun he=>h fun v hv=>?_
  have:(List.range N).filter (fun i=>E.testBit i)=List.range N:=List.filter_eq_self.mpr (List.length_filter_eq_length_iff.mp (by rw [he,List.length_range]));exact List.filter_eq_self.mp this v (List.mem_range.mpr hv)
end Dowel
namespace Go.Proofs.Υ
open Go.RowKit Dowel
set_option maxRecDepth 10000 in
theorem oZ (a:Option Addr) (len cap:Nat) (P:Nat→V) (w:World) (hT:Tab w) (hP:Pts w a len cap P) (hlen:len≤4611686018427387904) :
    Calls Tryz.prog 13 #[.agg #[.slice a len cap]] w fun e w'=>e=.returned (.int .i64 (lc P len))∧Below w.heap.size w w':=by
  obtain ⟨W,hW,b1,hB,hS⟩:=aG w #[.slice a len cap] 24;obtain ⟨z0,z1⟩:=b1.one;have HT:=η (hT.below hB hT.1);have HP:=η (hP.below hB);have HB:=η hB;have HS:=η hS;have HW:=η hW;obtain ⟨res,hres⟩:∃ res,lc P len=res:=⟨_,rfl⟩;rw [hres];have HRES:=η hres;clear hT hP hB hS b1 hres;by_cases h16:16<len
  · have e:res=6:=by rw [← HRES.out];unfold lc;rw [if_pos h16]
    subst e
    go_enter Tryz.func13,Tryz.ntmps13
    go_wp2;exact bodyPost_ret (results_tmp Tryz.results13 _ _ _) rfl ⟨rfl,HB.out⟩
  have hl16:len≤16:=ω;have HR:Hid ((iM P len 0).getD (lA P len)=res):=by
    rw [← HRES.out];unfold lc;rw [if_neg h16];exact rfl
  clear h16
  go_enter Tryz.func13,Tryz.ntmps13
  go_wp2_with fail
  go_loopw [16] (fun iv wr=>∃ k,k≤len∧iv=.int .i64 (k:Nat)∧Hid (iM P len 0=iM P (len - k) k)∧Hid (∀ q,q<k→far (P q)=false∧(0<q→Lex (P (q - 1)) (P q)))∧Hid (Below W.heap.size W wr)) (fun iv _=>len - (intOf iv).toNat)
  case atStart=>exact ⟨0,Nat.zero_le _,rfl,by exact rfl,(fun q hq=>by omega),Below.refl _ _⟩
  case round =>
    obtain ⟨k,hk,rfl,HSC,HG,HR2⟩:=hrel;by_cases h0:k=len
    · have hsc:iM P len 0=none:=by rw [HSC.out,h0,Nat.sub_self];rfl
      have htl:lA P len=res:=by rw [← HR.out,hsc];rfl
      have hsort:Sorted P len:=ot (fun q hq=>(HG.out q ω).1) (fun q hq=>(HG.out q ω).2);have HTL:=η htl;have HSO:=η hsort;have hn:¬ (k:Int)<(len:Int):=ω;clear h0 hsc htl hsort;by_cases h4:len<4
      · have e:res=23:=by rw [← HTL.out];unfold lA;rw [if_pos (Or.inl h4)]
        subst e;have hd:(len:Int)<4:=ω;go_wp2;exact bodyPost_ret (results_tmp Tryz.results13 _ _ _) rfl ⟨rfl,ae HB.out HR2.out (ψ HS.out)⟩
      · have hd:¬ (len:Int)<4:=ω
        go_wp2_with fail
        refine (cflat_any a len cap P wr (HP.out.below HR2.out) ω (fun i hi=>(HSO.out.near i hi).le)).mono ?_;rintro e w2 ⟨⟨fl,rfl,hfl⟩,hb2⟩;have H2:=η (ae HR2.out hb2 ρ);clear hb2;cases fl
        · have hf4:dq P len:=Classical.byContradiction fun hc=>absurd (hfl.mpr hc) ν
          have HF:=η hf4;clear hfl hf4
          go_wp2_with fail
          refine (ox a len cap P w2 (HT.out.below H2.out HT.out.1) (HP.out.below H2.out) ω (fun i hi=>(HSO.out.near i hi).le) HSO.out HF.out.full).mono ?_;rintro e w3 ⟨⟨pv,rv,fs,E,rfl,-,-,-,hok⟩,hb3⟩;have H3:=η (ae H2.out hb3 ρ);clear hb3;have hbit:=fun v=>hok.bit HSO.out HF.out.full v
          have hE:=pop_all (N:=len) (E:=E) ω (fun v hv=>((hbit v).mp hv).1);have hE64:=hok.bits.1;have hres:res=if (bA E 64).length<len then 24 else 0:=by
            rw [← HTL.out];unfold lA;rw [if_neg (by rintro (h | h);exact h4 h;exact h HF.out)];by_cases hx:(bA E 64).length<len
            · rw [if_pos hx,if_neg (fun hall=>hE.mp hx fun v hv=>(hbit v).mpr ⟨hv,hall v hv⟩)]
            · rw [if_neg hx,if_pos]
              intro v hv;exact ((hbit v).mp (Classical.byContradiction (fun hc=>hx (hE.mpr fun hall=>hc (hall v hv))))).2
          have HRS:=η hres;clear hok hbit hE hres;obtain ⟨m,hm⟩:∃ m,(bA E 64).length=m:=⟨_,rfl⟩;have hones:=ones_any E w3 hE64;rw [hm] at hones HRS;have HO:=η hones;clear hones hm
          go_wp2_with fail
          refine HO.out.mono ?_;rintro e w4 ⟨rfl,rfl⟩;by_cases hml:m<len
          · have e:res=24:=by rw [HRS.out,if_pos hml]
            subst e;have hd2:(m:Int)<(len:Int):=ω;go_wp2;exact bodyPost_ret (results_tmp Tryz.results13 _ _ _) rfl ⟨rfl,ae HB.out H3.out (ψ HS.out)⟩
          · have e:res=0:=by rw [HRS.out,if_neg hml]
            subst e;have hd2:¬ (m:Int)<(len:Int):=ω;go_wp2;exact bodyPost_ret (results_tmp Tryz.results13 _ _ _) rfl ⟨rfl,ae HB.out H3.out (ψ HS.out)⟩
        · have e:res=23:=by rw [← HTL.out];unfold lA;rw [if_pos (Or.inr (hfl.mp rfl))]
          subst e;go_wp2;exact bodyPost_ret (results_tmp Tryz.results13 _ _ _) rfl ⟨rfl,ae HB.out H2.out (ψ HS.out)⟩
    · have hkl:k<len:=ω
      obtain ⟨b,off,rfl,hb,hc,hcc⟩:=(HP.out.below HR2.out).cells ω;obtain ⟨q0,q1,q2⟩:=hcc k hkl;have hlt:(k:Int)<(len:Int):=ω;have HKL:=η hkl;have HQ:=η hcc;clear hcc h0
      go_wp2_with fail
      obtain ⟨W2,hW2,b2,hB2,hS2⟩:=aG wr #[.int .i64 (P k).x,.int .i64 (P k).y,.int .i64 (P k).z] 46;rw [hW2];refine (outside_any (P k) W2).mono ?_;rintro e w3 ⟨rfl,hb3⟩;have hR3:Below W.heap.size W w3:=ae (ae HR2.out hB2 ρ) hb3 ρ;have b3:=b2.below hb3 b2.lt;have hb3':b<w3.heap.size:=by have:=hB2.size;have:=hb3.size;omega
      have HB3:=η b3;have HR3:=η hR3;have hw23:Below wr.heap.size wr w3:=ae hB2 hb3 ρ;have HW23:=η hw23;clear hb3 hR3 b3 b2 hB2 hS2 hW2 hw23;cases hfar:far (P k)
      · have HFA:=η hfar
        clear hfar;by_cases hk0:k=0
        · subst hk0
          have ht:(decide (((0:Nat):Int) > 0))=false:=by decide
          go_wp2_with fail
          go_quiet (fail)
          go_wp2;go_round
          case rel=>exact ⟨1,by have:=HKL.out;omega,rfl,(by
            show _=_
            rw [HSC.out,show len - 0=(len - 1)+1 by have:=HKL.out;omega,jg HFA.out (fun h=>by omega)]),(fun q hq=>by
              have:q=0:=ω;subst this;exact ⟨HFA.out,fun h=>by omega⟩),aJ HR3.out _⟩
          case measure=>show len - ((0:Int)+1).toNat<len - (0:Int).toNat;have:=HKL.out;omega
        · obtain ⟨j,rfl⟩:∃ j,k=j+1:=⟨k - 1,by omega⟩
          obtain ⟨p0,p1,p2⟩:=HQ.out j ω;obtain ⟨s0,s1,s2,-⟩:=HB3.out.three;have r0:=keepC p0 HW23.out hb;have r1:=keepC p1 HW23.out hb;have r2:=keepC p2 HW23.out hb;have hcm:=η (fun v=>corder_any (P j) (P (j+1)) v);have hlx:=cmpV_lt (P j) (P (j+1));have HLX:=η hlx;generalize hpk:P (j+1)=pk at *;generalize hpj:P j=pj at *;have HPK:=η hpk;have HPJ:=η hpj;have hgw:=HB3.out.lt;have KP:Hid (∀ w',Below w3.heap.size w3 w'→w'.cell? ⟨wr.heap.size,0,none⟩=some (.int .i64 pk.x)∧w'.cell? ⟨wr.heap.size,1,none⟩=some (.int .i64 pk.y)∧w'.cell? ⟨wr.heap.size,2,none⟩=some (.int .i64 pk.z)∧w'.cell? ⟨b,off+j*3,none⟩=some (.int .i64 pj.x)∧w'.cell? ⟨b,off+j*3+1,none⟩=some (.int .i64 pj.y)∧w'.cell? ⟨b,off+j*3+2,none⟩=some (.int .i64 pj.z)):=fun w' h =>
            ⟨keepC s0 h hgw,keepC s1 h hgw,keepC s2 h hgw,keepC r0 h hb3',keepC r1 h hb3',keepC r2 h hb3'⟩
          have L0:=η (Below.refl w3.heap.size w3);have L00:Hid (Below w3.heap.size w3 w3.drew):=L0.out.drew;have hf1:=KP.out _ L0.out;have hjl:((j:Nat):Int)<(len:Int):=ω;have hj64:j≤64:=ω;have hwj:wrap64 (j:Int)=(j:Int):=IntWalk.wrap64_in _ ⟨by omega,by omega⟩;have hwj2:IntKind.i64.wrap (j:Int)=(j:Int):=IntWalk.i64_in _ ω;have hj0:(0:Int)≤(j:Int):=ω;have ht:(decide (((j+1:Nat):Int) > 0))=true:=decide_eq_true ω;obtain ⟨cm,hcv⟩:∃ cm,cmpV pj pk=cm:=⟨_,rfl⟩;rw [hcv] at hcm;have HCV:=η hcv;clear p0 p1 p2 r0 r1 r2 s0 s1 s2 q0 q1 q2 hpk hpj hlx hcv
          go_wp2_with fail
          go_region_held3 (fun w'=>w'.cell? ⟨wr.heap.size,0,none⟩=some (.int .i64 pk.x)∧w'.cell? ⟨wr.heap.size,1,none⟩=some (.int .i64 pk.y)∧w'.cell? ⟨wr.heap.size,2,none⟩=some (.int .i64 pk.z)∧w'.cell? ⟨b,off+j*3,none⟩=some (.int .i64 pj.x)∧w'.cell? ⟨b,off+j*3+1,none⟩=some (.int .i64 pj.y)∧w'.cell? ⟨b,off+j*3+2,none⟩=some (.int .i64 pj.z))
            (first | with_reducible exact (KP.out _ L1.out) | with_reducible exact (KP.out _ L00.out))
            (first
              | (go_at_call 56;refine (hcm.out _).mono ?_;rintro e w4 ⟨rfl,hb4⟩
                 have L1:Hid (Below w3.heap.size w3 w4):=ae L00.out hb4 ρ;clear hb4))
          by_cases h9:0≤cm
          · have e:res=8:=by
              rw [← HR.out,HSC.out,show len - (j+1)=(len - (j+1) - 1)+1 by have:=HKL.out;omega]
              rw [mH (by rw [HPK.out];exact HFA.out) ω (by
                show ¬ Lex (P j) (P (j+1));rw [HPK.out,HPJ.out,← HLX.out,HCV.out];omega)];rfl
            subst e;go_wp2;exact bodyPost_ret (results_tmp Tryz.results13 _ _ _) rfl ⟨rfl,ae HB.out (ae HR3.out L1.out ρ) (ψ HS.out)⟩
          · have hx:Lex (P j) (P (j+1)):=by rw [HPK.out,HPJ.out,← HLX.out,HCV.out];omega
            have HX:=η hx;clear hx;go_wp2;go_round
            case rel=>exact ⟨j+2,by have:=HKL.out;omega,rfl,(by
              show _=_
              rw [HSC.out,show len - (j+1)=(len - (j+2))+1 by have:=HKL.out;omega,jg (by rw [HPK.out];exact HFA.out) (fun _=>HX.out)]),(fun q hq=>by
                by_cases hqj:q=j+1
                · subst hqj;exact ⟨by rw [HPK.out];exact HFA.out,fun _=>HX.out⟩
                · exact HG.out q ω),ae HR3.out L1.out ρ⟩
            case measure=>show len - (((j+1:Nat):Int)+1).toNat<len - ((j+1:Nat):Int).toNat;have:=HKL.out;omega
      · have e:res=2:=by
          rw [← HR.out,HSC.out,show len - k=(len - k - 1)+1 by omega,scan_far hfar];rfl
        subst e;go_wp2;exact bodyPost_ret (results_tmp Tryz.results13 _ _ _) rfl ⟨rfl,ae HB.out HR3.out (ψ HS.out)⟩
end Go.Proofs.Υ
end

section
namespace Go.Proofs.Υ
open Go.RowKit Dowel
theorem fW (a b:V) (k l:Int) (w:World) (ha:LeV k a) (hb:LeV l b) (hk:k*l≤2000000000000000000) :
  Calls Tryz.prog 16 #[bX a,bX b] w fun e w'=>e=.returned (.int .i64 (V.dot a b))∧Below w.heap.size w w':=by
 obtain ⟨W,hW,b1,b2,hB,hS⟩:=da w #[.int .i64 a.x,.int .i64 a.y,.int .i64 a.z] #[.int .i64 b.x,.int .i64 b.y,.int .i64 b.z] 46 46;obtain ⟨x0,x1,x2,-⟩:=b1.three;obtain ⟨y0,y1,y2,-⟩:=b2.three;have h1:=ha.1.mul hb.1;have h2:=ha.2.1.mul hb.2.1;have h3:=ha.2.2.mul hb.2.2;unfold Le at h1 h2 h3;have w1:wrap64 (a.x*b.x)=a.x*b.x:=IntWalk.wrap64_in _ ⟨by omega,by omega⟩;have w2:wrap64 (a.y*b.y)=a.y*b.y:=IntWalk.wrap64_in _ ⟨by omega,by omega⟩;have w3:wrap64 (a.z*b.z)=a.z*b.z:=IntWalk.wrap64_in _ ⟨by omega,by omega⟩;have w4:wrap64 (a.x*b.x+a.y*b.y)=a.x*b.x+a.y*b.y:=IntWalk.wrap64_in _ ⟨by omega,by omega⟩;have w5:wrap64 (a.x*b.x+a.y*b.y+a.z*b.z)=a.x*b.x+a.y*b.y+a.z*b.z:=IntWalk.wrap64_in _ ⟨by omega,by omega⟩;clear ha hb hk b1 b2 hS h1 h2 h3;unfold bX V.dot
 go_enter Tryz.func16,Tryz.ntmps16
 go_wp2;exact bodyPost_ret (results_tmp Tryz.results16 _ _ _) rfl ⟨by show _=Ending.returned (Value.int IntKind.i64 _);rw [w5];rfl,hB⟩
theorem iN (a b:V) (k l:Int) (w:World) (ha:LeV k a) (hb:LeV l b) (hk:k+l≤2000000000000000000) :
  Calls Tryz.prog 83 #[bX a,bX b] w fun e w'=>e=.returned (bX (a - b))∧Below w.heap.size w w':=by
 obtain ⟨W,hW,b1,b2,b3,hB,hS⟩:=cW w #[.int .i64 a.x,.int .i64 a.y,.int .i64 a.z] #[.int .i64 b.x,.int .i64 b.y,.int .i64 b.z] #[.int .i64 0,.int .i64 0,.int .i64 0] 46 46 46;obtain ⟨x0,x1,x2,-⟩:=b1.three;obtain ⟨y0,y1,y2,-⟩:=b2.three;obtain ⟨z0,z1,z2,z3,z4,z5⟩:=b3.three;unfold LeV Le at ha hb;have w1:wrap64 (a.x - b.x)=a.x - b.x:=IntWalk.wrap64_in _ ⟨by omega,by omega⟩;have w2:wrap64 (a.y - b.y)=a.y - b.y:=IntWalk.wrap64_in _ ⟨by omega,by omega⟩;have w3:wrap64 (a.z - b.z)=a.z - b.z:=IntWalk.wrap64_in _ ⟨by omega,by omega⟩;have B3:=η b3;clear ha hb hk b1 b2 b3 hS;unfold bX;simp only [V.sub_x,V.sub_y,V.sub_z]
 go_enter Tryz.func83,Tryz.ntmps83
 go_wp2;refine aS Tryz.results83 (w.heap.size+2) (B3.out.set3 (.int .i64 (a.x - b.x)) (.int .i64 (a.y - b.y)) (.int .i64 (a.z - b.z))) _ rfl Tryz.underlying46 rfl mZ rfl
  ⟨rfl,ew hB ω _ _ _⟩
theorem mM (a b:V) (k l:Int) (w:World) (ha:LeV k a) (hb:LeV l b) (hk:k*l≤2000000000000000000) :
  Calls Tryz.prog 98 #[bX a,bX b] w fun e w'=>e=.returned (bX (V.cross a b))∧Below w.heap.size w w':=by
 obtain ⟨W,hW,b1,b2,b3,hB,hS⟩:=cW w #[.int .i64 a.x,.int .i64 a.y,.int .i64 a.z] #[.int .i64 b.x,.int .i64 b.y,.int .i64 b.z] #[.int .i64 0,.int .i64 0,.int .i64 0] 46 46 46;obtain ⟨x0,x1,x2,-⟩:=b1.three;obtain ⟨y0,y1,y2,-⟩:=b2.three;obtain ⟨z0,z1,z2,z3,z4,z5⟩:=b3.three;have h1:=ha.1.mul hb.2.1;have h2:=ha.1.mul hb.2.2;have h3:=ha.2.1.mul hb.1;have h4:=ha.2.1.mul hb.2.2;have h5:=ha.2.2.mul hb.1;have h6:=ha.2.2.mul hb.2.1;unfold Le at h1 h2 h3 h4 h5 h6;have u1:wrap64 (a.y*b.z)=a.y*b.z:=IntWalk.wrap64_in _ ⟨by omega,by omega⟩;have u2:wrap64 (a.z*b.y)=a.z*b.y:=IntWalk.wrap64_in _ ⟨by omega,by omega⟩;have u3:wrap64 (a.z*b.x)=a.z*b.x:=IntWalk.wrap64_in _ ⟨by omega,by omega⟩;have u4:wrap64 (a.x*b.z)=a.x*b.z:=IntWalk.wrap64_in _ ⟨by omega,by omega⟩;have u5:wrap64 (a.x*b.y)=a.x*b.y:=IntWalk.wrap64_in _ ⟨by omega,by omega⟩;have u6:wrap64 (a.y*b.x)=a.y*b.x:=IntWalk.wrap64_in _ ⟨by omega,by omega⟩;have w1:wrap64 (a.y*b.z - a.z*b.y)=a.y*b.z - a.z*b.y:=IntWalk.wrap64_in _ ⟨by omega,by omega⟩;have w2:wrap64 (a.z*b.x - a.x*b.z)=a.z*b.x - a.x*b.z:=IntWalk.wrap64_in _ ⟨by omega,by omega⟩;have w3:wrap64 (a.x*b.y - a.y*b.x)=a.x*b.y - a.y*b.x:=IntWalk.wrap64_in _ ⟨by omega,by omega⟩;have B3:=η b3;clear ha hb hk b1 b2 b3 hS h1 h2 h3 h4 h5 h6;unfold bX V.cross;dsimp only
 go_enter Tryz.func98,Tryz.ntmps98
 go_wp2;refine aS Tryz.results98 (w.heap.size+2) (B3.out.set3 (.int .i64 (a.y*b.z - a.z*b.y)) (.int .i64 (a.z*b.x - a.x*b.z)) (.int .i64 (a.x*b.y - a.y*b.x))) _ rfl Tryz.underlying46 rfl mZ rfl
  ⟨rfl,ew hB ω _ _ _⟩
theorem rdet_any (a b c:V) (k:Int) (w:World) (ha:LeV k a) (hb:LeV k b) (hc:LeV k c) (hk:0≤k∧k≤10000) :
    Calls Tryz.prog 77 #[bX a,bX b,bX c] w fun e w'=>e=.returned (.int .i64 (V.dot a (V.cross b c)))∧Below w.heap.size w w':=by
  obtain ⟨W,hW,b1,b2,b3,hB,hS⟩:=cW w #[.int .i64 a.x,.int .i64 a.y,.int .i64 a.z] #[.int .i64 b.x,.int .i64 b.y,.int .i64 b.z] #[.int .i64 c.x,.int .i64 c.y,.int .i64 c.z] 46 46 46;obtain ⟨x0,x1,x2,-⟩:=b1.three;obtain ⟨y0,y1,y2,-⟩:=b2.three;obtain ⟨z0,z1,z2,-⟩:=b3.three;have hkk:k*k≤100000000:=Int.le_trans (Int.mul_le_mul hk.2 hk.2 hk.1 ω) ω;have hkp:0≤k*k:=Int.mul_nonneg hk.1 hk.1;have HCR:=η (fun v=>mM b c k k v hb hc ω);have hcr:=hb.cross hc;have hcr2:LeV 200000000 (V.cross b c):=hcr.mono ω;have ha2:LeV 10000 a:=ha.mono hk.2;have HDT:=η (fun v=>fW a (V.cross b c) 10000 200000000 v ha2 hcr2 ω);have HB:=η hB;have HS:=η hS;have HW:=η hW;have l0:w.heap.size<W.heap.size:=ω;have l1:w.heap.size+1<W.heap.size:=ω;have l2:w.heap.size+2<W.heap.size:=ω;have KP:Hid (∀ w',Below W.heap.size W w'→w'.cell? ⟨w.heap.size,0,none⟩=some (.int .i64 a.x)∧w'.cell? ⟨w.heap.size,1,none⟩=some (.int .i64 a.y)∧w'.cell? ⟨w.heap.size,2,none⟩=some (.int .i64 a.z) ∧
      w'.cell? ⟨w.heap.size+1,0,none⟩=some (.int .i64 b.x)∧w'.cell? ⟨w.heap.size+1,1,none⟩=some (.int .i64 b.y)∧w'.cell? ⟨w.heap.size+1,2,none⟩=some (.int .i64 b.z) ∧
      w'.cell? ⟨w.heap.size+2,0,none⟩=some (.int .i64 c.x)∧w'.cell? ⟨w.heap.size+2,1,none⟩=some (.int .i64 c.y)∧w'.cell? ⟨w.heap.size+2,2,none⟩=some (.int .i64 c.z)):=fun w' h =>
    ⟨keepC x0 h l0,keepC x1 h l0,keepC x2 h l0,keepC y0 h l1,keepC y1 h l1,keepC y2 h l1,keepC z0 h l2,keepC z1 h l2,keepC z2 h l2⟩
  have L0:=η (Below.refl W.heap.size W);have L00:Hid (Below W.heap.size W W.drew):=L0.out.drew;have hf1:=KP.out _ L0.out;clear ha hb hc hk hkk hkp hcr hcr2 ha2 b1 b2 b3 hS hB hW l0 l1 l2 x0 x1 x2 y0 y1 y2 z0 z1 z2;unfold bX;generalize V.cross b c=d at *
  go_enter Tryz.func77,Tryz.ntmps77
  go_wp2_with fail
  rw [HW.out]
  go_region_held3 (fun w'=>w'.cell? ⟨w.heap.size,0,none⟩=some (.int .i64 a.x)∧w'.cell? ⟨w.heap.size,1,none⟩=some (.int .i64 a.y)∧w'.cell? ⟨w.heap.size,2,none⟩=some (.int .i64 a.z) ∧
      w'.cell? ⟨w.heap.size+1,0,none⟩=some (.int .i64 b.x)∧w'.cell? ⟨w.heap.size+1,1,none⟩=some (.int .i64 b.y)∧w'.cell? ⟨w.heap.size+1,2,none⟩=some (.int .i64 b.z) ∧
      w'.cell? ⟨w.heap.size+2,0,none⟩=some (.int .i64 c.x)∧w'.cell? ⟨w.heap.size+2,1,none⟩=some (.int .i64 c.y)∧w'.cell? ⟨w.heap.size+2,2,none⟩=some (.int .i64 c.z))
    (first | with_reducible exact (KP.out _ L2.out) | with_reducible exact (KP.out _ L1.out) | with_reducible exact (KP.out _ L00.out))
    (first
      | (have _g:=L1.out;clear _g;go_at_call 16;refine (HDT.out _).mono ?_;rintro e w2 ⟨rfl,hb2⟩
         have L2:Hid (Below W.heap.size W w2):=ae L1.out hb2 ρ;clear hb2)
      | (go_at_call 98;refine (HCR.out _).mono ?_;rintro e w1 ⟨rfl,hb1⟩
         have L1:Hid (Below W.heap.size W w1):=ae L00.out hb1 ρ;clear hb1))
  go_wp2;exact bodyPost_ret (results_tmp Tryz.results77 _ _ _) rfl ⟨rfl,ae HB.out L2.out (ψ HS.out)⟩
theorem inRange_any (p:V) (w:World) :
  Calls Tryz.prog 48 #[bX p] w fun e w'=>e=.returned (.bool (!far p))∧Below w.heap.size w w':=by
 unfold bX;obtain ⟨W,hW,b1,hB,hS⟩:=aG w #[.int .i64 p.x,.int .i64 p.y,.int .i64 p.z] 46;obtain ⟨x0,x1,x2,-⟩:=b1.three;have HB:=η hB;clear b1 hB hS
 go_enter Tryz.func48,Tryz.ntmps48
 go_wp2_with fail
 refine aP.loop 5 ?_;refine aP.next (fun K hK=>?_);by_cases hx1:p.x < -4096
 ·have H:=η hx1
  go_wp2;exact bodyPost_ret (results_tmp Tryz.results48 _ _ _) rfl ⟨by
   rw [show far p=true from by have:=H.out;simp only [far,bad,Bool.or_eq_true,decide_eq_true_eq];omega];rfl,HB.out⟩
 by_cases hx2:p.x > 4096
 ·have H:=η hx2
  go_wp2;exact bodyPost_ret (results_tmp Tryz.results48 _ _ _) rfl ⟨by
   rw [show far p=true from by have:=H.out;simp only [far,bad,Bool.or_eq_true,decide_eq_true_eq];omega];rfl,HB.out⟩
 go_wp2_with fail
 have Hx1:=η hx1;have Hx2:=η hx2;clear hx1 hx2;refine aP.next (fun K hK=>?_);by_cases hy1:p.y < -4096
 ·have H:=η hy1
  go_wp2;exact bodyPost_ret (results_tmp Tryz.results48 _ _ _) rfl ⟨by
   rw [show far p=true from by have:=H.out;simp only [far,bad,Bool.or_eq_true,decide_eq_true_eq];omega];rfl,HB.out⟩
 by_cases hy2:p.y > 4096
 ·have H:=η hy2
  go_wp2;exact bodyPost_ret (results_tmp Tryz.results48 _ _ _) rfl ⟨by
   rw [show far p=true from by have:=H.out;simp only [far,bad,Bool.or_eq_true,decide_eq_true_eq];omega];rfl,HB.out⟩
 go_wp2_with fail
 have Hy1:=η hy1;have Hy2:=η hy2;clear hy1 hy2;refine aP.next (fun K hK=>?_);by_cases hz1:p.z < -4096
 ·have H:=η hz1
  go_wp2;exact bodyPost_ret (results_tmp Tryz.results48 _ _ _) rfl ⟨by
   rw [show far p=true from by have:=H.out;simp only [far,bad,Bool.or_eq_true,decide_eq_true_eq];omega];rfl,HB.out⟩
 by_cases hz2:p.z > 4096
 ·have H:=η hz2
  go_wp2;exact bodyPost_ret (results_tmp Tryz.results48 _ _ _) rfl ⟨by
   rw [show far p=true from by have:=H.out;simp only [far,bad,Bool.or_eq_true,decide_eq_true_eq];omega];rfl,HB.out⟩
 go_wp2_with fail
 have Hz1:=η hz1;have Hz2:=η hz2;clear hz1 hz2;refine aP.next (fun K hK=>?_);go_wp2;exact bodyPost_ret (results_tmp Tryz.results48 _ _ _) rfl ⟨by
  rw [show far p=false from (iu p).mpr (by have:=Hx1.out;have:=Hx2.out;have:=Hy1.out;have:=Hy2.out;have:=Hz1.out;have:=Hz2.out;unfold jc;omega)];rfl,HB.out⟩
theorem rless_any (a b:V) (w:World) :
  Calls Tryz.prog 49 #[bX a,bX b] w fun e w'=>eS e (Lex a b)∧Below w.heap.size w w':=by
 unfold bX;obtain ⟨W,hW,b1,b2,hB,hS⟩:=da w #[.int .i64 a.x,.int .i64 a.y,.int .i64 a.z] #[.int .i64 b.x,.int .i64 b.y,.int .i64 b.z] 46 46;obtain ⟨x0,x1,x2,-⟩:=b1.three;obtain ⟨y0,y1,y2,-⟩:=b2.three;have HB:=η hB;clear b1 b2 hB hS
 go_enter Tryz.func49,Tryz.ntmps49
 go_wp2_with fail
 refine aP.loop 5 ?_;refine aP.next (fun K hK=>?_);by_cases hx:a.x=b.x
 case neg =>
  have H:=η hx;have hne:(a.x != b.x)=true:=bne_iff_ne.mpr hx
  go_wp2_with fail
  go_quiet (fail)
  go_wp2_with fail
  go_quiet (fail)
  go_wp2;exact bodyPost_ret (results_tmp Tryz.results49 _ _ _) rfl ⟨⟨decide (a.x<b.x),rfl,by
   have:=H.out;unfold Lex;rw [decide_eq_true_iff];omega⟩,by repeat (first | exact HB.out | refine aJ ?_ _)⟩
 case pos =>
 have heq:(a.x != b.x)=false:=by rw [hx];exact bne_self_eq_false _
 have Hx:=η hx;clear hx
 go_wp2_with fail
 go_quiet (fail)
 go_wp2_with fail
 clear heq;refine aP.next (fun K hK=>?_);by_cases hy:a.y=b.y
 case neg =>
  have H:=η hy;have hne:(a.y != b.y)=true:=bne_iff_ne.mpr hy
  go_wp2_with fail
  go_quiet (fail)
  go_wp2_with fail
  go_quiet (fail)
  go_wp2;exact bodyPost_ret (results_tmp Tryz.results49 _ _ _) rfl ⟨⟨decide (a.y<b.y),rfl,by
   have:=H.out;have:=Hx.out;unfold Lex;rw [decide_eq_true_iff];omega⟩,by repeat (first | exact HB.out | refine aJ ?_ _)⟩
 case pos =>
 have heq:(a.y != b.y)=false:=by rw [hy];exact bne_self_eq_false _
 have Hy:=η hy;clear hy
 go_wp2_with fail
 go_quiet (fail)
 go_wp2_with fail
 clear heq;refine aP.next (fun K hK=>?_);by_cases hz:a.z=b.z
 case neg =>
  have H:=η hz;have hne:(a.z != b.z)=true:=bne_iff_ne.mpr hz
  go_wp2_with fail
  go_quiet (fail)
  go_wp2_with fail
  go_quiet (fail)
  go_wp2;exact bodyPost_ret (results_tmp Tryz.results49 _ _ _) rfl ⟨⟨decide (a.z<b.z),rfl,by
   have:=H.out;have:=Hx.out;have:=Hy.out;unfold Lex;rw [decide_eq_true_iff];omega⟩,by repeat (first | exact HB.out | refine aJ ?_ _)⟩
 case pos =>
 have heq:(a.z != b.z)=false:=by rw [hz];exact bne_self_eq_false _
 have Hz:=η hz;clear hz
 go_wp2_with fail
 go_quiet (fail)
 go_wp2_with fail
 clear heq;refine aP.next (fun K hK=>?_);go_wp2;exact bodyPost_ret (results_tmp Tryz.results49 _ _ _) rfl ⟨eS.no (by have:=Hx.out;have:=Hy.out;have:=Hz.out;unfold Lex;omega),by repeat (first | exact HB.out | refine aJ ?_ _)⟩
end Go.Proofs.Υ
end

section
namespace Go.Proofs.Υ
open Go.RowKit Dowel
theorem rgcd_any (a b:Int) (w:World) (ha:-1000000000≤a∧a≤1000000000) (hb:-1000000000≤b∧b≤1000000000) :
  Calls Tryz.prog 130 #[.int .i64 a,.int .i64 b] w fun e w'=>e=.returned (.int .i64 (Nat.gcd a.natAbs b.natAbs:Nat))∧Below w.heap.size w w':=by
 have HX:Hid (a.natAbs≤1000000000∧b.natAbs≤1000000000):=⟨by omega,by omega⟩;have wa:wrap64 (0 - a)=0 - a:=IntWalk.wrap64_in _ ⟨by omega,by omega⟩;have wb:wrap64 (0 - b)=0 - b:=IntWalk.wrap64_in _ ⟨by omega,by omega⟩;have WA:Hid (wrap64 (-a)=-a):=IntWalk.wrap64_in _ ⟨by omega,by omega⟩;have WB:Hid (wrap64 (-b)=-b):=IntWalk.wrap64_in _ ⟨by omega,by omega⟩;clear ha hb
 go_enter Tryz.func130,Tryz.ntmps130
 obtain ⟨h1,h1e⟩ | ⟨h1,h1e⟩:(a<0∧-a=(a.natAbs:Nat))∨(¬ a<0∧a=(a.natAbs:Nat)):=ω
 all_goals
  obtain ⟨h2,h2e⟩ | ⟨h2,h2e⟩:(b<0∧-b=(b.natAbs:Nat))∨(¬ b<0∧b=(b.natAbs:Nat)):=ω
 all_goals
  have H1:=η h1e;have H2:=η h2e;clear h1e h2e
  go_wp2_with fail
  go_loopw [0,1] (fun v u wr=>∃ x y:Nat,v=.int .i64 (x:Int)∧u=.int .i64 (y:Int)∧Hid (Nat.gcd x y=Nat.gcd a.natAbs b.natAbs)∧Hid (x≤1000000000∧y≤1000000000)∧Hid (Below w.heap.size w wr)) (fun _ u _=>(intOf u).toNat)
  case atStart=>exact ⟨a.natAbs,b.natAbs,by first | exact congrArg (Value.int IntKind.i64) (WA.out.trans H1.out) | exact congrArg (Value.int IntKind.i64) H1.out,by first | exact congrArg (Value.int IntKind.i64) (WB.out.trans H2.out) | exact congrArg (Value.int IntKind.i64) H2.out,by exact rfl,HX.out,Below.refl _ _⟩
  case round =>
   obtain ⟨x,y,rfl,rfl,HG,HL,HB⟩:=hrel;clear h1 h2 H1 H2 wa wb;by_cases h0:y=0
   ·have H0:=η h0
    subst h0;go_wp2;exact bodyPost_ret (results_tmp Tryz.results130 _ _ _) rfl ⟨by rw [← HG.out,Nat.gcd_zero_right];rfl,HB.out⟩
   ·have H0:=η h0
    have hn:¬ (y:Int)=0:=ω;have hm:Int.tmod (x:Int) (y:Int)=((x % y:Nat):Int):=rfl;have hne:((y:Int) != 0)=true:=bne_iff_ne.mpr hn;have hm2:Int.tmod (x:Int) (y:Int)=((x:Int) % (y:Int)):=rfl;have hw:wrap64 (Int.tmod (x:Int) (y:Int))=((x % y:Nat):Int):=by rw [hm];exact IntWalk.wrap64_in _ ⟨by omega,by have:=Nat.mod_le x y;have:=HL.out;omega⟩
    go_wp2_with fail
    go_region;go_wp2
    go_round
    case rel=>exact ⟨y,x % y,rfl,rfl,(by show Nat.gcd y (x % y)=_;rw [← HG.out,Nat.gcd_comm y,← Nat.gcd_rec,Nat.gcd_comm]),⟨HL.out.2,by have:=Nat.mod_le x y;have:=HL.out;omega⟩,aJ HB.out _⟩
    case measure=>show (((x % y:Nat):Int)).toNat<((y:Int)).toNat;have:=Nat.mod_lt x (show 0<y from by have:=H0.out;omega);omega
theorem rprim_any (a:V) (w:World) (ha:LeV 1000000000 a) (h0:a≠V.zero) :
    Calls Tryz.prog 82 #[bX a] w fun e w'=>e=.returned (bX (aQ a))∧Below w.heap.size w w':=by
  obtain ⟨W,hW,b1,b2,hB,hS⟩:=da w #[.int .i64 a.x,.int .i64 a.y,.int .i64 a.z] #[.int .i64 0,.int .i64 0,.int .i64 0] 46 46;obtain ⟨hx,hy,hz⟩:=ha;unfold Le at hx hy hz;have hG1:=fun v=>rgcd_any a.x a.y v hx hy
  have hg1:Nat.gcd a.x.natAbs a.y.natAbs≤1000000000:=by
    by_cases h:a.x.natAbs=0
    · rw [h,Nat.gcd_zero_left];omega
    · exact Nat.le_trans (Nat.gcd_le_left _ ω) ω
  have hG2:=fun v=>rgcd_any (Nat.gcd a.x.natAbs a.y.natAbs:Nat) a.z v ω hz
  rw [Int.natAbs_natCast] at hG2;have hgp:=eO h0;have hgV:cx a=Nat.gcd (Nat.gcd a.x.natAbs a.y.natAbs) a.z.natAbs:=rfl;rw [← hgV] at hG2;have hg2:cx a≤1000000000:=by
    have:=Nat.gcd_le_left a.z.natAbs (m:=Nat.gcd a.x.natAbs a.y.natAbs);rw [← hgV] at this;by_cases h:Nat.gcd a.x.natAbs a.y.natAbs=0
    · rw [hgV,h,Nat.gcd_zero_left];omega
    · exact Nat.le_trans (this ω) hg1
  have tx:=jd (cx a) hx ω;have ty:=jd (cx a) hy ω;have tz:=jd (cx a) hz ω;have HG1:=η hG1;have HG2:=η hG2;obtain ⟨x0,x1,x2,-⟩:=b1.three;have B2:=η b2;have HB:=η hB;have HS:=η hS;have l0:w.heap.size<W.heap.size:=ω;have l1:w.heap.size+1<W.heap.size:=ω;have KP:Hid (∀ w',Below W.heap.size W w'→w'.cell? ⟨w.heap.size,0,none⟩=some (.int .i64 a.x)∧w'.cell? ⟨w.heap.size,1,none⟩=some (.int .i64 a.y)∧w'.cell? ⟨w.heap.size,2,none⟩=some (.int .i64 a.z)):=fun w' h =>
    ⟨keepC x0 h l0,keepC x1 h l0,keepC x2 h l0⟩
  have L0:=η (Below.refl W.heap.size W);have L00:Hid (Below W.heap.size W W.drew):=L0.out.drew;have hf1:=KP.out _ L0.out;have hgne:¬ (cx a:Int)=0:=ω;have wx:wrap64 (a.x.tdiv (cx a))=a.x.tdiv (cx a):=IntWalk.wrap64_in _ ⟨by omega,by omega⟩;have wy:wrap64 (a.y.tdiv (cx a))=a.y.tdiv (cx a):=IntWalk.wrap64_in _ ⟨by omega,by omega⟩;have wz:wrap64 (a.z.tdiv (cx a))=a.z.tdiv (cx a):=IntWalk.wrap64_in _ ⟨by omega,by omega⟩;clear hx hy hz hG1 hG2 hg1 hg2 hgp hgV tx ty tz h0 b1 b2 hB hS l0 l1 x0 x1 x2;unfold bX aQ;generalize cx a=g at *;generalize Nat.gcd a.x.natAbs a.y.natAbs=g1 at *
  go_enter Tryz.func82,Tryz.ntmps82
  go_wp2_with fail
  go_region_held3 (fun w'=>w'.cell? ⟨w.heap.size,0,none⟩=some (.int .i64 a.x)∧w'.cell? ⟨w.heap.size,1,none⟩=some (.int .i64 a.y)∧w'.cell? ⟨w.heap.size,2,none⟩=some (.int .i64 a.z))
    (first | with_reducible exact (KP.out _ L2.out) | with_reducible exact (KP.out _ L1.out) | with_reducible exact (KP.out _ L00.out))
    (first
      | (have _g:=L1.out;clear _g;go_at_call 130;refine (HG2.out _).mono ?_;rintro e w2 ⟨rfl,hb2⟩
         have L2:Hid (Below W.heap.size W w2):=ae L1.out hb2 ρ;clear hb2)
      | (go_at_call 130;refine (HG1.out _).mono ?_;rintro e w1 ⟨rfl,hb1⟩
         have L1:Hid (Below W.heap.size W w1):=ae L00.out hb1 ρ;clear hb1))
  obtain ⟨x0,x1,x2⟩:=KP.out _ L2.out;have C2:=η (B2.out.below L2.out B2.out.lt);obtain ⟨y0,y1,y2,y3,y4,y5⟩:=C2.out.three;clear hf1
  go_wp2_with fail
  go_region;go_wp2
  refine aS Tryz.results82 (w.heap.size+1) ((C2.out.set3 (.int .i64 (a.x.tdiv g)) (.int .i64 (a.y.tdiv g)) (.int .i64 (a.z.tdiv g))).drew) _ rfl Tryz.underlying46 rfl mZ rfl
    ⟨rfl,(ew (ae HB.out L2.out (ψ HS.out)) ω _ _ _).drew⟩
theorem eq46f (k:Nat) (a b c d e f:Int) (w:World):(Op.equalIn (k+2) 46 (.agg #[.int .i64 a,.int .i64 b,.int .i64 c]) (.agg #[.int .i64 d,.int .i64 e,.int .i64 f])).run Tryz.prog w=.ok (a == d && b == e && c == f) w:=by
 have u3:=Tryz.underlying3;have a3:=Tryz.isAgg3;have z3:=Tryz.sizeOf3;rw [Op.equalIn];simp only [Sem.run_bind,run_underlying Tryz.underlying46,Result.andThen_ok];simp only [Std.Legacy.Range.forIn_eq_forIn_range',Std.Legacy.Range.size,Nat.sub_zero,Nat.add_sub_cancel,Nat.div_one,List.range'_succ,List.range'_zero,List.forIn_cons,List.forIn_nil];go_simp;by_cases h1:a=d <;> by_cases h2:b=e <;> by_cases h3:c=f <;> simp [h1,h2,h3]
theorem eqPl (a b c o d e f q:Int) (w:World):(Op.equalIn 10000 48 (.agg #[.int .i64 a,.int .i64 b,.int .i64 c,.int .i64 o]) (.agg #[.int .i64 d,.int .i64 e,.int .i64 f,.int .i64 q])).run Tryz.prog w=.ok (a == d && b == e && c == f && o == q) w:=by
 have u3:=Tryz.underlying3;have a3:=Tryz.isAgg3;have z3:=Tryz.sizeOf3;have z46:=Tryz.sizeOf46;have a46:=Tryz.isAgg46;have hv:=eq46f 9997;rw [show (10000:Nat)=9999+1 from rfl,Op.equalIn];simp only [Sem.run_bind,run_underlying Tryz.underlying48,Result.andThen_ok];go_simp;by_cases h1:a=d <;> by_cases h2:b=e <;> by_cases h3:c=f <;> by_cases h4:o=q <;> simp [h1,h2,h3,h4]
end Go.Proofs.Υ
end

section
namespace Dowel
open Go Go.RowKit
def plC (l:List Pl):List Value:=l.flatMap fun p=>[.int .i64 p.n.x,.int .i64 p.n.y,.int .i64 p.n.z,.int .i64 p.o]
def kD (w:World) (base:Nat) (v:Value) (l:List Pl):Prop:=w.ownsRow base 48 4 v l.length (plC l)
theorem kD.below {w w':World} {base:Nat} {v:Value} {l:List Pl} (h:kD w base v l) (hb:Below w.heap.size w w'):kD w' base v l:=aF h hb
def plV (p:Pl):Value:=.agg #[.int .i64 p.n.x,.int .i64 p.n.y,.int .i64 p.n.z,.int .i64 p.o]
theorem plC_get (l:List Pl) (i j:Nat) (hj:j<4):(plC l)[i*4+j]?=(l[i]?).bind fun p=>[Value.int .i64 p.n.x,.int .i64 p.n.y,.int .i64 p.n.z,.int .i64 p.o][j]? := by
 induction l generalizing i with
 | nil=>simp [plC]
 | cons p l ih =>
  unfold plC at *;rw [List.flatMap_cons]
  cases i with
  | zero=>rw [List.getElem?_append_left (by simp;omega)];simp
  | succ i =>
   rw [List.getElem?_append_right (by simp;omega)];simp only [List.length_cons,List.length_nil,List.getElem?_cons_succ];rw [show (i+1)*4+j - (0+1+1+1+1)=i*4+j by omega];exact ih i
theorem kD.slice {w:World} {base:Nat} {v:Value} {l:List Pl} (h:kD w base v l):∃ a cap,v=.slice a l.length cap∧l.length≤cap∧∀ i,i<l.length→∃ b off,a=some ⟨b,off,none⟩∧b<w.heap.size ∧
  w.cell? ⟨b,off+i*4,none⟩=some (.int .i64 (l.getD i ⟨V.zero,0⟩).n.x)∧w.cell? ⟨b,off+i*4+1,none⟩=some (.int .i64 (l.getD i ⟨V.zero,0⟩).n.y)∧w.cell? ⟨b,off+i*4+2,none⟩=some (.int .i64 (l.getD i ⟨V.zero,0⟩).n.z)∧w.cell? ⟨b,off+i*4+3,none⟩=some (.int .i64 (l.getD i ⟨V.zero,0⟩).o):=by
 obtain ⟨a,cap,hv,hs⟩:=Sl.of_owns h;refine ⟨a,cap,hv,hs.le,fun i hi=>?_⟩;obtain ⟨b,off,h1,h2,h3⟩:=hs.some ω;refine ⟨b,off,h1,h2,?_⟩;have g:=fun j (hj:j<4)=>h3 (i*4+j) ω
 have g2:∀ j,j<4→(plC l).getD (i*4+j) undef=(([Value.int .i64 (l.getD i ⟨V.zero,0⟩).n.x,.int .i64 (l.getD i ⟨V.zero,0⟩).n.y,.int .i64 (l.getD i ⟨V.zero,0⟩).n.z,.int .i64 (l.getD i ⟨V.zero,0⟩).o][j]?).getD undef):=fun j hj=>by
  rw [List.getD_eq_getElem?_getD,plC_get l i j hj];simp [hi]
 have e0:=g 0 ω;have e1:=g 1 ω;have e2:=g 2 ω;have e3:=g 3 ω;rw [g2 _ ω] at e0 e1 e2 e3;exact ⟨e0,e1,e2,e3⟩
theorem fB {w w':World} (h:Below w.heap.size w w') (row:Option Nat):w.grownBy w' row:=⟨h.os,h.tape,h.output,h.size,fun k hk _=>h.block k hk⟩
theorem iX {a b c:World} {row:Option Nat} (h:a.grownBy b row) (k:b.grownBy c row):a.grownBy c row:=
 ⟨k.os.trans h.os,k.tape.trans h.tape,k.output.trans h.output,Nat.le_trans h.size k.size,fun i hi hn=>(k.block i (Nat.lt_of_lt_of_le hi h.size) hn).trans (h.block i hi hn)⟩
theorem aW {w:World} {base e k:Nat} {v:Value} {n:Nat} {xs:List Value} (h:w.ownsRow base e k v n xs) {g:Nat} {cs:Array Value} {t:TypeId} (hb:Box w g cs t) (hne:e≠t):some g≠v.ownBlock:=by
 obtain ⟨_,⟨rfl,_⟩ | ⟨g',cap,cur,rfl,_,hh,_⟩⟩:=h
 ·intro e;cases e
 ·intro e
  cases e;unfold Box at hb;rw [hh] at hb;injection hb with hb
  injection hb with _ hb
  exact hne hb
theorem Box.grown {w w':World} {g:Nat} {cs:Array Value} {t:TypeId} (h:Box w g cs t) {row:Option Nat} (hg:w.grownBy w' row) (hne:some g≠row):Box w' g cs t:=by
 unfold Box;rw [hg.block g h.lt hne];exact h
theorem Pts.grown {w w':World} {a:Option Addr} {n cap base:Nat} {P:Nat→V} (h:Pts w a n cap P) (hP:∀ x,a=some x→x.block<base) {row:Option Nat} (hg:w.grownBy w' row) (hr:∀ k,row=some k→base≤k):Pts w' a n cap P:=
 ⟨h.le,h.nil,fun x hx=>by
  obtain ⟨h1,h2,h3⟩:=h.at_ x hx;have hne:some x.block≠row:=fun e=>by have:=hr _ e.symm;have:=hP x hx;omega
  refine ⟨h1,Nat.lt_of_lt_of_le h2 hg.size,fun i hi=>?_⟩;obtain ⟨c1,c2,c3⟩:=h3 i hi;exact ⟨World.grownBy.cell hg c1 hne,World.grownBy.cell hg c2 hne,World.grownBy.cell hg c3 hne⟩⟩
end Dowel
namespace Go.Proofs.Υ
open Go.RowKit Dowel
theorem infoR:(Tryz.prog.info? 48).map (fun i=>(i.zero,i.size,i.bytes))=some (some (.agg #[.int .i64 0,.int .i64 0,.int .i64 0,.int .i64 0]),4,32):=by kernel_rfl
set_option maxRecDepth 10000 in
theorem ow (ov:Value) (out:List Pl) (base:Nat) (a:Option Addr) (len cap:Nat) (P:Nat→V) (p:Pl) (w:World) (hbase:base≤w.heap.size) (ho:kD w base ov out) (hol:out.length≤1000000) (hP:Pts w a len cap P) (hlen:len≤64) (hn:LeV 1000000000 p.n) (hnear:∀ i,i<len→LeV 4096 (P i)) :
    Calls Tryz.prog 99 #[ov,.slice a len cap,plV p] w fun e w'=>(∃ v,e=.returned v∧kD w' base v (eW P len out p))∧w.grownBy w' ov.ownBlock:=by
  obtain ⟨W,hW,b1,hB,hS⟩:=aG w #[.int .i64 p.n.x,.int .i64 p.n.y,.int .i64 p.n.z,.int .i64 p.o] 48;obtain ⟨i0,hinf,hz0,hz1,hz2⟩:=info_parts infoR;have HO:=η (ho.below hB);have HP:=η (hP.below hB);have B1:=η b1;have HB:=η hB;have HSZ:=η hS;obtain ⟨row,hrow⟩:∃ row,ov.ownBlock=row:=⟨_,rfl⟩;rw [hrow];have HROW:=η hrow;clear hrow;have HBS:=η (show base≤W.heap.size by omega);have HBA:=η hbase;have HNN:=η hn;have HN:=η hnear;have HSI:=η (show eW P len out p=eW P len out p from rfl);have hlt1:=b1.lt;clear ho hP b1 hB hS hn hnear;generalize hres:eW P len out p=res at *;clear HSI;have HRES:=η hres;clear hres;unfold plV
  go_enter Tryz.func99,Tryz.ntmps99
  go_wp2_with fail
  go_loopw [7] (fun iv wr=>∃ k,k≤len∧iv=.int .i64 (k:Nat)∧Hid (∀ q,q<k→V.dot p.n (P q)≤p.o)∧Hid (Below W.heap.size W wr)) (fun iv _=>len - (intOf iv).toNat)
  case atStart=>exact ⟨0,Nat.zero_le _,rfl,(fun q hq=>by omega),Below.refl _ _⟩
  case round =>
    obtain ⟨k,hk,rfl,HJ,HR⟩:=hrel;by_cases h0:k=len
    · have hnl:¬ (k:Int)<(len:Int):=ω
      have H0:=η h0;clear h0;obtain ⟨oa,oc,rfl,hoc,hoo⟩:=HO.out.slice;have HOO:=η hoo;have HALL:Hid (¬ (List.range len).any (fun i=>decide (V.dot p.n (P i) > p.o))=true):=fun h=>by
        obtain ⟨q,hq,hd⟩:=List.any_eq_true.mp h;have:=HJ.out q (by have:=H0.out;have:=List.mem_range.mp hq;omega);have:=of_decide_eq_true hd;omega
      clear hoo
      go_wp2_with fail
      go_loopw [8] (fun iv wr=>∃ k,k≤out.length∧iv=.int .i64 (k:Nat)∧Hid (∀ q,q<k→out.getD q ⟨V.zero,0⟩≠p)∧Hid (Below W.heap.size W wr)) (fun iv _=>out.length - (intOf iv).toNat)
      case atStart=>exact ⟨0,Nat.zero_le _,rfl,(fun q hq=>by omega),HR.out⟩
      case round =>
        clear HR;obtain ⟨k,hk,rfl,HK,HR⟩:=hrel;by_cases h0:k=out.length
        · have hnl:¬ (k:Int)<(out.length:Int):=ω
          have hnm:Hid (¬ p ∈ out):=fun hm=>by
            obtain ⟨q,hq,e⟩:=List.mem_iff_getElem.mp hm;exact HK.out q ω (by simp [hq,e])
          obtain ⟨x0,x1,x2,x3,-⟩:=(B1.out.below HR.out hlt1).four;have ho2:wr.ownsRow base 48 4 (.slice oa out.length oc) out.length (plC out):=HO.out.below HR.out;have hfin:=ae HB.out HR.out ρ;have HFIN:=η hfin;have hbs2:base≤wr.heap.size:=Nat.le_trans HBS.out HR.out.size;have HBS2:=η hbs2;have HOG:=η (cJ ho2);clear h0 hfin hbs2 HOO
          go_upto_region 11 with fail
          generalize Value.slice oa out.length oc=ov' at *
          go_wp2_with (at_builtin;refine wpList_append_own _ rfl _ _ 111 rfl base 48 i0 (.agg #[.int .i64 0,.int .i64 0,.int .i64 0,.int .i64 0]) 4 32 Tryz.underlying111 hinf hz0 hz1 hz2 rfl ν _ _ _ rfl (ho2.alloc _) ⟨wr.heap.size,0,none⟩ 1 1 [.int .i64 p.n.x,.int .i64 p.n.y,.int .i64 p.n.z,.int .i64 p.o] rfl rfl (fun j u hj=>nG wr _ _ j u hj) (by intro u hu;simp at hu;rcases hu with rfl | rfl | rfl | rfl <;> rfl) (by unfold maxLen;omega) ω (by have:=HBS2.out;simp;omega) ?_)
          · intro v' w6 hown' hgrow6 _
            have hO6:kD w6 base v' (out ++ [p]):=by
              have e:plC (out ++ [p])=plC out ++ [.int .i64 p.n.x,.int .i64 p.n.y,.int .i64 p.n.z,.int .i64 p.o]:=by simp [plC]
              unfold kD;rw [List.length_append,e];exact hown'
            have hB6:w.grownBy w6 row:=iX (fB (HFIN.out.alloc HFIN.out.size _) _) (by rw [← HROW.out];exact hgrow6);have HO6:=η hO6;have HB6:=η hB6;clear hown' hgrow6 hO6 hB6;go_wp2;exact bodyPost_ret (results_tmp Tryz.results99 _ _ _) rfl ⟨⟨_,rfl,by
              rw [← HRES.out,show eW P len out p=out ++ [p] from by
                unfold eW;rw [if_neg HALL.out,if_neg hnm.out]]
              exact HO6.out⟩,HB6.out⟩
        · have hlt:(k:Int)<(out.length:Int):=ω
          have hkl:k<out.length:=ω;obtain ⟨oa,oc2,e0,-,hoo⟩:=(HO.out.below HR.out).slice;cases e0;obtain ⟨b,off,rfl,hb,y0,y1,y2,y3⟩:=hoo k hkl;obtain ⟨x0,x1,x2,x3,-⟩:=(B1.out.below HR.out hlt1).four;have HKL:=η hkl;generalize hm:out.getD k ⟨V.zero,0⟩=m at y0 y1 y2 y3;have HM:=η hm;have e48:=eqPl;obtain ⟨eb,heb⟩:∃ eb,(m.n.x == p.n.x && m.n.y == p.n.y && m.n.z == p.n.z && m.o == p.o)=eb:=⟨_,rfl⟩;have hmp:eb=true↔m=p:=by
            rw [← heb];obtain ⟨⟨a1,a2,a3⟩,a4⟩:=m;obtain ⟨⟨c1,c2,c3⟩,c4⟩:=p;simp [Pl.mk.injEq,V.mk.injEq,and_assoc]
          have HMP:=η hmp;clear hoo h0 hm hmp
          go_wp2_with fail
          go_region;cases eb
          · have hne:m≠p:=fun e=>absurd (HMP.out.mpr e) ν
            have HNE:=η hne;clear hne;go_wp2;go_round
            case rel=>exact ⟨k+1,by have:=HKL.out;omega,rfl,(fun q hq=>by
              by_cases e:q=k
              · subst e;rw [HM.out];exact HNE.out
              · exact HK.out q ω),aJ HR.out _⟩
            case measure=>show out.length - ((k:Int)+1).toNat<out.length - (k:Int).toNat;have:=HKL.out;omega
          · have he:m=p:=HMP.out.mp rfl
            have HE:=η he;clear he;go_wp2;exact bodyPost_ret (results_tmp Tryz.results99 _ _ _) rfl ⟨⟨_,rfl,by
              rw [← HRES.out,show eW P len out p=out from by
                unfold eW;rw [if_neg HALL.out,if_pos (by
                  rw [← HE.out,← HM.out];have:=HKL.out;simp [this])]]
              exact (HO.out.below HR.out).below (aJ β _)⟩,fB (aJ (ae HB.out HR.out ρ) _) _⟩
    · have hlt:(k:Int)<(len:Int):=ω
      have hkl:k<len:=ω;obtain ⟨b,off,rfl,hb,hc,hcc⟩:=(HP.out.below HR.out).cells ω;obtain ⟨q0,q1,q2⟩:=hcc k hkl;obtain ⟨x0,x1,x2,x3,-⟩:=(B1.out.below HR.out hlt1).four;have HKL:=η hkl;have hdt:=η (fun v=>fW p.n (P k) 1000000000 4096 v HNN.out (HN.out k hkl) ω);obtain ⟨d,hd⟩:∃ d,V.dot p.n (P k)=d:=⟨_,rfl⟩;rw [hd] at hdt;have HD:=η hd;generalize hpk:P k=pk at q0 q1 q2 hdt;have HPK:=η hpk;clear hpk;have hgb:w.heap.size<wr.heap.size:=by have:=HR.out.size;omega
      have KP:Hid (∀ w',Below wr.heap.size wr w'→w'.cell? ⟨w.heap.size,0,none⟩=some (.int .i64 p.n.x)∧w'.cell? ⟨w.heap.size,1,none⟩=some (.int .i64 p.n.y)∧w'.cell? ⟨w.heap.size,2,none⟩=some (.int .i64 p.n.z)∧w'.cell? ⟨w.heap.size,3,none⟩=some (.int .i64 p.o) ∧
          w'.cell? ⟨b,off+k*3,none⟩=some (.int .i64 pk.x)∧w'.cell? ⟨b,off+k*3+1,none⟩=some (.int .i64 pk.y)∧w'.cell? ⟨b,off+k*3+2,none⟩=some (.int .i64 pk.z)):=fun w' h =>
        ⟨keepC x0 h hgb,keepC x1 h hgb,keepC x2 h hgb,keepC x3 h hgb,keepC q0 h hb,keepC q1 h hb,keepC q2 h hb⟩
      have L0:=η (Below.refl wr.heap.size wr);have L00:Hid (Below wr.heap.size wr wr.drew):=L0.out.drew;have hf1:=KP.out _ L0.out;clear hcc h0 hd q0 q1 q2 x0 x1 x2 x3
      go_wp2_with fail
      go_region_held3 (fun w'=>w'.cell? ⟨w.heap.size,0,none⟩=some (.int .i64 p.n.x)∧w'.cell? ⟨w.heap.size,1,none⟩=some (.int .i64 p.n.y)∧w'.cell? ⟨w.heap.size,2,none⟩=some (.int .i64 p.n.z)∧w'.cell? ⟨w.heap.size,3,none⟩=some (.int .i64 p.o) ∧
          w'.cell? ⟨b,off+k*3,none⟩=some (.int .i64 pk.x)∧w'.cell? ⟨b,off+k*3+1,none⟩=some (.int .i64 pk.y)∧w'.cell? ⟨b,off+k*3+2,none⟩=some (.int .i64 pk.z))
        (first | with_reducible exact (KP.out _ L1.out) | with_reducible exact (KP.out _ L00.out))
        (first
          | (go_at_call 16;refine (hdt.out _).mono ?_;rintro e w1 ⟨rfl,hb1⟩
             have L1:Hid (Below wr.heap.size wr w1):=ae L00.out hb1 ρ;clear hb1))
      by_cases hgt:d > p.o
      · have HG:=η hgt
        go_wp2;exact bodyPost_ret (results_tmp Tryz.results99 _ _ _) rfl ⟨⟨_,rfl,by
          rw [← HRES.out,show eW P len out p=out from by
            unfold eW;rw [if_pos (List.any_eq_true.mpr ⟨k,List.mem_range.mpr HKL.out,decide_eq_true (by rw [HD.out];exact HG.out)⟩)]]
          exact (HO.out.below HR.out).below L1.out⟩,fB (ae (ae HB.out HR.out ρ) L1.out ρ) _⟩
      · have HG:=η hgt
        go_wp2;go_round
        case rel=>exact ⟨k+1,by have:=HKL.out;omega,rfl,(fun q hq=>by
          by_cases e:q=k
          · subst e;rw [HD.out];have:=HG.out;omega
          · exact HJ.out q ω),ae HR.out L1.out ρ⟩
        case measure=>show len - ((k:Int)+1).toNat<len - (k:Int).toNat;have:=HKL.out;omega
end Go.Proofs.Υ
end

section
namespace Dowel
open V
def det0 (P:Nat→V) (i j k:Nat):Int:=dot (P i - P 0) (cross (P j - P 0) (P k - P 0))
theorem pN {P:Nat→V} {N:Nat} (h:∀ i j k,k<j→j<i→i<N→det0 P i j k=0):¬ dq P N:=by
 intro hf;by_cases h0:0<N
 ·obtain ⟨i,j,k,h1,h2,h3,h4⟩:=(oO h0).mp hf
  exact h4 (h i j k h1 h2 h3)
 ·obtain ⟨i,j,k,m,hi,-⟩:=hf;omega
theorem full_det {P:Nat→V} {N i j k:Nat} (h1:k<j) (h2:j<i) (h3:i<N) (h:det0 P i j k≠0):dq P N:=(oO ω).mpr ⟨i,j,k,h1,h2,h3,h⟩
end Dowel
namespace Go.Proofs.Υ
open Go.RowKit Dowel
set_option maxRecDepth 10000 in
theorem rflat_any (a:Option Addr) (len cap:Nat) (P:Nat→V) (w:World) (hP:Pts w a len cap P) (hlen:len≤64) (hnear:∀ i,i<len→LeV 4096 (P i)) :
    Calls Tryz.prog 50 #[.slice a len cap] w fun e w'=>eS e (¬ dq P len)∧Below w.heap.size w w':=by
  have HP:=η hP;have HN:=η hnear;clear hP hnear
  go_enter Tryz.func50,Tryz.ntmps50
  go_wp2_with fail
  go_loopw [3] (fun v wr=>∃ k:Nat,k≤len∧v=.int .i64 (k:Int)∧Hid (∀ i j m,m<j→j<i→i<k→det0 P i j m=0)∧Hid (Below w.heap.size w wr)) (fun v _=>len - (intOf v).toNat)
  case atStart=>exact ⟨0,Nat.zero_le _,rfl,(fun i j m h1 h2 h3=>by omega),Below.refl _ _⟩
  case round =>
    obtain ⟨i,hk,rfl,HJ,HR⟩:=hrel;by_cases h0:i=len
    · have hn:¬ (i:Int)<(len:Int):=ω
      have H0:=η h0;clear h0;go_wp2;exact bodyPost_ret (results_tmp Tryz.results50 _ _ _) rfl ⟨eS.yes (pN fun i' j m h1 h2 h3=>HJ.out i' j m h1 h2 (ψ H0.out)),HR.out⟩
    have hlt:(i:Int)<(len:Int):=ω;have hil:i<len:=ω;have HIL:=η hil;clear h0
    go_wp2_with fail
    clear hlt
    go_loopw [4] (fun v wr=>∃ k:Nat,k≤i∧v=.int .i64 (k:Int)∧Hid (∀ i' j m,m<j→j<i'→i'<i∨(i'=i∧j<k)→det0 P i' j m=0)∧Hid (Below w.heap.size w wr)) (fun v _=>i - (intOf v).toNat)
    case atStart=>exact ⟨0,Nat.zero_le _,rfl,(fun i' j m h1 h2 h3=>HJ.out i' j m h1 h2 ω),HR.out⟩
    case round =>
      clear HJ HR;obtain ⟨j,hj,rfl,HJ,HR⟩:=hrel;by_cases h0:j=i
      · have hn:¬ (j:Int)<(i:Int):=ω
        have H0:=η h0;clear h0;go_wp2;go_round
        case rel=>exact ⟨i+1,by have:=HIL.out;omega,rfl,(fun i' j' m h1 h2 h3=>HJ.out i' j' m h1 h2 (ψ H0.out)),HR.out⟩
        case measure=>show len - ((i:Int)+1).toNat<len - (i:Int).toNat;have:=HIL.out;omega
      have hlt:(j:Int)<(i:Int):=ω;have hjl:j<i:=ω;have HJL:=η hjl;clear h0
      go_wp2_with fail
      clear hlt
      go_loopw [5] (fun v wr=>∃ k:Nat,k≤j∧v=.int .i64 (k:Int)∧Hid (∀ i' j' m,m<j'→j'<i'→i'<i∨(i'=i∧j'<j)∨(i'=i∧j'=j∧m<k)→det0 P i' j' m=0)∧Hid (Below w.heap.size w wr)) (fun v _=>j - (intOf v).toNat)
      case atStart=>exact ⟨0,Nat.zero_le _,rfl,(fun i' j' m h1 h2 h3=>HJ.out i' j' m h1 h2 ω),HR.out⟩
      case round =>
        clear HJ HR;obtain ⟨m,hm,rfl,HJ,HR⟩:=hrel;by_cases h0:m=j
        · have hn:¬ (m:Int)<(j:Int):=ω
          have H0:=η h0;clear h0;go_wp2;go_round
          case rel=>exact ⟨j+1,by have:=HJL.out;omega,rfl,(fun i' j' m' h1 h2 h3=>HJ.out i' j' m' h1 h2 (ψ H0.out)),HR.out⟩
          case measure=>show i - ((j:Int)+1).toNat<i - (j:Int).toNat;have:=HJL.out;omega
        have hmlt:(m:Int)<(j:Int):=ω;have hml:m<j:=ω;have HML:=η hml;clear h0;obtain ⟨b,off,rfl,hb,hc,hcc⟩:=(HP.out.below HR.out).cells ω;obtain ⟨pi0,pi1,pi2⟩:=hcc i ω;obtain ⟨pj0,pj1,pj2⟩:=hcc j ω;obtain ⟨pm0,pm1,pm2⟩:=hcc m ω;obtain ⟨p00,p01,p02⟩:=hcc 0 ω;rw [show off+0*3=off by omega] at p00 p01 p02;have ni:=HN.out i ω;have nj:=HN.out j ω;have nm:=HN.out m ω;have n0:=HN.out 0 ω;have hdet:det0 P i j m=V.dot (P i - P 0) (V.cross (P j - P 0) (P m - P 0)):=rfl;generalize P i=pi at *;generalize P j=pj at *;generalize P m=pm at *;generalize P 0=p0 at *;have i1:((i:Nat):Int)<(len:Int):=ω;have i2:((j:Nat):Int)<(len:Int):=ω;have i3:((m:Nat):Int)<(len:Int):=ω;have i4:(0:Int)<(len:Int):=ω;have i5:0<len:=ω;have KP:Hid (∀ w',Below wr.heap.size wr w'→w'.cell? ⟨b,off+i*3,none⟩=some (.int .i64 pi.x)∧w'.cell? ⟨b,off+i*3+1,none⟩=some (.int .i64 pi.y)∧w'.cell? ⟨b,off+i*3+2,none⟩=some (.int .i64 pi.z)∧w'.cell? ⟨b,off+j*3,none⟩=some (.int .i64 pj.x)∧w'.cell? ⟨b,off+j*3+1,none⟩=some (.int .i64 pj.y)∧w'.cell? ⟨b,off+j*3+2,none⟩=some (.int .i64 pj.z)∧w'.cell? ⟨b,off+m*3,none⟩=some (.int .i64 pm.x)∧w'.cell? ⟨b,off+m*3+1,none⟩=some (.int .i64 pm.y)∧w'.cell? ⟨b,off+m*3+2,none⟩=some (.int .i64 pm.z)∧w'.cell? ⟨b,off,none⟩=some (.int .i64 p0.x)∧w'.cell? ⟨b,off+1,none⟩=some (.int .i64 p0.y)∧w'.cell? ⟨b,off+2,none⟩=some (.int .i64 p0.z)):=fun w' h =>
          ⟨keepC pi0 h hb,keepC pi1 h hb,keepC pi2 h hb,keepC pj0 h hb,keepC pj1 h hb,keepC pj2 h hb,keepC pm0 h hb,keepC pm1 h hb,keepC pm2 h hb,keepC p00 h hb,keepC p01 h hb,keepC p02 h hb⟩
        have L0:=η (Below.refl wr.heap.size wr);have L00:Hid (Below wr.heap.size wr wr.drew):=L0.out.drew;have hdt:=η (fun v=>rdet_any (pi - p0) (pj - p0) (pm - p0) 8192 v (ni.sub n0) (nj.sub n0) (nm.sub n0) ω);have hf1:=KP.out _ L0.out;rw [← hdet] at hdt;generalize hdd:det0 P i j m=dd at *;have HDD:=η hdd;clear hcc pi0 pi1 pi2 pj0 pj1 pj2 pm0 pm1 pm2 p00 p01 p02 hdet hdd
        go_wp2_with fail
        go_region_held3 (fun w'=>w'.cell? ⟨b,off+i*3,none⟩=some (.int .i64 pi.x)∧w'.cell? ⟨b,off+i*3+1,none⟩=some (.int .i64 pi.y)∧w'.cell? ⟨b,off+i*3+2,none⟩=some (.int .i64 pi.z)∧w'.cell? ⟨b,off+j*3,none⟩=some (.int .i64 pj.x)∧w'.cell? ⟨b,off+j*3+1,none⟩=some (.int .i64 pj.y)∧w'.cell? ⟨b,off+j*3+2,none⟩=some (.int .i64 pj.z)∧w'.cell? ⟨b,off+m*3,none⟩=some (.int .i64 pm.x)∧w'.cell? ⟨b,off+m*3+1,none⟩=some (.int .i64 pm.y)∧w'.cell? ⟨b,off+m*3+2,none⟩=some (.int .i64 pm.z)∧w'.cell? ⟨b,off,none⟩=some (.int .i64 p0.x)∧w'.cell? ⟨b,off+1,none⟩=some (.int .i64 p0.y)∧w'.cell? ⟨b,off+2,none⟩=some (.int .i64 p0.z))
          (first | with_reducible exact (KP.out _ L4.out) | with_reducible exact (KP.out _ L3.out) | with_reducible exact (KP.out _ L2.out) | with_reducible exact (KP.out _ L1.out) | with_reducible exact (KP.out _ L00.out))
          (first
            | (have _g:=L3.out;clear _g;go_at_call 77;refine (hdt.out _).mono ?_;rintro e w4 ⟨rfl,hb4⟩
               have L4:Hid (Below wr.heap.size wr w4):=ae L3.out hb4 ρ;clear hb4)
            | (have _g:=L2.out;clear _g;go_at_call 83;refine (iN pm p0 4096 4096 _ nm n0 ω).mono ?_;rintro e w3 ⟨rfl,hb3⟩
               have L3:Hid (Below wr.heap.size wr w3):=ae L2.out hb3 ρ;clear hb3)
            | (have _g:=L1.out;clear _g;go_at_call 83;refine (iN pj p0 4096 4096 _ nj n0 ω).mono ?_;rintro e w2 ⟨rfl,hb2⟩
               have L2:Hid (Below wr.heap.size wr w2):=ae L1.out hb2 ρ;clear hb2)
            | (go_at_call 83;refine (iN pi p0 4096 4096 _ ni n0 ω).mono ?_;rintro e w1 ⟨rfl,hb1⟩
               have L1:Hid (Below wr.heap.size wr w1):=ae L00.out hb1 ρ;clear hb1))
        all_goals
          clear hf1;by_cases hz:dd=0
          · have HZ:=η hz
            have hzb:(dd != 0)=false:=by rw [hz];rfl
            clear hz;go_wp2;go_round
            case rel=>exact ⟨m+1,by have:=HML.out;omega,rfl,(fun i' j' m' h1 h2 h3=>by
              by_cases e:i'=i∧j'=j∧m'=m
              · obtain ⟨rfl,rfl,rfl⟩:=e;rw [HDD.out];exact HZ.out
              · exact HJ.out i' j' m' h1 h2 ω),ae HR.out L4.out (ψ HR.out.size)⟩
            case measure=>show j - ((m:Int)+1).toNat<j - (m:Int).toNat;have:=HML.out;omega
          · have HZ:=η hz
            have hzb:(dd != 0)=true:=bne_iff_ne.mpr hz;clear hz;go_wp2;exact bodyPost_ret (results_tmp Tryz.results50 _ _ _) rfl ⟨eS.no (fun h=>h (full_det HML.out HJL.out HIL.out (by rw [HDD.out];exact HZ.out))),ae HR.out L4.out (ψ HR.out.size)⟩
end Go.Proofs.Υ
end

section
namespace Dowel
open Go Go.RowKit
theorem jf (P:Nat→V) (len:Nat) (out:List Pl) (p:Pl):(eW P len out p).length≤out.length+1:=by
 unfold eW;split
 ·omega
 ·split <;> simp
theorem stepR_len (P:Nat→V) (len i j k:Nat) (out:List Pl):(j3 P len i j k out).length≤out.length+2:=by
 unfold j3;split
 ·omega
 ·have:=jf P len (eW P len out ⟨aQ (tri P i j k),V.dot (aQ (tri P i j k)) (P i)⟩) ⟨-aQ (tri P i j k),V.dot (-aQ (tri P i j k)) (P i)⟩
  have:=jf P len out ⟨aQ (tri P i j k),V.dot (aQ (tri P i j k)) (P i)⟩;omega
theorem j6 {k:Int} {a:V} (h:LeV k a) (hk:0≤k):LeV k (aQ a):=⟨jd _ h.1 hk,jd _ h.2.1 hk,jd _ h.2.2 hk⟩
theorem LeV.neg {k:Int} {a:V} (h:LeV k a):LeV k (-a):=by unfold LeV Le at *;simp only [V.neg_x,V.neg_y,V.neg_z];omega
end Dowel
namespace Go.Proofs.Υ
open Go.RowKit Dowel
set_option maxRecDepth 10000 in
theorem rplanes_any (a:Option Addr) (len cap:Nat) (P:Nat→V) (w:World) (hP:Pts w a len cap P) (hlen:len≤64) (hnear:∀ i,i<len→LeV 4096 (P i)) :
    Calls Tryz.prog 51 #[.slice a len cap] w fun e w'=>(∃ v,e=.returned v∧kD w' w.heap.size v (bD P len))∧Below w.heap.size w w':=by
  have HPB:=η (show ∀ x,a=some x→x.block<w.heap.size from fun x hx=>(hP.at_ x hx).2.1);have HP:=η hP;have HN:=η hnear;clear hP hnear
  go_enter Tryz.func51,Tryz.ntmps51
  go_wp2_with fail
  go_loopw [3,4] (fun ov v wr=>∃ k l,k≤len∧v=.int .i64 (k:Nat)∧l.length≤2*(k*4096)∧Hid (l=dm P len k)∧Hid (kD wr w.heap.size ov l)∧Hid (Below w.heap.size w wr)) (fun _ v _=>len - (intOf v).toNat)
  case atStart=>exact ⟨0,[],Nat.zero_le _,rfl,Nat.zero_le _,rfl,World.ownsRow_nil _ _ _ _,Below.refl _ _⟩
  case round =>
    obtain ⟨i,l,hk,rfl,hll,HL,HO,HR⟩:=hrel;by_cases h0:i=len
    · have hn:¬ (i:Int)<(len:Int):=ω
      have H0:=η h0;clear h0;go_wp2;exact bodyPost_ret (results_tmp Tryz.results51 _ _ _) rfl ⟨⟨_,rfl,by
        have e:bD P len=l:=by unfold bD;rw [HL.out,H0.out]
        rw [e];exact HO.out⟩,HR.out⟩
    have hlt:(i:Int)<(len:Int):=ω;have hil:i<len:=ω;have HIL:=η hil;clear h0
    go_wp2_with fail
    clear hlt
    go_loopw [3,5] (fun ov v wr=>∃ k l,k≤i∧v=.int .i64 (k:Nat)∧l.length≤2*(i*4096+k*64)∧Hid (l=dA P len i k (dm P len i))∧Hid (kD wr w.heap.size ov l)∧Hid (Below w.heap.size w wr)) (fun _ v _=>i - (intOf v).toNat)
    case atStart=>exact ⟨0,l,Nat.zero_le _,rfl,by omega,HL.out,HO.out,HR.out⟩
    case round =>
      clear HL HO HR hll;obtain ⟨j,l,hj,rfl,hll,HL,HO,HR⟩:=hrel;by_cases h0:j=i
      · have hn:¬ (j:Int)<(i:Int):=ω
        have H0:=η h0;clear h0;go_wp2;go_round
        case rel=>exact ⟨i+1,l,by have:=HIL.out;omega,rfl,by have:=H0.out;omega,(by show _=dA P len i i (dm P len i);rw [HL.out,H0.out]),HO.out,HR.out⟩
        case measure=>show len - ((i:Int)+1).toNat<len - (i:Int).toNat;have:=HIL.out;omega
      have hlt:(j:Int)<(i:Int):=ω;have hjl:j<i:=ω;have HJL:=η hjl;clear h0
      go_wp2_with fail
      clear hlt
      go_loopw [3,6] (fun ov v wr=>∃ k l,k≤j∧v=.int .i64 (k:Nat)∧l.length≤2*(i*4096+j*64+k)∧Hid (l=dO P len i j k (dA P len i j (dm P len i)))∧Hid (kD wr w.heap.size ov l)∧Hid (Below w.heap.size w wr)) (fun _ v _=>j - (intOf v).toNat)
      case atStart=>exact ⟨0,l,Nat.zero_le _,rfl,by omega,HL.out,HO.out,HR.out⟩
      case round =>
        clear HL HO HR hll;obtain ⟨m,l,hm,rfl,hll,HL,HO,HR⟩:=hrel;by_cases h0:m=j
        · have hn:¬ (m:Int)<(j:Int):=ω
          have H0:=η h0;clear h0;go_wp2;go_round
          case rel=>exact ⟨j+1,l,by have:=HJL.out;omega,rfl,by have:=H0.out;have:=HIL.out;have:=HJL.out;omega,(by show _=dO P len i j j (dA P len i j (dm P len i));rw [HL.out,H0.out]),HO.out,HR.out⟩
          case measure=>show i - ((j:Int)+1).toNat<i - (j:Int).toNat;have:=HJL.out;omega
        have hmlt:(m:Int)<(j:Int):=ω;have hml:m<j:=ω;have HML:=η hml;clear h0;have hpr:=HP.out.below HR.out;obtain ⟨b,off,rfl,hb,hc,hcc⟩:=hpr.cells ω;have HPR:=η hpr;obtain ⟨pi0,pi1,pi2⟩:=hcc i ω;obtain ⟨pj0,pj1,pj2⟩:=hcc j ω;obtain ⟨pm0,pm1,pm2⟩:=hcc m ω;have ni:=HN.out i ω;have nj:=HN.out j ω;have nm:=HN.out m ω;have NI:=η ni;have ht:tri P i j m=V.cross (P j - P i) (P m - P i):=rfl;generalize hpi:P i=pi at pi0 pi1 pi2 ni NI ht;generalize P j=pj at pj0 pj1 pj2 nj ht;generalize P m=pm at pm0 pm1 pm2 nm ht;have HPI:=η hpi;have i1:((i:Nat):Int)<(len:Int):=ω;have i2:((j:Nat):Int)<(len:Int):=ω;have i3:((m:Nat):Int)<(len:Int):=ω;have KP:Hid (∀ w',Below wr.heap.size wr w'→w'.cell? ⟨b,off+j*3,none⟩=some (.int .i64 pj.x)∧w'.cell? ⟨b,off+j*3+1,none⟩=some (.int .i64 pj.y)∧w'.cell? ⟨b,off+j*3+2,none⟩=some (.int .i64 pj.z)∧w'.cell? ⟨b,off+i*3,none⟩=some (.int .i64 pi.x)∧w'.cell? ⟨b,off+i*3+1,none⟩=some (.int .i64 pi.y)∧w'.cell? ⟨b,off+i*3+2,none⟩=some (.int .i64 pi.z)∧w'.cell? ⟨b,off+m*3,none⟩=some (.int .i64 pm.x)∧w'.cell? ⟨b,off+m*3+1,none⟩=some (.int .i64 pm.y)∧w'.cell? ⟨b,off+m*3+2,none⟩=some (.int .i64 pm.z)):=fun w' h =>
          ⟨keepC pj0 h hb,keepC pj1 h hb,keepC pj2 h hb,keepC pi0 h hb,keepC pi1 h hb,keepC pi2 h hb,keepC pm0 h hb,keepC pm1 h hb,keepC pm2 h hb⟩
        have L0:=η (Below.refl wr.heap.size wr);have L00:Hid (Below wr.heap.size wr wr.drew):=L0.out.drew;have hcr:=fun v=>mM (pj - pi) (pm - pi) 8192 8192 v (nj.sub ni) (nm.sub ni) ω
        have hnl:=(nj.sub ni).cross (nm.sub ni);rw [← ht] at hcr hnl;generalize htr:tri P i j m=nn at *;have HTR:=η htr;have HCR:Hid (∀ v,Calls Tryz.prog 98 #[bX (pj - pi),bX (pm - pi)] v fun e w'=>e=.returned (.agg #[.int .i64 nn.x,.int .i64 nn.y,.int .i64 nn.z])∧Below v.heap.size v w'):=hcr;have HNL:=η hnl;have hf1:=KP.out _ L0.out;have HBB:=η hb;have hll2:l.length≤600000:=ω;clear hcc pi0 pi1 pi2 pj0 pj1 pj2 pm0 pm1 pm2 ht htr hcr hnl hpr hpi
        go_upto_region 11 with fail
        go_cut [7,6,3] (fun pv iv qv wx=>iv=.int .i64 (m:Int)∧qv=u3∧∃ nb:Nat,pv=.pointer (some ⟨nb,0,none⟩)∧Hid (Box wx nb #[.int .i64 nn.x,.int .i64 nn.y,.int .i64 nn.z] 46)∧Hid (Below wr.heap.size wr wx)∧Hid (wr.heap.size≤nb))
        case first =>
          go_wp2_with fail
          go_region_held3 (fun w'=>w'.cell? ⟨b,off+j*3,none⟩=some (.int .i64 pj.x)∧w'.cell? ⟨b,off+j*3+1,none⟩=some (.int .i64 pj.y)∧w'.cell? ⟨b,off+j*3+2,none⟩=some (.int .i64 pj.z)∧w'.cell? ⟨b,off+i*3,none⟩=some (.int .i64 pi.x)∧w'.cell? ⟨b,off+i*3+1,none⟩=some (.int .i64 pi.y)∧w'.cell? ⟨b,off+i*3+2,none⟩=some (.int .i64 pi.z)∧w'.cell? ⟨b,off+m*3,none⟩=some (.int .i64 pm.x)∧w'.cell? ⟨b,off+m*3+1,none⟩=some (.int .i64 pm.y)∧w'.cell? ⟨b,off+m*3+2,none⟩=some (.int .i64 pm.z))
            (first | with_reducible exact (KP.out _ L3.out)
                   | with_reducible exact (KP.out _ (L3.out.alloc L3.out.size _))
                   | with_reducible exact (KP.out _ L2.out)
                   | with_reducible exact (KP.out _ (L2.out.alloc L2.out.size _))
                   | with_reducible exact (KP.out _ L1.out)
                   | with_reducible exact (KP.out _ (L1.out.alloc L1.out.size _))
                   | with_reducible exact (KP.out _ L00.out)
                   | with_reducible exact (KP.out _ (L0.out.alloc L0.out.size _).drew)
                   | with_reducible exact (KP.out _ (((L3.out.setCell NL.out _).setCell NL.out _).setCell NL.out _)))
            (first
              | (have _g:=L2.out;clear _g;go_at_call 98;refine (HCR.out _).mono ?_;rintro e w3 ⟨rfl,hb3⟩
                 have L3:=η (show Below wr.heap.size wr w3 from by first | with_reducible exact ae L2.out hb3 ρ | with_reducible exact ae (L2.out.alloc L2.out.size _) hb3 ρ)
                 first
                   | (have NB:=η (show Box w3 _ _ _ from by with_reducible exact NB.out.below hb3 NB.out.lt)
                      obtain ⟨n0,n1,n2,n3,n4,n5⟩:=NB.out.three)
                   | (have NB:=η (show Box w3 _ #[.int .i64 0,.int .i64 0,.int .i64 0] 46 from by with_reducible exact (Box.new _ _ _ _ rfl).below hb3 (by simp))
                      have NL:=η L2.out.size;obtain ⟨n0,n1,n2,n3,n4,n5⟩:=NB.out.three)
                   | skip
                 clear hb3)
              | (have _g:=L1.out;clear _g;go_at_call 83;refine (iN pm pi 4096 4096 _ nm ni ω).mono ?_;rintro e w2 ⟨rfl,hb2⟩
                 have L2:=η (show Below wr.heap.size wr w2 from by first | with_reducible exact ae L1.out hb2 ρ | with_reducible exact ae (L1.out.alloc L1.out.size _) hb2 ρ)
                 first
                   | (have NB:=η (show Box w2 _ _ _ from by with_reducible exact NB.out.below hb2 NB.out.lt)
                      obtain ⟨n0,n1,n2,n3,n4,n5⟩:=NB.out.three)
                   | (have NB:=η (show Box w2 _ #[.int .i64 0,.int .i64 0,.int .i64 0] 46 from by with_reducible exact (Box.new _ _ _ _ rfl).below hb2 (by simp))
                      have NL:=η L1.out.size;obtain ⟨n0,n1,n2,n3,n4,n5⟩:=NB.out.three)
                   | skip
                 clear hb2)
              | (go_at_call 83;refine (iN pj pi 4096 4096 _ nj ni ω).mono ?_;rintro e w1 ⟨rfl,hb1⟩
                 have L1:=η (show Below wr.heap.size wr w1 from by first | with_reducible exact ae L00.out hb1 ρ | with_reducible exact ae (L0.out.alloc L0.out.size _).drew hb1 ρ)
                 first
                   | (have NB:=η (show Box w1 _ _ _ from by with_reducible exact NB.out.below hb1 NB.out.lt)
                      obtain ⟨n0,n1,n2,n3,n4,n5⟩:=NB.out.three)
                   | (have NB:=η (show Box w1 _ #[.int .i64 0,.int .i64 0,.int .i64 0] 46 from by with_reducible exact (Box.new _ _ _ _ rfl).drew.below hb1 (Box.new _ _ _ _ rfl).drew.lt)
                      have NL:=η L0.out.size;obtain ⟨n0,n1,n2,n3,n4,n5⟩:=NB.out.three)
                   | skip
                 clear hb1))
          all_goals
            go_wp2_with fail
            go_meet
          all_goals first
            | (with_reducible exact ⟨rfl,rfl,_,rfl,η (Box.new _ _ _ _ rfl),η (L3.out.alloc L3.out.size _),η L3.out.size⟩)
            | (with_reducible exact ⟨rfl,rfl,_,rfl,η (NB.out.set3 _ _ _),η (((L3.out.setCell NL.out _).setCell NL.out _).setCell NL.out _),η NL.out⟩)
            | (trace_state;fail)
        case rest =>
          obtain ⟨rfl,rfl,nb,rfl,hnb,hbc,hnl⟩:=hcut;obtain ⟨c0,c1,c2,c3,c4,c5⟩:=hnb.out.three;have e46:=eq46;have hRC:=ae HR.out hbc.out (ψ HR.out.size);have HRC:=η hRC;have HOC:=η (HO.out.below hbc.out);have HPC:=η (HPR.out.below hbc.out);clear hf1 KP HCR hRC;by_cases hz:nn=V.zero
          · rw [hz] at c0 c1 c2
            simp only [V.zero] at c0 c1 c2;have HZ:=η hz;clear hz c3 c4 c5;go_wp2;go_round
            case rel=>exact ⟨m+1,l,by have:=HML.out;omega,rfl,by omega,(by
              show _=j3 P len i j m (dO P len i j m (dA P len i j (dm P len i)));rw [← HL.out];unfold j3;rw [if_pos (by rw [HTR.out];exact HZ.out)]),HOC.out,HRC.out⟩
            case measure=>show j - ((m:Int)+1).toNat<j - (m:Int).toNat;have:=HML.out;omega
          have hzz:(nn.x == 0 && nn.y == 0 && nn.z == 0)=false:=by
            rw [Bool.eq_false_iff];intro h;simp at h;exact hz (V.ext' h.1.1 h.1.2 h.2)
          have HZ:=η hz;have hpm:=η (fun v=>rprim_any nn v (HNL.out.mono ω) hz);clear hz
          go_wp2_with fail
          refine (hpm.out _).mono ?_;rintro e w4 ⟨rfl,hb4⟩;have LP:=η (j6 (HNL.out.mono (show 2*(8192*8192)≤1000000000 by omega)) ω);obtain ⟨pn,hpn⟩:∃ pn,aQ nn=pn:=⟨_,rfl⟩;rw [hpn] at LP ⊢;have HPN:=η hpn;have hn4:=hnb.out.below hb4 hnb.out.lt;have HN4:=η hn4;have HB4:=η hb4;obtain ⟨d0,d1,d2,d3,d4,d5⟩:=hn4.three;clear c0 c1 c2 c3 c4 c5 hzz hpn hn4 hb4 hpm e46;unfold bX
          go_upto_region 14 with fail
          have NB1:=η (HN4.out.set3 (.int .i64 pn.x) (.int .i64 pn.y) (.int .i64 pn.z));have hB5:Below wr.heap.size wr (((w4.setCell ⟨nb,0,none⟩ (.int .i64 pn.x)).setCell ⟨nb,1,none⟩ (.int .i64 pn.y)).setCell ⟨nb,2,none⟩ (.int .i64 pn.z)):=
            ew (ae hbc.out HB4.out ρ) hnl.out _ _ _
          have HB5:=η hB5;clear hB5 d0 d1 d2 d3 d4 d5;generalize ((w4.setCell ⟨nb,0,none⟩ (.int .i64 pn.x)).setCell ⟨nb,1,none⟩ (.int .i64 pn.y)).setCell ⟨nb,2,none⟩ (.int .i64 pn.z)=w5 at *;have HB1:=η (ae HR.out HB5.out (ψ HR.out.size));have HO1:=η (HO.out.below HB5.out);have HP1:=η (HPR.out.below HB5.out);have NE1:=η (aW HO1.out NB1.out ν);have OG1:=η (cJ HO1.out);have HL1:=η (show l.length≤1000000 by omega);have LN1:Hid (LeV 1000000000 pn):=LP.out;obtain ⟨d1,hd1⟩:∃ d,V.dot pn pi=d:=⟨_,rfl⟩;have HD1:=η hd1;clear hd1;have KP1:Hid (∀ w',Below w5.heap.size w5 w'→w'.cell? ⟨nb,0,none⟩=some (.int .i64 pn.x)∧w'.cell? ⟨nb,1,none⟩=some (.int .i64 pn.y)∧w'.cell? ⟨nb,2,none⟩=some (.int .i64 pn.z)∧w'.cell? ⟨b,off+i*3,none⟩=some (.int .i64 pi.x)∧w'.cell? ⟨b,off+i*3+1,none⟩=some (.int .i64 pi.y)∧w'.cell? ⟨b,off+i*3+2,none⟩=some (.int .i64 pi.z)):=fun w' h=>by
            obtain ⟨n0,n1,n2,-⟩:=(NB1.out.below h NB1.out.lt).three;obtain ⟨b',off',e',hb',hc',hcc⟩:=(HP1.out.below h).cells (ψ HIL.out);cases e';obtain ⟨q0,q1,q2⟩:=hcc i HIL.out;rw [HPI.out] at q0 q1 q2;exact ⟨n0,n1,n2,q0,q1,q2⟩
          have Z1:=η (Below.refl w5.heap.size w5);have Z01:Hid (Below w5.heap.size w5 w5.drew):=Z1.out.drew;have hf1:=KP1.out _ Z1.out;have hSD1:=η (fun v h1 h2 h3=>ow u3 l w.heap.size (some ⟨b,off,none⟩) len cap P ⟨pn,d1⟩ v h1 h2 HL1.out h3 hlen LN1.out HN.out);have hDT1:Hid (∀ v,Calls Tryz.prog 16 #[bX pn,bX pi] v fun e w'=>e=.returned (.int .i64 d1)∧Below v.heap.size v w'):=fun v=>by
            rw [← HD1.out];exact fW pn pi 1000000000 4096 v LN1.out NI.out ω
          go_wp2_with fail
          go_region_held3 (fun w'=>w'.cell? ⟨nb,0,none⟩=some (.int .i64 pn.x)∧w'.cell? ⟨nb,1,none⟩=some (.int .i64 pn.y)∧w'.cell? ⟨nb,2,none⟩=some (.int .i64 pn.z)∧w'.cell? ⟨b,off+i*3,none⟩=some (.int .i64 pi.x)∧w'.cell? ⟨b,off+i*3+1,none⟩=some (.int .i64 pi.y)∧w'.cell? ⟨b,off+i*3+2,none⟩=some (.int .i64 pi.z))
            (first | with_reducible exact KS1.out | with_reducible exact (KP1.out _ M1.out) | with_reducible exact (KP1.out _ Z01.out))
            (first
              | (have _g:=M1.out;clear _g;go_at_call 99;refine (hSD1.out _ (Nat.le_trans HB1.out.size M1.out.size) (HO1.out.below M1.out) (HP1.out.below M1.out)).mono ?_
                 rintro e y1 ⟨⟨ov1,rfl,ho1⟩,hg1⟩;have G1:=η (iX (fB M1.out _) hg1);have OV1:=η ho1;have KS1:Hid (y1.cell? ⟨nb,0,none⟩=some (.int .i64 pn.x)∧y1.cell? ⟨nb,1,none⟩=some (.int .i64 pn.y)∧y1.cell? ⟨nb,2,none⟩=some (.int .i64 pn.z)∧y1.cell? ⟨b,off+i*3,none⟩=some (.int .i64 pi.x)∧y1.cell? ⟨b,off+i*3+1,none⟩=some (.int .i64 pi.y)∧y1.cell? ⟨b,off+i*3+2,none⟩=some (.int .i64 pi.z)):=by
                   obtain ⟨n0,n1,n2,-⟩:=(NB1.out.grown G1.out NE1.out).three;obtain ⟨b',off',e',hb',hc',hcc⟩:=(HP1.out.grown HPB.out G1.out OG1.out).cells (ψ HIL.out);cases e';obtain ⟨q0,q1,q2⟩:=hcc i HIL.out;rw [HPI.out] at q0 q1 q2;exact ⟨n0,n1,n2,q0,q1,q2⟩
                 clear ho1 hg1)
              | (go_at_call 16;refine (hDT1.out _).mono ?_;rintro e x1 ⟨rfl,hb1⟩
                 have M1:Hid (Below w5.heap.size w5 x1):=ae Z01.out hb1 ρ;clear hb1))
          clear hf1;obtain ⟨l1,hl1⟩:∃ l1,eW P len l ⟨pn,d1⟩=l1:=⟨_,rfl⟩;have hl1l:=jf P len l ⟨pn,d1⟩;rw [hl1] at OV1 hl1l;have HLL1:=η hl1;obtain ⟨n0,n1,n2,-⟩:=KS1.out;obtain ⟨mn,hmn⟩:∃ mn,-pn=mn:=⟨_,rfl⟩;have LP2:=η (show LeV 1000000000 mn from by rw [← hmn];exact LP.out.neg);have lx:Le 1000000000 pn.x:=LP.out.1;have ly:Le 1000000000 pn.y:=LP.out.2.1;have lz:Le 1000000000 pn.z:=LP.out.2.2;unfold Le at lx ly lz;have w1:wrap64 (-pn.x)=mn.x:=by rw [← hmn];exact IntWalk.wrap64_in _ ⟨by omega,by omega⟩
          have w2:wrap64 (-pn.y)=mn.y:=by rw [← hmn];exact IntWalk.wrap64_in _ ⟨by omega,by omega⟩
          have w3:wrap64 (-pn.z)=mn.z:=by rw [← hmn];exact IntWalk.wrap64_in _ ⟨by omega,by omega⟩
          have HMN:=η hmn;clear hl1 hmn lx ly lz KS1 NB1
          go_upto_region 16 with fail
          obtain ⟨W2,hW2,b2,hBW2,hS2⟩:=aG y1 #[.int .i64 mn.x,.int .i64 mn.y,.int .i64 mn.z] 46;rw [hW2];have hy1:=HB1.out.grown G1.out HB1.out.size (fun k hk=>OG1.out k hk);have HPY1:=η (HP1.out.grown HPB.out G1.out OG1.out);have NB2:=η b2;have HB2:=η (ae hy1 hBW2 (ψ hy1.size));have HO2:=η (OV1.out.below hBW2);have HP2:=η (HPY1.out.below hBW2);have NE2:=η (aW HO2.out NB2.out ν);have OG2:=η (cJ HO2.out);have HL2:=η (show l1.length≤1000000 by omega);have LN2:Hid (LeV 1000000000 mn):=LP2.out;obtain ⟨d2,hd2⟩:∃ d,V.dot mn pi=d:=⟨_,rfl⟩;have HD2:=η hd2;clear hd2 hW2 b2 hBW2 hS2 hy1 n0 n1 n2 w1 w2 w3;have KP2:Hid (∀ w',Below W2.heap.size W2 w'→w'.cell? ⟨y1.heap.size,0,none⟩=some (.int .i64 mn.x)∧w'.cell? ⟨y1.heap.size,1,none⟩=some (.int .i64 mn.y)∧w'.cell? ⟨y1.heap.size,2,none⟩=some (.int .i64 mn.z)∧w'.cell? ⟨b,off+i*3,none⟩=some (.int .i64 pi.x)∧w'.cell? ⟨b,off+i*3+1,none⟩=some (.int .i64 pi.y)∧w'.cell? ⟨b,off+i*3+2,none⟩=some (.int .i64 pi.z)):=fun w' h=>by
            obtain ⟨n0,n1,n2,-⟩:=(NB2.out.below h NB2.out.lt).three;obtain ⟨b',off',e',hb',hc',hcc⟩:=(HP2.out.below h).cells (ψ HIL.out);cases e';obtain ⟨q0,q1,q2⟩:=hcc i HIL.out;rw [HPI.out] at q0 q1 q2;exact ⟨n0,n1,n2,q0,q1,q2⟩
          have Z2:=η (Below.refl W2.heap.size W2);have Z02:Hid (Below W2.heap.size W2 W2.drew):=Z2.out.drew;have hf2:=KP2.out _ Z2.out;have hSD2:=η (fun v h1 h2 h3=>ow ov1 l1 w.heap.size (some ⟨b,off,none⟩) len cap P ⟨mn,d2⟩ v h1 h2 HL2.out h3 hlen LN2.out HN.out);have hDT2:Hid (∀ v,Calls Tryz.prog 16 #[bX mn,bX pi] v fun e w'=>e=.returned (.int .i64 d2)∧Below v.heap.size v w'):=fun v=>by
            rw [← HD2.out];exact fW mn pi 1000000000 4096 v LN2.out NI.out ω
          go_wp2_with fail
          go_region_held3 (fun w'=>w'.cell? ⟨y1.heap.size,0,none⟩=some (.int .i64 mn.x)∧w'.cell? ⟨y1.heap.size,1,none⟩=some (.int .i64 mn.y)∧w'.cell? ⟨y1.heap.size,2,none⟩=some (.int .i64 mn.z)∧w'.cell? ⟨b,off+i*3,none⟩=some (.int .i64 pi.x)∧w'.cell? ⟨b,off+i*3+1,none⟩=some (.int .i64 pi.y)∧w'.cell? ⟨b,off+i*3+2,none⟩=some (.int .i64 pi.z))
            (first | with_reducible exact KS2.out | with_reducible exact (KP2.out _ M2.out) | with_reducible exact (KP2.out _ Z02.out))
            (first
              | (have _g:=M2.out;clear _g;go_at_call 99;refine (hSD2.out _ (Nat.le_trans HB2.out.size M2.out.size) (HO2.out.below M2.out) (HP2.out.below M2.out)).mono ?_
                 rintro e y2 ⟨⟨ov2,rfl,ho2⟩,hg2⟩;have G2:=η (iX (fB M2.out _) hg2);have OV2:=η ho2;have KS2:Hid (y2.cell? ⟨y1.heap.size,0,none⟩=some (.int .i64 mn.x)∧y2.cell? ⟨y1.heap.size,1,none⟩=some (.int .i64 mn.y)∧y2.cell? ⟨y1.heap.size,2,none⟩=some (.int .i64 mn.z)∧y2.cell? ⟨b,off+i*3,none⟩=some (.int .i64 pi.x)∧y2.cell? ⟨b,off+i*3+1,none⟩=some (.int .i64 pi.y)∧y2.cell? ⟨b,off+i*3+2,none⟩=some (.int .i64 pi.z)):=by
                   obtain ⟨n0,n1,n2,-⟩:=(NB2.out.grown G2.out NE2.out).three;obtain ⟨b',off',e',hb',hc',hcc⟩:=(HP2.out.grown HPB.out G2.out OG2.out).cells (ψ HIL.out);cases e';obtain ⟨q0,q1,q2⟩:=hcc i HIL.out;rw [HPI.out] at q0 q1 q2;exact ⟨n0,n1,n2,q0,q1,q2⟩
                 clear ho2 hg2)
              | (go_at_call 16;refine (hDT2.out _).mono ?_;rintro e x2 ⟨rfl,hb2⟩
                 have M2:Hid (Below W2.heap.size W2 x2):=ae Z02.out hb2 ρ;clear hb2))
          clear hf2;have hl2l:=jf P len l1 ⟨mn,d2⟩;have hy2:=HB2.out.grown G2.out HB2.out.size (fun k hk=>OG2.out k hk);have HY2:=η hy2;clear hy2;go_wp2;go_round
          case rel=>exact ⟨m+1,_,by have:=HML.out;omega,rfl,by omega,(by
            show _=j3 P len i j m (dO P len i j m (dA P len i j (dm P len i)));rw [← HL.out];unfold j3;rw [if_neg (by rw [HTR.out];exact HZ.out),HTR.out,HPN.out,HPI.out,HD1.out,HLL1.out,HMN.out,HD2.out]),OV2.out,HY2.out⟩
          case measure=>show j - ((m:Int)+1).toNat<j - (m:Int).toNat;have:=HML.out;omega
end Go.Proofs.Υ
end

section
namespace Dowel
open Go Go.RowKit
theorem onR_take (p:V) (l:List Pl) (k:Nat) (hk:k<l.length):onR p (l.take (k+1))=onR p (l.take k)+(if V.dot (l.getD k ⟨V.zero,0⟩).n p=(l.getD k ⟨V.zero,0⟩).o then 1 else 0):=by
 unfold onR;rw [List.take_succ_eq_append_getElem hk,List.filter_append,List.length_append,show l.getD k ⟨V.zero,0⟩=l[k] from by simp [hk]]
 congr 1
 by_cases h:V.dot l[k].n p=l[k].o <;> simp [h]
theorem onR_le (p:V) (l:List Pl):onR p l≤l.length:=List.length_filter_le _ _
theorem allR_take (p q:V) (l:List Pl) (k:Nat) (hk:k<l.length):lj p q (l.take (k+1))=(lj p q (l.take k) && (decide (V.dot (l.getD k ⟨V.zero,0⟩).n p≠(l.getD k ⟨V.zero,0⟩).o) || decide (V.dot (l.getD k ⟨V.zero,0⟩).n q=(l.getD k ⟨V.zero,0⟩).o))):=by
 unfold lj;rw [List.take_succ_eq_append_getElem hk,List.all_append,show l.getD k ⟨V.zero,0⟩=l[k] from by simp [hk]];simp
end Dowel
namespace Go.Proofs.Υ
open Go.RowKit Dowel
set_option maxRecDepth 10000 in
theorem rext_any (a:Option Addr) (len cap:Nat) (P:Nat→V) (pv:Value) (pl:List Pl) (base:Nat) (p:V) (w:World) (hP:Pts w a len cap P) (hlen:len≤64) (hnear:∀ i,i<len→LeV 4096 (P i)) (ho:kD w base pv pl) (hpl:pl.length≤600000) (hpn:∀ i,i<pl.length→LeV 1000000000 (pl.getD i ⟨V.zero,0⟩).n) (hp:LeV 4096 p) :
    Calls Tryz.prog 52 #[.slice a len cap,pv,bX p] w fun e w'=>e=.returned (.bool (cC P len pl p))∧Below w.heap.size w w':=by
  obtain ⟨W,hW,b1,hB,hS⟩:=aG w #[.int .i64 p.x,.int .i64 p.y,.int .i64 p.z] 46;have HO:=η (ho.below hB);have HP:=η (hP.below hB);have B1:=η b1;have HB:=η hB;have HSZ:=η hS;have HN:=η hnear;have HPN:=η hpn;have HPP:=η hp;obtain ⟨oa,oc,rfl,hoc,-⟩:=ho.slice;have hgl:=b1.lt;clear ho hP b1 hB hS hnear hpn hp;unfold bX
  go_enter Tryz.func52,Tryz.ntmps52
  go_wp2_with fail
  go_loopw [7,8] (fun ov v wr=>∃ k:Nat,k≤pl.length∧v=.int .i64 (k:Nat)∧ov=.int .i64 (onR p (pl.take k):Nat)∧Hid (Below W.heap.size W wr)) (fun _ v _=>pl.length - (intOf v).toNat)
  case atStart=>exact ⟨0,Nat.zero_le _,rfl,rfl,Below.refl _ _⟩
  case round =>
    obtain ⟨k,hk,rfl,rfl,HR⟩:=hrel;by_cases h0:k=pl.length
    · have hn:¬ (k:Int)<(pl.length:Int):=ω
      have hon:onR p (pl.take k)=onR p pl:=by rw [h0,List.take_length]
      rw [hon];have H0:=η h0;clear h0 hon;by_cases hz:onR p pl=0
      · have HZ:=η hz
        rw [hz];have hd0:(decide (((0:Nat):Int) > 0))=false:=by decide
        clear hz;by_cases hl:(0:Int)<(len:Int)
        · go_wp2_with fail
          go_loopw [9] (fun v wx=>v=.int .i64 0∧Hid (Below W.heap.size W wx)) (fun _ _=>0)
          case atStart=>exact ⟨rfl,HR.out⟩
          case round =>
            clear HR;obtain ⟨rfl,HR⟩:=hrel;go_wp2;exact bodyPost_ret (results_tmp Tryz.results52 _ _ _) rfl ⟨by
              rw [show cC P len pl p=false from by unfold cC;rw [HZ.out];rfl];rfl,ae HB.out HR.out (ψ HSZ.out)⟩
        · go_wp2_with fail
          go_loopw [9] (fun v wx=>v=.int .i64 0∧Hid (Below W.heap.size W wx)) (fun _ _=>0)
          case atStart=>exact ⟨rfl,HR.out⟩
          case round =>
            clear HR;obtain ⟨rfl,HR⟩:=hrel;go_wp2;exact bodyPost_ret (results_tmp Tryz.results52 _ _ _) rfl ⟨by
              rw [show cC P len pl p=false from by unfold cC;rw [HZ.out];rfl];rfl,ae HB.out HR.out (ψ HSZ.out)⟩
      obtain ⟨on,hon⟩:∃ on,onR p pl=on:=⟨_,rfl⟩;rw [hon] at hz ⊢;have HON:=η hon;have hgt:(on:Int) > 0:=ω;have hgt2:(0:Int)<(on:Int):=ω;have HGT:Hid (0<on):=Nat.pos_of_ne_zero hz;clear hon hz
      go_wp2_with fail
      go_loopw [9] (fun v wr=>∃ i:Nat,i≤len∧v=.int .i64 (i:Nat)∧Hid (∀ q,q<i→P q=p∨lj p (P q) pl=false)∧Hid (Below W.heap.size W wr)) (fun v _=>len - (intOf v).toNat)
      case atStart=>exact ⟨0,Nat.zero_le _,rfl,(fun q hq=>by omega),HR.out⟩
      case round =>
        clear HR;obtain ⟨i,hi,rfl,HJ,HR⟩:=hrel;by_cases h0:i=len
        · have hn2:¬ (i:Int)<(len:Int):=ω
          have H0:=η h0;clear h0;go_wp2;exact bodyPost_ret (results_tmp Tryz.results52 _ _ _) rfl ⟨by
            rw [show cC P len pl p=true from by
              unfold cC;rw [Bool.and_eq_true,decide_eq_true_iff,List.all_eq_true];refine ⟨by rw [HON.out];omega,fun q hq=>?_⟩;rw [Bool.or_eq_true,decide_eq_true_iff,Bool.not_eq_true'];exact HJ.out q (by have:=List.mem_range.mp hq;have:=H0.out;omega)]
            show Ending.returned (Value.bool (decide (0<on)))=_;rw [decide_eq_true HGT.out],ae HB.out HR.out (ψ HSZ.out)⟩
        have hlt:(i:Int)<(len:Int):=ω;have hil:i<len:=ω;have HIL:=η hil;clear h0;obtain ⟨b,off,rfl,hb,hc,hcc⟩:=(HP.out.below HR.out).cells ω;obtain ⟨q0,q1,q2⟩:=hcc i hil;obtain ⟨x0,x1,x2,-⟩:=(B1.out.below HR.out hgl).three;have NQ:=η (HN.out i hil);obtain ⟨q,hq⟩:∃ q,P i=q:=⟨_,rfl⟩;rw [hq] at q0 q1 q2 NQ;have HQ:=η hq;have e46:=eq46;have hd5:decide (0<on)=true:=decide_eq_true HGT.out;clear hq hcc;by_cases hqp:q=p
        · have hb1:(q.x == p.x && q.y == p.y && q.z == p.z)=true:=by rw [hqp];simp
          have HQP:=η hqp;clear hqp
          go_wp2_with fail
          go_region;go_wp2
          go_round
          case rel=>exact ⟨i+1,by have:=HIL.out;omega,rfl,(fun t ht=>by
            by_cases e:t=i
            · subst e;left;rw [HQ.out,HQP.out]
            · exact HJ.out t ω),aJ HR.out _⟩
          case measure=>show len - ((i:Int)+1).toNat<len - (i:Int).toNat;have:=HIL.out;omega
        have hb1:(q.x == p.x && q.y == p.y && q.z == p.z)=false:=by
          rw [Bool.eq_false_iff];intro h;simp at h;exact hqp (V.ext' h.1.1 h.1.2 h.2)
        have HQP:=η hqp;clear hqp
        go_wp2_with fail
        go_region;have hR2:=aJ HR.out 1
        have HR2:=η hR2;clear HR hR2 hb hb1 x0 x1 x2 q0 q1 q2 e46
        go_wp2_with fail
        go_loopw [10,11] (fun bv v wr=>∃ k:Nat,k≤pl.length∧v=.int .i64 (k:Nat)∧bv=.bool (lj p q (pl.take k))∧Hid (Below W.heap.size W wr)) (fun _ v _=>pl.length - (intOf v).toNat)
        case atStart=>exact ⟨0,Nat.zero_le _,rfl,rfl,HR2.out⟩
        case round =>
          clear HR2;obtain ⟨k,hk,rfl,rfl,HR⟩:=hrel;by_cases h0:k=pl.length
          · have hn3:¬ (k:Int)<(pl.length:Int):=ω
            have hal:lj p q (pl.take k)=lj p q pl:=by rw [h0,List.take_length]
            rw [hal];clear h0 hal;cases hb:lj p q pl
            · have HBB:=η hb
              clear hb;go_wp2;go_round
              case rel=>exact ⟨i+1,by have:=HIL.out;omega,rfl,(fun t ht=>by
                by_cases e:t=i
                · subst e;right;rw [HQ.out];exact HBB.out
                · exact HJ.out t ω),HR.out⟩
              case measure=>show len - ((i:Int)+1).toNat<len - (i:Int).toNat;have:=HIL.out;omega
            · have HBB:=η hb
              clear hb;go_wp2;exact bodyPost_ret (results_tmp Tryz.results52 _ _ _) rfl ⟨by
                rw [show cC P len pl p=false from by
                  unfold cC;rw [Bool.and_eq_false_iff]
                  right
                  rw [List.all_eq_false];refine ⟨i,List.mem_range.mpr HIL.out,?_⟩;rw [HQ.out,HBB.out,decide_eq_false HQP.out];decide]
                rfl,ae HB.out HR.out (ψ HSZ.out)⟩
          have hlt3:(k:Int)<(pl.length:Int):=ω;have hkl:k<pl.length:=ω;have HKL:=η hkl;clear h0;obtain ⟨oa2,oc2,e0,-,hoo⟩:=(HO.out.below HR.out).slice;cases e0;obtain ⟨mb,mo,rfl,hmb,y0,y1,y2,y3⟩:=hoo k hkl;have LM:=η (HPN.out k hkl);have hst:=allR_take p q pl k hkl;generalize hm:pl.getD k ⟨V.zero,0⟩=m at y0 y1 y2 y3 LM hst;have HST:=η hst;clear hoo hst hm;obtain ⟨bk,hbk⟩:∃ bk,lj p q (pl.take k)=bk:=⟨_,rfl⟩;rw [hbk];have HBK:=η hbk;clear hbk;obtain ⟨w3,rfl⟩:∃ w3,w3=wr:=⟨_,rfl⟩
          go_upto_region 16 with fail
          obtain ⟨W3,hW3,b3,hB3,hS3⟩:=aG w3 #[.int .i64 m.n.x,.int .i64 m.n.y,.int .i64 m.n.z,.int .i64 m.o] 48;rw [hW3];have hB4:=ae HR.out hB3 ρ;obtain ⟨b',off',e',hb',hc',hcc⟩:=(HP.out.below hB4).cells (ψ HIL.out);cases e';obtain ⟨q0,q1,q2⟩:=hcc i HIL.out;rw [HQ.out] at q0 q1 q2;obtain ⟨x0,x1,x2,-⟩:=(B1.out.below hB4 hgl).three;obtain ⟨y0,y1,y2,y3,-⟩:=b3.four;have hgb:w.heap.size<W3.heap.size:=by have:=hB4.size;omega
          have hgb2:=b3.lt;have KP:Hid (∀ w',Below W3.heap.size W3 w'→w'.cell? ⟨w3.heap.size,0,none⟩=some (.int .i64 m.n.x)∧w'.cell? ⟨w3.heap.size,1,none⟩=some (.int .i64 m.n.y)∧w'.cell? ⟨w3.heap.size,2,none⟩=some (.int .i64 m.n.z)∧w'.cell? ⟨w3.heap.size,3,none⟩=some (.int .i64 m.o)∧w'.cell? ⟨w.heap.size,0,none⟩=some (.int .i64 p.x)∧w'.cell? ⟨w.heap.size,1,none⟩=some (.int .i64 p.y)∧w'.cell? ⟨w.heap.size,2,none⟩=some (.int .i64 p.z)∧w'.cell? ⟨b,off+i*3,none⟩=some (.int .i64 q.x)∧w'.cell? ⟨b,off+i*3+1,none⟩=some (.int .i64 q.y)∧w'.cell? ⟨b,off+i*3+2,none⟩=some (.int .i64 q.z)):=fun w' h =>
            ⟨keepC y0 h hgb2,keepC y1 h hgb2,keepC y2 h hgb2,keepC y3 h hgb2,keepC x0 h hgb,keepC x1 h hgb,keepC x2 h hgb,keepC q0 h hb',keepC q1 h hb',keepC q2 h hb'⟩
          have L0:=η (Below.refl W3.heap.size W3);have L00:Hid (Below W3.heap.size W3 W3.drew):=L0.out.drew;have HR3:=η hB4;have hf1:=KP.out _ L0.out;clear hcc x0 x1 x2 y0 y1 y2 y3 q0 q1 q2 hW3 b3 hB3 hS3 hB4;cases bk
          · go_wp2_with fail
            first | (go_quiet (fail)) | fail
            all_goals
              go_wp2;go_round
              case rel=>exact ⟨k+1,by have:=HKL.out;omega,rfl,(by rw [HST.out,HBK.out];rfl),aJ HR3.out _⟩
              case measure=>show pl.length - ((k:Int)+1).toNat<pl.length - (k:Int).toNat;have:=HKL.out;omega
          have hdt:=η (fun v=>fW m.n p 1000000000 4096 v LM.out HPP.out ω);have hdq:=η (fun v=>fW m.n q 1000000000 4096 v LM.out NQ.out ω);obtain ⟨d,hd⟩:∃ d,V.dot m.n p=d:=⟨_,rfl⟩;obtain ⟨d2,hd2⟩:∃ d,V.dot m.n q=d:=⟨_,rfl⟩;have HST2:Hid (lj p q (pl.take (k+1))=(decide (d≠m.o) || decide (d2=m.o))):=by
            show _=_;rw [HST.out,HBK.out,hd,hd2];rfl
          rw [hd] at hdt;rw [hd2] at hdq;clear hd hd2;by_cases he:d=m.o
          · have hbe:(d != m.o)=false:=by rw [he];exact bne_self_eq_false _
            have HE:=η he;clear he
            go_wp2_with fail
            go_region_held3 (fun w'=>w'.cell? ⟨w3.heap.size,0,none⟩=some (.int .i64 m.n.x)∧w'.cell? ⟨w3.heap.size,1,none⟩=some (.int .i64 m.n.y)∧w'.cell? ⟨w3.heap.size,2,none⟩=some (.int .i64 m.n.z)∧w'.cell? ⟨w3.heap.size,3,none⟩=some (.int .i64 m.o)∧w'.cell? ⟨w.heap.size,0,none⟩=some (.int .i64 p.x)∧w'.cell? ⟨w.heap.size,1,none⟩=some (.int .i64 p.y)∧w'.cell? ⟨w.heap.size,2,none⟩=some (.int .i64 p.z)∧w'.cell? ⟨b,off+i*3,none⟩=some (.int .i64 q.x)∧w'.cell? ⟨b,off+i*3+1,none⟩=some (.int .i64 q.y)∧w'.cell? ⟨b,off+i*3+2,none⟩=some (.int .i64 q.z))
              (first | with_reducible exact (KP.out _ L2.out) | with_reducible exact (KP.out _ L1.out) | with_reducible exact (KP.out _ L00.out))
              (first
                | (have _g:=L1.out;clear _g;go_at_call 16;refine (hdq.out _).mono ?_;rintro e w2 ⟨rfl,hb2⟩
                   have L2:Hid (Below W3.heap.size W3 w2):=ae L1.out hb2 ρ;clear hb2)
                | (go_at_call 16;refine (hdt.out _).mono ?_;rintro e w1 ⟨rfl,hb1⟩
                   have L1:Hid (Below W3.heap.size W3 w1):=ae L00.out hb1 ρ;clear hb1))
            clear hf1;go_wp2;go_round
            case rel=>exact ⟨k+1,by have:=HKL.out;omega,rfl,(by rw [HST2.out,decide_eq_false (fun h=>h HE.out)];rfl),ae HR3.out L2.out ρ⟩
            case measure=>show pl.length - ((k:Int)+1).toNat<pl.length - (k:Int).toNat;have:=HKL.out;omega
          · have hbe:(d != m.o)=true:=bne_iff_ne.mpr he
            have HE:=η he;clear he
            go_wp2_with fail
            clear hf1;have K0:=fun x:Later W3.heap.size W3=>(KP.out _ x.h).1
            have K1:=fun x:Later W3.heap.size W3=>(KP.out _ x.h).2.1
            have K2:=fun x:Later W3.heap.size W3=>(KP.out _ x.h).2.2.1
            have K3:=fun x:Later W3.heap.size W3=>(KP.out _ x.h).2.2.2.1
            have K4:=fun x:Later W3.heap.size W3=>(KP.out _ x.h).2.2.2.2.1
            have K5:=fun x:Later W3.heap.size W3=>(KP.out _ x.h).2.2.2.2.2.1
            have K6:=fun x:Later W3.heap.size W3=>(KP.out _ x.h).2.2.2.2.2.2.1
            refine cz L0.out κ κ ?_
            repeat (first
              | go_big_quiet_skip
              | (go_big_quiet_want;go_big_quiet_op;first | go_big_quiet_on | go_big_quiet_call ((go_at_call 16;exact Calls.later ρ (hdt.out _)))))
            refine wpQuiet_nil ?_;intro _ hw';obtain ⟨x,hx⟩:=hw';have L1:=η x.h;rw [← hx] at L1;clear hx x K0 K1 K2 K3 K4 K5 K6;go_wp2;go_round
            case rel=>exact ⟨k+1,by have:=HKL.out;omega,rfl,(by rw [HST2.out,decide_eq_true HE.out];rfl),ae HR3.out L1.out ρ⟩
            case measure=>show pl.length - ((k:Int)+1).toNat<pl.length - (k:Int).toNat;have:=HKL.out;omega
    have hlt:(k:Int)<(pl.length:Int):=ω;have hkl:k<pl.length:=ω;have HKL:=η hkl;clear h0;obtain ⟨oa2,oc2,e0,-,hoo⟩:=(HO.out.below HR.out).slice;cases e0;obtain ⟨mb,mo,rfl,hb,y0,y1,y2,y3⟩:=hoo k hkl;obtain ⟨x0,x1,x2,-⟩:=(B1.out.below HR.out hgl).three;have LM:=η (HPN.out k hkl);have hst:=onR_take p pl k hkl;have hle:=onR_le p (pl.take k);rw [List.length_take] at hle;generalize hm:pl.getD k ⟨V.zero,0⟩=m at y0 y1 y2 y3 LM hst;generalize hc:onR p (pl.take k)=c at *;have hgb:w.heap.size<wr.heap.size:=by have:=HR.out.size;omega
    have KP:Hid (∀ w',Below wr.heap.size wr w'→w'.cell? ⟨w.heap.size,0,none⟩=some (.int .i64 p.x)∧w'.cell? ⟨w.heap.size,1,none⟩=some (.int .i64 p.y)∧w'.cell? ⟨w.heap.size,2,none⟩=some (.int .i64 p.z)∧w'.cell? ⟨mb,mo+k*4,none⟩=some (.int .i64 m.n.x)∧w'.cell? ⟨mb,mo+k*4+1,none⟩=some (.int .i64 m.n.y)∧w'.cell? ⟨mb,mo+k*4+2,none⟩=some (.int .i64 m.n.z)∧w'.cell? ⟨mb,mo+k*4+3,none⟩=some (.int .i64 m.o)):=fun w' h =>
      ⟨keepC x0 h hgb,keepC x1 h hgb,keepC x2 h hgb,keepC y0 h hb,keepC y1 h hb,keepC y2 h hb,keepC y3 h hb⟩
    have L0:=η (Below.refl wr.heap.size wr);have L00:Hid (Below wr.heap.size wr wr.drew):=L0.out.drew;have hf1:=KP.out _ L0.out;have hdt:=η (fun v=>fW m.n p 1000000000 4096 v LM.out HPP.out ω);obtain ⟨d,hd⟩:∃ d,V.dot m.n p=d:=⟨_,rfl⟩;rw [hd] at hdt hst;have HST:=η hst;have HCW:Hid (wrap64 ((c:Int)+1)=((c+1:Nat):Int)):=by
      show wrap64 _=_;rw [IntWalk.wrap64_in _ ⟨by omega,by omega⟩];omega
    clear hoo hm hc hd hst x0 x1 x2 y0 y1 y2 y3
    go_wp2_with fail
    go_region_held3 (fun w'=>w'.cell? ⟨w.heap.size,0,none⟩=some (.int .i64 p.x)∧w'.cell? ⟨w.heap.size,1,none⟩=some (.int .i64 p.y)∧w'.cell? ⟨w.heap.size,2,none⟩=some (.int .i64 p.z)∧w'.cell? ⟨mb,mo+k*4,none⟩=some (.int .i64 m.n.x)∧w'.cell? ⟨mb,mo+k*4+1,none⟩=some (.int .i64 m.n.y)∧w'.cell? ⟨mb,mo+k*4+2,none⟩=some (.int .i64 m.n.z)∧w'.cell? ⟨mb,mo+k*4+3,none⟩=some (.int .i64 m.o))
      (first | with_reducible exact (KP.out _ L1.out) | with_reducible exact (KP.out _ L00.out))
      (first
        | (go_at_call 16;refine (hdt.out _).mono ?_;rintro e w1 ⟨rfl,hb1⟩
           have L1:Hid (Below wr.heap.size wr w1):=ae L00.out hb1 ρ;clear hb1))
    clear hf1;by_cases he:d=m.o
    · have hbe:(d == m.o)=true:=by rw [he];exact beq_self_eq_true _
      have HE:=η he;clear he;go_wp2;go_round
      case rel=>exact ⟨k+1,by have:=HKL.out;omega,rfl,(by rw [HST.out,if_pos HE.out];first | rfl | exact congrArg (Value.int .i64) HCW.out),ae HR.out L1.out ρ⟩
      case measure=>show pl.length - ((k:Int)+1).toNat<pl.length - (k:Int).toNat;have:=HKL.out;omega
    · have hbe:(d == m.o)=false:=by rw [beq_eq_false_iff_ne];exact he
      have HE:=η he;clear he;go_wp2;go_round
      case rel=>exact ⟨k+1,by have:=HKL.out;omega,rfl,(by rw [HST.out,if_neg HE.out];rfl),ae HR.out L1.out ρ⟩
      case measure=>show pl.length - ((k:Int)+1).toNat<pl.length - (k:Int).toNat;have:=HKL.out;omega
end Go.Proofs.Υ
end

section
namespace Dowel
open Go Go.RowKit
theorem planesR_le {P:Nat→V} {len:Nat} (hn:∀ i,i<len→LeV 4096 (P i)) {m:Pl} (h:m ∈ bD P len):LeV 1000000000 m.n:=by
 obtain ⟨i,j,k,h1,h2,h3,h0,hm,-⟩:=dt.mp h;have hl:=((hn j ω).sub (hn i h3)).cross ((hn k ω).sub (hn i h3));have hl2:=j6 (hl.mono (show 2*((4096+4096)*(4096+4096))≤(1000000000:Int) by omega)) ω
 rcases hm with e | e <;> rw [e]
 ·exact hl2
 ·exact hl2.neg
theorem lI (P:Nat→V) (len i j:Nat) (out:List Pl):∀ K,(dO P len i j K out).length≤out.length+2*K
 | 0=>by simp [dO]
 | K+1=>by have:=lI P len i j out K;have:=stepR_len P len i j K (dO P len i j K out);unfold dO;omega
theorem lJ (P:Nat→V) (len i:Nat) (out:List Pl):∀ J,J≤64→(dA P len i J out).length≤out.length+128*J
 | 0,_=>by simp [dA]
 | J+1,h=>by have:=lJ P len i out J ω;have:=lI P len i J (dA P len i J out) J;unfold dA;omega
theorem lK (P:Nat→V) (len:Nat):∀ I,I≤64→(dm P len I).length≤8192*I
 | 0,_=>by simp [dm]
 | I+1,h=>by have:=lK P len I ω;have:=lJ P len I (dm P len I) I ω;unfold dm;omega
theorem planesR_len (P:Nat→V) (len:Nat) (h:len≤64):(bD P len).length≤600000:=by
 have:=lK P len len h;unfold bD;omega
end Dowel
namespace Go.Proofs.Υ
open Go.RowKit Dowel
end Go.Proofs.Υ
end

section
namespace Dowel
open V Go.Proofs.Υ
variable {P : Nat → V} {N : Nat}
structure Valid (P:Nat→V) (N:Nat):Prop where
 le:N≤16
 four:4≤N
 sorted:Sorted P N
 full4:dq P N
 extr:∀ v,v<N→lp P N v
theorem kN:∀ (f i:Nat),(∀ q,i≤q→q<i+f→far (P q)=false∧(0<q→Lex (P (q - 1)) (P q)))→iM P f i=none
 | 0,_,_=>rfl
 | f+1,i,h=>by
  obtain ⟨h1,h2⟩:=h i ρ ω;rw [jg h1 h2];exact kN f (i+1) fun q h3 h4=>h q ω ω
theorem scan_bad:∀ (f i:Nat),(iM P f i=none∧∀ q,i≤q→q<i+f→far (P q)=false∧(0<q→Lex (P (q - 1)) (P q)))∨iM P f i=some 2∨iM P f i=some 8
 | 0,i=>.inl ⟨rfl,fun q h1 h2=>by omega⟩
 | f+1,i=>by
  by_cases hf:far (P i)=true
  ·exact .inr (.inl (scan_far hf))
  ·have hf:far (P i)=false:=by simpa using hf
   by_cases hl:0<i→Lex (P (i - 1)) (P i)
   ·rw [jg hf hl]
    rcases scan_bad f (i+1) with ⟨h1,h2⟩ | h | h
    ·refine .inl ⟨h1,fun q h3 h4=>?_⟩
     by_cases e:q=i
     ·subst e;exact ⟨hf,hl⟩
     ·exact h2 q ω ω
    ·exact .inr (.inl h)
    ·exact .inr (.inr h)
   ·have hl':0<i∧¬ Lex (P (i - 1)) (P i):=by
     refine Classical.byContradiction fun hc=>hl fun h0=>Classical.byContradiction fun hn=>hc ⟨h0,hn⟩
    exact .inr (.inr (mH hf hl'.1 hl'.2))
theorem kg:lc P N=0↔Valid P N:=by
 unfold lc;by_cases h16:16<N
 ·rw [if_pos h16]
  exact ⟨fun h=>by omega,fun h=>by have:=h.le;omega⟩
 ·rw [if_neg h16]
  rcases scan_bad (P:=P) N 0 with ⟨h1,h2⟩ | h | h
  ·rw [h1]
   show lA P N=0↔_;unfold lA;have hS:Sorted P N:=ot (fun q hq=>(h2 q ω ω).1) (fun q hq=>(h2 q ω ω).2);by_cases h3:N<4∨¬ dq P N
   ·rw [if_pos h3]
    refine ⟨fun h=>by omega,fun h=>?_⟩
    rcases h3 with h3 | h3
    ·have:=h.four;omega
    ·exact absurd h.full4 h3
   ·rw [if_neg h3]
    have h4:4≤N:=ω;have h5:dq P N:=Classical.byContradiction fun hc=>h3 (.inr hc)
    by_cases h6:∀ v,v<N→lp P N v
    ·rw [if_pos h6]
     exact ⟨fun _=>⟨by omega,h4,hS,h5,h6⟩,fun _=>rfl⟩
    ·rw [if_neg h6]
     exact ⟨fun h=>by omega,fun h=>absurd h.extr h6⟩
  ·rw [h]
   refine ⟨fun h=>by simp at h,fun hv=>?_⟩;rw [kN N 0 fun q _ hq=>⟨(iu _).mpr (hv.sorted.near q ω),fun h0=>hv.sorted.lt (q - 1) q ω ω⟩] at h;cases h
  ·rw [h]
   refine ⟨fun h=>by simp at h,fun hv=>?_⟩;rw [kN N 0 fun q _ hq=>⟨(iu _).mpr (hv.sorted.near q ω),fun h0=>hv.sorted.lt (q - 1) q ω ω⟩] at h;cases h
theorem Valid.full (h:Valid P N):fG P N:=h.full4.full
theorem Valid.top (h:Valid P N):∀ v,v<N→Top P N v:=fun v hv=>(h.extr v hv).top
end Dowel
end
