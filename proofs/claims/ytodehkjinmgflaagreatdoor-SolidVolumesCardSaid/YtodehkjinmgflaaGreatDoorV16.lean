/- Lemmas. -/
import Derived.Test.YtodehkjinmgflaaGreatDoorV14
import Derived.Test.YtodehkjinmgflaaGreatDoorV15
set_option linter.all false
set_option maxHeartbeats 0
set_option maxRecDepth 99999
namespace Go.Proofs.Υ
open Go Go.RowKit Tryz
section
open Go.Proofs.Υ (far mA)
open Classical in
noncomputable def jX (P:Nat→V):Nat→Nat→Option Int
 | 0,_=>none
 | f+1,i=>if far (P i)=true then some 2 else if 0<i/\¬ Lex (P (i - 1)) (P i) then some 8 else jX P f (i+1)
open Classical in
noncomputable def nO (P:Nat→V) (len:Nat):Int:=if len<4\/¬ eA P len then 23 else if ∀ v,v<len→nJ P len v then 0 else 24
noncomputable def nB (P:Nat→V) (len:Nat):Int:=if 16<len then 6 else (jX P len 0).getD (nO P len)
theorem scan_far{P:Nat->V}{f i:Nat}(h:far (P i)=true):jX P (f+1) i=some 2:=by unfold jX;rw[if_pos h]
theorem pK{P:Nat->V}{f i:Nat}(h:far (P i)=false)(e:0<i)(j:¬ Lex (P (i-1)) (P i)):jX P (f+1) i=some 8:=by
 unfold jX;rw[if_neg (by rw[h];decide),if_pos ⟨e,j⟩]
theorem kB{P:Nat->V}{f i:Nat}(h:far (P i)=false)(e:0<i->Lex (P (i-1)) (P i)):jX P (f+1) i=jX P f (i+1):=by
 conv=>lhs;unfold jX
 rw[if_neg (by rw[h];decide),if_neg (fun⟨a,b⟩=>b (e a))]
theorem Lex.trans{a b c:V}(e:Lex a b)(i:Lex b c):Lex a c:=by unfold Lex at *;omega
theorem rP{P:Nat->V}{len:Nat}(A:∀q,q<len->far (P q)=false)(j:∀q,q<len->0<q->Lex (P (q-1)) (P q)):Sorted P len:=by
 refine⟨fun p q E F=>?_,fun p C=>(mA _).mp (A p C)⟩;have:∀d,p+1+d<len->Lex (P p) (P (p+1+d)):=by
  intro d
  induction d with
  | zero=>intro h;have:=j (p+1) I I;simpa using this
  | succ d ih =>
   intro h;have u:=ih I;have i:=j (p+1+(d+1)) h I;rw[show p+1+(d+1)-1=p+1+d by omega]at i;exact u.trans i
 have e:=this (q-p-1) I
 rwa [show p+1+(q-p-1)=q by omega]at e
theorem RingsOk.bit{P:Nat->V}{N E:Nat}{fs:List RF}(h:RingsOk P N fs E)(hS:Sorted P N)(j:iC P N)(v:Nat):E.testBit v=true↔v<N/\nJ P N v:=by
 rw[h.bits.2 v,decide_eq_true_iff,extr_iff hS j v]
 constructor
 ·rintro⟨f,A,H⟩
  obtain⟨b,hF,_,G⟩:=h.ok f A;exact⟨f.n,b,hF,G▸H⟩
 ·rintro⟨n,b,hF,H⟩
  obtain⟨f,A,L⟩:=h.all n b hF;obtain⟨J,C,F,G⟩:=h.ok f A;refine⟨f,A,?_⟩;have u:=(hF.ring_mem hS v).mp H;have Q:=(aG.mp u.1);have e:aI P N f.n J=aI P N n b:=by
   unfold aI;refine List.filter_congr fun i hi=>?_
   exact mask_inj _ _ N (F.symm.trans L) i (List.mem_range.mp hi)
  rw[G,C.ring_mem hS v];rw[e];exact u
theorem pop_all{N E:Nat}(C:N<=64)(A:∀v,E.testBit v=true->v<N):((bw E 64).length<N)↔¬ ∀v,v<N->E.testBit v=true:=by
 have e:bw E 64=bw E N:=jF E N 64 C fun i H _=>by
  cases hb:E.testBit i
  ·rfl
  ·exact absurd (A i hb) I
 rw[e];unfold bw;have u:=List.length_filter_le (fun i=>E.testBit i) (List.range N);rw[List.length_range]at u
 constructor
 ·intro h j
  rw[List.filter_eq_self.mpr (fun i hi=>j i (List.mem_range.mp hi)),List.length_range]at h;omega
 ·intro h
  refine Nat.lt_of_le_of_ne u fun F=>h fun v G=>?_
  have:(List.range N).filter (fun i=>E.testBit i)=List.range N:=List.filter_eq_self.mpr (List.length_filter_eq_length_iff.mp (by rw[F,List.length_range]));exact List.filter_eq_self.mp this v (List.mem_range.mpr G)
end
theorem check_any(a:Option Addr)(len Y:Nat)(P:Nat->V)(w:World)(hT:Tab w)(hP:Pts w a len Y P)(bF:len<=4611686018427387904):
 Calls prog 138 #[.agg #[.slice a len Y]] w fun e w'=>e=.returned (.int .i64 (nB P len))/\Bl w w':=by
 obtain⟨W,hW,b1,hB,hS⟩:=aB w #[.slice a len Y] 102;obtain⟨z0,z1⟩:=b1.one;obtain⟨HT,HP,HB,HS,HW⟩:=η5 (hT.below hB hT.1) (hP.below hB) hB hS hW;obtain⟨u,A⟩:=χ (nB P len);rw[A];have an:=O A;clear hT hP hB hS b1 A;by_cases au:16<len
 ·have e:u=6:=by rw[<-an.o];unfold nB;rw[if_pos au]
  subst e
  go_enter func138,ntmps138
  go_wp2;exact bodyPost_ret (results_tmp results138 _ _ _) rfl ⟨rfl,HB.o⟩
 have bz:len<=16:=I;have HR:Hid ((jX P len 0).getD (nO P len)=u):=by
  rw[<-an.o];unfold nB;rw[if_neg au];exact rfl
 clear au
 go_enter func138,ntmps138
 go_wp2_with fail
 go_loopw [16] (fun iv wr=>∃k,k<=len/\iv=.int .i64 (k:Nat)/\Hid (jX P len 0=jX P (len-k) k)/\Hid (∀q,q<k->far (P q)=false/\(0<q->Lex (P (q-1)) (P q)))/\Hid (Bl W wr)) (fun iv _=>len-(intOf iv).toNat)
 case atStart=>exact⟨0,Nat.zero_le _,rfl,by exact rfl,(fun q hq=>by omega),Below.refl _ _⟩
 case round =>
  obtain⟨k,hk,rfl,U,HG,R⟩:=hrel;by_cases h0:k=len
  ·have bl:jX P len 0=none:=by rw[U.o,h0,Nat.sub_self];rfl
   have bm:nO P len=u:=by rw[<-HR.o,bl];rfl
   have ac:Sorted P len:=rP (fun q hq=>(HG.o q I).1) (fun q hq=>(HG.o q I).2);obtain⟨ar,af⟩:=η2 bm ac;have hn:¬ (k:Int)<(len:Int):=I;clear h0 bl bm ac;by_cases h4:len<4
   ·have e:u=23:=by rw[<-ar.o];unfold nO;rw[if_pos (Or.inl h4)]
    subst e;have hd:(len:Int)<4:=I;go_wp2;exact bodyPost_ret (results_tmp results138 _ _ _) rfl ⟨rfl,ae HB.o R.o (ψ HS.o)⟩
   ·have hd:¬ (len:Int)<4:=I
    go_wp2_with fail
    refine(sT a len Y P wr (HP.o.below R.o) I (fun i hi=>(af.o.near i hi).le)).mono ?_;rintro e w2 ⟨⟨fl,rfl,ay⟩,a8⟩;have H2:=O (ae R.o a8 ρ);clear a8;cases fl
    ·have bc:eA P len:=Classical.byContradiction fun hc=>absurd (ay.mpr hc) ν
     have HF:=O bc;clear ay bc
     go_wp2_with fail
     refine(mV a len Y P w2 (HT.o.below H2.o HT.o.1) (HP.o.below H2.o) I (fun i hi=>(af.o.near i hi).le) af.o HF.o.full).mono ?_;rintro e J ⟨⟨pv,rv,fs,E,rfl,-,-,-,a0⟩,C⟩;have H3:=O (ae H2.o C ρ);clear C;have H:=fun v=>a0.bit af.o HF.o.full v
     have hE:=pop_all (N:=len) (E:=E) I (fun v hv=>((H v).mp hv).1);have a5:=a0.bits.1;have A:u=if(bw E 64).length<len then 24 else 0:=by
      rw[<-ar.o];unfold nO;rw[if_neg (by rintro(h|h);exact h4 h;exact h HF.o)];by_cases hx:(bw E 64).length<len
      ·rw[if_pos hx,if_neg (fun aa=>hE.mp hx fun v hv=>(H v).mpr ⟨hv,aa v hv⟩)]
      ·rw[if_neg hx,if_pos]
       intro v hv;exact((H v).mp (Classical.byContradiction (fun hc=>hx (hE.mpr fun aa=>hc (aa v hv))))).2
     have ap:=O A;clear a0 H hE A;obtain⟨m,hm⟩:=χ ((bw E 64).length);have G:=ones_any E J a5;rw[hm]at G ap;have HO:=O G;clear G hm
     go_wp2_with fail
     refine HO.o.mono ?_;rintro e w4 ⟨rfl,rfl⟩;by_cases bg:m<len
     ·have e:u=24:=by rw[ap.o,if_pos bg]
      subst e;have bs:(m:Int)<(len:Int):=I;go_wp2;exact bodyPost_ret (results_tmp results138 _ _ _) rfl ⟨rfl,ae HB.o H3.o (ψ HS.o)⟩
     ·have e:u=0:=by rw[ap.o,if_neg bg]
      subst e;have bs:¬ (m:Int)<(len:Int):=I;go_wp2;exact bodyPost_ret (results_tmp results138 _ _ _) rfl ⟨rfl,ae HB.o H3.o (ψ HS.o)⟩
    ·have e:u=23:=by rw[<-ar.o];unfold nO;rw[if_pos (Or.inr (ay.mp rfl))]
     subst e;go_wp2;exact bodyPost_ret (results_tmp results138 _ _ _) rfl ⟨rfl,ae HB.o H2.o (ψ HS.o)⟩
  ·have be:k<len:=I
   obtain⟨b,off,rfl,hb,hc,av⟩:=(HP.o.below R.o).cells I;obtain⟨q0,q1,q2⟩:=av k be;have b5:(k:Int)<(len:Int):=I;obtain⟨F,HQ⟩:=η2 be av;clear av h0
   go_wp2_with fail
   obtain⟨W2,a7,b2,ag,br⟩:=aB wr #[.int .i64 (P k).x,.int .i64 (P k).y,.int .i64 (P k).z] 77;rw[a7];refine(oh (P k) W2).mono ?_;rintro e J ⟨rfl,C⟩;have a6:Bl W J:=ae (ae R.o ag ρ) C ρ;have b3:=b2.to C;have ab:b<J.heap.size:=by have:=ag.size;have:=C.size;omega
   obtain⟨a1,ad⟩:=η2 b3 a6;have ao:Bl wr J:=ae ag C ρ;have X:=O ao;clear C a6 b3 b2 ag br a7 ao;cases hfar:far (P k)
   ·have L:=O hfar
    clear hfar;by_cases bt:k=0
    ·subst bt
     have ht:(decide (((0:Nat):Int) > 0))=false:=by decide
     go_wp2_with fail
     go_quiet (fail)
     go_wp2;go_round
     case rel=>exact⟨1,by have:=F.o;omega,rfl,(by
      show _=_
      rw[U.o,show len-0=(len-1)+1 by have:=F.o;omega,kB L.o (fun h=>by omega)]),(fun q hq=>by
       have:q=0:=I;subst this;exact⟨L.o,fun h=>by omega⟩),aF ad.o _⟩
     case measure=>exact μ (ψ F.o)
    ·obtain⟨j,rfl⟩:∃j,k=j+1:=⟨k-1,by omega⟩
     obtain⟨p0,p1,p2⟩:=HQ.o j I;obtain⟨s0,s1,s2,-⟩:=a1.o.three;have r0:=keepC p0 X.o hb;have r1:=keepC p1 X.o hb;have r2:=keepC p2 X.o hb;have ba:=O (fun v=>corder_any (P j) (P (j+1)) v);have bf:=cmpV_lt (P j) (P (j+1));have a3:=O bf;generalize bk:P (j+1)=pk at *;generalize bi:P j=pj at *;obtain⟨Q,a4⟩:=η2 bk bi;have az:=a1.o.lt;have KP:Hid (∀w',Bl J w'->Γ6 w' wr.heap.size 0 (.int .i64 pk.x) wr.heap.size 1 (.int .i64 pk.y) wr.heap.size 2 (.int .i64 pk.z) b (off+j*3) (.int .i64 pj.x) b (off+j*3+1) (.int .i64 pj.y) b (off+j*3+2) (.int .i64 pj.z)):=fun w' h =>
      ⟨keepC s0 h az,keepC s1 h az,keepC s2 h az,keepC r0 h ab,keepC r1 h ab,keepC r2 h ab⟩
     have L0:=O (Below.refl J.heap.size J);have bp:Hid (Bl J J.drew):=L0.o.drew;have bV:=KP.o _ L0.o;have b4:((j:Nat):Int)<(len:Int):=I;have bv:j<=64:=I;have b6:wrap64 (j:Int)=(j:Int):=ζ;have bI:IntKind.i64.wrap (j:Int)=(j:Int):=IntWalk.i64_in _ I;have b0:(0:Int)<=(j:Int):=I;have ht:(decide (((j+1:Nat):Int) > 0))=true:=decide_eq_true I;obtain⟨cm,aw⟩:=χ (iy pj pk);rw[aw]at ba;have a2:=O aw;clear p0 p1 p2 r0 r1 r2 s0 s1 s2 q0 q1 q2 bk bi bf aw
     go_wp2_with fail
     go_region_held3 (fun w'=>w'.cell? ⟨wr.heap.size,0,none⟩=some (.int .i64 pk.x)/\w'.cell? ⟨wr.heap.size,1,none⟩=some (.int .i64 pk.y)/\w'.cell? ⟨wr.heap.size,2,none⟩=some (.int .i64 pk.z)/\w'.cell? ⟨b,off+j*3,none⟩=some (.int .i64 pj.x)/\w'.cell? ⟨b,off+j*3+1,none⟩=some (.int .i64 pj.y)/\w'.cell? ⟨b,off+j*3+2,none⟩=some (.int .i64 pj.z))
      (with_reducible exact(KP.o _ dZ))
      (first
       | (go_at_call 128;refine(ba.o _).mono ?_;rintro e w4 ⟨rfl,a9⟩
          have L1:Hid (Bl J w4):=ae bp.o a9 ρ;clear a9))
     by_cases h9:0<=cm
     ·have e:u=8:=by
       rw[<-HR.o,U.o,show len-(j+1)=(len-(j+1)-1)+1 by have:=F.o;omega]
       rw[pK (by rw[Q.o];exact L.o) I (by
        show ¬ Lex (P j) (P (j+1));rw[Q.o,a4.o,<-a3.o,a2.o];omega)];rfl
      subst e;go_wp2;exact bodyPost_ret (results_tmp results138 _ _ _) rfl ⟨rfl,ae HB.o (ae ad.o L1.o ρ) (ψ HS.o)⟩
     ·have hx:Lex (P j) (P (j+1)):=by rw[Q.o,a4.o,<-a3.o,a2.o];omega
      have HX:=O hx;clear hx;go_wp2;go_round
      case rel=>exact⟨j+2,by have:=F.o;omega,rfl,(by
       show _=_
       rw[U.o,show len-(j+1)=(len-(j+2))+1 by have:=F.o;omega,kB (by rw[Q.o];exact L.o) (fun _=>HX.o)]),(fun q hq=>by
        by_cases bu:q=j+1
        ·subst bu;exact⟨by rw[Q.o];exact L.o,fun _=>HX.o⟩
        ·exact HG.o q I),ae ad.o L1.o ρ⟩
      case measure=>show len-(((j+1:Nat):Int)+1).toNat<len-((j+1:Nat):Int).toNat;have:=F.o;omega
   ·have e:u=2:=by
     rw[<-HR.o,U.o,show len-k=(len-k-1)+1 by omega,scan_far hfar];rfl
    subst e;go_wp2;exact bodyPost_ret (results_tmp results138 _ _ _) rfl ⟨rfl,ae HB.o ad.o (ψ HS.o)⟩
theorem qq{w w':World}(h:Bl w w')(row:Option Nat):w.grownBy w' row:=⟨h.os,h.tape,h.output,h.size,fun k e _=>h.block k e⟩
theorem aH{w:World}{base e k:Nat}{v:Value}{n:Nat}{xs:List Value}(h:w.ownsRow base e k v n xs){g:Nat}{cs:Array Value}{t:TypeId}(hb:Box w g cs t)(i:e≠t):some g≠v.ownBlock:=by
 obtain⟨_,⟨rfl,_⟩|⟨g',j,u,rfl,_,A,_⟩⟩:=h
 ·intro e;cases e
 ·intro e
  cases e;unfold Box at hb;rw[A]at hb;injection hb with hb
  injection hb with _ hb
  exact i hb
theorem Box.grown{w w':World}{g:Nat}{cs:Array Value}{t:TypeId}(h:Box w g cs t){row:Option Nat}(i:w.grownBy w' row)(e:some g≠row):Box w' g cs t:=by
 unfold Box;rw[i.block g h.lt e];exact h
section
open V
end
theorem pV{k:Int}{a:V}(h:LeV k a)(e:0<=k):LeV k (aR a):=⟨tf _ h.1 e,tf _ h.2.1 e,tf _ h.2.2 e⟩
theorem LeV.neg{k:Int}{a:V}(h:LeV k a):LeV k (-a):=by unfold LeV Le at *;simp only[V.neg_x,V.neg_y,V.neg_z];omega
section
open V
variable {P : Nat → V} {N : Nat}
structure Valid (P:Nat→V) (N:Nat):Prop where
 le:N<=16
 four:4<=N
 sorted:Sorted P N
 full4:eA P N
 extr:∀ v,v<N→nJ P N v
theorem mU:∀(f i:Nat),(∀q,i<=q->q<i+f->far (P q)=false/\(0<q->Lex (P (q-1)) (P q)))->jX P f i=none
 | 0,_,_=>rfl
 | f+1,i,h=>by
  obtain⟨e,j⟩:=h i ρ I;rw[kB e j];exact mU f (i+1) fun q u A=>h q I I
theorem scan_bad:∀(f i:Nat),(jX P f i=none/\∀q,i<=q->q<i+f->far (P q)=false/\(0<q->Lex (P (q-1)) (P q)))\/jX P f i=some 2\/jX P f i=some 8
 | 0,i=>.inl ⟨rfl,fun q C E=>by omega⟩
 | f+1,i=>by
  by_cases j:far (P i)=true
  ·exact .inr (.inl (scan_far j))
  ·have j:far (P i)=false:=by simpa using j
   by_cases A:0<i->Lex (P (i-1)) (P i)
   ·rw[kB j A]
    rcases scan_bad f (i+1)with⟨C,E⟩|h|h
    ·refine .inl ⟨C,fun q G H=>?_⟩
     by_cases e:q=i
     ·subst e;exact⟨j,A⟩
     ·exact E q I I
    ·exact .inr (.inl h)
    ·exact .inr (.inr h)
   ·have u:0<i/\¬ Lex (P (i-1)) (P i):=by
     refine Classical.byContradiction fun hc=>A fun h0=>Classical.byContradiction fun F=>hc ⟨h0,F⟩
    exact .inr (.inr (pK j u.1 u.2))
theorem tT:nB P N=0↔Valid P N:=by
 unfold nB;by_cases i:16<N
 ·rw[if_pos i]
  exact⟨fun h=>by omega,fun h=>by have:=h.le;omega⟩
 ·rw[if_neg i]
  rcases scan_bad (P:=P) N 0 with⟨E,C⟩|h|h
  ·rw[E]
   show nO P N=0↔_;unfold nO;have hS:Sorted P N:=rP (fun q A=>(C q I I).1) (fun q A=>(C q I I).2);by_cases e:N<4\/¬ eA P N
   ·rw[if_pos e]
    refine⟨fun h=>by omega,fun h=>?_⟩
    rcases e with e|e
    ·have:=h.four;omega
    ·exact absurd h.full4 e
   ·rw[if_neg e]
    have F:4<=N:=I;have G:eA P N:=Classical.byContradiction fun hc=>e (.inr hc)
    by_cases u:∀v,v<N->nJ P N v
    ·rw[if_pos u]
     exact⟨fun _=>⟨by omega,F,hS,G,u⟩,fun _=>rfl⟩
    ·rw[if_neg u]
     exact⟨fun h=>by omega,fun h=>absurd h.extr u⟩
  ·rw[h]
   refine⟨fun h=>by simp at h,fun j=>?_⟩;rw[mU N 0 fun q _ A=>⟨(mA _).mpr (j.sorted.near q I),fun h0=>j.sorted.lt (q-1) q I I⟩]at h;cases h
  ·rw[h]
   refine⟨fun h=>by simp at h,fun j=>?_⟩;rw[mU N 0 fun q _ A=>⟨(mA _).mpr (j.sorted.near q I),fun h0=>j.sorted.lt (q-1) q I I⟩]at h;cases h
theorem Valid.full(h:Valid P N):iC P N:=h.full4.full
theorem Valid.top(h:Valid P N):∀v,v<N->Top P N v:=fun v e=>(h.extr v e).top
end
end Go.Proofs.Υ
