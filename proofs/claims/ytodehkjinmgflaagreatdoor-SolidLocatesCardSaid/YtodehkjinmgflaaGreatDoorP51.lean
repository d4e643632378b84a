/- Described placements. -/
import Derived.Test.YtodehkjinmgflaaGreatDoorP45
import Derived.Test.YtodehkjinmgflaaGreatDoorP50
set_option linter.all false
set_option maxHeartbeats 100000000
set_option maxRecDepth 20000
namespace Go.Proofs.Υ
open Go Go.RowKit Tryz
def kW(T N:Nat->Int)(D:Nat):Array Value:=#[.int .i8 (T 0),.int .i8 (T 1),.int .i8 (T 2),.int .i8 (T 3),.int .i8 (N 0),.int .i8 (N 1),.int .i8 (N 2),.int .u8 (D:Nat)]
def cH(T:Nat->Int):Prop:=∀i,-128≤T i∧T i≤127
def modT(T:Nat->Int):Q4:=⟨(T 0).tmod 13,(T 1).tmod 13,(T 2).tmod 13,(T 3).tmod 13⟩
def cA(T:Nat->Int):Q4:=if(modT T).a=0∧(modT T).b=0∧(modT T).c=0∧(modT T).d=0 then⟨1,0,0,0⟩ else modT T
def cj(N:Nat->Int)(D:Nat):Q3:=⟨iz (N 0) (1+D % 6),iz (N 1) (1+D % 6),iz (N 2) (1+D % 6)⟩
theorem plc_one(q:Q4)(s:Q3):((plc q s).all fun x=>x.oneCell')=true:=by unfold plc;simp[Value.oneCell']
def modK(T:Nat->Int)(k:Nat):Q4:=⟨if 0<k then(T 0).tmod 13 else 0,if 1<k then(T 1).tmod 13 else 0,if 2<k then(T 2).tmod 13 else 0,if 3<k then(T 3).tmod 13 else 0⟩
theorem modK_set(T:Nat->Int){k:Nat}(e:k<4):(q4v (modK T k)).setIfInBounds k (.int .i64 ((T k).tmod 13))=q4v (modK T (k+1)):=by
 obtain rfl|rfl|rfl|rfl:k=0∨k=1∨k=2∨k=3:=I
 all_goals rfl
def strK(x:Nat->Rat)(k:Nat):Array Value:=pt3 (if 0<k then dR (x 0)else⟨#[]⟩) (if 1<k then dR (x 1)else⟨#[]⟩) (if 2<k then dR (x 2)else⟨#[]⟩)
theorem strK_set(x:Nat->Rat){k:Nat}(e:k<3):(strK x k).setIfInBounds k (.string (dR (x k)))=strK x (k+1):=by
 obtain rfl|rfl|rfl:k=0∨k=1∨k=2:=I
 all_goals rfl
theorem Box.some{w:World}{g:Nat}{cs:Array Value}{t:TypeId}(h:Box w g cs t)(i:Nat)(hi:i<cs.size):∃u,w.cell? ⟨g,i,none⟩=some u:=⟨_,(h.cell i).trans (Array.getElem?_eq_getElem hi)⟩
theorem pg(x:Int):-12≤x.tmod 13∧x.tmod 13≤12:=by
 have h:=Int.natAbs_tmod x 13;have:(x.tmod 13).natAbs≤12:=by rw[h];have:=Nat.mod_lt x.natAbs (show 0<(13:Int).natAbs by decide);omega
 omega
theorem modT_le(T:Nat->Int):∀i,((modT T).at i).natAbs≤12
 | 0=>by have:=pg (T 0);show((T 0).tmod 13).natAbs≤12;omega
 | 1=>by have:=pg (T 1);show((T 1).tmod 13).natAbs≤12;omega
 | 2=>by have:=pg (T 2);show((T 2).tmod 13).natAbs≤12;omega
 | _+3=>by have:=pg (T 3);show((T 3).tmod 13).natAbs≤12;omega
theorem jU(T:Nat->Int):(∀i,((cA T).at i).natAbs≤12)∧¬ ((cA T).a=0∧(cA T).b=0∧(cA T).c=0∧(cA T).d=0):=by
 unfold cA
 split
 ·refine⟨fun i=>?_,by decide⟩
  match i with
  | 0=>decide
  | 1=>decide
  | 2=>decide
  | _+3=>exact Nat.zero_le _
 ·rename_i h
  exact⟨modT_le T,h⟩
theorem gsQ_ne{q:Q4}(h:¬ (q.a=0∧q.b=0∧q.c=0∧q.d=0)):(gsQ q 4).2≠0∧0<(gsQ q 4).1:=by
 refine⟨fun e=>h ⟨fg q 4 e 0 I,fg q 4 e 1 I,fg q 4 e 2 I,fg q 4 e 3 I⟩,Nat.pos_of_ne_zero fun e=>h ?_⟩;have z:∀i,i<4->q.at i=0:=fun i hi=>by
  have:=(tH q 4 I).2 i hi;rw[e,Nat.zero_dvd]at this;omega
 exact⟨z 0 I,z 1 I,z 2 I,z 3 I⟩
theorem o8(T:Nat->Int):OkQ (bA (cA T)):=primT_ok (jU T).1 (jU T).2
theorem jZ{N:Nat->Int}(h:cH N)(D:Nat):mN (cj N D):=by
 have e:∀i,kB (iz (N i) (1+D % 6)):=fun i=>rN I I (by have:=h i;omega)
 exact⟨e 0,e 1,e 2⟩
theorem infoStr3:(prog.info? 117).map (·.size)=some 3:=by kernel_rfl
theorem build_plc(q:Q4)(a b c:ByteArray)(w:World):(Instr.build 49 #[(0,.agg (q4v q)),(1,.agg (pt3 a b c))]).run prog w=.ok (.agg #[.int .i64 q.a,.int .i64 q.b,.int .i64 q.c,.int .i64 q.d,.string a,.string b,.string c]) w:=by kernel_rfl
theorem sX{o:Oper}{a:Act}{w:World}{K:Act->World->Prop}{Q:Exit->Act->World->Prop}(x y:Operand)(q:Q4)(s0 s1 s2:ByteArray)(e:o.op=.build 49 #[(0,x),(1,y)])(i:a.eval x=.agg (q4v q))(j:a.eval y=.agg (pt3 s0 s1 s2))(h:K (a.put o.dst (.agg #[.int .i64 q.a,.int .i64 q.b,.int .i64 q.c,.int .i64 q.d,.string s0,.string s1,.string s2])) w):o.wp prog a w K Q:=by
 unfold Oper.wp execOp;simp only[e,Sem.run_bind,Sem.run_pure,Result.andThen_ok,List.map_toArray,List.map_cons,List.map_nil,i,j,build_plc];exact h
theorem iM(T N:Nat->Int)(D:Nat)(w:World)(hT:cH T)(hN:cH N)(hD:D<256):
 Calls prog 10 #[.agg (kW T N D)] w fun e w'=>e=.returned (.agg (plc (bA (cA T)) (cj N D)))∧Below w.heap.size w w':=by
 obtain⟨zP,ar⟩:∃z:Array Value,z=#[.int .i64 0,.int .i64 0,.int .i64 0,.int .i64 0,.string ⟨#[]⟩,.string ⟨#[]⟩,.string ⟨#[]⟩]:=⟨_,rfl⟩;obtain⟨W,hW,b1,b2,b3,hB,hS⟩:=ck w (kW T N D) zP (q4v ⟨0,0,0,0⟩) 31 49 44;obtain⟨HB,B1,B2,B3,HT,HN,HD,bV⟩:=η8 hB b1 b2 b3 hT hN hD ar;rw[ar]at hW;obtain⟨x,hx⟩:∃x:Nat->Rat,x=fun i=>iz (N i) (1+D % 6):=⟨_,rfl⟩
 obtain⟨sh,ap⟩:∃sh:Q3,sh=⟨x 0,x 1,x 2⟩:=⟨_,rfl⟩;obtain⟨HX,bI⟩:=η2 hx ap;have a1:=O (show cj N D=sh from by rw[ap,hx];rfl);have eT:=eqTurn;clear hB b1 b2 b3 hS hT hN hD ar hx ap;unfold kW at hW⊢;unfold q4v at hW;rw[a1.o]
 go_enter func10,ntmps10
 go_wp2_with fail
 go_loopw [4] (fun iv wr=>∃k:Nat,k≤4∧iv=.int .i64 (k:Nat)∧Hid (Box wr (w.heap.size+2) (q4v (modK T k)) 44)∧Hid (Box wr w.heap.size (kW T N D) 31)∧Hid (Box wr (w.heap.size+1) zP 49)∧Hid (Below w.heap.size w wr)) (fun iv _=>4-(intOf iv).toNat)
 case atStart=>exact⟨0,by omega,rfl,B3.o,B1.o,B2.o,HB.o⟩
 case round =>
  clear HB B1 B2 B3;obtain⟨k,hk,rfl,C,u,H,L⟩:=hrel;obtain⟨F,rfl⟩:∃F,F=wr:=⟨_,rfl⟩;by_cases h0:k=4
  ·subst h0
   have b9:¬ ((4:Nat):Int)<4:=I;obtain⟨M,hM⟩:∃M,modT T=M:=ξ;have QM:=O (show Box F (w.heap.size+2) (q4v M) 44 from hM▸C.o);have U:=O (show cA T=if M.a=0∧M.b=0∧M.c=0∧M.d=0 then⟨1,0,0,0⟩ else M from by unfold cA;rw[hM]);obtain⟨a,b,c,d⟩:=M;have x0:F.cell? ⟨w.heap.size+2,0,none⟩=some (.int .i64 a):=QM.o.cell 0;have x1:F.cell? ⟨w.heap.size+2,1,none⟩=some (.int .i64 b):=QM.o.cell 1;have x2:F.cell? ⟨w.heap.size+2,2,none⟩=some (.int .i64 c):=QM.o.cell 2;have x3:F.cell? ⟨w.heap.size+2,3,none⟩=some (.int .i64 d):=QM.o.cell 3;have f0:=QM.o.free 0;clear C hM;obtain⟨bz,be⟩:∃bz,(a == 0&&b == 0&&c == 0&&d == 0)=bz:=ξ
   go_upto_if 21 with fail
   have ag:=O be;clear be
   go_cut [] from 19 to 22 (fun wx=>∃Q,Hid (cA T=Q)∧Hid (Box wx (w.heap.size+2) (q4v Q) 44)∧Hid (Box wx w.heap.size (kW T N D) 31)∧Hid (Box wx (w.heap.size+1) zP 49)∧Hid (Below w.heap.size w wx))
   case first =>
    by_cases hz:a=0∧b=0∧c=0∧d=0
    ·obtain⟨rfl,rfl,rfl,rfl⟩:=hz
     obtain rfl:true=bz:=ag.o;have HQ:=O (show cA T=⟨1,0,0,0⟩ from by rw[U.o];rfl);have C:=O (show Box (F.setCell ⟨w.heap.size+2,0,none⟩ (.int .i64 1)) (w.heap.size+2) (q4v ⟨1,0,0,0⟩) 44 from QM.o.set 0 _);have u:=O (u.o.other (p:=⟨w.heap.size+2,0,none⟩) (show w.heap.size≠w.heap.size+2 by omega) (.int .i64 1));have H:=O (H.o.other (p:=⟨w.heap.size+2,0,none⟩) (show w.heap.size+1≠w.heap.size+2 by omega) (.int .i64 1));have L:=O (L.o.setCell (p:=⟨w.heap.size+2,0,none⟩) (show w.heap.size≤w.heap.size+2 by omega) (.int .i64 1));clear QM U
     go_wp2_with fail
     go_meet
     case rel=>exact⟨_,HQ.o,C.o,u.o,H.o,L.o⟩
    ·obtain rfl:bz=false:=by
      rw[<-ag.o,Bool.eq_false_iff];intro e;simp at e;exact hz ⟨e.1.1.1,e.1.1.2,e.1.2,e.2⟩
     have HQ:=O (show cA T=⟨a,b,c,d⟩ from by rw[U.o];exact if_neg hz);clear U hz
     go_wp2_with fail
     go_meet
     case rel=>exact⟨_,HQ.o,QM.o,u.o,H.o,L.o⟩
   case rest =>
    clear QM u H L U ag x0 x1 x2 x3 f0;obtain⟨Q,HQ,C,u,H,L⟩:=hcut;obtain⟨wz,rfl⟩:∃wz,wz=wc:=⟨_,rfl⟩;clear eT
    go_wp2_with fail
    obtain⟨J,ad⟩:∃g,wz.heap.size=g:=ξ;obtain⟨w5,bk,b5,X,b7⟩:=aA wz (strK x 0) 117;change Code.wp _ _ _ _ (wz.alloc (Obj.cells (strK x 0) 117));rw[bk,ad];rw[ad]at b5;obtain⟨a5,a4,a3,a6,ay⟩:=η5 b5 (C.o.to X) (u.o.to X) (H.o.to X) (ae L.o X ρ);have ab:=O (show w.heap.size+2<J from by rw[<-ad];exact C.o.lt);clear bk b5 X b7 ad C u H L
    go_loopw [6] (fun iv wr=>∃k:Nat,k≤3∧iv=.int .i64 (k:Nat)∧Hid (Box wr J (strK x k) 117)∧Hid (Box wr w.heap.size (kW T N D) 31)∧Hid (Box wr (w.heap.size+2) (q4v Q) 44)∧Hid (Box wr (w.heap.size+1) zP 49)∧Hid (Below w.heap.size w wr)) (fun iv _=>3-(intOf iv).toNat)
    case atStart=>exact⟨0,by omega,rfl,a5.o,a3.o,a4.o,a6.o,ay.o⟩
    case round =>
     clear a5 a3 a4 a6 ay;obtain⟨k,hk,rfl,SB,u,C,H,L⟩:=hrel;obtain⟨F,rfl⟩:∃F,F=wr:=⟨_,rfl⟩;by_cases h0:k=3
     ·subst h0
      have b8:¬ ((3:Nat):Int)<3:=I;have SB:=O (show Box F J (pt3 (dR sh.x) (dR sh.y) (dR sh.z)) 117 from by rw[bI.o];exact SB.o);have bt:=O (fun w=>qpoint_any (dR sh.x) (dR sh.y) (dR sh.z) w);have bu:=O (fun w=>qprim_any Q w (by rw[<-HQ.o];exact(jU T).1) (gsQ_ne (by rw[<-HQ.o];exact(jU T).2)).1 (gsQ_ne (by rw[<-HQ.o];exact(jU T).2)).2)
      go_wp2_with fail
      refine aS (rest:=1) [isV 0 (.agg (q4v Q)),isV 1 (.agg (q4v (bA Q))),isV 2 (.agg (pt3 (dR sh.x) (dR sh.y) (dR sh.z))),isV 3 (.agg (pt3 (dR sh.x) (dR sh.y) (dR sh.z))),isV 4 (.agg (plc (bA Q) sh))] [] ?A2 (τ 5 1) Z [0,1,2,3,4] Z Z Z Z Z Z ?st ?hA ?hop ?hend
      case hA=>exact cO
      case st=>(iterate 5 refine am.cons isV.stab ?_);exact am.nil
      case hop =>
       refine ai.cons rfl (fun y w' hS hD K hK=>?_) ?_
       ·as_aux_lemma =>
        refine bM ?_;refine aX 44 _ rfl (w.heap.size+2) 0 rfl (q4v Q) _ (fun j hj=>(C.o.to hS).whole j hj) underlying44 rfl m8 ?_;exact hK.out _ w' hS β isV.put δ
       refine ai.cons rfl (fun y w' hS hD K hK=>?_) ?_
       ·simp only[isV.get (hD 0 Z)]at hK⊢
        as_aux_lemma =>
        go_simp;refine(bu.o w').mono ?_
        rintro e A ⟨rfl,hb⟩;exact hK.out _ A (ae hS hb ρ) hb isV.put δ
       refine ai.cons rfl (fun y w' hS hD K hK=>?_) ?_
       ·as_aux_lemma =>
        refine bM ?_;refine aX 117 _ rfl J 0 rfl (pt3 (dR sh.x) (dR sh.y) (dR sh.z)) _ (fun j hj=>(SB.o.to hS).whole j hj) underlying117 rfl infoStr3 ?_;exact hK.out _ w' hS β isV.put δ
       refine ai.cons rfl (fun y w' hS hD K hK=>?_) ?_
       ·simp only[isV.get (hD 2 Z),isV.get (hD 1 Z)]at hK⊢
        as_aux_lemma =>
        go_simp;refine(bt.o w').mono ?_
        rintro e A ⟨rfl,hb⟩;exact hK.out _ A (ae hS hb ρ) hb isV.put δ
       refine ai.cons rfl (fun y w' hS hD K hK=>?_) ?_
       ·simp only[isV.get (hD 1 Z),isV.get (hD 3 Z)]at hK⊢
        as_aux_lemma =>
        refine bM ?_;refine sX _ _ (bA Q) (dR sh.x) (dR sh.y) (dR sh.z) rfl rfl rfl ?_;exact hK.out _ w' hS β isV.put δ
       exact ai.nil
      case hend =>
       intro y w' hS hR hF;have e4:=isV.get (hR 4 Z);simp only[e4];refine aJ (i:=5) (listed2:=τ 6 0) Z rfl Z (fun K hK=>?_);refine bM ?_;have bz:=H.o.to hS;refine wp_store_row 49 _ _ rfl (w.heap.size+1) (plc (bA Q) sh) rfl rfl 49 _ bz mt (by rw[bV.o];rfl) (plc_one _ _) ?_;refine hK.out _ _ ?_;clear hK K;have BR:=O (dI bz (plc (bA Q) sh));have br:=O ((ae L.o hS ρ).grown (bQ w' (w.heap.size+1) (plc (bA Q) sh)) (ae L.o hS ρ).size (fun g e=>by cases e;omega));refine aM Z ?_
       go_wp2_with fail
       exact aI results10 (w.heap.size+1) BR.o _ rfl underlying49 rfl mt rfl ⟨by rw[HQ.o],br.o⟩
     ·have bi:(k:Int)<3:=I
      have G:=O (show k<3 by omega);have aw:=O bi;obtain⟨R,af⟩:∃R,N k=R:=ξ;obtain⟨r,hr⟩:∃r,D % 6=r:=ξ;obtain⟨d,hd⟩:∃d,1+r=d:=ξ;have ac:=O (af▸HN.o k);have a0:=O (show r<6 by omega);have bv:=O hd;have bF:=O (show((D:Nat):Int).tmod 6=((r:Nat):Int) by rw[Int.tmod_eq_emod_of_nonneg I];omega);have bs:=O (show(D:Int)<256 by have:=HD.o;omega);have NC:=O (fun w' (h:Below F.heap.size F w')=>show w'.cell? ⟨w.heap.size,4+k,none⟩=some (.int .i8 R)from by
       rw[(u.o.to h).cell,<-af];have h3:=G.o;obtain rfl|rfl|rfl:k=0∨k=1∨k=2:=I
       all_goals rfl)
      obtain⟨b0,az⟩:=η2 (fun w' (h:Below F.heap.size F w')=>show w'.cell? ⟨w.heap.size,7,none⟩=some (.int .u8 (D:Nat))from(u.o.to h).cell 7) (quotD_eq (n:=R) (d:=d) (ψ ac.o) I I);have bl:dQ ((d:Nat):Int)=cW d:=txtZ_nat d;obtain⟨av,au⟩:=η2 (fun w=>qE R w (ψ ac.o)) (fun w=>qE (d:Nat) w I);have aa:=O (fun w=>ddiv_any (dQ R) (dQ (d:Nat)) (jT (iz R d)) w (by have h:=txtZ_ok (n:=R) (ψ ac.o);exact⟨h.1,h.2.1,by have:=h.2.2;omega⟩) (by have h:=txtZ_ok (n:=((d:Nat):Int)) I;exact⟨h.1,h.2.1,by have:=h.2.2;omega⟩) (by rw[bl];exact az.o));obtain⟨TN,bc⟩:∃S:ByteArray,⟨(dQ R).toArray⟩=S:=⟨_,rfl⟩;obtain⟨TD,ba⟩:∃S:ByteArray,⟨(dQ ((d:Nat):Int)).toArray⟩=S:=⟨_,rfl⟩;obtain⟨TX,an⟩:∃S:ByteArray,⟨(jT (iz R d)).toArray⟩=S:=⟨_,rfl⟩;rw[bc]at av aa;rw[ba]at au aa;rw[an]at aa;have a2:=O (show dR (x k)=TX from by rw[<-an,HX.o,<-hd,<-hr,<-af];rfl);clear h0 af hr hd bl bc ba an az
      go_wp2_with fail
      refine aS (rest:=1) [isV 0 (.int .i64 (k:Nat)),isV 1 (.int .i64 (k:Nat)),isV 2 (.pointer (some ⟨w.heap.size,4,none⟩)),isV 3 (.pointer (some ⟨w.heap.size,4,none⟩)),isV 4 (.pointer (some ⟨w.heap.size,4+k,none⟩)),isV 5 (.int .i8 R),isV 6 (.int .i64 R),isV 7 (.string TN),isV 8 (.pointer (some ⟨w.heap.size,4,none⟩)),isV 9 (.pointer (some ⟨w.heap.size,7,none⟩)),isV 10 (.int .u8 (D:Nat)),isV 11 (.int .u8 (r:Nat)),isV 12 (.int .i64 (r:Nat)),isV 13 (.int .i64 (d:Nat)),isV 14 (.string TD),isV 15 (.string TX),isV 16 (.pointer (some ⟨J,k,none⟩))] [] ?A1 (τ 17 1) Z [0,1,2,3,4,5,6,7,8,9,10,11,12,13,14,15,16] Z Z Z Z Z Z ?st ?hA ?hop ?hend
      case hA=>exact cO
      case st=>(iterate 17 refine am.cons isV.stab ?_);exact am.nil
      case hop =>
       iterate 4
        refine ai.cons rfl (fun y w' hS hD K hK=>?_) ?_
        ·try simp only[isV.get (hD 2 (by decide +kernel))]at hK⊢
         as_aux_lemma =>
         go_simp;exact hK.out _ w' hS β isV.put δ
       refine ai.cons rfl (fun y w' hS hD K hK=>?_) ?_
       ·simp only[isV.get (hD 3 Z),isV.get (hD 1 Z)]at hK⊢
        as_aux_lemma =>
        have bf:=G.o;have bg:=aw.o;go_simp;exact hK.out _ w' hS β isV.put δ
       refine ai.cons rfl (fun y w' hS hD K hK=>?_) ?_
       ·simp only[isV.get (hD 4 Z)]at hK⊢
        as_aux_lemma =>
        have c0:=NC.o w' hS;go_simp;exact hK.out _ w' hS β isV.put δ
       refine ai.cons rfl (fun y w' hS hD K hK=>?_) ?_
       ·simp only[isV.get (hD 5 Z)]at hK⊢
        as_aux_lemma =>
        have kw:IntKind.i64.wrap R=R:=IntWalk.i64_in _ (ψ ac.o);go_simp;exact hK.out _ w' hS β isV.put δ
       refine ai.cons rfl (fun y w' hS hD K hK=>?_) ?_
       ·simp only[isV.get (hD 6 Z)]at hK⊢
        as_aux_lemma =>
        go_simp;refine(av.o w').mono ?_
        rintro e A ⟨rfl,hb⟩;exact hK.out _ A (ae hS hb ρ) hb isV.put δ
       iterate 2
        refine ai.cons rfl (fun y w' hS hD K hK=>?_) ?_
        ·try simp only[isV.get (hD 8 (by decide +kernel))]at hK⊢
         as_aux_lemma =>
         go_simp;exact hK.out _ w' hS β isV.put δ
       refine ai.cons rfl (fun y w' hS hD K hK=>?_) ?_
       ·simp only[isV.get (hD 9 Z)]at hK⊢
        as_aux_lemma =>
        have c0:=b0.o w' hS;go_simp;exact hK.out _ w' hS β isV.put δ
       refine ai.cons rfl (fun y w' hS hD K hK=>?_) ?_
       ·simp only[isV.get (hD 10 Z)]at hK⊢
        as_aux_lemma =>
        have hr:=bF.o;have hd:=bs.o;go_simp;exact hK.out _ w' hS β isV.put δ
       refine ai.cons rfl (fun y w' hS hD K hK=>?_) ?_
       ·simp only[isV.get (hD 11 Z)]at hK⊢
        as_aux_lemma =>
        have kw:IntKind.i64.wrap ((r:Nat):Int)=((r:Nat):Int):=IntWalk.i64_in _ (ψ a0.o);go_simp;exact hK.out _ w' hS β isV.put δ
       refine ai.cons rfl (fun y w' hS hD K hK=>?_) ?_
       ·simp only[isV.get (hD 12 Z)]at hK⊢
        as_aux_lemma =>
        have kw:IntKind.i64.wrap (1+((r:Nat):Int))=((d:Nat):Int):=by rw[IntWalk.i64_in _ (ψ a0.o)];have:=bv.o;omega
        go_simp;exact hK.out _ w' hS β isV.put δ
       refine ai.cons rfl (fun y w' hS hD K hK=>?_) ?_
       ·simp only[isV.get (hD 13 Z),isV.get (hD 7 Z)]at hK⊢
        as_aux_lemma =>
        go_simp;refine(au.o w').mono ?_
        rintro e A ⟨rfl,hb⟩;exact hK.out _ A (ae hS hb ρ) hb isV.put δ
       refine ai.cons rfl (fun y w' hS hD K hK=>?_) ?_
       ·simp only[isV.get (hD 7 Z),isV.get (hD 14 Z)]at hK⊢
        as_aux_lemma =>
        go_simp;refine(aa.o w').mono ?_
        rintro e A ⟨rfl,hb⟩;exact hK.out _ A (ae hS hb ρ) hb isV.put δ
       refine ai.cons rfl (fun y w' hS hD K hK=>?_) ?_
       ·simp only[isV.get (hD 0 Z)]at hK⊢
        as_aux_lemma =>
        have bf:=G.o;have bg:=aw.o;go_simp;exact hK.out _ w' hS β isV.put δ
       exact ai.nil
      case hend =>
       intro y w' hS hR hF;have a7:=isV.get (hR 15 Z);have a8:=isV.get (hR 16 Z);simp only[a7,a8];have bp:=SB.o.to hS;obtain⟨u0,b4⟩:=bp.some k (by show k<3;have:=G.o;omega);have b6:=bp.free k;refine aJ (i:=17) (listed2:=τ 18 0) Z rfl Z (fun K hK=>?_);go_simp;refine hK.out _ _ ?_;clear hK K;have BF:=O (show Box (w'.setCell ⟨J,k,none⟩ (.string TX)) J (strK x (k+1)) 117 from by rw[<-a2.o,<-strK_set x G.o,a2.o];exact bp.set k _);have bm:=O ((ae L.o hS ρ).setCell (p:=⟨J,k,none⟩) (show w.heap.size≤J from by have:=ab.o;omega) (.string TX));have NF:=O ((u.o.to hS).other (p:=⟨J,k,none⟩) (show w.heap.size≠J from by have:=ab.o;omega) (.string TX));have QF:=O ((C.o.to hS).other (p:=⟨J,k,none⟩) (show w.heap.size+2≠J from by have:=ab.o;omega) (.string TX));have ZF:=O ((H.o.to hS).other (p:=⟨J,k,none⟩) (show w.heap.size+1≠J from by have:=ab.o;omega) (.string TX));generalize w'.setCell ⟨J,k,none⟩ (.string TX)=w9 at *;clear hS hR hF a7 a8 bp b4 b6;refine aM Z ?_;have bf:=G.o
       go_wp2_with fail
       go_round
       case rel=>exact⟨k+1,G.o,rfl,BF.o,NF.o,QF.o,ZF.o,bm.o⟩
       case measure=>show 3-((k:Int)+1).toNat<3-(k:Int).toNat;have:=G.o;omega
  ·have bg:(k:Int)<4:=I
   have ao:k<4:=I;have hx:F.cell? ⟨w.heap.size,k,none⟩=some (.int .i8 (T k)):=by
    rw[u.o.cell];obtain rfl|rfl|rfl|rfl:k=0∨k=1∨k=2∨k=3:=I
    all_goals rfl
   have hc:=tk C.o ao;have hf:=C.o.free k;have hb:=HT.o k;have Y:=modK_set T ao;have a9:=pg (T k);obtain⟨t,ht⟩:∃t,T k=t:=ξ;rw[ht]at hx hb Y a9;have kw:IntKind.i64.wrap t=t:=IntWalk.i64_in _ I;have QS:=O (show Box (F.setCell ⟨w.heap.size+2,k,none⟩ (.int .i64 (t.tmod 13))) (w.heap.size+2) (q4v (modK T (k+1))) 44 from by rw[<-Y];exact C.o.set k _);have NS:=O (u.o.other (p:=⟨w.heap.size+2,k,none⟩) (show w.heap.size≠w.heap.size+2 by omega) (.int .i64 (t.tmod 13)));have ZS:=O (H.o.other (p:=⟨w.heap.size+2,k,none⟩) (show w.heap.size+1≠w.heap.size+2 by omega) (.int .i64 (t.tmod 13)));have LS:=O (L.o.setCell (p:=⟨w.heap.size+2,k,none⟩) (show w.heap.size≤w.heap.size+2 by omega) (.int .i64 (t.tmod 13)));obtain⟨y,hy⟩:∃y,t.tmod 13=y:=ξ;rw[hy]at QS NS ZS LS a9;clear Y C u H L h0 ht
   go_wp2_with fail
   go_round
   case rel=>exact⟨k+1,ao,rfl,QS.o,NS.o,ZS.o,LS.o⟩
   case measure=>simp[intOf];omega
def lw(N:Nat->Int)(D:Nat):Array Value:=#[.int .i8 (N 0),.int .i8 (N 1),.int .i8 (N 2),.int .u8 (D:Nat)]
theorem infoSm:(prog.info? 29).map (·.size)=some 4:=by kernel_rfl
theorem build_sm(a b c d:Int)(w:World):(Instr.build 31 #[(1,.agg #[.int .i8 a,.int .i8 b,.int .i8 c,.int .u8 d])]).run prog w=.ok (.agg #[.int .i8 0,.int .i8 0,.int .i8 0,.int .i8 0,.int .i8 a,.int .i8 b,.int .i8 c,.int .u8 d]) w:=by kernel_rfl
theorem field_plc(q:Q4)(s:Q3)(w:World):(Instr.field 49 (.agg (plc q s)) 1).run prog w=.ok (.agg (ptS s)) w:=by kernel_rfl
theorem small_any(N:Nat->Int)(D:Nat)(w:World)(hV:gR w)(Q:cH N)(hD:D<256):
 Calls prog 13 #[.agg (lw N D)] w fun e w'=>fG w' e (cj N D)∧Below w.heap.size w w':=by
 obtain⟨W,hW,b1,b2,hB,hS⟩:=bW w (lw N D) (ah RC.zero RC.zero RC.zero) 29 57;obtain⟨HB,B1,Y⟩:=η3 hB b1 b2;have HP:=O (fun w=>iM (fun _=>0) N D w (fun _=>⟨by show(-128:Int)≤0;omega,by show(0:Int)≤127;omega⟩) Q hD);have HR:=O (fun w' (h:Below w.heap.size w w')=>vRead_any (cj N D) w' (hV.below h) (jZ Q D));have x0:W.cell? ⟨w.heap.size,0,none⟩=some (.int .i8 (N 0)):=b1.cell 0;have x1:W.cell? ⟨w.heap.size,1,none⟩=some (.int .i8 (N 1)):=b1.cell 1;have x2:W.cell? ⟨w.heap.size,2,none⟩=some (.int .i8 (N 2)):=b1.cell 2;have x3:W.cell? ⟨w.heap.size,3,none⟩=some (.int .u8 (D:Nat)):=b1.cell 3;have U:=build_sm;have X:=field_plc;clear hB b1 b2 hS hV Q hD;rw[jM]at hW;unfold lw at hW⊢
 go_enter func13,ntmps13
 go_wp2_with fail
 refine(HP.o _).mono ?_;rintro e w1 ⟨rfl,F⟩;obtain⟨L1,C2⟩:=η2 (ae HB.o F ρ) (Y.o.to F);clear F HP x0 x1 x2 x3
 go_wp2_with fail
 refine(HR.o _ L1.o).mono ?_;rintro e w2 ⟨⟨v,rfl,hv⟩,G⟩;obtain⟨i,u,A,rfl,hq⟩:=hv.rcv;obtain⟨L2,D2,HQ⟩:=η3 (ae L1.o G ρ) (C2.o.to G) hq;clear G hv hq HR U X
 go_upto_region 2 with(refine aB rfl _ _ _ rfl _ (ah i u A) rfl rfl aW rfl (bH i u A) ?_)
 obtain⟨w3,H,b3,C,R⟩:=aA w2 (ah i u A) 57;rw[H];obtain⟨L3,J,V3,L⟩:=η4 (ae L2.o C ρ) (D2.o.to C) b3 (HQ.o.below C);clear H b3 C R
 go_wp2_with (first|refine ak rfl _ _ rfl w2.heap.size 0 rfl (ah i u A) _ (fun j hj=>V3.o.whole j hj) underlying57 rfl aW ?_|refine wpList_store_row rfl 57 _ _ rfl (w.heap.size+1) (ah i u A) rfl rfl 57 _ J.o aW rfl (bH i u A) ?_)
 rw[<-dZ J.o i u A];exact aI results13 (w.heap.size+1) (J.o.s12 i u A) _ rfl underlying57 rfl aW rfl ⟨⟨_,rfl,L.o.put12 J.o i u A⟩,aU L3.o I i u A⟩
section
theorem B2n:B ^ 2=18446744073709551616:=by decide
theorem dS{N:Nat->Int}(h:cH N)(E:Nat):bq (1+E % 6) 128 (cj N E):=by
 have e:∀i,cM (1+E % 6) 128 (iz (N i) (1+E % 6)):=fun i=>(smaR_frac I).mono (by have:=h i;omega)
 exact⟨e 0,e 1,e 2⟩
theorem ShF.lift{d:ShD}{D M K:Nat}(h:ShF d D M K)(k:Nat)(e:0<k):ShF d (D*k) (M*k) K:=
 ⟨Nat.mul_pos h.dpos e,fun i=>(h.pts i).lift k,h.nor,h.off,h.nq,h.nf,h.ring,h.es⟩
section
variable {b : Blk} {d : ShD} {q q' : Q4} {N N' : Nat → Int} {E E' : Nat}
theorem tM(j:OkQ q)(E:Nat):0<sqn q*(1+E % 6)∧sqn q*(1+E % 6)≤3456:=by
 have e:=j.sqn;have i:1+E % 6≤6:=I;exact⟨Nat.mul_pos e.1 I,Nat.le_trans (Nat.mul_le_mul e.2.1 i) ν⟩
theorem fst_shf(h:gN b d)(e:OkQ q)(i:cH N):ShF (d.move (cE q (cj N E))) (sqn q*(1+E % 6)) 200000 231928233984:=by
 have j:=e.sqn;exact((h.shf (1+E % 6) I).move e (dS i E)).mono I I
theorem snd_shf(h:gN b d)(A:OkQ q)(F:cH N)(e:OkQ q')(i:cH N'):ShF ((d.move (cE q (cj N E))).move (cE q' (cj N' E'))) (sqn q'*(sqn q*(1+E % 6)*(1+E' % 6))) 3000000000 400771988324352:=by
 have j:=e.sqn;have G:=tM A E;have C:=(fst_shf (E:=E) h A F).lift (1+E' % 6) I;have u:=(dS i E').lift (sqn q*(1+E % 6));rw[Nat.mul_comm (1+E' % 6)]at u;have H:128*(sqn q*(1+E % 6))*sqn q'≤128*3456*576:=Nat.mul_le_mul (Nat.mul_le_mul_left _ G.2) j.2.1;exact(C.move e u).mono I I
theorem snd_den(i:OkQ q)(e:OkQ q'):sqn q'*(sqn q*(1+E % 6)*(1+E' % 6))≤1000000000:=
 Nat.le_trans (Nat.mul_le_mul e.sqn.2.1 (Nat.mul_le_mul (tM i E).2 (show 1+E' % 6≤6 by omega))) ν
theorem shift_bd(e:cH N)(E:Nat):BdV 2 (cj N E):=(dS e E).bd I (by rw[B2n];omega) (by rw[B2n];omega)
theorem apply_bd(u:OkQ q)(F:cH N)(e:cH N'):BdV 2 (aK (cE q (cj N E)) (cj N' E')):=by
 have i:=u.sqn;have A:=(dS F E).lift (1+E' % 6);have j:=(dS e E').lift (1+E % 6);rw[Nat.mul_comm (1+E' % 6)]at j;have C:=sD u A j;have G:sqn q*((1+E % 6)*(1+E' % 6))≤576*(6*6):=Nat.mul_le_mul i.2.1 (Nat.mul_le_mul I I);have H:128*(1+E' % 6)*sqn q≤128*6*576:=Nat.mul_le_mul I i.2.1;exact C.bd (Nat.mul_pos i.1 (Nat.mul_pos I I)) (by rw[B2n];omega) (by rw[B2n];omega)
theorem mot_bd(e:OkQ q)(s:Q3):∀i,BdV 2 ((cE q s).row i):=fun i=>(mw e s i).bd e.sqn.1 (by rw[B2n];omega) (by rw[B2n];have:=e.sqn.2.1;omega)
theorem mot_rot(e:OkQ q)(s:Q3):Rot (cE q s):=l7 q s (ψ e.pos)
end
end
end Go.Proofs.Υ
