/- Lemmas. -/
import Derived.Test.YtodehkjinmgflaaGreatDoorV45
import Derived.Test.YtodehkjinmgflaaGreatDoorV52
set_option linter.all false
set_option maxHeartbeats 0
set_option maxRecDepth 99999
namespace Go.Proofs.Υ
open Go Go.RowKit Tryz
def ly(T N:Nat->Int)(D:Nat):Array Value:=#[.int .i8 (T 0),.int .i8 (T 1),.int .i8 (T 2),.int .i8 (T 3),.int .i8 (N 0),.int .i8 (N 1),.int .i8 (N 2),.int .u8 (D:Nat)]
def fN(T:Nat->Int):Prop:=∀i,-128<=T i/\T i<=127
def modT(T:Nat->Int):Q4:=⟨(T 0).tmod 13,(T 1).tmod 13,(T 2).tmod 13,(T 3).tmod 13⟩
def dt(T:Nat->Int):Q4:=if(modT T).a=0/\(modT T).b=0/\(modT T).c=0/\(modT T).d=0 then⟨1,0,0,0⟩ else modT T
def eK(N:Nat->Int)(D:Nat):Q3:=⟨iB (N 0) (1+D % 6),iB (N 1) (1+D % 6),iB (N 2) (1+D % 6)⟩
theorem plc_one(q:Q4)(s:Q3):((plc q s).all fun x=>x.oneCell')=true:=by unfold plc;simp[Value.oneCell']
def modK(T:Nat->Int)(k:Nat):Q4:=⟨if 0<k then(T 0).tmod 13 else 0,if 1<k then(T 1).tmod 13 else 0,if 2<k then(T 2).tmod 13 else 0,if 3<k then(T 3).tmod 13 else 0⟩
theorem modK_set(T:Nat->Int){k:Nat}(e:k<4):(q4v (modK T k)).setIfInBounds k (.int .i64 ((T k).tmod 13))=q4v (modK T (k+1)):=by
 obtain rfl|rfl|rfl|rfl:k=0\/k=1\/k=2\/k=3:=I
 all_goals rfl
def strK(x:Nat->Rat)(k:Nat):Array Value:=pt3 (if 0<k then dU (x 0)else⟨#[]⟩) (if 1<k then dU (x 1)else⟨#[]⟩) (if 2<k then dU (x 2)else⟨#[]⟩)
theorem strK_set(x:Nat->Rat){k:Nat}(e:k<3):(strK x k).setIfInBounds k (.string (dU (x k)))=strK x (k+1):=by
 obtain rfl|rfl|rfl:k=0\/k=1\/k=2:=I
 all_goals rfl
theorem Box.some{w:World}{g:Nat}{cs:Array Value}{t:TypeId}(h:Box w g cs t)(i:Nat)(hi:i<cs.size):∃u,w.cell? ⟨g,i,none⟩=some u:=⟨_,(h.cell i).trans (Array.getElem?_eq_getElem hi)⟩
theorem pC(x:Int):-12<=x.tmod 13/\x.tmod 13<=12:=by
 have h:=Int.natAbs_tmod x 13;have:(x.tmod 13).natAbs<=12:=by rw[h];have:=Nat.mod_lt x.natAbs (show 0<(13:Int).natAbs by decide);omega
 omega
theorem modT_le(T:Nat->Int):∀i,((modT T).at i).natAbs<=12
 | 0=>by have:=pC (T 0);show((T 0).tmod 13).natAbs<=12;omega
 | 1=>by have:=pC (T 1);show((T 1).tmod 13).natAbs<=12;omega
 | 2=>by have:=pC (T 2);show((T 2).tmod 13).natAbs<=12;omega
 | _+3=>by have:=pC (T 3);show((T 3).tmod 13).natAbs<=12;omega
theorem jU(T:Nat->Int):(∀i,((dt T).at i).natAbs<=12)/\¬ ((dt T).a=0/\(dt T).b=0/\(dt T).c=0/\(dt T).d=0):=by
 unfold dt
 split
 ·refine⟨fun i=>?_,by decide⟩
  match i with
  | 0=>decide
  | 1=>decide
  | 2=>decide
  | _+3=>exact Nat.zero_le _
 ·rename_i h
  exact⟨modT_le T,h⟩
theorem gsQ_ne{q:Q4}(h:¬ (q.a=0/\q.b=0/\q.c=0/\q.d=0)):(gsQ q 4).2≠0/\0<(gsQ q 4).1:=by
 refine⟨fun e=>h ⟨fi q 4 e 0 I,fi q 4 e 1 I,fi q 4 e 2 I,fi q 4 e 3 I⟩,Nat.pos_of_ne_zero fun e=>h ?_⟩;have z:∀i,i<4->q.at i=0:=fun i hi=>by
  have:=(tI q 4 I).2 i hi;rw[e,Nat.zero_dvd]at this;omega
 exact⟨z 0 I,z 1 I,z 2 I,z 3 I⟩
theorem turnT_prim(T:Nat->Int):OkQ (bP (dt T)):=primT_ok (jU T).1 (jU T).2
theorem shiftT_half{N:Nat->Int}(h:fN N)(D:Nat):oB (eK N D):=by
 have e:∀i,li (iB (N i) (1+D % 6)):=fun i=>rR I I (by have:=h i;omega)
 exact⟨e 0,e 1,e 2⟩
theorem infoStr3:(prog.info? 117).map (·.size)=some 3:=by kernel_rfl
theorem build_plc(q:Q4)(a b c:ByteArray)(w:World):(Instr.build 49 #[(0,.agg (q4v q)),(1,.agg (pt3 a b c))]).run prog w=.ok (.agg #[.int .i64 q.a,.int .i64 q.b,.int .i64 q.c,.int .i64 q.d,.string a,.string b,.string c]) w:=by kernel_rfl
theorem sZ{o:Oper}{a:Act}{w:World}{K:Act->World->Prop}{Q:Exit->Act->World->Prop}(x y:Operand)(q:Q4)(s0 s1 s2:ByteArray)(e:o.op=.build 49 #[(0,x),(1,y)])(i:a.eval x=.agg (q4v q))(j:a.eval y=.agg (pt3 s0 s1 s2))(h:K (a.put o.dst (.agg #[.int .i64 q.a,.int .i64 q.b,.int .i64 q.c,.int .i64 q.d,.string s0,.string s1,.string s2])) w):o.wp prog a w K Q:=by
 unfold Oper.wp execOp;simp only[e,Sem.run_bind,Sem.run_pure,Result.andThen_ok,List.map_toArray,List.map_cons,List.map_nil,i,j,build_plc];exact h
theorem rq(T N:Nat->Int)(D:Nat)(w:World)(hT:fN T)(hN:fN N)(hD:D<256):
 Calls prog 10 #[.agg (ly T N D)] w fun e w'=>e=.returned (.agg (plc (bP (dt T)) (eK N D)))/\Bl w w':=by
 obtain⟨zP,ar⟩:∃z:Array Value,z=#[.int .i64 0,.int .i64 0,.int .i64 0,.int .i64 0,.string ⟨#[]⟩,.string ⟨#[]⟩,.string ⟨#[]⟩]:=⟨_,rfl⟩;obtain⟨W,hW,b1,b2,b3,hB,hS⟩:=cC w (ly T N D) zP (q4v ⟨0,0,0,0⟩) 31 49 44;obtain⟨HB,B1,B2,B3,HT,HN,HD,bV⟩:=η8 hB b1 b2 b3 hT hN hD ar;rw[ar]at hW;obtain⟨x,hx⟩:∃x:Nat->Rat,x=fun i=>iB (N i) (1+D % 6):=⟨_,rfl⟩
 obtain⟨sh,ap⟩:∃sh:Q3,sh=⟨x 0,x 1,x 2⟩:=⟨_,rfl⟩;obtain⟨HX,bI⟩:=η2 hx ap;have a1:=O (show eK N D=sh from by rw[ap,hx];rfl);have eT:=eqTurn;clear hB b1 b2 b3 hS hT hN hD ar hx ap;unfold ly at hW⊢;unfold q4v at hW;rw[a1.o]
 go_enter func10,ntmps10
 go_wp2_with fail
 go_loopw [4] (fun iv wr=>∃k:Nat,k<=4/\iv=.int .i64 (k:Nat)/\Hid (Box wr (w.heap.size+2) (q4v (modK T k)) 44)/\Hid (Box wr w.heap.size (ly T N D) 31)/\Hid (Box wr (w.heap.size+1) zP 49)/\Hid (Bl w wr)) (fun iv _=>4-(intOf iv).toNat)
 case atStart=>exact⟨0,by omega,rfl,B3.o,B1.o,B2.o,HB.o⟩
 case round =>
  clear HB B1 B2 B3;obtain⟨k,hk,rfl,C,u,H,L⟩:=hrel;obtain⟨F,rfl⟩:=φ wr;by_cases h0:k=4
  ·subst h0
   have b9:¬ ((4:Nat):Int)<4:=I;obtain⟨M,hM⟩:=χ (modT T);have QM:=O (show Box F (w.heap.size+2) (q4v M) 44 from hM▸C.o);have U:=O (show dt T=if M.a=0/\M.b=0/\M.c=0/\M.d=0 then⟨1,0,0,0⟩ else M from by unfold dt;rw[hM]);obtain⟨a,b,c,d⟩:=M;have x0:F.cell? ⟨w.heap.size+2,0,none⟩=some (.int .i64 a):=QM.o.cell 0;have x1:F.cell? ⟨w.heap.size+2,1,none⟩=some (.int .i64 b):=QM.o.cell 1;have x2:F.cell? ⟨w.heap.size+2,2,none⟩=some (.int .i64 c):=QM.o.cell 2;have x3:F.cell? ⟨w.heap.size+2,3,none⟩=some (.int .i64 d):=QM.o.cell 3;have f0:=QM.o.free 0;clear C hM;obtain⟨bz,be⟩:=χ ((a == 0&&b == 0&&c == 0&&d == 0))
   go_upto_if 21 with fail
   have ag:=O be;clear be
   go_cut [] from 19 to 22 (fun wx=>∃Q,Hid (dt T=Q)/\Hid (Box wx (w.heap.size+2) (q4v Q) 44)/\Hid (Box wx w.heap.size (ly T N D) 31)/\Hid (Box wx (w.heap.size+1) zP 49)/\Hid (Bl w wx))
   case first =>
    by_cases hz:a=0/\b=0/\c=0/\d=0
    ·obtain⟨rfl,rfl,rfl,rfl⟩:=hz
     obtain rfl:true=bz:=ag.o;have HQ:=O (show dt T=⟨1,0,0,0⟩ from by rw[U.o];rfl);have C:=O (show Box (F.setCell ⟨w.heap.size+2,0,none⟩ (.int .i64 1)) (w.heap.size+2) (q4v ⟨1,0,0,0⟩) 44 from QM.o.set 0 _);have u:=O (u.o.other (p:=⟨w.heap.size+2,0,none⟩) (show w.heap.size≠w.heap.size+2 by omega) (.int .i64 1));have H:=O (H.o.other (p:=⟨w.heap.size+2,0,none⟩) (show w.heap.size+1≠w.heap.size+2 by omega) (.int .i64 1));have L:=O (L.o.setCell (p:=⟨w.heap.size+2,0,none⟩) (show w.heap.size<=w.heap.size+2 by omega) (.int .i64 1));clear QM U
     go_wp2_with fail
     go_meet
     case rel=>exact⟨_,HQ.o,C.o,u.o,H.o,L.o⟩
    ·obtain rfl:bz=false:=by
      rw[<-ag.o,Bool.eq_false_iff];intro e;simp at e;exact hz ⟨e.1.1.1,e.1.1.2,e.1.2,e.2⟩
     have HQ:=O (show dt T=⟨a,b,c,d⟩ from by rw[U.o];exact if_neg hz);clear U hz
     go_wp2_with fail
     go_meet
     case rel=>exact⟨_,HQ.o,QM.o,u.o,H.o,L.o⟩
   case rest =>
    clear QM u H L U ag x0 x1 x2 x3 f0;obtain⟨Q,HQ,C,u,H,L⟩:=hcut;obtain⟨wz,rfl⟩:=φ wc;clear eT
    go_wp2_with fail
    obtain⟨J,ad⟩:∃g,wz.heap.size=g:=ξ;obtain⟨w5,bk,b5,X,b7⟩:=aB wz (strK x 0) 117;change Code.wp _ _ _ _ (wz.alloc (Obj.cells (strK x 0) 117));rw[bk,ad];rw[ad]at b5;obtain⟨a5,a4,a3,a6,ay⟩:=η5 b5 (C.o.to X) (u.o.to X) (H.o.to X) (ae L.o X ρ);have ab:=O (show w.heap.size+2<J from by rw[<-ad];exact C.o.lt);clear bk b5 X b7 ad C u H L
    go_loopw [6] (fun iv wr=>∃k:Nat,k<=3/\iv=.int .i64 (k:Nat)/\Hid (Box wr J (strK x k) 117)/\Hid (Box wr w.heap.size (ly T N D) 31)/\Hid (Box wr (w.heap.size+2) (q4v Q) 44)/\Hid (Box wr (w.heap.size+1) zP 49)/\Hid (Bl w wr)) (fun iv _=>3-(intOf iv).toNat)
    case atStart=>exact⟨0,by omega,rfl,a5.o,a3.o,a4.o,a6.o,ay.o⟩
    case round =>
     clear a5 a3 a4 a6 ay;obtain⟨k,hk,rfl,SB,u,C,H,L⟩:=hrel;obtain⟨F,rfl⟩:=φ wr;by_cases h0:k=3
     ·subst h0
      have b8:¬ ((3:Nat):Int)<3:=I;have SB:=O (show Box F J (pt3 (dU sh.x) (dU sh.y) (dU sh.z)) 117 from by rw[bI.o];exact SB.o);have bt:=O (fun w=>qpoint_any (dU sh.x) (dU sh.y) (dU sh.z) w);have bu:=O (fun w=>qprim_any Q w (by rw[<-HQ.o];exact(jU T).1) (gsQ_ne (by rw[<-HQ.o];exact(jU T).2)).1 (gsQ_ne (by rw[<-HQ.o];exact(jU T).2)).2)
      go_wp2_with fail
      refine aU (rest:=1) [isV 0 (.agg (q4v Q)),isV 1 (.agg (q4v (bP Q))),isV 2 (.agg (pt3 (dU sh.x) (dU sh.y) (dU sh.z))),isV 3 (.agg (pt3 (dU sh.x) (dU sh.y) (dU sh.z))),isV 4 (.agg (plc (bP Q) sh))] [] ?A2 (τ 5 1) Z [0,1,2,3,4] Z Z Z Z Z Z ?st ?hA ?hop ?hend
      case hA=>exact cZ
      case st=>(iterate 5 refine aq.cons isV.stab ?_);exact aq.nil
      case hop =>
       refine ai.cons rfl (fun y w' hS hD K hK=>?_) ?_
       ·as_aux_lemma =>
        refine bJ ?_;refine aV 44 _ rfl (w.heap.size+2) 0 rfl (q4v Q) _ (fun j hj=>(C.o.to hS).whole j hj) underlying44 rfl nh ?_;exact hK.out _ w' hS β isV.put δ
       refine ai.cons rfl (fun y w' hS hD K hK=>?_) ?_
       ·simp only[isV.get (hD 0 Z)]at hK⊢
        as_aux_lemma =>
        go_simp;refine(bu.o w').mono ?_
        rintro e A ⟨rfl,hb⟩;exact hK.out _ A (ae hS hb ρ) hb isV.put δ
       refine ai.cons rfl (fun y w' hS hD K hK=>?_) ?_
       ·as_aux_lemma =>
        refine bJ ?_;refine aV 117 _ rfl J 0 rfl (pt3 (dU sh.x) (dU sh.y) (dU sh.z)) _ (fun j hj=>(SB.o.to hS).whole j hj) underlying117 rfl infoStr3 ?_;exact hK.out _ w' hS β isV.put δ
       refine ai.cons rfl (fun y w' hS hD K hK=>?_) ?_
       ·simp only[isV.get (hD 2 Z),isV.get (hD 1 Z)]at hK⊢
        as_aux_lemma =>
        go_simp;refine(bt.o w').mono ?_
        rintro e A ⟨rfl,hb⟩;exact hK.out _ A (ae hS hb ρ) hb isV.put δ
       refine ai.cons rfl (fun y w' hS hD K hK=>?_) ?_
       ·simp only[isV.get (hD 1 Z),isV.get (hD 3 Z)]at hK⊢
        as_aux_lemma =>
        refine bJ ?_;refine sZ _ _ (bP Q) (dU sh.x) (dU sh.y) (dU sh.z) rfl rfl rfl ?_;exact hK.out _ w' hS β isV.put δ
       exact ai.nil
      case hend =>
       intro y w' hS hR hF;have e4:=isV.get (hR 4 Z);simp only[e4];refine aL (i:=5) (listed2:=τ 6 0) Z rfl Z (fun K hK=>?_);refine bJ ?_;have bz:=H.o.to hS;refine wp_store_row 49 _ _ rfl (w.heap.size+1) (plc (bP Q) sh) rfl rfl 49 _ bz my (by rw[bV.o];rfl) (plc_one _ _) ?_;refine hK.out _ _ ?_;clear hK K;have BR:=O (cT bz (plc (bP Q) sh));have br:=O ((ae L.o hS ρ).grown (bq w' (w.heap.size+1) (plc (bP Q) sh)) (ae L.o hS ρ).size (fun g e=>by cases e;omega));refine aP Z ?_
       go_wp2_with fail
       exact aK results10 (w.heap.size+1) BR.o _ rfl underlying49 rfl my rfl ⟨by rw[HQ.o],br.o⟩
     ·have bi:(k:Int)<3:=I
      have G:=O (show k<3 by omega);have aw:=O bi;obtain⟨R,af⟩:=χ (N k);obtain⟨r,hr⟩:=χ (D % 6);obtain⟨d,hd⟩:=χ (1+r);have ac:=O (af▸HN.o k);have a0:=O (show r<6 by omega);have bv:=O hd;have bF:=O (show((D:Nat):Int).tmod 6=((r:Nat):Int) by rw[Int.tmod_eq_emod_of_nonneg I];omega);have bs:=O (show(D:Int)<256 by have:=HD.o;omega);have NC:=O (fun w' (h:Bl F w')=>show w'.cell? ⟨w.heap.size,4+k,none⟩=some (.int .i8 R)from by
       rw[(u.o.to h).cell,<-af];have h3:=G.o;obtain rfl|rfl|rfl:k=0\/k=1\/k=2:=I
       all_goals rfl)
      obtain⟨b0,az⟩:=η2 (fun w' (h:Bl F w')=>show w'.cell? ⟨w.heap.size,7,none⟩=some (.int .u8 (D:Nat))from(u.o.to h).cell 7) (quotD_eq (n:=R) (d:=d) (ψ ac.o) I I);have bl:dT ((d:Nat):Int)=cY d:=txtZ_nat d;obtain⟨av,au⟩:=η2 (fun w=>qH R w (ψ ac.o)) (fun w=>qH (d:Nat) w I);have aa:=O (fun w=>ddiv_any (dT R) (dT (d:Nat)) (kS (iB R d)) w (by have h:=txtZ_ok (n:=R) (ψ ac.o);exact⟨h.1,h.2.1,by have:=h.2.2;omega⟩) (by have h:=txtZ_ok (n:=((d:Nat):Int)) I;exact⟨h.1,h.2.1,by have:=h.2.2;omega⟩) (by rw[bl];exact az.o));obtain⟨TN,bc⟩:∃S:ByteArray,⟨(dT R).toArray⟩=S:=⟨_,rfl⟩;obtain⟨TD,ba⟩:∃S:ByteArray,⟨(dT ((d:Nat):Int)).toArray⟩=S:=⟨_,rfl⟩;obtain⟨TX,an⟩:∃S:ByteArray,⟨(kS (iB R d)).toArray⟩=S:=⟨_,rfl⟩;rw[bc]at av aa;rw[ba]at au aa;rw[an]at aa;have a2:=O (show dU (x k)=TX from by rw[<-an,HX.o,<-hd,<-hr,<-af];rfl);clear h0 af hr hd bl bc ba an az
      go_wp2_with fail
      refine aU (rest:=1) [isV 0 (.int .i64 (k:Nat)),isV 1 (.int .i64 (k:Nat)),isV 2 (.pointer (some ⟨w.heap.size,4,none⟩)),isV 3 (.pointer (some ⟨w.heap.size,4,none⟩)),isV 4 (.pointer (some ⟨w.heap.size,4+k,none⟩)),isV 5 (.int .i8 R),isV 6 (.int .i64 R),isV 7 (.string TN),isV 8 (.pointer (some ⟨w.heap.size,4,none⟩)),isV 9 (.pointer (some ⟨w.heap.size,7,none⟩)),isV 10 (.int .u8 (D:Nat)),isV 11 (.int .u8 (r:Nat)),isV 12 (.int .i64 (r:Nat)),isV 13 (.int .i64 (d:Nat)),isV 14 (.string TD),isV 15 (.string TX),isV 16 (.pointer (some ⟨J,k,none⟩))] [] ?A1 (τ 17 1) Z [0,1,2,3,4,5,6,7,8,9,10,11,12,13,14,15,16] Z Z Z Z Z Z ?st ?hA ?hop ?hend
      case hA=>exact cZ
      case st=>(iterate 17 refine aq.cons isV.stab ?_);exact aq.nil
      case hop =>
       iterate 4
        refine ai.cons rfl (fun y w' hS hD K hK=>?_) ?_
        ·try simp only[isV.get (hD 2 (by decide +kernel))]at hK⊢
         as_aux_lemma =>
         go_simp;exact hK.out _ w' hS β isV.put δ
       refine ai.cons rfl (fun y w' hS hD K hK=>?_) ?_
       ·simp only[isV.get (hD 3 Z),isV.get (hD 1 Z)]at hK⊢
        as_aux_lemma =>
        have bf:=G.o;have bg:=aw.o;go_simp;exact hK.out _ w' hS β isV.put δ
       refine ai.cons rfl (fun y w' hS hD K hK=>?_) ?_
       ·simp only[isV.get (hD 4 Z)]at hK⊢
        as_aux_lemma =>
        have c0:=NC.o w' hS;go_simp;exact hK.out _ w' hS β isV.put δ
       refine ai.cons rfl (fun y w' hS hD K hK=>?_) ?_
       ·simp only[isV.get (hD 5 Z)]at hK⊢
        as_aux_lemma =>
        have kw:IntKind.i64.wrap R=R:=IntWalk.i64_in _ (ψ ac.o);go_simp;exact hK.out _ w' hS β isV.put δ
       refine ai.cons rfl (fun y w' hS hD K hK=>?_) ?_
       ·simp only[isV.get (hD 6 Z)]at hK⊢
        as_aux_lemma =>
        go_simp;refine(av.o w').mono ?_
        rintro e A ⟨rfl,hb⟩;exact hK.out _ A (ae hS hb ρ) hb isV.put δ
       iterate 2
        refine ai.cons rfl (fun y w' hS hD K hK=>?_) ?_
        ·try simp only[isV.get (hD 8 (by decide +kernel))]at hK⊢
         as_aux_lemma =>
         go_simp;exact hK.out _ w' hS β isV.put δ
       refine ai.cons rfl (fun y w' hS hD K hK=>?_) ?_
       ·simp only[isV.get (hD 9 Z)]at hK⊢
        as_aux_lemma =>
        have c0:=b0.o w' hS;go_simp;exact hK.out _ w' hS β isV.put δ
       refine ai.cons rfl (fun y w' hS hD K hK=>?_) ?_
       ·simp only[isV.get (hD 10 Z)]at hK⊢
        as_aux_lemma =>
        have hr:=bF.o;have hd:=bs.o;go_simp;exact hK.out _ w' hS β isV.put δ
       refine ai.cons rfl (fun y w' hS hD K hK=>?_) ?_
       ·simp only[isV.get (hD 11 Z)]at hK⊢
        as_aux_lemma =>
        have kw:IntKind.i64.wrap ((r:Nat):Int)=((r:Nat):Int):=IntWalk.i64_in _ (ψ a0.o);go_simp;exact hK.out _ w' hS β isV.put δ
       refine ai.cons rfl (fun y w' hS hD K hK=>?_) ?_
       ·simp only[isV.get (hD 12 Z)]at hK⊢
        as_aux_lemma =>
        have kw:IntKind.i64.wrap (1+((r:Nat):Int))=((d:Nat):Int):=by rw[IntWalk.i64_in _ (ψ a0.o)];have:=bv.o;omega
        go_simp;exact hK.out _ w' hS β isV.put δ
       refine ai.cons rfl (fun y w' hS hD K hK=>?_) ?_
       ·simp only[isV.get (hD 13 Z),isV.get (hD 7 Z)]at hK⊢
        as_aux_lemma =>
        go_simp;refine(au.o w').mono ?_
        rintro e A ⟨rfl,hb⟩;exact hK.out _ A (ae hS hb ρ) hb isV.put δ
       refine ai.cons rfl (fun y w' hS hD K hK=>?_) ?_
       ·simp only[isV.get (hD 7 Z),isV.get (hD 14 Z)]at hK⊢
        as_aux_lemma =>
        go_simp;refine(aa.o w').mono ?_
        rintro e A ⟨rfl,hb⟩;exact hK.out _ A (ae hS hb ρ) hb isV.put δ
       refine ai.cons rfl (fun y w' hS hD K hK=>?_) ?_
       ·simp only[isV.get (hD 0 Z)]at hK⊢
        as_aux_lemma =>
        have bf:=G.o;have bg:=aw.o;go_simp;exact hK.out _ w' hS β isV.put δ
       exact ai.nil
      case hend =>
       intro y w' hS hR hF;have a7:=isV.get (hR 15 Z);have a8:=isV.get (hR 16 Z);simp only[a7,a8];have bp:=SB.o.to hS;obtain⟨u0,b4⟩:=bp.some k (by show k<3;have:=G.o;omega);have b6:=bp.free k;refine aL (i:=17) (listed2:=τ 18 0) Z rfl Z (fun K hK=>?_);go_simp;refine hK.out _ _ ?_;clear hK K;have BF:=O (show Box (w'.setCell ⟨J,k,none⟩ (.string TX)) J (strK x (k+1)) 117 from by rw[<-a2.o,<-strK_set x G.o,a2.o];exact bp.set k _);have bm:=O ((ae L.o hS ρ).setCell (p:=⟨J,k,none⟩) (show w.heap.size<=J from by have:=ab.o;omega) (.string TX));have NF:=O ((u.o.to hS).other (p:=⟨J,k,none⟩) (show w.heap.size≠J from by have:=ab.o;omega) (.string TX));have QF:=O ((C.o.to hS).other (p:=⟨J,k,none⟩) (show w.heap.size+2≠J from by have:=ab.o;omega) (.string TX));have ZF:=O ((H.o.to hS).other (p:=⟨J,k,none⟩) (show w.heap.size+1≠J from by have:=ab.o;omega) (.string TX));generalize w'.setCell ⟨J,k,none⟩ (.string TX)=w9 at *;clear hS hR hF a7 a8 bp b4 b6;refine aP Z ?_;have bf:=G.o
       go_wp2_with fail
       go_round
       case rel=>exact⟨k+1,G.o,rfl,BF.o,NF.o,QF.o,ZF.o,bm.o⟩
       case measure=>exact μ (ψ G.o)
  ·have bg:(k:Int)<4:=I
   have ao:k<4:=I;have hx:F.cell? ⟨w.heap.size,k,none⟩=some (.int .i8 (T k)):=by
    rw[u.o.cell];obtain rfl|rfl|rfl|rfl:k=0\/k=1\/k=2\/k=3:=I
    all_goals rfl
   have hc:=tq C.o ao;have hf:=C.o.free k;have hb:=HT.o k;have Y:=modK_set T ao;have a9:=pC (T k);obtain⟨t,ht⟩:=χ (T k);rw[ht]at hx hb Y a9;have kw:IntKind.i64.wrap t=t:=IntWalk.i64_in _ I;have QS:=O (show Box (F.setCell ⟨w.heap.size+2,k,none⟩ (.int .i64 (t.tmod 13))) (w.heap.size+2) (q4v (modK T (k+1))) 44 from by rw[<-Y];exact C.o.set k _);have NS:=O (u.o.other (p:=⟨w.heap.size+2,k,none⟩) (show w.heap.size≠w.heap.size+2 by omega) (.int .i64 (t.tmod 13)));have ZS:=O (H.o.other (p:=⟨w.heap.size+2,k,none⟩) (show w.heap.size+1≠w.heap.size+2 by omega) (.int .i64 (t.tmod 13)));have LS:=O (L.o.setCell (p:=⟨w.heap.size+2,k,none⟩) (show w.heap.size<=w.heap.size+2 by omega) (.int .i64 (t.tmod 13)));obtain⟨y,hy⟩:=χ (t.tmod 13);rw[hy]at QS NS ZS LS a9;clear Y C u H L h0 ht
   go_wp2_with fail
   go_round
   case rel=>exact⟨k+1,ao,rfl,QS.o,NS.o,ZS.o,LS.o⟩
   case measure=>simp[intOf];omega
def smIn(N:Nat->Int)(D:Nat):Array Value:=#[.int .i8 (N 0),.int .i8 (N 1),.int .i8 (N 2),.int .u8 (D:Nat)]
section
theorem nS{N:Nat->Int}(h:fN N)(E:Nat):bA (1+E % 6) 128 (eK N E):=by
 have e:∀i,cP (1+E % 6) 128 (iB (N i) (1+E % 6)):=fun i=>(smaR_frac I).mono (by have:=h i;omega)
 exact⟨e 0,e 1,e 2⟩
section
variable {b : Blk} {d : ShD} {q q' : Q4} {N N' : Nat → Int} {E E' : Nat}
theorem den_le(j:OkQ q)(E:Nat):0<sqn q*(1+E % 6)/\sqn q*(1+E % 6)<=3456:=by
 have e:=j.sqn;have i:1+E % 6<=6:=I;exact⟨Nat.mul_pos e.1 I,Nat.le_trans (Nat.mul_le_mul e.2.1 i) ν⟩
theorem fst_shf(h:gL b d)(e:OkQ q)(i:fN N):ShF (d.move (cS q (eK N E))) (sqn q*(1+E % 6)) 200000 231928233984:=by
 have j:=e.sqn;exact((h.shf (1+E % 6) I).move e (nS i E)).mono I I
theorem mot_rot(e:OkQ q)(s:Q3):Rot (cS q s):=l9 q s (ψ e.pos)
end
end
end Go.Proofs.Υ
