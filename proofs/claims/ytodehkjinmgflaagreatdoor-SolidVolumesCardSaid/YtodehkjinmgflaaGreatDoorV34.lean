/- Lemmas. -/
import Derived.Test.YtodehkjinmgflaaGreatDoorV24
import Derived.Test.YtodehkjinmgflaaGreatDoorV22
set_option linter.all false
set_option maxHeartbeats 0
set_option maxRecDepth 99999
namespace Go.Proofs.Υ
open Go Go.RowKit Tryz
section
theorem FRow.open17{w:World}{base:Nat}{U:Option Addr}{N J:Nat}{qs:List (Q3×Rat)}{rs:List FR}(h:FRow w base (.slice U N J) qs rs)(hv:∀r∈rs,∃a n c,r.v=.slice a n c)(i:Nat)(hi:i<rs.length):
 ∃(b:Nat) (n0 A C E:RC) (F:Option Addr) (H G:Nat) (f:Q3×Rat),U=some ⟨b,0,none⟩/\b<w.heap.size/\qs[i]?=some f/\am w (.agg (ah n0 A C)) f.1/\ak w E.agg f.2/\∀j,j<17->w.cell? ⟨b,i*17+j,none⟩=(aS n0 A C E F H G)[j]? := by
 obtain⟨b,L,r,e,hb,R,hc⟩:=h.at_ i hi;obtain⟨f,Q⟩:∃f,qs[i]?=some f:=⟨_,List.getElem?_eq_getElem (by rw[<-h.len];exact hi)⟩;obtain⟨W,X⟩:=h.vec i r f R Q;obtain⟨F,H,G,u⟩:=hv r (List.mem_of_getElem? R);cases e;obtain⟨⟨n0,A,C⟩,E,fv⟩:=r;simp only at u;subst u;exact⟨b,n0,A,C,E,F,H,G,f,rfl,hb,Q,W,X,fun j Y=>(hc j Y).trans (Array.getElem?_toList (xs:=aS n0 A C E F H G))⟩
def mt(fs:List (Q3×Rat))(p:Q3):Int:=if fs.any (fun f=>decide (f.2<aT f.1 p))then -1 else if fs.any (fun f=>decide (aT f.1 p=f.2))then 0 else 1
def lR(fs:List (Q3×Rat))(p:Q3)(i:Nat)(z:Int):Prop:=(∀j f,j<i->fs[j]?=some f->¬ f.2<aT f.1 p)/\((z=0/\∃j f,j<i/\fs[j]?=some f/\aT f.1 p=f.2)\/(z=1/\∀j f,j<i->fs[j]?=some f->aT f.1 p≠f.2))
variable {fs : List (Q3 × Rat)} {p : Q3} {i : Nat} {z : Int} {f : Q3 × Rat}
theorem lR.start:lR fs p 0 1:=⟨fun j f h=>by omega,.inr ⟨rfl,fun j f h=>by omega⟩⟩
theorem lR.on(h:lR fs p i z)(A:fs[i]?=some f)(C:¬ f.2<aT f.1 p)(E:aT f.1 p=f.2):lR fs p (i+1) 0:=
 ⟨fun j g F u=>by
  by_cases e:j=i
  ·subst e;rw[A]at u;cases u;exact C
  ·exact h.1 j g I u,.inl ⟨rfl,i,f,by omega,A,E⟩⟩
theorem lR.off(h:lR fs p i z)(C:fs[i]?=some f)(E:¬ f.2<aT f.1 p)(F:¬ aT f.1 p=f.2):lR fs p (i+1) z:=
 ⟨fun j g J u=>by
  by_cases e:j=i
  ·subst e;rw[C]at u;cases u;exact E
  ·exact h.1 j g I u,by
  rcases h.2 with⟨e,j,g,A,G,H⟩|⟨e,A⟩
  ·exact .inl ⟨e,j,g,by omega,G,H⟩
  ·exact .inr ⟨e,fun j g J u=>by
    by_cases e:j=i
    ·subst e;rw[C]at u;cases u;exact F
    ·exact A j g I u⟩⟩
theorem lR.done(h:lR fs p i z)(hi:i=fs.length):mt fs p=z:=by
 have key:∀(q:Q3×Rat->Bool),fs.any q=true↔∃j f,j<i/\fs[j]?=some f/\q f=true:=fun q=>by
  rw[List.any_eq_true]
  constructor
  ·rintro⟨f,u,A⟩
   obtain⟨j,C,e⟩:=List.mem_iff_getElem.mp u;exact⟨j,f,by omega,by rw[<-e];exact List.getElem?_eq_getElem C,A⟩
  ·rintro⟨j,f,C,u,A⟩;exact⟨f,List.mem_of_getElem? u,A⟩
 unfold mt;rw[if_neg (fun hc=>by
  obtain⟨j,f,C,u,A⟩:=(key _).mp hc;exact h.1 j f C u (of_decide_eq_true A))]
 rcases h.2 with⟨e,j,f,E,F,G⟩|⟨e,E⟩
 ·rw[if_pos ((key _).mpr ⟨j,f,E,F,decide_eq_true G⟩),e]
 ·rw[if_neg (fun hc=>by
   obtain⟨j,f,C,u,A⟩:=(key _).mp hc;exact E j f C u (of_decide_eq_true A)),e]
end
theorem infoIn:(prog.info? 3).map (fun i=>(i.zero,i.size,i.bytes))=some (some (.int .i64 0),1,8):=by kernel_rfl
theorem locate_any(v0 v1 v2 vp:Value)(fs:List (Q3×Rat))(aa:List FR)(p:Q3)(base k l:Nat)(w:World)(hF:FRow w base v1 fs aa)(au:∀r∈aa,∃a n c,r.v=.slice a n c)(hk:∀f∈fs,BdV k f.1/\Bd k f.2)(hp:am w vp p)(hl:BdV l p)(bt:k+l<=1000)(av:fs.length<=262144):
 Calls prog 57 #[.agg #[v0,v1,v2],vp] w fun e w'=>e=.returned (.int .i64 (mt fs p))/\Bl w w':=by
 obtain⟨p0,p1,p2,rfl,aw,ay,az⟩:=hp;obtain⟨W,hW,b1,b2,hB,hS⟩:=bU w #[v0,v1,v2] (ah p0 p1 p2) 86 57;have a2:am w (.agg (ah p0 p1 p2)) p:=⟨p0,p1,p2,rfl,aw,ay,az⟩;obtain⟨bc,HF,a7,HB,af,B2,HK,ac⟩:=η8 (a2.below hB) (hF.below hB) au hB hS b2 hk hl;obtain⟨x0,x1,x2,-⟩:=b1.three;obtain⟨N,hN⟩:=χ aa.length;have ad:=O (show fs.length=N from by rw[<-hF.len];exact hN);have bp:N<=262144:=by rw[<-ad.o];exact av
 have br:=O bp;obtain⟨pa,ap,hv⟩:∃pa ap,v1=.slice pa N ap:=by
  obtain⟨_,⟨rfl,h0⟩|⟨g,c,_,rfl,_⟩⟩:=hF.own
  ·exact⟨none,0,by rw[<-hN,h0]⟩
  ·exact⟨_,_,by rw[<-hN]⟩
 have a8:=O hN;clear hF au hB hS b1 b2 hk hl aw ay az hN a2;subst hv;unfold ah at hW⊢
 go_enter func57,ntmps57
 go_wp2_with fail
 go_loopw [5,11] (fun wv iv wr=>∃i,i<=N/\iv=.int .i64 (i:Nat)/\∃z,wv=.int .i64 z/\Hid (lR fs p i z)/\Hid (Bl W wr)) (fun _ iv _=>N-(intOf iv).toNat)
 case atStart=>exact⟨0,Nat.zero_le _,rfl,1,rfl,lR.start,Below.refl _ _⟩
 case round =>
  obtain⟨i,hi,rfl,z,rfl,J,HR⟩:=hrel;obtain⟨wk,rfl⟩:=φ wr;by_cases h0:i=N
  ·have hn:¬ (i:Int)<(N:Int):=I
   have H0:=O h0;clear h0;go_wp2;exact bodyPost_ret (results_tmp results57 _ _ _) rfl ⟨by
    rw[lR.done J.o (by rw[ad.o];exact H0.o)];rfl,ae HB.o HR.o (ψ af.o)⟩
  ·have bu:(i:Int)<(N:Int):=I
   have bs:i<N:=I;obtain⟨bF,n0,A,C,E,fa,fl,fc,f,e,hb,hf,a0,a1,ar⟩:=(HF.o.below HR.o).open17 a7.o i (ψ a8.o);cases e;obtain⟨Y,a6⟩:=η2 hf ar;have Q:=HK.o f (List.mem_of_getElem? hf);clear hf ar
   go_upto_region 5 with(first|refine aj rfl _ _ rfl bF (i*17) rfl (aS n0 A C E fa fl fc) _ (fun j hj=>a6.o j hj) underlying155 rfl iG ?_|refine aA rfl _ _ _ rfl _ (aS n0 A C E fa fl fc) rfl rfl iG rfl (dK ..) ?_)
   obtain⟨Wc,bm,b5,L,bl⟩:=aB wk (aS n0 A C E fa fl fc) 155;obtain⟨U,ba,a9⟩:=η3 (ae HR.o L ρ) (show am Wc (.agg #[.bool n0.s,.slice n0.a n0.n n0.c,.bool n0.t,.slice n0.b n0.m n0.d,.bool A.s,.slice A.a A.n A.c,.bool A.t,.slice A.b A.m A.d,.bool C.s,.slice C.a C.n C.c,.bool C.t,.slice C.b C.m C.d]) f.1 from a0.below L) (show ak Wc (.agg #[.bool E.s,.slice E.a E.n E.c,.bool E.t,.slice E.b E.m E.d]) f.2 from a1.below L);obtain⟨ag,a4,a5,a3,KF,KP⟩:=η6 (bc.o.below U.o) Q.1 Q.2 (Bd.dot Q.1 ac.o) b5 (B2.o.to U.o);clear Q a0 a1 L bl b5;rw[bm];refine aU (rest:=0) [isV 0 (.pointer (some ⟨wk.heap.size,0,none⟩)),isV 1 (.agg #[.bool n0.s,.slice n0.a n0.n n0.c,.bool n0.t,.slice n0.b n0.m n0.d,.bool A.s,.slice A.a A.n A.c,.bool A.t,.slice A.b A.m A.d,.bool C.s,.slice C.a C.n C.c,.bool C.t,.slice C.b C.m C.d]),isV 2 (.agg #[.bool p0.s,.slice p0.a p0.n p0.c,.bool p0.t,.slice p0.b p0.m p0.d,.bool p1.s,.slice p1.a p1.n p1.c,.bool p1.t,.slice p1.b p1.m p1.d,.bool p2.s,.slice p2.a p2.n p2.c,.bool p2.t,.slice p2.b p2.m p2.d]),isP 3 (fun v w=>ak w v (aT f.1 p)),isV 4 (.pointer (some ⟨wk.heap.size,12,none⟩)),isV 5 (.agg #[.bool E.s,.slice E.a E.n E.c,.bool E.t,.slice E.b E.m E.d]),isV 6 (.int .i64 (dr (aT f.1 p) f.2))] [] ?AL (τ 7 0) Z [0,1,2,3,4,5,6] Z Z Z Z Z Z ?st ?hA ?hop ?hend
   case hA=>exact cZ
   case st=>(iterate 3 refine aq.cons isV.stab ?_);refine aq.cons (isP.stab (fun _ _ _ h hv=>hv.below h)) ?_;(iterate 3 refine aq.cons isV.stab ?_);exact aq.nil
   case hop =>
    refine ai.cons rfl (fun y w' hS hD K hK=>?_) ?_
    ·as_aux_lemma =>
     go_simp;exact hK.out _ w' hS β isV.put δ
    refine ai.cons rfl (fun y w' hS hD K hK=>?_) ?_
    ·simp only[isV.get (hD 0 Z)]at hK⊢
     as_aux_lemma =>
     obtain⟨c0,c1,c2,c3,c4,c5,c6,c7,c8,c9,an,ao,be,bf,bg,bi,bk⟩:=(KF.o.to hS).at17;go_simp;exact hK.out _ w' hS β isV.put δ
    refine ai.cons rfl (fun y w' hS hD K hK=>?_) ?_
    ·as_aux_lemma =>
     have bx:=KP.o.to hS;obtain⟨c0,c1,c2,c3⟩:=bx.p0.1;obtain⟨c4,c5,c6,c7⟩:=bx.p1.1;obtain⟨c8,c9,an,ao⟩:=bx.p2.1;go_simp;exact hK.out _ w' hS β isV.put δ
    refine ai.cons rfl (fun y w' hS hD K hK=>?_) ?_
    ·simp only[isV.get (hD 1 Z),isV.get (hD 2 Z)]at hK⊢
     as_aux_lemma =>
     go_simp;refine(ji _ _ f.1 p k l w' (ba.o.below hS) (ag.o.below hS) a4.o ac.o I).mono ?_
     rintro e ab ⟨⟨v,rfl,hv⟩,hb⟩;exact hK.out v ab (ae hS hb ρ) hb (isP.put hv) δ
    refine ai.cons rfl (fun y w' hS hD K hK=>?_) ?_
    ·as_aux_lemma =>
     go_simp;exact hK.out _ w' hS β isV.put δ
    refine ai.cons rfl (fun y w' hS hD K hK=>?_) ?_
    ·simp only[isV.get (hD 4 Z)]at hK⊢
     as_aux_lemma =>
     obtain⟨c0,c1,c2,c3,c4,c5,c6,c7,c8,c9,an,ao,be,bf,bg,bi,bk⟩:=(KF.o.to hS).at17;go_simp;exact hK.out _ w' hS β isV.put δ
    refine ai.cons rfl (fun y w' hS hD K hK=>?_) ?_
    ·simp only[isV.get (hD 5 Z)]at hK⊢
     as_aux_lemma =>
     have e3:=isP.get (hD 3 Z);go_simp;refine(cj _ _ (aT f.1 p) f.2 (3*(k+l+1)+1) k w' e3 (a9.o.below hS) a3.o a5.o I).mono ?_;rintro e ab ⟨rfl,hb⟩;exact hK.out _ ab (ae hS hb ρ) hb isV.put δ
    exact ai.nil
   case hend =>
    intro y w' hS hR hF;have e6:=isV.get (hR 6 Z);simp only[e6];refine aP Z ?_;have R:=O (ae U.o hS ρ);clear hS hR hF e6;by_cases u:f.2<aT f.1 p
    ·have F:dr (aT f.1 p) f.2=1:=by unfold dr;rw[if_neg (Rat.not_lt.mpr (Rat.le_of_lt u)),if_pos u]
     rw[F];have H:=O u;clear u F;go_wp2;exact bodyPost_ret (results_tmp results57 _ _ _) rfl ⟨by
      rw[show mt fs p=-1 from by unfold mt;rw[if_pos (List.any_eq_true.mpr ⟨f,List.mem_of_getElem? Y.o,decide_eq_true H.o⟩)]];rfl,ae HB.o R.o (ψ af.o)⟩
    ·by_cases G:aT f.1 p=f.2
     ·have F:dr (aT f.1 p) f.2=0:=fm.mpr G
      rw[F];obtain⟨H,X⟩:=η2 G u;clear G u F;go_wp2;go_round
      case rel=>exact⟨i+1,by omega,rfl,0,rfl,lR.on J.o Y.o X.o H.o,R.o⟩
      case measure=>exact μ
     ·have F:dr (aT f.1 p) f.2=-1:=by
       unfold dr;rw[if_pos (Rat.lt_of_le_of_ne (Rat.not_lt.mp u) G)]
      rw[F];obtain⟨H,X⟩:=η2 G u;clear G u F;go_wp2;go_round
      case rel=>exact⟨i+1,by omega,rfl,z,rfl,lR.off J.o Y.o X.o H.o,R.o⟩
      case measure=>exact μ
theorem eU{w:World}{base n k:Nat}{e:TypeId}{v:Value}{xs:List Value}(h:w.ownsRow base e k v n xs):∃a c,v=.slice a n c/\jj w k a n xs:=by
 obtain⟨C,⟨rfl,rfl⟩|⟨g,A,E,rfl,-⟩⟩:=id h
 ·exact⟨none,0,rfl,C,.inl ⟨rfl,rfl⟩⟩
 ·exact⟨_,A,rfl,C,.inr ⟨_,rfl,fun j u F=>World.ownsRow.cells h rfl j u F⟩⟩
theorem ed_one(l:List ED):∀u∈l.flatMap cx,u.oneCell'=true:=fun u j=>by
 obtain⟨e,-,j⟩:=List.mem_flatMap.mp j;simp only[cx,List.mem_cons,List.not_mem_nil,or_false]at j
 rcases j with rfl|rfl|rfl|rfl<;>rfl
theorem ints_one(l:List Nat):∀u∈l.map (fun(i:Nat)=>Value.int .i64 (i:Int)),u.oneCell'=true:=fun u e=>by
 obtain⟨i,-,rfl⟩:=List.mem_map.mp e
 rfl
theorem cloneE_any(v:Value)(es:List ED)(base:Nat)(w:World)(U:eI w base v es)(hl:es.length<=262144):
 Calls prog 81 #[v] w fun e w'=>(∃W,e=.returned W/\eI w' w.heap.size W es)/\Bl w w':=by
 obtain⟨i0,C,J,L,Q⟩:=info_parts infoEdge;obtain⟨a,u,rfl,j⟩:=eU U;have R:=O j;obtain⟨_,H⟩:=U
 cases a with
 | none =>
  have h0:es=[]:=by
   rcases H with⟨_,h⟩|⟨_,_,_,h,_⟩
   ·exact List.length_eq_zero_iff.mp h
   ·cases h
  subst h0;clear H j R;have Y:=fun w=>Lib.run_eql_slice_nil (P:=prog) w 84 153 none 0 u 0 0 underlying84
  go_enter func81,ntmps81
  go_wp2;exact bodyPost_ret (results_tmp results81 _ _ _) rfl ⟨⟨_,rfl,World.ownsRow_nil _ _ _ _⟩,Below.refl _ _⟩
 | some x =>
  clear H j;have Y:=fun w=>Lib.run_eql_slice_nil (P:=prog) w 84 153 (some x) es.length u 0 0 underlying84
  go_enter func81,ntmps81
  go_wp2_with (at_builtin;refine cH _ rfl _ _ 84 rfl w.heap.size 153 i0 (.agg #[.int .i64 0,.int .i64 0,.int .i64 0,.int .i64 0]) 4 32 underlying84 C J L Q rfl ν _ _ _ rfl (World.ownsRow_made w #[] 0 ρ (Nat.zero_le _) rfl) _ _ _ _ rfl (R.o.below (β.alloc ρ _)) (ed_one _) (by unfold maxLen;omega) I (by simp) ?_)
  intro v1 X E A;have F:=O (show Bl w X from(β.alloc ρ _).grown A (by simp) (fun g e=>by cases e;exact Nat.le_refl _));have G:=O (show eI X w.heap.size v1 es from E);clear E A;go_wp2;exact bodyPost_ret (results_tmp results81 _ _ _) rfl ⟨⟨_,rfl,G.o⟩,F.o⟩
theorem cloneN_any(v:Value)(es:List Nat)(base:Nat)(w:World)(U:bo w base v es)(hl:es.length<=262144):
 Calls prog 83 #[v] w fun e w'=>(∃W,e=.returned W/\bo w' w.heap.size W es)/\Bl w w':=by
 obtain⟨i0,C,J,L,Q⟩:=info_parts infoIn;obtain⟨a,u,rfl,j⟩:=eU U;have R:=O j;obtain⟨_,H⟩:=U
 cases a with
 | none =>
  have h0:es=[]:=by
   rcases H with⟨_,h⟩|⟨_,_,_,h,_⟩
   ·exact List.length_eq_zero_iff.mp h
   ·cases h
  subst h0;clear H j R;have Y:=fun w=>Lib.run_eql_slice_nil (P:=prog) w 63 3 none 0 u 0 0 underlying63
  go_enter func83,ntmps83
  go_wp2;exact bodyPost_ret (results_tmp results83 _ _ _) rfl ⟨⟨_,rfl,World.ownsRow_nil _ _ _ _⟩,Below.refl _ _⟩
 | some x =>
  clear H j;have Y:=fun w=>Lib.run_eql_slice_nil (P:=prog) w 63 3 (some x) es.length u 0 0 underlying63
  go_enter func83,ntmps83
  go_wp2_with (at_builtin;refine cH _ rfl _ _ 63 rfl w.heap.size 3 i0 (.int .i64 0) 1 8 underlying63 C J L Q rfl ν _ _ _ rfl (World.ownsRow_made w #[] 0 ρ (Nat.zero_le _) rfl) _ _ _ _ rfl (R.o.below (β.alloc ρ _)) (ints_one _) (by unfold maxLen;omega) I (by simp) ?_)
  intro v1 X E A;have F:=O (show Bl w X from(β.alloc ρ _).grown A (by simp) (fun g e=>by cases e;exact Nat.le_refl _));have G:=O (show bo X w.heap.size v1 es from E);clear E A;go_wp2;exact bodyPost_ret (results_tmp results83 _ _ _) rfl ⟨⟨_,rfl,G.o⟩,F.o⟩
end Go.Proofs.Υ
