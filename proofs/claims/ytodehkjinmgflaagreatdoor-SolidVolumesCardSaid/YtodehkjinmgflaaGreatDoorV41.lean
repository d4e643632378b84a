/- Lemmas. -/
import Derived.Test.YtodehkjinmgflaaGreatDoorV40
import Derived.Shelf.Strings.SlTrimAscii
set_option linter.all false
set_option maxHeartbeats 0
set_option maxRecDepth 99999
namespace Go.Proofs.Υ
open Go Go.RowKit Tryz
def jh(w:World):Prop:=∃m,w.cell? ⟨2,0,none⟩=some (.int .i64 m)
theorem jh.below{w w':World}(h:jh w)(hb:Bl w w'):jh w':=by
 obtain⟨m,h⟩:=h;refine⟨m,?_⟩;rw[hb.cell (p:=⟨2,0,none⟩) ?_]
 ·exact h
 ·show 2<w.heap.size
  unfold World.cell? at h
  cases hq:w.heap[2]? with
  | none=>simp[hq]at h
  | some o=>exact(Array.getElem?_eq_some_iff.1 hq).1
def ten:List UInt8:=[48,49,50,51,52,53,54,55,56,57]
theorem cut_at{a b:List UInt8}(h:∀x∈a,x≠47):Lib.cut (a++47::b) [47]=(a,b,true)/\Lib.cut a [47]=(a,[],false):=by
 have e:Lib.indexByte (a++47::b) 47=a.length/\Lib.indexByte a 47=-1:=by
  induction a with
  | nil=>exact⟨rfl,rfl⟩
  | cons x a ih =>
   obtain⟨A,C⟩:=ih fun y u=>h y (List.mem_cons_of_mem _ u)
   have i:(x == 47)=false:=by simpa using h x (List.mem_cons_self ..)
   have j:(((a.length:Nat):Int) == -1)=false:=by simp
   constructor
   ·show(if x == 47 then 0 else if Lib.indexByte (a++47::b) 47 == -1 then -1 else Lib.indexByte (a++47::b) 47+1)=_
    rw[i,A,j];simp
   ·show(if x == 47 then 0 else if Lib.indexByte a 47 == -1 then -1 else Lib.indexByte a 47+1)=_
    rw[i,C]
    rfl
 unfold Lib.cut;rw[Lib.index_one,Lib.index_one,e.1,e.2]
 constructor
 ·rw[if_pos I]
  simp
 ·rw[if_neg I]
theorem qJ:∀u,u<256->(∀x∈45::cY u,x≠47)/\Lib.trimS (cY u) ten=[]:=by decide +kernel
theorem cut_txt{x:Rat}(h:li x):Lib.cut (kS x) [47]=(dT x.num,if x.den=1 then[] else cY x.den,decide (x.den≠1)):=by
 obtain⟨j,-⟩:=qJ _ h.2;have u:∀y∈dT x.num,y≠47:=fun y i=>by
  unfold dT at i
  split at i
  ·exact j y i
  ·exact j y (List.mem_cons_of_mem _ i)
 unfold kS;by_cases e:x.den=1
 ·rw[if_pos e,if_pos e,decide_eq_false I]
  exact(cut_at (b:=[]) u).2
 ·rw[if_neg e,if_neg e,decide_eq_true e]
  exact(cut_at u).1
theorem digit_facts:∀d,d<10->2<=d->cY d≠[]/\(cY d).length=1/\Lib.trimB (cY d) 48=cY d/\(cY d).all (· < 128)=true:=by decide +kernel
theorem rat_whole{w:World}{s:Bool}{a:Option Addr}{n c:Nat}{x:Rat}(e:x.den=1)(h:aO w (.agg #[.bool s,.slice a n c]) x.num):ak w (.agg #[.bool s,.slice a n c,.bool false,.slice none 0 0]) x:=
 ⟨s,a,n,c,false,none,0,0,0,rfl,h,jz w,.inr ⟨rfl,e⟩⟩
theorem nW(l:List UInt8)(w:World)(h0:l≠[])(j:l.length<=8)(C:Lib.trimS l ten=[]):
 Calls prog 191 #[.string ⟨l.toArray⟩] w fun e w'=>e=.returned (.bool true)/\Bl w w':=by
 have u:(⟨l.toArray⟩:ByteArray).toList.isEmpty=false:=by
  rw[ByteArray.toList_mk]
  cases l with
  | nil=>exact absurd rfl h0
  | cons x y=>rfl
 have A:(⟨l.toArray⟩:ByteArray).size<=8:=by show l.toArray.size<=8;simpa using j
 have i:=fun w=>show Calls prog 193 _ w _ from Any.strings_Trim_laid lays160 Z ⟨l.toArray⟩ ⟨#[48,49,50,51,52,53,54,55,56,57]⟩ w I ν (ascii_of_all ν)
 rw[show(⟨l.toArray⟩:ByteArray).data.toList=l from rfl,show(⟨#[48,49,50,51,52,53,54,55,56,57]⟩:ByteArray).data.toList=ten from rfl,C]at i;generalize(⟨l.toArray⟩:ByteArray)=s at *
 go_enter func191,ntmps191
 go_wp2_with fail
 refine(i _).mono ?_;rintro e E ⟨rfl,hb⟩
 go_wp2_with fail
 go_ret;exact⟨rfl,hb⟩
theorem rread_any(x:Rat)(ao:Nat)(w:World)(cc:8<=ao)(hV:jh w)(hx:li x):
 Calls prog 151 #[.string ⟨(kS x).toArray⟩,.int .i64 (ao:Nat)] w fun e w'=>ko w' e x/\Bl w w':=by
 obtain⟨S,hS⟩:∃S:ByteArray,⟨(kS x).toArray⟩=S:=⟨_,rfl⟩;have ce:S.size<=8:=by
  rw[<-hS];have h:=pp x.num;show(kS x).toArray.size<=8;have h2:(dT x.num).length<=4:=h;unfold kS;have h3:(cY x.den).length<=3:=by
   unfold cY
   repeat' split
   all_goals simp
  split<;>simp<;>omega
 obtain⟨m,hm⟩:=hV;have hcut:=cut_txt hx;obtain⟨z,hz⟩:=χ x.num;obtain⟨u,hu⟩:=χ z.natAbs;have bk:z.natAbs<256:=by rw[<-hz];exact hx.2
 obtain⟨a5,-⟩:=cut_sign z bk;obtain⟨-,bg⟩:=qJ u I;rw[hz]at hcut;rw[hu]at a5;obtain⟨-,-,a4,b3,-⟩:=qI u I;obtain⟨W,hW,b1,hB,b0⟩:=aB w #[.bool false,.slice none 0 0,.bool false,.slice none 0 0] 55;have i:=fun w hm=>strings_Cut S ⟨#[47]⟩ m w I hm
 rw[show S.data.toList=kS x from by rw[<-hS],show(⟨#[47]⟩:ByteArray).data.toList=[47] from rfl,hcut]at i;have bf:W.cell? ⟨2,0,none⟩=some (.int .i64 m):=by
  have h2:2<w.heap.size:=by
   unfold World.cell? at hm
   cases hq:w.heap[2]? with
   | none=>simp[hq]at hm
   | some o=>exact(Array.getElem?_eq_some_iff.1 hq).1
  exact(hB.cell (p:=⟨2,0,none⟩) h2).trans hm
 obtain⟨T,hT⟩:∃T:ByteArray,⟨(dT z).toArray⟩=T:=⟨_,rfl⟩;obtain⟨D,hD⟩:∃D:ByteArray,⟨(cY u).toArray⟩=D:=⟨_,rfl⟩;have ad:=fun w=>strings_TrimPrefix T ⟨#[45]⟩ w
 rw[show T.data.toList=dT z from by rw[<-hT],show(⟨#[45]⟩:ByteArray).data.toList=[45] from rfl,a5,hD]at ad;have aa:=fun w=>nW (cY u) w (fun e=>by rw[e]at a4;exact absurd a4 ν) I bg
 rw[hD]at aa;have ac:=fun w=>sm z w bk
 simp only[hT]at i ac;have cd:¬ (ao:Int)<(S.size:Int):=I;obtain⟨B1,HB⟩:=η2 b1 hB;obtain⟨x0,x1,x2,x3,-⟩:=b1.four;rw[hS];clear hB b1 b0 a5 bg a4 b3 hm;by_cases H:x.den=1
 ·rw[if_pos H,decide_eq_false I]at i
  go_enter func151,ntmps151
  go_wp2_with fail
  refine(i _ bf).mono ?_;rintro e w1 ⟨rfl,L,ag⟩;have E:Bl W w1:=by rw[ag];exact aF β L
  obtain⟨aw,B2⟩:=η2 (ae HB.o E ρ) (B1.o.to E);clear ag E x0 x1 x2 x3
  go_wp2_with fail
  refine(ad _).mono ?_;rintro e w2 ⟨rfl,rfl⟩
  go_wp2_with fail
  refine(aa _).mono ?_;rintro e w3 ⟨rfl,F⟩;obtain⟨ay,B3⟩:=η2 (ae aw.o F ρ) (B2.o.to F);clear F
  go_wp2_with fail
  refine(ac _).mono ?_;rintro e w4 ⟨⟨v,rfl,A⟩,G⟩;obtain⟨az,B4,HV⟩:=η3 (ae ay.o G ρ) (B3.o.to G) A;obtain⟨s1,a1,L,c1,d1,rfl,-⟩:=A;clear G
  go_upto_region 13 with(refine aA rfl _ _ _ rfl _ (#[.bool s1,.slice a1 L c1]) rfl rfl di rfl rfl ?_)
  obtain⟨w5,an,b5,j,-⟩:=aB w4 #[.bool s1,.slice a1 L c1] 53;rw[an];obtain⟨a0,B5,a3,N5⟩:=η4 (ae az.o j ρ) (B4.o.to j) (HV.o.below j) b5;clear an b5 j;obtain⟨y0,y1,y2,y3⟩:=B5.o.four;obtain⟨q0,q1,-⟩:=N5.o.two
  go_wp2_with fail
  exact bS results151 w.heap.size (B5.o.set4 (.bool s1) (.slice a1 L c1) (.bool false) (.slice none 0 0)) _ rfl underlying55 rfl bD rfl
   ⟨⟨_,rfl,ak.store4 (rat_whole H (by rw[hz];exact a3.o)) B5.o _ _ _ _⟩,aW a0.o ρ _ _ _ _⟩
 ·obtain⟨d,ar⟩:=χ x.den
  have X:d<10:=by have:=hx.1;omega
  have b4:=x.den_pos;have Y:2<=d:=I;have a6:=fun w=>sm (d:Nat) w I
  rw[txtZ_nat]at a6;obtain⟨f1,f2,f3,f4⟩:=digit_facts d X Y;have be:Int.gcd z (d:Nat)=1:=by
   have h:=x.reduced;rw[ar,hz]at h;exact h
  have bc:=O (show 2<=d/\d<10 from⟨Y,X⟩);rw[ar]at i;obtain⟨DD,ap⟩:∃T:ByteArray,⟨(cY d).toArray⟩=T:=⟨_,rfl⟩;obtain⟨bv,bu,b9⟩:=η3 be ar H;have ab:=fun w=>nW (cY d) w f1 I (qJ d I).2
  have ca:DD.size=1:=by rw[<-ap];show(cY d).toArray.size=1;simpa using f2
  have b8:DD.toList.isEmpty=false:=by
   rw[<-ap,ByteArray.toList_mk]
   cases hq:cY d with
   | nil=>exact absurd hq f1
   | cons x y=>rfl
  have af:=fun w=>strings_Trim_one DD 48 ν w I
  rw[show DD.data.toList=cY d from by rw[<-ap],f3]at af;rw[if_neg I,decide_eq_true I]at i;simp only[ap]at i ab a6 af;clear be ar H f1 f2 f3 f4 X b4 Y
  go_enter func151,ntmps151
  go_wp2_with fail
  refine(i _ bf).mono ?_;rintro e w1 ⟨rfl,L,ag⟩;have E:Bl W w1:=by rw[ag];exact aF β L
  obtain⟨aw,B2⟩:=η2 (ae HB.o E ρ) (B1.o.to E);clear ag E x0 x1 x2 x3
  go_wp2_with fail
  refine(ad _).mono ?_;rintro e w2 ⟨rfl,rfl⟩
  go_wp2_with fail
  refine(aa _).mono ?_;rintro e w3 ⟨rfl,F⟩;obtain⟨ay,B3⟩:=η2 (ae aw.o F ρ) (B2.o.to F);clear F
  go_wp2_with fail
  refine(ab _).mono ?_;rintro e bl ⟨rfl,Q⟩;obtain⟨a9,a7⟩:=η2 (ae ay.o Q ρ) (B3.o.to Q);clear Q
  go_wp2_with fail
  refine(af _).mono ?_;rintro e b6 ⟨rfl,au⟩;have R:Bl bl b6:=by
   rcases au with rfl|rfl
   ·exact Below.refl _ _
   ·exact β.drew
  obtain⟨ba,a8⟩:=η2 (ae a9.o R ρ) (a7.o.to R);clear au R
  go_wp2_with fail
  refine(ac _).mono ?_;rintro e w4 ⟨⟨v,rfl,A⟩,G⟩;obtain⟨az,B4,HV⟩:=η3 (ae ba.o G ρ) (a8.o.to G) A;obtain⟨s1,a1,L,c1,d1,rfl,-⟩:=A;clear G
  go_upto_region 14 with(refine aA rfl _ _ _ rfl _ (#[.bool s1,.slice a1 L c1]) rfl rfl di rfl rfl ?_)
  obtain⟨w5,an,b5,j,-⟩:=aB w4 #[.bool s1,.slice a1 L c1] 53;rw[an];obtain⟨a0,B5,a3,N5⟩:=η4 (ae az.o j ρ) (B4.o.to j) (HV.o.below j) b5;clear an b5 j
  go_wp2_with fail
  refine(a6 _).mono ?_;rintro e w6 ⟨⟨v,rfl,A⟩,U⟩;obtain⟨bp,B6,N6,bz,DV⟩:=η5 (ae a0.o U ρ) (B5.o.to U) (N5.o.to U) (a3.o.below U) A;obtain⟨s2,a2,n2,c2,d2,rfl,-⟩:=A;clear U
  go_upto_region 15 with(refine aA rfl _ _ _ rfl _ (#[.bool s2,.slice a2 n2 c2]) rfl rfl di rfl rfl ?_)
  obtain⟨w7,bi,b7,J,-⟩:=aB w6 #[.bool s2,.slice a2 n2 c2] 53;rw[bi];obtain⟨br,B7,N7,V7,av,D7⟩:=η6 (ae bp.o J ρ) (B6.o.to J) (N6.o.to J) (bz.o.below J) (DV.o.below J) b7;have SZ:=O (show Small z from⟨1,by omega,by unfold B;omega⟩);have S1:=O (show Small 1 from⟨1,by omega,by show 1<B ^ 1;unfold B;omega⟩);have S2:=O (show Small (d:Nat)from⟨1,by omega,by have:=bc.o;unfold B;omega⟩);have bt:=O (show dp (d:Nat) 1=1 by have:=bc.o;unfold dp;repeat' split<;>omega);clear bi b7 J;refine aU (rest:=0) [isV 0 (.int .i64 0),isV 1 (.bool false),isV 2 (.bool false),isV 3 (.agg #[.bool s2,.slice a2 n2 c2]),isP 4 (fun u w=>aO w u (1)),isV 5 (.int .i64 1),isV 6 (.bool false),isV 7 (.bool false),isV 8 (.bool false),isV 9 (.agg #[.bool s1,.slice a1 L c1]),isV 10 (.agg #[.bool s2,.slice a2 n2 c2]),isP 11 (fun u w=>aO w u (1)),isP 12 (fun u w=>aO w u (1)),isV 13 (.int .i64 0),isV 14 (.bool false),isV 15 (.bool false)] [] ?A1 (τ 16 0) Z [0,1,2,3,4,5,6,7,8,9,10,11,12,13,14,15] Z Z Z Z Z Z ?st ?hA ?hop ?hend
  case hA=>exact cZ
  case st=>(iterate 4 refine aq.cons isV.stab ?_);refine aq.cons (isP.stab (fun _ _ _ h A=>A.below h)) ?_;(iterate 6 refine aq.cons isV.stab ?_);(iterate 2 refine aq.cons (isP.stab (fun _ _ _ h A=>A.below h)) ?_);(iterate 3 refine aq.cons isV.stab ?_);exact aq.nil
  case hop =>
   iterate 3
    refine ai.cons rfl (fun y w' hS hD K hK=>?_) ?_
    ·try simp only[isV.get (hD 0 (by decide +kernel))]at hK⊢
     try simp only[isV.get (hD 1 (by decide +kernel))]at hK⊢
     as_aux_lemma =>
     go_simp;exact hK.out _ w' hS β isV.put δ
   refine ai.cons rfl (fun y w' hS hD K hK=>?_) ?_
   ·simp only[isV.get (hD 2 Z)]at hK⊢
    as_aux_lemma =>
    have bx:=D7.o.to hS;obtain⟨c0,c1,-⟩:=bx.two;go_simp;exact hK.out _ w' hS β isV.put δ
   refine ai.cons rfl (fun y w' hS hD K hK=>?_) ?_
   ·simp only[isV.get (hD 2 Z)]at hK⊢
    as_aux_lemma =>
    go_simp;refine(mm w').mono ?_
    rintro e C ⟨⟨v,rfl,A⟩,hb⟩;exact hK.out v C (ae hS hb ρ) hb (isP.put A) δ
   refine ai.cons rfl (fun y w' hS hD K hK=>?_) ?_
   ·simp only[isV.get (hD 2 Z),isV.get (hD 3 Z)]at hK⊢
    as_aux_lemma =>
    have e4:=isP.get (hD 4 Z);go_simp;refine(fp _ _ (d:Nat) 1 w' (av.o.below hS) e4 S2.o S1.o).mono ?_;rintro e C ⟨rfl,hb⟩;rw[bt.o];exact hK.out _ C (ae hS hb ρ) hb isV.put δ
   iterate 3
    refine ai.cons rfl (fun y w' hS hD K hK=>?_) ?_
    ·try simp only[isV.get (hD 2 (by decide +kernel))]at hK⊢
     try simp only[isV.get (hD 5 (by decide +kernel))]at hK⊢
     try simp only[isV.get (hD 6 (by decide +kernel))]at hK⊢
     try simp only[isV.get (hD 7 (by decide +kernel))]at hK⊢
     as_aux_lemma =>
     go_simp;exact hK.out _ w' hS β isV.put δ
   refine ai.cons rfl (fun y w' hS hD K hK=>?_) ?_
   ·simp only[isV.get (hD 8 Z)]at hK⊢
    as_aux_lemma =>
    have bx:=N7.o.to hS;obtain⟨c0,c1,-⟩:=bx.two;go_simp;exact hK.out _ w' hS β isV.put δ
   refine ai.cons rfl (fun y w' hS hD K hK=>?_) ?_
   ·simp only[isV.get (hD 8 Z)]at hK⊢
    as_aux_lemma =>
    have bx:=D7.o.to hS;obtain⟨c0,c1,-⟩:=bx.two;go_simp;exact hK.out _ w' hS β isV.put δ
   refine ai.cons rfl (fun y w' hS hD K hK=>?_) ?_
   ·simp only[isV.get (hD 8 Z),isV.get (hD 9 Z),isV.get (hD 10 Z)]at hK⊢
    as_aux_lemma =>
    go_simp;refine(oZ _ _ z (d:Nat) w' (V7.o.below hS) (av.o.below hS) SZ.o S2.o).mono ?_
    rintro e C ⟨⟨v,rfl,A⟩,hb⟩;exact hK.out v C (ae hS hb ρ) hb (isP.put (by rw[bv.o]at A;exact A)) δ
   refine ai.cons rfl (fun y w' hS hD K hK=>?_) ?_
   ·simp only[isV.get (hD 8 Z)]at hK⊢
    as_aux_lemma =>
    go_simp;refine(mm w').mono ?_
    rintro e C ⟨⟨v,rfl,A⟩,hb⟩;exact hK.out v C (ae hS hb ρ) hb (isP.put A) δ
   refine ai.cons rfl (fun y w' hS hD K hK=>?_) ?_
   ·simp only[isV.get (hD 8 Z)]at hK⊢
    as_aux_lemma =>
    have bF:=isP.get (hD 11 Z);have bI:=isP.get (hD 12 Z);go_simp;refine(fp _ _ 1 1 w' bF bI S1.o S1.o).mono ?_;rintro e C ⟨rfl,hb⟩;rw[show dp 1 1=0 from by decide];exact hK.out _ C (ae hS hb ρ) hb isV.put δ
   iterate 2
    refine ai.cons rfl (fun y w' hS hD K hK=>?_) ?_
    ·try simp only[isV.get (hD 8 (by decide +kernel))]at hK⊢
     try simp only[isV.get (hD 13 (by decide +kernel))]at hK⊢
     try simp only[isV.get (hD 14 (by decide +kernel))]at hK⊢
     as_aux_lemma =>
     go_simp;exact hK.out _ w' hS β isV.put δ
   exact ai.nil
  case hend =>
   intro y w' hS hR hF;have bV:=isV.get (hR 15 Z);simp only[bV];refine aP Z ?_;obtain⟨bs,BF,NF,DF,VF,bm⟩:=η6 (ae br.o hS ρ) (B7.o.to hS) (N7.o.to hS) (D7.o.to hS) (V7.o.below hS) (av.o.below hS);clear hS hR hF;obtain⟨y0,y1,y2,y3⟩:=BF.o.four;obtain⟨q0,q1,-⟩:=NF.o.two;obtain⟨r0,r1,-⟩:=DF.o.two
   go_wp2_with fail
   exact bS results151 w.heap.size (BF.o.set4 (.bool s1) (.slice a1 L c1) (.bool s2) (.slice a2 n2 c2)) _ rfl underlying55 rfl bD rfl ⟨⟨_,rfl,ak.store4 (show ak _ _ x from⟨s1,a1,L,c1,s2,a2,n2,c2,(d:Nat),rfl,by rw[hz];exact VF.o,bm.o,.inl (by rw[bu.o])⟩) BF.o _ _ _ _⟩,aW bs.o ρ _ _ _ _⟩
theorem rparse_any(x:Rat)(w:World)(Q:jh w)(R:li x):
 Calls prog 99 #[.string ⟨(kS x).toArray⟩] w fun e w'=>ko w' e x/\Bl w w':=by
 obtain⟨W,U,b1,C,E⟩:=aB w #[.bool false,.slice none 0 0,.bool false,.slice none 0 0] 55;have G:=rread_any x 400 W I (Q.below C) R;obtain⟨F,J⟩:=η2 b1 C;clear b1 C E
 go_enter func99,ntmps99
 go_wp2_with fail
 refine G.mono ?_;rintro e X ⟨⟨v,rfl,H⟩,i⟩;obtain⟨A,u⟩:=η2 (ae J.o i ρ) (F.o.to i);obtain⟨r,rfl,j⟩:=H.rcv;have L:=O j;obtain⟨Y,y1,y2,y3⟩:=u.o.four;clear i H j G
 go_wp2_with fail
 exact bS results99 w.heap.size (u.o.set4 (.bool r.s) (.slice r.a r.n r.c) (.bool r.t) (.slice r.b r.m r.d)) _ rfl underlying55 rfl bD rfl
  ⟨⟨_,rfl,ak.store4 L.o u.o _ _ _ _⟩,aW A.o ρ _ _ _ _⟩
end Go.Proofs.Υ
