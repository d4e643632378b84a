/- Lemmas. -/
import Derived.Test.YtodehkjinmgflaaGreatDoorE40
import Derived.Shelf.Strings.SlTrimAscii
set_option linter.all false
set_option maxHeartbeats 0
set_option maxRecDepth 99999
namespace Go.Proofs.Υ
open Go Go.RowKit Tryz
def gZ(w:World):Prop:=∃m,w.cell? ⟨2,0,none⟩=some (.int .i64 m)
theorem gZ.below{w w':World}(h:gZ w)(hb:Bl w w'):gZ w':=by
 obtain⟨m,h⟩:=h;refine⟨m,?_⟩;rw[hb.cell (p:=⟨2,0,none⟩) ?_]
 ·exact h
 ·show 2<w.heap.size
  unfold World.cell? at h
  cases hq:w.heap[2]? with
  | none=>simp[hq]at h
  | some o=>exact(Array.getElem?_eq_some_iff.1 hq).1
def ten:List UInt8:=[48,49,50,51,52,53,54,55,56,57]
theorem cut_at{a b:List UInt8}(h:∀x∈a,x≠47):Lib.cut (a++47::b) [47]=(a,b,true)/\Lib.cut a [47]=(a,[],false):=by
 have e:Lib.indexByte (a++47::b) 47=a.length/\Lib.indexByte a 47=-1:=by
  induction a with
  | nil=>exact⟨rfl,rfl⟩
  | cons x a ih =>
   obtain⟨C,E⟩:=ih fun y A=>h y (List.mem_cons_of_mem _ A)
   have j:(x == 47)=false:=by simpa using h x (List.mem_cons_self ..)
   have u:(((a.length:Nat):Int) == -1)=false:=by simp
   constructor
   ·show(if x == 47 then 0 else if Lib.indexByte (a++47::b) 47 == -1 then -1 else Lib.indexByte (a++47::b) 47+1)=_
    rw[j,C,u];simp
   ·show(if x == 47 then 0 else if Lib.indexByte a 47 == -1 then -1 else Lib.indexByte a 47+1)=_
    rw[j,E]
    rfl
 unfold Lib.cut;rw[Lib.index_one,Lib.index_one,e.1,e.2]
 constructor
 ·rw[if_pos I]
  simp
 ·rw[if_neg I]
theorem rg:∀u,u<256->(∀x∈45::cZ u,x≠47)/\Lib.trimS (cZ u) ten=[]:=by decide +kernel
theorem cut_txt{x:Rat}(h:kM x):Lib.cut (j5 x) [47]=(dY x.num,if x.den=1 then[] else cZ x.den,decide (x.den≠1)):=by
 obtain⟨u,-⟩:=rg _ h.2;have A:∀y∈dY x.num,y≠47:=fun y j=>by
  unfold dY at j
  split at j
  ·exact u y j
  ·exact u y (List.mem_cons_of_mem _ j)
 unfold j5;by_cases e:x.den=1
 ·rw[if_pos e,if_pos e,decide_eq_false I]
  exact(cut_at (b:=[]) A).2
 ·rw[if_neg e,if_neg e,decide_eq_true e]
  exact(cut_at A).1
theorem digit_facts:∀d,d<10->2<=d->cZ d≠[]/\(cZ d).length=1/\Lib.trimB (cZ d) 48=cZ d/\(cZ d).all (· < 128)=true:=by decide +kernel
theorem rat_whole{w:World}{s:Bool}{a:Option Addr}{n c:Nat}{x:Rat}(e:x.den=1)(h:aU w (.agg #[.bool s,.slice a n c]) x.num):aj w (.agg #[.bool s,.slice a n c,.bool false,.slice none 0 0]) x:=
 ⟨s,a,n,c,false,none,0,0,0,rfl,h,jH w,.inr ⟨rfl,e⟩⟩
theorem oy(l:List UInt8)(w:World)(h0:l≠[])(u:l.length<=8)(E:Lib.trimS l ten=[]):
 Calls prog 191 #[.string ⟨l.toArray⟩] w fun e w'=>e=.returned (.bool true)/\Bl w w':=by
 have A:(⟨l.toArray⟩:ByteArray).toList.isEmpty=false:=by
  rw[ByteArray.toList_mk]
  cases l with
  | nil=>exact absurd rfl h0
  | cons x y=>rfl
 have C:(⟨l.toArray⟩:ByteArray).size<=8:=by show l.toArray.size<=8;simpa using u
 have j:=fun w=>show Calls prog 193 _ w _ from Any.strings_Trim_laid lays160 Z ⟨l.toArray⟩ ⟨#[48,49,50,51,52,53,54,55,56,57]⟩ w I ν (ascii_of_all ν)
 rw[show(⟨l.toArray⟩:ByteArray).data.toList=l from rfl,show(⟨#[48,49,50,51,52,53,54,55,56,57]⟩:ByteArray).data.toList=ten from rfl,E]at j;generalize(⟨l.toArray⟩:ByteArray)=s at *
 go_enter func191,ntmps191
 go_wp2_with fail
 refine(j _).mono ?_;rintro e F ⟨rfl,hb⟩
 go_wp2_with fail
 go_ret;exact⟨rfl,hb⟩
theorem sI(x:Rat)(ap:Nat)(w:World)(cd:8<=ap)(hV:gZ w)(hx:kM x):
 Calls prog 151 #[.string ⟨(j5 x).toArray⟩,.int .i64 (ap:Nat)] w fun e w'=>jt w' e x/\Bl w w':=by
 obtain⟨S,hS⟩:∃S:ByteArray,⟨(j5 x).toArray⟩=S:=⟨_,rfl⟩;have cg:S.size<=8:=by
  rw[<-hS];have h:=pM x.num;show(j5 x).toArray.size<=8;have h2:(dY x.num).length<=4:=h;unfold j5;have h3:(cZ x.den).length<=3:=by
   unfold cZ
   repeat' split
   all_goals simp
  split<;>simp<;>omega
 obtain⟨m,hm⟩:=hV;have hcut:=cut_txt hx;obtain⟨z,hz⟩:=χ x.num;obtain⟨u,hu⟩:=χ z.natAbs;have bl:z.natAbs<256:=by rw[<-hz];exact hx.2
 obtain⟨a6,-⟩:=cut_sign z bl;obtain⟨-,bi⟩:=rg u I;rw[hz]at hcut;rw[hu]at a6;obtain⟨-,-,a5,b4,-⟩:=rf u I;obtain⟨W,hW,b1,hB,b3⟩:=aB w #[.bool false,.slice none 0 0,.bool false,.slice none 0 0] 55;have j:=fun w hm=>strings_Cut S ⟨#[47]⟩ m w I hm
 rw[show S.data.toList=j5 x from by rw[<-hS],show(⟨#[47]⟩:ByteArray).data.toList=[47] from rfl,hcut]at j;have bg:W.cell? ⟨2,0,none⟩=some (.int .i64 m):=by
  have h2:2<w.heap.size:=by
   unfold World.cell? at hm
   cases hq:w.heap[2]? with
   | none=>simp[hq]at hm
   | some o=>exact(Array.getElem?_eq_some_iff.1 hq).1
  exact(hB.cell (p:=⟨2,0,none⟩) h2).trans hm
 obtain⟨T,hT⟩:∃T:ByteArray,⟨(dY z).toArray⟩=T:=⟨_,rfl⟩;obtain⟨D,hD⟩:∃D:ByteArray,⟨(cZ u).toArray⟩=D:=⟨_,rfl⟩;have af:=fun w=>strings_TrimPrefix T ⟨#[45]⟩ w
 rw[show T.data.toList=dY z from by rw[<-hT],show(⟨#[45]⟩:ByteArray).data.toList=[45] from rfl,a6,hD]at af;have ab:=fun w=>oy (cZ u) w (fun e=>by rw[e]at a5;exact absurd a5 ν) I bi
 rw[hD]at ab;have ad:=fun w=>sO z w bl
 simp only[hT]at j ad;have ce:¬ (ap:Int)<(S.size:Int):=I;obtain⟨B1,HB⟩:=η2 b1 hB;obtain⟨x0,x1,x2,x3,-⟩:=b1.four;rw[hS];clear hB b1 b3 a6 bi a5 b4 hm;by_cases J:x.den=1
 ·rw[if_pos J,decide_eq_false I]at j
  go_enter func151,ntmps151
  go_wp2_with fail
  refine(j _ bg).mono ?_;rintro e w1 ⟨rfl,Q,an⟩;have F:Bl W w1:=by rw[an];exact aE β Q
  obtain⟨ay,B2⟩:=η2 (ae HB.o F ρ) (B1.o.to F);clear an F x0 x1 x2 x3
  go_wp2_with fail
  refine(af _).mono ?_;rintro e w2 ⟨rfl,rfl⟩
  go_wp2_with fail
  refine(ab _).mono ?_;rintro e w3 ⟨rfl,G⟩;obtain⟨az,B3⟩:=η2 (ae ay.o G ρ) (B2.o.to G);clear G
  go_wp2_with fail
  refine(ad _).mono ?_;rintro e w4 ⟨⟨v,rfl,C⟩,H⟩;obtain⟨a0,B4,HV⟩:=η3 (ae az.o H ρ) (B3.o.to H) C;obtain⟨s1,a1,Q,c1,d1,rfl,-⟩:=C;clear H
  go_upto_region 13 with(refine aD rfl _ _ _ rfl _ (#[.bool s1,.slice a1 Q c1]) rfl rfl dh rfl rfl ?_)
  obtain⟨w5,ao,b5,A,-⟩:=aB w4 #[.bool s1,.slice a1 Q c1] 53;rw[ao];obtain⟨a3,B5,a4,N5⟩:=η4 (ae a0.o A ρ) (B4.o.to A) (HV.o.below A) b5;clear ao b5 A;obtain⟨y0,y1,y2,y3⟩:=B5.o.four;obtain⟨q0,q1,-⟩:=N5.o.two
  go_wp2_with fail
  exact bQ results151 w.heap.size (B5.o.set4 (.bool s1) (.slice a1 Q c1) (.bool false) (.slice none 0 0)) _ rfl underlying55 rfl aY rfl
   ⟨⟨_,rfl,aj.store4 (rat_whole J (by rw[hz];exact a4.o)) B5.o _ _ _ _⟩,aR a3.o ρ _ _ _ _⟩
 ·obtain⟨d,au⟩:=χ x.den
  have Y:d<10:=by have:=hx.1;omega
  have b6:=x.den_pos;have aa:2<=d:=I;have a7:=fun w=>sO (d:Nat) w I
  rw[txtZ_nat]at a7;obtain⟨f1,f2,f3,f4⟩:=digit_facts d Y aa;have bf:Int.gcd z (d:Nat)=1:=by
   have h:=x.reduced;rw[au,hz]at h;exact h
  have be:=O (show 2<=d/\d<10 from⟨aa,Y⟩);rw[au]at j;obtain⟨DD,ar⟩:∃T:ByteArray,⟨(cZ d).toArray⟩=T:=⟨_,rfl⟩;obtain⟨bz,bv,ca⟩:=η3 bf au J;have ac:=fun w=>oy (cZ d) w f1 I (rg d I).2
  have cc:DD.size=1:=by rw[<-ar];show(cZ d).toArray.size=1;simpa using f2
  have b9:DD.toList.isEmpty=false:=by
   rw[<-ar,ByteArray.toList_mk]
   cases hq:cZ d with
   | nil=>exact absurd hq f1
   | cons x y=>rfl
  have ag:=fun w=>strings_Trim_one DD 48 ν w I
  rw[show DD.data.toList=cZ d from by rw[<-ar],f3]at ag;rw[if_neg I,decide_eq_true I]at j;simp only[ar]at j ac a7 ag;clear bf au J f1 f2 f3 f4 Y b6 aa
  go_enter func151,ntmps151
  go_wp2_with fail
  refine(j _ bg).mono ?_;rintro e w1 ⟨rfl,Q,an⟩;have F:Bl W w1:=by rw[an];exact aE β Q
  obtain⟨ay,B2⟩:=η2 (ae HB.o F ρ) (B1.o.to F);clear an F x0 x1 x2 x3
  go_wp2_with fail
  refine(af _).mono ?_;rintro e w2 ⟨rfl,rfl⟩
  go_wp2_with fail
  refine(ab _).mono ?_;rintro e w3 ⟨rfl,G⟩;obtain⟨az,B3⟩:=η2 (ae ay.o G ρ) (B2.o.to G);clear G
  go_wp2_with fail
  refine(ac _).mono ?_;rintro e bm ⟨rfl,R⟩;obtain⟨ba,a8⟩:=η2 (ae az.o R ρ) (B3.o.to R);clear R
  go_wp2_with fail
  refine(ag _).mono ?_;rintro e b8 ⟨rfl,av⟩;have U:Bl bm b8:=by
   rcases av with rfl|rfl
   ·exact Below.refl _ _
   ·exact β.drew
  obtain⟨bc,a9⟩:=η2 (ae ba.o U ρ) (a8.o.to U);clear av U
  go_wp2_with fail
  refine(ad _).mono ?_;rintro e w4 ⟨⟨v,rfl,C⟩,H⟩;obtain⟨a0,B4,HV⟩:=η3 (ae bc.o H ρ) (a9.o.to H) C;obtain⟨s1,a1,Q,c1,d1,rfl,-⟩:=C;clear H
  go_upto_region 14 with(refine aD rfl _ _ _ rfl _ (#[.bool s1,.slice a1 Q c1]) rfl rfl dh rfl rfl ?_)
  obtain⟨w5,ao,b5,A,-⟩:=aB w4 #[.bool s1,.slice a1 Q c1] 53;rw[ao];obtain⟨a3,B5,a4,N5⟩:=η4 (ae a0.o A ρ) (B4.o.to A) (HV.o.below A) b5;clear ao b5 A
  go_wp2_with fail
  refine(a7 _).mono ?_;rintro e w6 ⟨⟨v,rfl,C⟩,X⟩;obtain⟨br,B6,N6,bF,DV⟩:=η5 (ae a3.o X ρ) (B5.o.to X) (N5.o.to X) (a4.o.below X) C;obtain⟨s2,a2,n2,c2,d2,rfl,-⟩:=C;clear X
  go_upto_region 15 with(refine aD rfl _ _ _ rfl _ (#[.bool s2,.slice a2 n2 c2]) rfl rfl dh rfl rfl ?_)
  obtain⟨w7,bk,b7,L,-⟩:=aB w6 #[.bool s2,.slice a2 n2 c2] 53;rw[bk];obtain⟨bs,B7,N7,V7,aw,D7⟩:=η6 (ae br.o L ρ) (B6.o.to L) (N6.o.to L) (bF.o.below L) (DV.o.below L) b7;have SZ:=O (show Small z from⟨1,by omega,by unfold B;omega⟩);have S1:=O (show Small 1 from⟨1,by omega,by show 1<B ^ 1;unfold B;omega⟩);have S2:=O (show Small (d:Nat)from⟨1,by omega,by have:=be.o;unfold B;omega⟩);have bu:=O (show dj (d:Nat) 1=1 by have:=be.o;unfold dj;repeat' split<;>omega);clear bk b7 L;refine aZ (rest:=0) [isV 0 (.int .i64 0),isV 1 (.bool false),isV 2 (.bool false),isV 3 (.agg #[.bool s2,.slice a2 n2 c2]),isP 4 (fun u w=>aU w u (1)),isV 5 (.int .i64 1),isV 6 (.bool false),isV 7 (.bool false),isV 8 (.bool false),isV 9 (.agg #[.bool s1,.slice a1 Q c1]),isV 10 (.agg #[.bool s2,.slice a2 n2 c2]),isP 11 (fun u w=>aU w u (1)),isP 12 (fun u w=>aU w u (1)),isV 13 (.int .i64 0),isV 14 (.bool false),isV 15 (.bool false)] [] ?A1 (τ 16 0) Z [0,1,2,3,4,5,6,7,8,9,10,11,12,13,14,15] Z Z Z Z Z Z ?st ?hA ?hop ?hend
  case hA=>exact cG
  case st=>(iterate 4 refine ak.cons isV.stab ?_);refine ak.cons (isP.stab (fun _ _ _ h C=>C.below h)) ?_;(iterate 6 refine ak.cons isV.stab ?_);(iterate 2 refine ak.cons (isP.stab (fun _ _ _ h C=>C.below h)) ?_);(iterate 3 refine ak.cons isV.stab ?_);exact ak.nil
  case hop =>
   iterate 3
    refine ai.cons rfl (fun y w' hS hD K hK=>?_) ?_
    ·try simp only[isV.get (hD 0 (by decide +kernel))]at hK⊢
     try simp only[isV.get (hD 1 (by decide +kernel))]at hK⊢
     as_aux_lemma =>
     go_simp;exact hK.out _ w' hS β isV.put δ
   refine ai.cons rfl (fun y w' hS hD K hK=>?_) ?_
   ·simp only[isV.get (hD 2 Z)]at hK⊢
    as_aux_lemma =>
    have bx:=D7.o.to hS;obtain⟨c0,c1,-⟩:=bx.two;go_simp;exact hK.out _ w' hS β isV.put δ
   refine ai.cons rfl (fun y w' hS hD K hK=>?_) ?_
   ·simp only[isV.get (hD 2 Z)]at hK⊢
    as_aux_lemma =>
    go_simp;refine(mD w').mono ?_
    rintro e E ⟨⟨v,rfl,C⟩,hb⟩;exact hK.out v E (ae hS hb ρ) hb (isP.put C) δ
   refine ai.cons rfl (fun y w' hS hD K hK=>?_) ?_
   ·simp only[isV.get (hD 2 Z),isV.get (hD 3 Z)]at hK⊢
    as_aux_lemma =>
    have e4:=isP.get (hD 4 Z);go_simp;refine(fk _ _ (d:Nat) 1 w' (aw.o.below hS) e4 S2.o S1.o).mono ?_;rintro e E ⟨rfl,hb⟩;rw[bu.o];exact hK.out _ E (ae hS hb ρ) hb isV.put δ
   iterate 3
    refine ai.cons rfl (fun y w' hS hD K hK=>?_) ?_
    ·try simp only[isV.get (hD 2 (by decide +kernel))]at hK⊢
     try simp only[isV.get (hD 5 (by decide +kernel))]at hK⊢
     try simp only[isV.get (hD 6 (by decide +kernel))]at hK⊢
     try simp only[isV.get (hD 7 (by decide +kernel))]at hK⊢
     as_aux_lemma =>
     go_simp;exact hK.out _ w' hS β isV.put δ
   refine ai.cons rfl (fun y w' hS hD K hK=>?_) ?_
   ·simp only[isV.get (hD 8 Z)]at hK⊢
    as_aux_lemma =>
    have bx:=N7.o.to hS;obtain⟨c0,c1,-⟩:=bx.two;go_simp;exact hK.out _ w' hS β isV.put δ
   refine ai.cons rfl (fun y w' hS hD K hK=>?_) ?_
   ·simp only[isV.get (hD 8 Z)]at hK⊢
    as_aux_lemma =>
    have bx:=D7.o.to hS;obtain⟨c0,c1,-⟩:=bx.two;go_simp;exact hK.out _ w' hS β isV.put δ
   refine ai.cons rfl (fun y w' hS hD K hK=>?_) ?_
   ·simp only[isV.get (hD 8 Z),isV.get (hD 9 Z),isV.get (hD 10 Z)]at hK⊢
    as_aux_lemma =>
    go_simp;refine(pD _ _ z (d:Nat) w' (V7.o.below hS) (aw.o.below hS) SZ.o S2.o).mono ?_
    rintro e E ⟨⟨v,rfl,C⟩,hb⟩;exact hK.out v E (ae hS hb ρ) hb (isP.put (by rw[bz.o]at C;exact C)) δ
   refine ai.cons rfl (fun y w' hS hD K hK=>?_) ?_
   ·simp only[isV.get (hD 8 Z)]at hK⊢
    as_aux_lemma =>
    go_simp;refine(mD w').mono ?_
    rintro e E ⟨⟨v,rfl,C⟩,hb⟩;exact hK.out v E (ae hS hb ρ) hb (isP.put C) δ
   refine ai.cons rfl (fun y w' hS hD K hK=>?_) ?_
   ·simp only[isV.get (hD 8 Z)]at hK⊢
    as_aux_lemma =>
    have bI:=isP.get (hD 11 Z);have bV:=isP.get (hD 12 Z);go_simp;refine(fk _ _ 1 1 w' bI bV S1.o S1.o).mono ?_;rintro e E ⟨rfl,hb⟩;rw[show dj 1 1=0 from by decide];exact hK.out _ E (ae hS hb ρ) hb isV.put δ
   iterate 2
    refine ai.cons rfl (fun y w' hS hD K hK=>?_) ?_
    ·try simp only[isV.get (hD 8 (by decide +kernel))]at hK⊢
     try simp only[isV.get (hD 13 (by decide +kernel))]at hK⊢
     try simp only[isV.get (hD 14 (by decide +kernel))]at hK⊢
     as_aux_lemma =>
     go_simp;exact hK.out _ w' hS β isV.put δ
   exact ai.nil
  case hend =>
   intro y w' hS hR hF;have b0:=isV.get (hR 15 Z);simp only[b0];refine aM Z ?_;obtain⟨bt,BF,NF,DF,VF,bp⟩:=η6 (ae bs.o hS ρ) (B7.o.to hS) (N7.o.to hS) (D7.o.to hS) (V7.o.below hS) (aw.o.below hS);clear hS hR hF;obtain⟨y0,y1,y2,y3⟩:=BF.o.four;obtain⟨q0,q1,-⟩:=NF.o.two;obtain⟨r0,r1,-⟩:=DF.o.two
   go_wp2_with fail
   exact bQ results151 w.heap.size (BF.o.set4 (.bool s1) (.slice a1 Q c1) (.bool s2) (.slice a2 n2 c2)) _ rfl underlying55 rfl aY rfl ⟨⟨_,rfl,aj.store4 (show aj _ _ x from⟨s1,a1,Q,c1,s2,a2,n2,c2,(d:Nat),rfl,by rw[hz];exact VF.o,bp.o,.inl (by rw[bv.o])⟩) BF.o _ _ _ _⟩,aR bt.o ρ _ _ _ _⟩
theorem rparse_any(x:Rat)(w:World)(R:gZ w)(U:kM x):
 Calls prog 99 #[.string ⟨(j5 x).toArray⟩] w fun e w'=>jt w' e x/\Bl w w':=by
 obtain⟨W,X,b1,E,F⟩:=aB w #[.bool false,.slice none 0 0,.bool false,.slice none 0 0] 55;have H:=sI x 400 W I (R.below E) U;obtain⟨G,L⟩:=η2 b1 E;clear b1 E F
 go_enter func99,ntmps99
 go_wp2_with fail
 refine H.mono ?_;rintro e Y ⟨⟨v,rfl,J⟩,j⟩;obtain⟨C,A⟩:=η2 (ae L.o j ρ) (G.o.to j);obtain⟨r,rfl,u⟩:=J.rcv;have Q:=O u;obtain⟨y0,y1,y2,y3⟩:=A.o.four;clear j J u H
 go_wp2_with fail
 exact bQ results99 w.heap.size (A.o.set4 (.bool r.s) (.slice r.a r.n r.c) (.bool r.t) (.slice r.b r.m r.d)) _ rfl underlying55 rfl aY rfl
  ⟨⟨_,rfl,aj.store4 Q.o A.o _ _ _ _⟩,aR C.o ρ _ _ _ _⟩
theorem rread1_any(x:Rat)(w:World)(R:gZ w)(U:kM x):
 Calls prog 101 #[.string ⟨(j5 x).toArray⟩] w fun e w'=>jt w' e x/\Bl w w':=by
 obtain⟨W,X,b1,E,F⟩:=aB w #[.bool false,.slice none 0 0,.bool false,.slice none 0 0] 55;have H:=sI x 65536 W I (R.below E) U;obtain⟨G,L⟩:=η2 b1 E;clear b1 E F
 go_enter func101,ntmps101
 go_wp2_with fail
 refine H.mono ?_;rintro e Y ⟨⟨v,rfl,J⟩,j⟩;obtain⟨C,A⟩:=η2 (ae L.o j ρ) (G.o.to j);obtain⟨r,rfl,u⟩:=J.rcv;have Q:=O u;obtain⟨y0,y1,y2,y3⟩:=A.o.four;clear j J u H
 go_wp2_with fail
 exact bQ results101 w.heap.size (A.o.set4 (.bool r.s) (.slice r.a r.n r.c) (.bool r.t) (.slice r.b r.m r.d)) _ rfl underlying55 rfl aY rfl
  ⟨⟨_,rfl,aj.store4 Q.o A.o _ _ _ _⟩,aR C.o ρ _ _ _ _⟩
end Go.Proofs.Υ
