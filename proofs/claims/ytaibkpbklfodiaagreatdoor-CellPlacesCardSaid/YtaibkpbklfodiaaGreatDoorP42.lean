/- Package rational: digits, read, Parse of the texts of halves. Package vector: Parse. -/
import Derived.Test.YtaibkpbklfodiaaGreatDoorP41
import Derived.Test.YtaibkpbklfodiaaGreatDoorP10
import Derived.Test.YtaibkpbklfodiaaGreatDoorP17
import Derived.Shelf.Strings.SlTrimAscii
set_option linter.all false
set_option maxHeartbeats 100000000
section
namespace Dowel
open Go Go.RowKit Go.Proofs Go.Proofs.Υ
def ic (w:World):Prop:=∃ m,w.cell? ⟨2,0,none⟩=some (.int .i64 m)
theorem ic.below {w w':World} (h:ic w) (hb:Below w.heap.size w w'):ic w':=by
 obtain ⟨m,h⟩:=h;refine ⟨m,?_⟩;rw [hb.cell (p:=⟨2,0,none⟩) ?_]
 ·exact h
 ·show 2<w.heap.size
  unfold World.cell? at h
  cases hq:w.heap[2]? with
  | none=>simp [hq] at h
  | some o=>exact (Array.getElem?_eq_some_iff.1 hq).1
def ten:List UInt8:=[48,49,50,51,52,53,54,55,56,57]
theorem cuts_all:∀ u,u<256→Lib.cut (dn u) [47]=(dn u,[],false)∧Lib.cut (45 :: dn u) [47]=(45 :: dn u,[],false)∧Lib.cut (dn u ++ [47,50]) [47]=(dn u,[50],true)∧Lib.cut (45 :: (dn u ++ [47,50])) [47]=(45 :: dn u,[50],true)∧Lib.trimS (dn u) ten=[]:=by decide +kernel
theorem cut_txt {x:Rat} (h:jA x):Lib.cut (jX x) [47]=(gW x.num,if x.den=1 then [] else [50],decide (x.den≠1)):=by
 obtain ⟨h1,h2,h3,h4,-⟩:=cuts_all _ h.2;unfold jX gW;by_cases hd:x.den=1
 ·rw [if_pos hd,if_pos hd,decide_eq_false ω]
  split
  ·exact h2
  ·exact h1
 ·rw [if_neg hd,if_neg hd,decide_eq_true hd]
  split
  ·exact h4
  ·exact h3
theorem rat_whole {w:World} {s:Bool} {a:Option Addr} {n c:Nat} {x:Rat} (hd:x.den=1) (h:aN w (.agg #[.bool s,.slice a n c]) x.num):am w (.agg #[.bool s,.slice a n c,.bool false,.slice none 0 0]) x:=
 ⟨s,a,n,c,false,none,0,0,0,rfl,h,iq w,.inr ⟨rfl,hd⟩⟩
end Dowel
namespace Go.Proofs.Υ
open Go.RowKit Dowel
set_option maxRecDepth 20000
theorem lG (l:List UInt8) (w:World) (h0:l≠[]) (hl:l.length≤8) (ht:Lib.trimS l ten=[]) :
  Calls Tryz.prog 214 #[.string ⟨l.toArray⟩] w fun e w'=>e=.returned (.bool true)∧Below w.heap.size w w':=by
 have hne:(⟨l.toArray⟩:ByteArray).toList.isEmpty=false:=by
  rw [ByteArray.toList_mk]
  cases l with
  | nil=>exact absurd rfl h0
  | cons x y=>rfl
 have hsz:(⟨l.toArray⟩:ByteArray).size≤8:=by show l.toArray.size≤8;simpa using hl
 have htr:=fun w=>show Calls Tryz.prog 216 _ w _ from Any.strings_Trim_laid Tryz.lays160 κ ⟨l.toArray⟩ ⟨#[48,49,50,51,52,53,54,55,56,57]⟩ w ω ν (ascii_of_all ν)
 rw [show (⟨l.toArray⟩:ByteArray).data.toList=l from rfl,show (⟨#[48,49,50,51,52,53,54,55,56,57]⟩:ByteArray).data.toList=ten from rfl,ht] at htr;generalize (⟨l.toArray⟩:ByteArray)=s at *
 go_enter Tryz.func214,Tryz.ntmps214
 go_wp2_with fail
 refine (htr _).mono ?_;rintro e w1 ⟨rfl,hb⟩
 go_wp2_with fail
 go_ret;exact ⟨rfl,hb⟩
theorem rread_any (x:Rat) (w:World) (hV:ic w) (hx:jA x) :
  Calls Tryz.prog 198 #[.string ⟨(jX x).toArray⟩,.int .i64 400] w fun e w'=>kB w' e x∧Below w.heap.size w w':=by
 obtain ⟨S,hS⟩:∃ S:ByteArray,⟨(jX x).toArray⟩=S:=⟨_,rfl⟩;have hsz:S.size≤8:=by
  rw [← hS];have h:=jD x.num;show (jX x).toArray.size≤8;have h2:(gW x.num).length≤4:=h;unfold jX
  split <;> simp <;> omega
 obtain ⟨m,hm⟩:=hV;have hcut:=cut_txt hx;obtain ⟨z,hz⟩:∃ z,x.num=z:=⟨_,rfl⟩;obtain ⟨u,hu⟩:∃ u,z.natAbs=u:=⟨_,rfl⟩;have hz8:z.natAbs<256:=by rw [← hz];exact hx.2
 obtain ⟨hp1,-⟩:=cut_sign z hz8;obtain ⟨-,-,-,-,htr⟩:=cuts_all u ω;rw [hz] at hcut;rw [hu] at hp1;obtain ⟨-,-,hd0,hd3,-⟩:=ny u ω;obtain ⟨W,hW,b1,hB,hSZ⟩:=aG w #[.bool false,.slice none 0 0,.bool false,.slice none 0 0] 56;have hcut2:=fun w hm=>Tryz.strings_Cut S ⟨#[47]⟩ m w ω hm
 rw [show S.data.toList=jX x from by rw [← hS],show (⟨#[47]⟩:ByteArray).data.toList=[47] from rfl,hcut] at hcut2;have hm2:W.cell? ⟨2,0,none⟩=some (.int .i64 m):=by
  have h2:2<w.heap.size:=by
   unfold World.cell? at hm
   cases hq:w.heap[2]? with
   | none=>simp [hq] at hm
   | some o=>exact (Array.getElem?_eq_some_iff.1 hq).1
  exact (hB.cell (p:=⟨2,0,none⟩) h2).trans hm
 obtain ⟨T,hT⟩:∃ T:ByteArray,⟨(gW z).toArray⟩=T:=⟨_,rfl⟩;obtain ⟨D,hD⟩:∃ D:ByteArray,⟨(dn u).toArray⟩=D:=⟨_,rfl⟩;have hpre:=fun w=>Tryz.strings_TrimPrefix T ⟨#[45]⟩ w
 rw [show T.data.toList=gW z from by rw [← hT],show (⟨#[45]⟩:ByteArray).data.toList=[45] from rfl,hp1,hD] at hpre;have hdig:=fun w=>lG (dn u) w (fun e=>by rw [e] at hd0;exact absurd hd0 ν) ω htr
 rw [hD] at hdig;have hpar:=fun w=>oE z w hz8
 simp only [hT] at hcut2 hpar;have hs4:¬ (400:Int)<(S.size:Int):=ω;have B1:=η b1;have HB:=η hB;obtain ⟨x0,x1,x2,x3,-⟩:=b1.four;rw [hS];clear hB b1 hSZ hp1 htr hd0 hd3 hm;by_cases hden:x.den=1
 ·rw [if_pos hden,decide_eq_false ω] at hcut2
  go_enter Tryz.func198,Tryz.ntmps198
  go_wp2_with fail
  refine (hcut2 _ hm2).mono ?_;rintro e w1 ⟨rfl,n1,hw1⟩;have hb1:Below W.heap.size W w1:=by rw [hw1];exact aJ β n1
  have HB1:=η (ae HB.out hb1 ρ);have B2:=η (B1.out.below hb1 B1.out.lt);clear hw1 hb1 x0 x1 x2 x3
  go_wp2_with fail
  refine (hpre _).mono ?_;rintro e w2 ⟨rfl,rfl⟩
  go_wp2_with fail
  refine (hdig _).mono ?_;rintro e w3 ⟨rfl,hb3⟩;have HB3:=η (ae HB1.out hb3 ρ);have B3:=η (B2.out.below hb3 B2.out.lt);clear hb3
  go_wp2_with fail
  refine (hpar _).mono ?_;rintro e w4 ⟨⟨v,rfl,hv⟩,hb4⟩;have HB4:=η (ae HB3.out hb4 ρ);have B4:=η (B3.out.below hb4 B3.out.lt);have HV:=η hv;obtain ⟨s1,a1,n1,c1,d1,rfl,-⟩:=hv;clear hb4
  go_upto_region 13 with (refine aB rfl _ _ _ rfl _ (#[.bool s1,.slice a1 n1 c1]) rfl rfl dh rfl rfl ?_)
  obtain ⟨w5,hw5,b5,hb5,-⟩:=aG w4 #[.bool s1,.slice a1 n1 c1] 54;rw [hw5];have HB5:=η (ae HB4.out hb5 ρ);have B5:=η (B4.out.below hb5 B4.out.lt);have HV5:=η (HV.out.below hb5);have N5:=η b5;clear hw5 b5 hb5;obtain ⟨y0,y1,y2,y3⟩:=B5.out.four;obtain ⟨q0,q1,-⟩:=N5.out.two
  go_wp2_with fail
  exact bP Tryz.results198 w.heap.size (B5.out.set4 (.bool s1) (.slice a1 n1 c1) (.bool false) (.slice none 0 0)) _ rfl Tryz.underlying56 rfl bL rfl
   ⟨⟨_,rfl,am.store4 (rat_whole hden (by rw [hz];exact HV5.out)) B5.out _ _ _ _⟩,aU HB5.out ρ _ _ _ _⟩
 ·have hd2:x.den=2:=by have:=hx.1;omega
  have hp2:=fun w=>oE 2 w ν
  have hgc:Int.gcd z 2=1:=by
   have h:=x.reduced;rw [hd2,hz] at h;exact h
  have HGC:=η hgc;have HD2:=η hd2;have HDN:=η hden;have hdig2:=fun w=>lG [50] w ν ν ν
  have htr2:=fun w=>Tryz.strings_Trim_one ⟨#[50]⟩ 48 ν w ν
  rw [show Lib.trimB (⟨#[50]⟩:ByteArray).data.toList 48=[50] from by decide] at htr2;rw [if_neg hden,decide_eq_true hden] at hcut2;clear hgc hd2 hden
  go_enter Tryz.func198,Tryz.ntmps198
  go_wp2_with fail
  refine (hcut2 _ hm2).mono ?_;rintro e w1 ⟨rfl,n1,hw1⟩;have hb1:Below W.heap.size W w1:=by rw [hw1];exact aJ β n1
  have HB1:=η (ae HB.out hb1 ρ);have B2:=η (B1.out.below hb1 B1.out.lt);clear hw1 hb1 x0 x1 x2 x3
  go_wp2_with fail
  refine (hpre _).mono ?_;rintro e w2 ⟨rfl,rfl⟩
  go_wp2_with fail
  refine (hdig _).mono ?_;rintro e w3 ⟨rfl,hb3⟩;have HB3:=η (ae HB1.out hb3 ρ);have B3:=η (B2.out.below hb3 B2.out.lt);clear hb3
  go_wp2_with fail
  refine (hdig2 _).mono ?_;rintro e w3b ⟨rfl,hb3b⟩;have HB3b:=η (ae HB3.out hb3b ρ);have B3b:=η (B3.out.below hb3b B3.out.lt);clear hb3b
  go_wp2_with fail
  refine (htr2 _).mono ?_;rintro e w3c ⟨rfl,hw3c⟩;have hb3c:Below w3b.heap.size w3b w3c:=by
   rcases hw3c with rfl | rfl
   ·exact Below.refl _ _
   ·exact β.drew
  have HB3c:=η (ae HB3b.out hb3c ρ);have B3c:=η (B3b.out.below hb3c B3b.out.lt);clear hw3c hb3c
  go_wp2_with fail
  refine (hpar _).mono ?_;rintro e w4 ⟨⟨v,rfl,hv⟩,hb4⟩;have HB4:=η (ae HB3c.out hb4 ρ);have B4:=η (B3c.out.below hb4 B3c.out.lt);have HV:=η hv;obtain ⟨s1,a1,n1,c1,d1,rfl,-⟩:=hv;clear hb4
  go_upto_region 14 with (refine aB rfl _ _ _ rfl _ (#[.bool s1,.slice a1 n1 c1]) rfl rfl dh rfl rfl ?_)
  obtain ⟨w5,hw5,b5,hb5,-⟩:=aG w4 #[.bool s1,.slice a1 n1 c1] 54;rw [hw5];have HB5:=η (ae HB4.out hb5 ρ);have B5:=η (B4.out.below hb5 B4.out.lt);have HV5:=η (HV.out.below hb5);have N5:=η b5;clear hw5 b5 hb5
  go_wp2_with fail
  refine (hp2 _).mono ?_;rintro e w6 ⟨⟨v,rfl,hv⟩,hb6⟩;have HB6:=η (ae HB5.out hb6 ρ);have B6:=η (B5.out.below hb6 B5.out.lt);have N6:=η (N5.out.below hb6 N5.out.lt);have HV6:=η (HV5.out.below hb6);have DV:=η hv;obtain ⟨s2,a2,n2,c2,d2,rfl,-⟩:=hv;clear hb6
  go_upto_region 15 with (refine aB rfl _ _ _ rfl _ (#[.bool s2,.slice a2 n2 c2]) rfl rfl dh rfl rfl ?_)
  obtain ⟨w7,hw7,b7,hb7,-⟩:=aG w6 #[.bool s2,.slice a2 n2 c2] 54;rw [hw7];have HB7:=η (ae HB6.out hb7 ρ);have B7:=η (B6.out.below hb7 B6.out.lt);have N7:=η (N6.out.below hb7 N6.out.lt);have V7:=η (HV6.out.below hb7);have DV7:=η (DV.out.below hb7);have D7:=η b7;have SZ:=η (show Small z from ⟨1,by omega,by unfold B;omega⟩);have S1:=η (show Small 1 from ⟨1,by omega,by show 1<B ^ 1;unfold B;omega⟩);have S2:=η (show Small 2 from ⟨1,by omega,by show 2<B ^ 1;unfold B;omega⟩);clear hw7 b7 hb7;refine bK (rest:=0) [isV 0 (.int .i64 0),isV 1 (.bool false),isV 2 (.bool false),isV 3 (.agg #[.bool s2,.slice a2 n2 c2]),isP 4 (fun u w=>aN w u (1)),isV 5 (.int .i64 1),isV 6 (.bool false),isV 7 (.bool false),isV 8 (.bool false),isV 9 (.agg #[.bool s1,.slice a1 n1 c1]),isV 10 (.agg #[.bool s2,.slice a2 n2 c2]),isP 11 (fun u w=>aN w u (1)),isP 12 (fun u w=>aN w u (1)),isV 13 (.int .i64 0),isV 14 (.bool false),isV 15 (.bool false)] [] ?A1 #[true,true,true,true,true,true,true,true,true,true,true,true,true,true,true,true] κ [0,1,2,3,4,5,6,7,8,9,10,11,12,13,14,15] κ κ κ κ κ κ ?st ?hA ?hop ?hend
  case hA =>
   intro y;simp only [bj,cU,List.getElem?_toArray,List.getElem?_cons_zero,List.getElem?_cons_succ,Option.bind_some,Act.put,List.setIfInBounds_toArray,List.set_cons_zero,List.set_cons_succ];exact rfl
  case st=>exact aj.cons isV.stab (aj.cons isV.stab (aj.cons isV.stab (aj.cons isV.stab (aj.cons (isP.stab (fun _ _ _ h hv=>hv.below h)) (aj.cons isV.stab (aj.cons isV.stab (aj.cons isV.stab (aj.cons isV.stab (aj.cons isV.stab (aj.cons isV.stab (aj.cons (isP.stab (fun _ _ _ h hv=>hv.below h)) (aj.cons (isP.stab (fun _ _ _ h hv=>hv.below h)) (aj.cons isV.stab (aj.cons isV.stab (aj.cons isV.stab (aj.nil))))))))))))))))
  case hop =>
   refine ai.cons (i:=0) rfl (fun y w' hS hD K hK=>?_) ?_
   ·as_aux_lemma =>
    go_simp;exact hK.out _ w' hS β isV.put δ
   refine ai.cons (i:=1) rfl (fun y w' hS hD K hK=>?_) ?_
   ·as_aux_lemma =>
    have e0:=isV.get (i:=0) (c:=.int .i64 0) (hD 0 κ);simp only [e0] at hK ⊢;go_simp;exact hK.out _ w' hS β isV.put δ
   refine ai.cons (i:=2) rfl (fun y w' hS hD K hK=>?_) ?_
   ·as_aux_lemma =>
    have e1:=isV.get (i:=1) (c:=.bool false) (hD 1 κ);simp only [e1] at hK ⊢;go_simp;exact hK.out _ w' hS β isV.put δ
   refine ai.cons (i:=3) rfl (fun y w' hS hD K hK=>?_) ?_
   ·as_aux_lemma =>
    have e2:=isV.get (i:=2) (c:=.bool false) (hD 2 κ);have bx:=D7.out.below hS D7.out.lt;obtain ⟨c0,c1,-⟩:=bx.two;simp only [e2] at hK ⊢;go_simp;exact hK.out _ w' hS β isV.put δ
   refine ai.cons (i:=4) rfl (fun y w' hS hD K hK=>?_) ?_
   ·as_aux_lemma =>
    have e2:=isV.get (i:=2) (c:=.bool false) (hD 2 κ);simp only [e2] at hK ⊢;go_simp;refine (j8 w').mono ?_;rintro e w'' ⟨⟨v,rfl,hv⟩,hb⟩;exact hK.out v w'' (ae hS hb ρ) hb (isP.put hv) δ
   refine ai.cons (i:=5) rfl (fun y w' hS hD K hK=>?_) ?_
   ·as_aux_lemma =>
    have e2:=isV.get (i:=2) (c:=.bool false) (hD 2 κ);have e3:=isV.get (i:=3) (c:=.agg #[.bool s2,.slice a2 n2 c2]) (hD 3 κ);have e4:=isP.get (i:=4) (p:=fun u w=>aN w u (1)) (hD 4 κ);simp only [e2,e3] at hK ⊢;go_simp;refine (dM _ _ 2 1 w' (DV7.out.below hS) e4 S2.out S1.out).mono ?_;rintro e w'' ⟨rfl,hb⟩;rw [show dl 2 1=1 from by decide];exact hK.out _ w'' (ae hS hb ρ) hb isV.put δ
   refine ai.cons (i:=6) rfl (fun y w' hS hD K hK=>?_) ?_
   ·as_aux_lemma =>
    have e2:=isV.get (i:=2) (c:=.bool false) (hD 2 κ);have e5:=isV.get (i:=5) (c:=.int .i64 1) (hD 5 κ);simp only [e2,e5] at hK ⊢;go_simp;exact hK.out _ w' hS β isV.put δ
   refine ai.cons (i:=7) rfl (fun y w' hS hD K hK=>?_) ?_
   ·as_aux_lemma =>
    have e2:=isV.get (i:=2) (c:=.bool false) (hD 2 κ);have e6:=isV.get (i:=6) (c:=.bool false) (hD 6 κ);simp only [e2,e6] at hK ⊢;go_simp;exact hK.out _ w' hS β isV.put δ
   refine ai.cons (i:=8) rfl (fun y w' hS hD K hK=>?_) ?_
   ·as_aux_lemma =>
    have e7:=isV.get (i:=7) (c:=.bool false) (hD 7 κ);simp only [e7] at hK ⊢;go_simp;exact hK.out _ w' hS β isV.put δ
   refine ai.cons (i:=9) rfl (fun y w' hS hD K hK=>?_) ?_
   ·as_aux_lemma =>
    have e8:=isV.get (i:=8) (c:=.bool false) (hD 8 κ);have bx:=N7.out.below hS N7.out.lt;obtain ⟨c0,c1,-⟩:=bx.two;simp only [e8] at hK ⊢;go_simp;exact hK.out _ w' hS β isV.put δ
   refine ai.cons (i:=10) rfl (fun y w' hS hD K hK=>?_) ?_
   ·as_aux_lemma =>
    have e8:=isV.get (i:=8) (c:=.bool false) (hD 8 κ);have bx:=D7.out.below hS D7.out.lt;obtain ⟨c0,c1,-⟩:=bx.two;simp only [e8] at hK ⊢;go_simp;exact hK.out _ w' hS β isV.put δ
   refine ai.cons (i:=11) rfl (fun y w' hS hD K hK=>?_) ?_
   ·as_aux_lemma =>
    have e8:=isV.get (i:=8) (c:=.bool false) (hD 8 κ);have e9:=isV.get (i:=9) (c:=.agg #[.bool s1,.slice a1 n1 c1]) (hD 9 κ);have e10:=isV.get (i:=10) (c:=.agg #[.bool s2,.slice a2 n2 c2]) (hD 10 κ);simp only [e8,e9,e10] at hK ⊢;go_simp;refine (mj _ _ z 2 w' (V7.out.below hS) (DV7.out.below hS) SZ.out S2.out).mono ?_;rintro e w'' ⟨⟨v,rfl,hv⟩,hb⟩;exact hK.out v w'' (ae hS hb ρ) hb (isP.put (by rw [HGC.out] at hv;exact hv)) δ
   refine ai.cons (i:=12) rfl (fun y w' hS hD K hK=>?_) ?_
   ·as_aux_lemma =>
    have e8:=isV.get (i:=8) (c:=.bool false) (hD 8 κ);simp only [e8] at hK ⊢;go_simp;refine (j8 w').mono ?_;rintro e w'' ⟨⟨v,rfl,hv⟩,hb⟩;exact hK.out v w'' (ae hS hb ρ) hb (isP.put hv) δ
   refine ai.cons (i:=13) rfl (fun y w' hS hD K hK=>?_) ?_
   ·as_aux_lemma =>
    have e8:=isV.get (i:=8) (c:=.bool false) (hD 8 κ);have e11:=isP.get (i:=11) (p:=fun u w=>aN w u (1)) (hD 11 κ);have e12:=isP.get (i:=12) (p:=fun u w=>aN w u (1)) (hD 12 κ);simp only [e8] at hK ⊢;go_simp;refine (dM _ _ 1 1 w' e11 e12 S1.out S1.out).mono ?_;rintro e w'' ⟨rfl,hb⟩;rw [show dl 1 1=0 from by decide];exact hK.out _ w'' (ae hS hb ρ) hb isV.put δ
   refine ai.cons (i:=14) rfl (fun y w' hS hD K hK=>?_) ?_
   ·as_aux_lemma =>
    have e8:=isV.get (i:=8) (c:=.bool false) (hD 8 κ);have e13:=isV.get (i:=13) (c:=.int .i64 0) (hD 13 κ);simp only [e8,e13] at hK ⊢;go_simp;exact hK.out _ w' hS β isV.put δ
   refine ai.cons (i:=15) rfl (fun y w' hS hD K hK=>?_) ?_
   ·as_aux_lemma =>
    have e8:=isV.get (i:=8) (c:=.bool false) (hD 8 κ);have e14:=isV.get (i:=14) (c:=.bool false) (hD 14 κ);simp only [e8,e14] at hK ⊢;go_simp;exact hK.out _ w' hS β isV.put δ
   exact ai.nil
  case hend =>
   intro y w' hS hR hF;have e15:=isV.get (i:=15) (c:=.bool false) (hR 15 κ);simp only [e15];refine bq κ ?_;have HBF:=η (ae HB7.out hS ρ);have BF:=η (B7.out.below hS B7.out.lt);have NF:=η (N7.out.below hS N7.out.lt);have DF:=η (D7.out.below hS D7.out.lt);have VF:=η (V7.out.below hS);have DVF:=η (DV7.out.below hS);clear hS hR hF;obtain ⟨y0,y1,y2,y3⟩:=BF.out.four;obtain ⟨q0,q1,-⟩:=NF.out.two;obtain ⟨r0,r1,-⟩:=DF.out.two
   go_wp2_with fail
   exact bP Tryz.results198 w.heap.size (BF.out.set4 (.bool s1) (.slice a1 n1 c1) (.bool s2) (.slice a2 n2 c2)) _ rfl Tryz.underlying56 rfl bL rfl ⟨⟨_,rfl,am.store4 (show am _ _ x from ⟨s1,a1,n1,c1,s2,a2,n2,c2,2,rfl,by rw [hz];exact VF.out,DVF.out,.inl (by rw [HD2.out];rfl)⟩) BF.out _ _ _ _⟩,aU HBF.out ρ _ _ _ _⟩
theorem rparse_any (x:Rat) (w:World) (hV:ic w) (hx:jA x) :
  Calls Tryz.prog 164 #[.string ⟨(jX x).toArray⟩] w fun e w'=>kB w' e x∧Below w.heap.size w w':=by
 obtain ⟨W,hW,b1,hB,hSZ⟩:=aG w #[.bool false,.slice none 0 0,.bool false,.slice none 0 0] 56;have hr:=rread_any x W (hV.below hB) hx;have B1:=η b1;have HB:=η hB;clear b1 hB hSZ
 go_enter Tryz.func164,Tryz.ntmps164
 go_wp2_with fail
 refine hr.mono ?_;rintro e w1 ⟨⟨v,rfl,hv⟩,hb1⟩;have HB1:=η (ae HB.out hb1 ρ);have B2:=η (B1.out.below hb1 B1.out.lt);obtain ⟨r,rfl,hr1⟩:=hv.rcv;have HR:=η hr1;obtain ⟨y0,y1,y2,y3⟩:=B2.out.four;clear hb1 hv hr1 hr
 go_wp2_with fail
 exact bP Tryz.results164 w.heap.size (B2.out.set4 (.bool r.s) (.slice r.a r.n r.c) (.bool r.t) (.slice r.b r.m r.d)) _ rfl Tryz.underlying56 rfl bL rfl
  ⟨⟨_,rfl,am.store4 HR.out B2.out _ _ _ _⟩,aU HB1.out ρ _ _ _ _⟩
end Go.Proofs.Υ
end
