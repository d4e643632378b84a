/- Lemmas. -/
import Derived.Test.YtodehkjinmgflaaGreatDoorV50
set_option linter.all false
set_option maxHeartbeats 0
set_option maxRecDepth 99999
namespace Go.Proofs.Υ
open Go Go.RowKit Tryz
theorem tC{l:List UInt8}(h:gQ l)(k:Nat)(e:k<l.length):(l.getD k 0).toNat≠47:=by
 have i:l.getD k 0∈l:=by
  rw[List.getD_eq_getElem?_getD,List.getElem?_eq_getElem e];exact List.getElem_mem _
 have:=h _ i;omega
theorem txtZ_num:∀u∈List.range 256,(∀c∈cY u,c.toNat=45\/(48<=c.toNat/\c.toNat<=57))/\0<(cY u).length/\(cY u).length<=3:=by decide +kernel
theorem txtZ_ok{n:Int}(h:n.natAbs<256):gQ (dT n)/\0<(dT n).length/\(dT n).length<=4:=by
 obtain⟨e,i,j⟩:=txtZ_num n.natAbs (List.mem_range.mpr h);unfold dT
 split
 ·refine⟨fun c hc=>?_,by simp,by simp;omega⟩
  rcases List.mem_cons.mp hc with rfl|hc
  ·exact .inl ν
  ·exact e c hc
 ·exact⟨e,i,by omega⟩
def okB(l:List UInt8):Prop:=gQ l/\0<l.length/\l.length<=50
theorem gcdD_ok:∀(f:Nat) {a b g:List UInt8},okB a->okB b->rE f a b=some g->okB g
 | 0,_,_,_,_,_,h=>by cases h
 | f+1,a,b,g,ha,hb,h=>by
  unfold rE at h
  split at h
  ·cases h;exact ha
  ·rw[Option.bind_eq_some_iff]at h
   obtain⟨⟨q,r⟩,e,h⟩:=h;have:=(jD e).2;exact gcdD_ok f hb ⟨this.1,this.2.1,by omega⟩ h
theorem mulD_ok{s t r:List UInt8}(F:s.length<=10)(E:gQ s)(h:mulD s t=some r):gQ r/\0<r.length/\r.length<=20:=by
 unfold mulD at h
 split at h
 ·rename_i hc
  have u:=Option.some.inj h;have j:∀x∈(dO s).map (· * (dO t).headD 0)++[0,0],x<=9:=fun x e=>by
   rcases List.mem_append.mp e with e|e
   ·rw[List.mem_map]at e
    obtain⟨z,A,rfl⟩:=e;exact hc.2 z A
   ·simp at e;omega
  rw[<-u];refine⟨fK j,fe _ _,?_⟩;unfold df;have i:=iV ((dO s).map (· * (dO t).headD 0)++[0,0]);have C:=eQ s
  split
  ·simp
  ·rw[List.length_append,List.length_map,List.length_reverse]
   rw[List.length_append,List.length_map]at i;have:(if decide (dD s*dD t<0)=true then([45]:List UInt8)else[]).length<=1:=by split<;>simp
   simp only[List.length_cons,List.length_nil]at i;omega
 ·cases h
theorem dslash_any(l:List UInt8)(w:World)(C:gQ l)(R:l.length<=1000):Calls prog 142 #[.string ⟨l.toArray⟩] w fun e w'=>e=.returned (.int .i64 (l.length:Nat))/\w'=w:=by
 obtain⟨S,hS⟩:∃S:ByteArray,⟨l.toArray⟩=S:=⟨_,rfl⟩;have H:S.size=l.length:=by rw[<-hS];rfl
 have i:∀k (h:k<S.size),S[k]=l.getD k 0:=by
  subst hS;intro k h;have G:k<l.length:=h;simp[G];rfl
 obtain⟨u,F⟩:=η2 i C;rw[hS];clear i C hS
 go_enter func142,ntmps142
 go_wp2_with fail
 go_loopw [2,3] (fun E A wr=>∃k:Nat,E=E/\k<=l.length/\A=.int .i64 (k:Nat)/\wr=w) (fun _ A _=>l.length-(intOf A).toNat)
 case atStart=>exact⟨0,rfl,Nat.zero_le _,rfl,rfl⟩
 case round =>
  obtain⟨k,-,Q,rfl,rfl⟩:=hrel;by_cases h0:k=l.length
  ·have L:¬ (k:Int)<(l.length:Int):=I
   go_wp2_with fail
   go_ret;exact⟨rfl,rfl⟩
  ·have J:(k:Int)<(l.length:Int):=I
   have j:k<S.size:=I;have hc:(((S[k]'j).toNat:Int) == 47)=false:=by
    rw[u.o k j,beq_eq_false_iff_ne];have:=tC F.o k I;omega
   go_wp2_with fail
   go_round
   case rel=>exact⟨k+1,trivial,by omega,rfl,trivial⟩
   case measure=>simp[intOf];omega
theorem qC(l:List UInt8)(w:World)(C:gQ l)(A:l.length<=1000):Calls prog 92 #[.string ⟨l.toArray⟩] w fun e w'=>e=.returned (.tuple #[.string ⟨l.toArray⟩,.string ⟨#[49]⟩])/\w'=w:=by
 have u:=O (dslash_any l w C A);have j:(⟨l.toArray⟩:ByteArray).size=l.length:=rfl;obtain⟨S,hS⟩:∃S:ByteArray,⟨l.toArray⟩=S:=⟨_,rfl⟩;rw[hS]at u j⊢;clear hS
 go_enter func92,ntmps92
 go_wp2_with fail
 refine u.o.mono ?_;rintro e E ⟨rfl,i⟩;rw[i];clear i E;have F:((l.length:Int) == (l.length:Int))=true:=by simp
 go_wp2_with fail
 exact bodyPost_ret (results_tmp2 results92 _ _ _) rfl ⟨rfl,rfl⟩
theorem dtextQ_any(n d r:List UInt8)(w:World)(hn:gQ n/\0<n.length/\n.length<=20)(hd:gQ d/\0<d.length/\d.length<=20)(h:textQD n d=some r):
 Calls prog 93 #[.string ⟨n.toArray⟩,.string ⟨d.toArray⟩] w fun e w'=>e=.returned (.string ⟨r.toArray⟩)/\Bl w w':=by
 unfold textQD at h
 split at h
 ·cases h
 rename_i J;rw[Option.bind_eq_some_iff]at h;obtain⟨g,hg,h⟩:=h;rw[Option.bind_eq_some_iff]at h;obtain⟨⟨Q,r1⟩,hp,h⟩:=h;rw[Option.map_eq_some_iff]at h;obtain⟨⟨C,r2⟩,hq,h⟩:=h;obtain⟨n1,n2,n3⟩:=hn;obtain⟨d1,d2,d3⟩:=hd;have L:okB g:=gcdD_ok 9 ⟨fK (dR n1),fe _ _,by have:=lY (dO n);have:=eQ n;omega⟩ ⟨fK (dR d1),fe _ _,by have:=lY (dO d);have:=eQ d;omega⟩ hg;obtain⟨u,H,E,F,HL⟩:=η5 (fun w=>ik d w d2) (fun w=>dgcd_any n d g 9 w n1 d1 I I hg) (fun w=>kg n g Q r1 w n1 L.1 n2 L.2.1 I (ψ L.2.2) hp) (fun w=>kg d g C r2 w d1 L.1 d2 L.2.1 I (ψ L.2.2) hq) (show Q.length<=20/\C.length<=20 from⟨(jD hp).1.2.2,(jD hq).1.2.2⟩);have hr:(if C=[49] then Q else Q++47::C)=r:=h;have HR:=O hr;obtain⟨sg,hs⟩:=χ (dD d);rw[hs]at u J;have af:¬ sg<0:=J;clear h hp hq hg L n1 n2 n3 d1 d2 d3 hr hs J;obtain⟨N,hN⟩:∃S:ByteArray,⟨n.toArray⟩=S:=⟨_,rfl⟩;obtain⟨D,hD⟩:∃S:ByteArray,⟨d.toArray⟩=S:=⟨_,rfl⟩;obtain⟨G,hG⟩:∃S:ByteArray,⟨g.toArray⟩=S:=⟨_,rfl⟩;obtain⟨Q1,A⟩:∃S:ByteArray,⟨Q.toArray⟩=S:=⟨_,rfl⟩;obtain⟨R,j⟩:∃S:ByteArray,⟨C.toArray⟩=S:=⟨_,rfl⟩;rw[hN,hD,hG]at H;rw[hN,hG,A]at E;rw[hD,hG,j]at F;rw[hD]at u;rw[hN,hD];obtain⟨W,ad⟩:=η2 A j;have hT:R.toList=C:=by rw[<-j,ByteArray.toList_mk]
 have ao:Q1.size<=20:=by rw[<-A];exact HL.o.1
 have ap:R.size<=20:=by rw[<-j];exact HL.o.2
 clear hN hD hG A j
 go_enter func93,ntmps93
 have X:=O hT;clear hT
 go_wp2_with fail
 refine(u.o _).mono ?_;rintro e w1 ⟨rfl,ac⟩;rw[ac];clear ac w1
 go_wp2_with fail
 refine(H.o _).mono ?_;rintro e w1 ⟨rfl,Y⟩;have B1:=O Y;clear Y H u
 go_wp2_with fail
 refine(E.o _).mono ?_;rintro e w2 ⟨rfl,aa⟩;have B2:=O (ae B1.o aa ρ);clear aa E B1
 go_wp2_with fail
 refine(F.o _).mono ?_;rintro e w3 ⟨rfl,ab⟩;have B3:=O (ae B2.o ab ρ);clear ab F B2;by_cases i:C=[49]
 ·have hE:(R.toList == [49])=true:=by rw[X.o,i];rfl
  have HF:=O (show Q=r from by have:=HR.o;rwa [if_pos i]at this);clear i
  go_wp2_with fail
  go_ret;exact⟨by rw[<-HF.o,W.o];rfl,B3.o⟩
 ·have hE:(R.toList == [49])=false:=by rw[X.o,beq_eq_false_iff_ne];exact i
  have HF:=O (show Q++47::C=r from by have:=HR.o;rwa [if_neg i]at this);have ag:¬ 9223372036854775807<Q1.size+1:=I;have an:¬ 9223372036854775807<Q1.size+1+R.size:=I;have U:=O (show(⟨r.toArray⟩:ByteArray)=Q1++⟨#[47]⟩++R from by
   rw[<-HF.o,<-W.o,<-ad.o,show(⟨#[47]⟩:ByteArray)=⟨[47].toArray⟩ from rfl,js,js,List.append_assoc];rfl)
  clear i
  go_wp2_with fail
  go_ret;exact⟨by rw[U.o];rfl,B3.o⟩
theorem ddiv_any(s t r:List UInt8)(w:World)(H:gQ s/\0<s.length/\s.length<=10)(J:gQ t/\0<t.length/\t.length<=10)(h:quotD s t=some r):
 Calls prog 48 #[.string ⟨s.toArray⟩,.string ⟨t.toArray⟩] w fun e w'=>e=.returned (.string ⟨r.toArray⟩)/\Bl w w':=by
 unfold quotD at h;rw[Option.bind_eq_some_iff]at h;obtain⟨a,ha,h⟩:=h;rw[Option.bind_eq_some_iff]at h;obtain⟨b,hb,h⟩:=h;have j:gQ [49]:=fun c hc=>by rw[List.mem_singleton]at hc;subst hc;exact .inr ν
 obtain⟨F,G,u,C,E⟩:=η5 (fun w=>qC s w H.1 I) (fun w=>qC t w J.1 I) (fun w=>dmul_any s [49] a w H.1 j H.2.1 ν I ν ha) (fun w=>dmul_any [49] t b w j J.1 ν J.2.1 ν I hb) (fun w=>dtextQ_any a b r w (mulD_ok I H.1 ha) (mulD_ok ν j hb) h);obtain⟨S,hS⟩:∃S:ByteArray,⟨s.toArray⟩=S:=⟨_,rfl⟩;obtain⟨T,X⟩:∃S:ByteArray,⟨t.toArray⟩=S:=⟨_,rfl⟩;obtain⟨A,hA⟩:∃S:ByteArray,⟨a.toArray⟩=S:=⟨_,rfl⟩;obtain⟨B,W⟩:∃S:ByteArray,⟨b.toArray⟩=S:=⟨_,rfl⟩;rw[hS]at F u⊢;rw[X]at G C⊢;rw[hA]at u E;rw[W]at C E;clear hS X hA W h ha hb H J j
 go_enter func48,ntmps48
 go_wp2_with fail
 refine(F.o _).mono ?_;rintro e L ⟨rfl,i⟩;rw[i];clear i L
 go_wp2_with fail
 refine(G.o _).mono ?_;rintro e L ⟨rfl,i⟩;rw[i];clear i L
 go_wp2_with fail
 refine(u.o _).mono ?_;rintro e L ⟨rfl,Q⟩
 go_wp2_with fail
 refine(C.o _).mono ?_;rintro e Y ⟨rfl,R⟩
 go_wp2_with fail
 refine(E.o _).mono ?_;rintro e w3 ⟨rfl,U⟩
 go_wp2_with fail
 go_ret;exact⟨rfl,ae (ae Q R ρ) U ρ⟩
theorem qH(n:Int)(w:World)(u:n.natAbs<256):Calls prog 49 #[.int .i64 n] w fun e w'=>e=.returned (.string ⟨(dT n).toArray⟩)/\Bl w w':=by
 have j:=O (dfrom_any n w u)
 go_enter func49,ntmps49
 go_wp2_with fail
 refine j.o.mono ?_;rintro e A ⟨rfl,i⟩
 go_wp2_with fail
 go_ret;exact⟨rfl,i⟩
end Go.Proofs.Υ
