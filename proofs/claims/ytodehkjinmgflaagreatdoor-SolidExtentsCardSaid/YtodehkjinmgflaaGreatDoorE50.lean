/- Lemmas. -/
import Derived.Test.YtodehkjinmgflaaGreatDoorE48
set_option linter.all false
set_option maxHeartbeats 0
set_option maxRecDepth 99999
namespace Go.Proofs.Υ
open Go Go.RowKit Tryz
theorem tW{l:List UInt8}(h:gR l)(k:Nat)(e:k<l.length):(l.getD k 0).toNat≠47:=by
 have j:l.getD k 0∈l:=by
  rw[List.getD_eq_getElem?_getD,List.getElem?_eq_getElem e];exact List.getElem_mem _
 have:=h _ j;omega
theorem txtZ_num:∀u∈List.range 256,(∀c∈cZ u,c.toNat=45\/(48<=c.toNat/\c.toNat<=57))/\0<(cZ u).length/\(cZ u).length<=3:=by decide +kernel
theorem txtZ_ok{n:Int}(h:n.natAbs<256):gR (dY n)/\0<(dY n).length/\(dY n).length<=4:=by
 obtain⟨e,j,u⟩:=txtZ_num n.natAbs (List.mem_range.mpr h);unfold dY
 split
 ·refine⟨fun c hc=>?_,by simp,by simp;omega⟩
  rcases List.mem_cons.mp hc with rfl|hc
  ·exact .inl ν
  ·exact e c hc
 ·exact⟨e,j,by omega⟩
def okB(l:List UInt8):Prop:=gR l/\0<l.length/\l.length<=50
theorem gcdD_ok:∀(f:Nat) {a b g:List UInt8},okB a->okB b->rX f a b=some g->okB g
 | 0,_,_,_,_,_,h=>by cases h
 | f+1,a,b,g,ha,hb,h=>by
  unfold rX at h
  split at h
  ·cases h;exact ha
  ·rw[Option.bind_eq_some_iff]at h
   obtain⟨⟨q,r⟩,e,h⟩:=h;have:=(jL e).2;exact gcdD_ok f hb ⟨this.1,this.2.1,by omega⟩ h
theorem mulD_ok{s t r:List UInt8}(G:s.length<=10)(F:gR s)(h:mulD s t=some r):gR r/\0<r.length/\r.length<=20:=by
 unfold mulD at h
 split at h
 ·rename_i hc
  have A:=Option.some.inj h;have u:∀x∈(dN s).map (· * (dN t).headD 0)++[0,0],x<=9:=fun x e=>by
   rcases List.mem_append.mp e with e|e
   ·rw[List.mem_map]at e
    obtain⟨z,C,rfl⟩:=e;exact hc.2 z C
   ·simp at e;omega
  rw[<-A];refine⟨fM u,fe _ _,?_⟩;unfold df;have j:=jd ((dN s).map (· * (dN t).headD 0)++[0,0]);have E:=eS s
  split
  ·simp
  ·rw[List.length_append,List.length_map,List.length_reverse]
   rw[List.length_append,List.length_map]at j;have:(if decide (dr s*dr t<0)=true then([45]:List UInt8)else[]).length<=1:=by split<;>simp
   simp only[List.length_cons,List.length_nil]at j;omega
 ·cases h
theorem dslash_any(l:List UInt8)(w:World)(E:gR l)(U:l.length<=1000):Calls prog 142 #[.string ⟨l.toArray⟩] w fun e w'=>e=.returned (.int .i64 (l.length:Nat))/\w'=w:=by
 obtain⟨S,hS⟩:∃S:ByteArray,⟨l.toArray⟩=S:=⟨_,rfl⟩;have J:S.size=l.length:=by rw[<-hS];rfl
 have j:∀k (h:k<S.size),S[k]=l.getD k 0:=by
  subst hS;intro k h;have H:k<l.length:=h;simp[H];rfl
 obtain⟨A,G⟩:=η2 j E;rw[hS];clear j E hS
 go_enter func142,ntmps142
 go_wp2_with fail
 go_loopw [2,3] (fun F C wr=>∃k:Nat,F=F/\k<=l.length/\C=.int .i64 (k:Nat)/\wr=w) (fun _ C _=>l.length-(intOf C).toNat)
 case atStart=>exact⟨0,rfl,Nat.zero_le _,rfl,rfl⟩
 case round =>
  obtain⟨k,-,R,rfl,rfl⟩:=hrel;by_cases h0:k=l.length
  ·have Q:¬ (k:Int)<(l.length:Int):=I
   go_wp2_with fail
   go_ret;exact⟨rfl,rfl⟩
  ·have L:(k:Int)<(l.length:Int):=I
   have u:k<S.size:=I;have hc:(((S[k]'u).toNat:Int) == 47)=false:=by
    rw[A.o k u,beq_eq_false_iff_ne];have:=tW G.o k I;omega
   go_wp2_with fail
   go_round
   case rel=>exact⟨k+1,trivial,by omega,rfl,trivial⟩
   case measure=>simp[intOf];omega
theorem qV(l:List UInt8)(w:World)(E:gR l)(C:l.length<=1000):Calls prog 92 #[.string ⟨l.toArray⟩] w fun e w'=>e=.returned (.tuple #[.string ⟨l.toArray⟩,.string ⟨#[49]⟩])/\w'=w:=by
 have A:=O (dslash_any l w E C);have u:(⟨l.toArray⟩:ByteArray).size=l.length:=rfl;obtain⟨S,hS⟩:∃S:ByteArray,⟨l.toArray⟩=S:=⟨_,rfl⟩;rw[hS]at A u⊢;clear hS
 go_enter func92,ntmps92
 go_wp2_with fail
 refine A.o.mono ?_;rintro e F ⟨rfl,j⟩;rw[j];clear j F;have G:((l.length:Int) == (l.length:Int))=true:=by simp
 go_wp2_with fail
 exact bodyPost_ret (results_tmp2 results92 _ _ _) rfl ⟨rfl,rfl⟩
theorem dtextQ_any(n d r:List UInt8)(w:World)(hn:gR n/\0<n.length/\n.length<=20)(hd:gR d/\0<d.length/\d.length<=20)(h:textQD n d=some r):
 Calls prog 93 #[.string ⟨n.toArray⟩,.string ⟨d.toArray⟩] w fun e w'=>e=.returned (.string ⟨r.toArray⟩)/\Bl w w':=by
 unfold textQD at h
 split at h
 ·cases h
 rename_i L;rw[Option.bind_eq_some_iff]at h;obtain⟨g,hg,h⟩:=h;rw[Option.bind_eq_some_iff]at h;obtain⟨⟨R,r1⟩,hp,h⟩:=h;rw[Option.map_eq_some_iff]at h;obtain⟨⟨E,r2⟩,hq,h⟩:=h;obtain⟨n1,n2,n3⟩:=hn;obtain⟨d1,d2,d3⟩:=hd;have Q:okB g:=gcdD_ok 9 ⟨fM (dU n1),fe _ _,by have:=mq (dN n);have:=eS n;omega⟩ ⟨fM (dU d1),fe _ _,by have:=mq (dN d);have:=eS d;omega⟩ hg;obtain⟨A,J,F,H,HL⟩:=η5 (fun w=>iu d w d2) (fun w=>dgcd_any n d g 9 w n1 d1 I I hg) (fun w=>kE n g R r1 w n1 Q.1 n2 Q.2.1 I (ψ Q.2.2) hp) (fun w=>kE d g E r2 w d1 Q.1 d2 Q.2.1 I (ψ Q.2.2) hq) (show R.length<=20/\E.length<=20 from⟨(jL hp).1.2.2,(jL hq).1.2.2⟩);have hr:(if E=[49] then R else R++47::E)=r:=h;have HR:=O hr;obtain⟨sg,hs⟩:=χ (dr d);rw[hs]at A L;have ag:¬ sg<0:=L;clear h hp hq hg Q n1 n2 n3 d1 d2 d3 hr hs L;obtain⟨N,hN⟩:∃S:ByteArray,⟨n.toArray⟩=S:=⟨_,rfl⟩;obtain⟨D,hD⟩:∃S:ByteArray,⟨d.toArray⟩=S:=⟨_,rfl⟩;obtain⟨G,hG⟩:∃S:ByteArray,⟨g.toArray⟩=S:=⟨_,rfl⟩;obtain⟨Q1,C⟩:∃S:ByteArray,⟨R.toArray⟩=S:=⟨_,rfl⟩;obtain⟨U,u⟩:∃S:ByteArray,⟨E.toArray⟩=S:=⟨_,rfl⟩;rw[hN,hD,hG]at J;rw[hN,hG,C]at F;rw[hD,hG,u]at H;rw[hD]at A;rw[hN,hD];obtain⟨X,af⟩:=η2 C u;have hT:U.toList=E:=by rw[<-u,ByteArray.toList_mk]
 have ap:Q1.size<=20:=by rw[<-C];exact HL.o.1
 have ar:U.size<=20:=by rw[<-u];exact HL.o.2
 clear hN hD hG C u
 go_enter func93,ntmps93
 have Y:=O hT;clear hT
 go_wp2_with fail
 refine(A.o _).mono ?_;rintro e w1 ⟨rfl,ad⟩;rw[ad];clear ad w1
 go_wp2_with fail
 refine(J.o _).mono ?_;rintro e w1 ⟨rfl,aa⟩;have B1:=O aa;clear aa J A
 go_wp2_with fail
 refine(F.o _).mono ?_;rintro e w2 ⟨rfl,ab⟩;have B2:=O (ae B1.o ab ρ);clear ab F B1
 go_wp2_with fail
 refine(H.o _).mono ?_;rintro e w3 ⟨rfl,ac⟩;have B3:=O (ae B2.o ac ρ);clear ac H B2;by_cases j:E=[49]
 ·have hE:(U.toList == [49])=true:=by rw[Y.o,j];rfl
  have HF:=O (show R=r from by have:=HR.o;rwa [if_pos j]at this);clear j
  go_wp2_with fail
  go_ret;exact⟨by rw[<-HF.o,X.o];rfl,B3.o⟩
 ·have hE:(U.toList == [49])=false:=by rw[Y.o,beq_eq_false_iff_ne];exact j
  have HF:=O (show R++47::E=r from by have:=HR.o;rwa [if_neg j]at this);have an:¬ 9223372036854775807<Q1.size+1:=I;have ao:¬ 9223372036854775807<Q1.size+1+U.size:=I;have W:=O (show(⟨r.toArray⟩:ByteArray)=Q1++⟨#[47]⟩++U from by
   rw[<-HF.o,<-X.o,<-af.o,show(⟨#[47]⟩:ByteArray)=⟨[47].toArray⟩ from rfl,jB,jB,List.append_assoc];rfl)
  clear j
  go_wp2_with fail
  go_ret;exact⟨by rw[W.o];rfl,B3.o⟩
theorem ddiv_any(s t r:List UInt8)(w:World)(J:gR s/\0<s.length/\s.length<=10)(L:gR t/\0<t.length/\t.length<=10)(h:quotD s t=some r):
 Calls prog 48 #[.string ⟨s.toArray⟩,.string ⟨t.toArray⟩] w fun e w'=>e=.returned (.string ⟨r.toArray⟩)/\Bl w w':=by
 unfold quotD at h;rw[Option.bind_eq_some_iff]at h;obtain⟨a,ha,h⟩:=h;rw[Option.bind_eq_some_iff]at h;obtain⟨b,hb,h⟩:=h;have u:gR [49]:=fun c hc=>by rw[List.mem_singleton]at hc;subst hc;exact .inr ν
 obtain⟨G,H,C,E,F⟩:=η5 (fun w=>qV s w J.1 I) (fun w=>qV t w L.1 I) (fun w=>dmul_any s [49] a w J.1 u J.2.1 ν I ν ha) (fun w=>dmul_any [49] t b w u L.1 ν L.2.1 ν I hb) (fun w=>dtextQ_any a b r w (mulD_ok I J.1 ha) (mulD_ok ν u hb) h);obtain⟨S,hS⟩:∃S:ByteArray,⟨s.toArray⟩=S:=⟨_,rfl⟩;obtain⟨T,Y⟩:∃S:ByteArray,⟨t.toArray⟩=S:=⟨_,rfl⟩;obtain⟨A,hA⟩:∃S:ByteArray,⟨a.toArray⟩=S:=⟨_,rfl⟩;obtain⟨B,X⟩:∃S:ByteArray,⟨b.toArray⟩=S:=⟨_,rfl⟩;rw[hS]at G C⊢;rw[Y]at H E⊢;rw[hA]at C F;rw[X]at E F;clear hS Y hA X h ha hb J L u
 go_enter func48,ntmps48
 go_wp2_with fail
 refine(G.o _).mono ?_;rintro e Q ⟨rfl,j⟩;rw[j];clear j Q
 go_wp2_with fail
 refine(H.o _).mono ?_;rintro e Q ⟨rfl,j⟩;rw[j];clear j Q
 go_wp2_with fail
 refine(C.o _).mono ?_;rintro e Q ⟨rfl,R⟩
 go_wp2_with fail
 refine(E.o _).mono ?_;rintro e w2 ⟨rfl,U⟩
 go_wp2_with fail
 refine(F.o _).mono ?_;rintro e w3 ⟨rfl,W⟩
 go_wp2_with fail
 go_ret;exact⟨rfl,ae (ae R U ρ) W ρ⟩
theorem re(n:Int)(w:World)(A:n.natAbs<256):Calls prog 49 #[.int .i64 n] w fun e w'=>e=.returned (.string ⟨(dY n).toArray⟩)/\Bl w w':=by
 have u:=O (dfrom_any n w A)
 go_enter func49,ntmps49
 go_wp2_with fail
 refine u.o.mono ?_;rintro e C ⟨rfl,j⟩
 go_wp2_with fail
 go_ret;exact⟨rfl,j⟩
end Go.Proofs.Υ
