/- Lemmas. -/
import Derived.Test.YtodehkjinmgflaaGreatDoorV1
import Derived.Test.YtodehkjinmgflaaGreatDoorVShelf
set_option linter.all false
set_option maxHeartbeats 0
set_option maxRecDepth 99999
namespace Go.Proofs.Υ
open Go Go.RowKit Tryz
theorem oP(r x:Nat)(i:r<4294967296)(j:x<4294967296):bits .or .u64 ((r:Int)*4294967296) (x:Int)=((r*4294967296+x:Nat):Int):=by
 have e:((r:Int)*4294967296)=((r*4294967296:Nat):Int):=I;rw[e,u64_or_nat _ _ I I,nat_join 32 _ _ I I]
def RetShort(w:World)(e:Ending)(v D:Nat)(most:Nat):Prop:=
 ∃a n cap ds,e=.returned (.tuple #[.slice a n cap,.int .u32 (v % D:Nat)])/\Mag w a n cap ds/\Nz ds/\val ds=v / D/\n<=most
theorem rT(a:Option Addr)(J ca:Nat)(D:Nat)(xs:List Nat)(w:World)(ha:Mag w a J ca xs)(h1:J<=1000000)(Q:0<D)(hb:D<4294967296):
 Calls prog 133 #[.slice a J ca,.int .u32 (D:Nat)] w fun e w'=>RetShort w' e (val xs) D J/\Bl w w':=by
 obtain⟨HA,af⟩:=η2 ha ha.len;have az:(1:Int)<=(D:Int):=I;clear ha
 go_enter func133,ntmps133
 go_wp2_with (at_make;refine gI _ rfl _ _ rfl _ _ _ _ rfl rfl J ?c1 ?c2 ?c3 ?_)
 case c1=>omega
 case c2=>omega
 case c3=>omega
 intro w0 C u;obtain⟨HO,HG⟩:=η2 C u;clear C u;go_wp2
 go_loopw [7,8] (fun r i wr=>∃k E X,k<=J/\i=.int .i64 ((k:Int)-1)/\E<D/\r=.int .u64 (E:Nat)/\Own wr w.heap.size J X/\Dg X/\val (xs.drop k)=D*val (X.drop k)+E/\Bl w wr)
  (fun _ i _=>(intOf i+1).toNat)
 case atStart=>exact⟨J,0,_,Nat.le_refl _,rfl,Q,rfl,HO.o,Dg.zeros _,by rw[List.drop_of_length_le (by rw[af.o];exact Nat.le_refl _),List.drop_of_length_le (by simp)];simp[val],HG.o⟩
 case round =>
  obtain⟨k,E,X,hk,rfl,U,rfl,j,R,A,F⟩:=hrel;obtain⟨L,HW,HD,HV⟩:=η4 j F R A;by_cases a1:0<k
  ·obtain⟨ba,oa,rfl,ar,a0,hx⟩:=(HA.o.below F).cells I
   obtain⟨i,rfl⟩:∃i,k=i+1:=⟨k-1,by omega⟩;have aw:=hx i I;obtain⟨x,G⟩:=χ (xs.getD i 0);rw[G]at aw;have ad:x<4294967296:=by have:=HA.o.dg.getD i;rw[G]at this;exact this
   have HX:=O G;have a2:=j.cell i I;have a3:=j.free i;have ei:(((i+1:Nat):Int)-1)=(i:Int):=I;rw[ei];have av:=oP E x I ad;have ac:=short_step _ _ _ _ x A;have W:=short_lt U (show x<B from ad);have ab:(E*B+x) % D<D:=Nat.mod_lt _ Q;have hH:E*B+x<18446744073709551616:=by unfold B;omega
   have eB:E*4294967296+x=E*B+x:=rfl;rw[eB]at av;generalize ap:E*B+x=H at *;obtain⟨HS,ag,an⟩:=η3 ac W ab;have ay:((H:Int) / (D:Int))<=4294967295:=by
    have:((H / D:Nat):Int)=(H:Int) / (D:Int):=Int.natCast_ediv H D;have h3:H / D<4294967296:=W;omega
   have au:0<=((H:Int) / (D:Int)):=Int.ediv_nonneg I I;clear hx G j F ar ei R A ac W ab ap eB;go_wp2
   go_roundw
   case rel =>
    refine⟨i,H % D,X.set i (H / D),by omega,rfl,an.o,by rfl,L.o.stored _ _ _ (by rfl),HD.o.set _ _ ag.o,?_,HW.o.setCell ρ _⟩;rw[pd _ _ (by rw[af.o];omega),tb _ _ _ (by rw[L.o.len];omega),HX.o];exact HS.o
   case measure=>simp[intOf]
  ·obtain rfl:k=0:=I
   have hr:E<4294967296:=I;clear j F R A
   go_wp2_with fail
   refine(ft _ _ _ X _ (L.o.mag HD.o) I).mono ?_;rintro e w' ⟨⟨n,hm,hn,aa,hv,rfl⟩,rfl⟩;obtain⟨HM,HN,ao⟩:=η3 hm aa hv;clear hm aa hv;go_wp2
   go_ret2
   refine⟨⟨_,_,_,_,?_,HM.o,HN.o,?_,hn⟩,HW.o⟩
   ·have Y:=HV.o
    simp only[List.drop_zero]at Y;rw[Y,Nat.mul_add_mod,Nat.mod_eq_of_lt U];rfl
   ·have Y:=HV.o
    simp only[List.drop_zero]at Y;rw[ao.o,Y,Nat.mul_add_div Q,Nat.div_eq_of_lt U];simp
def ud(xs:List Nat)(s k:Nat)(ds:List Nat):Prop:=Dg ds/\val (ds.take (k+1))=2 ^ s*val (xs.take k)/\ds.getD k 0<2 ^ s/\∀j,k<j->ds.getD j 0=0
theorem shl_join{c x s:Nat}(e:s<=31)(hc:c<2 ^ s):c ||| (x*2 ^ s % B)=c+x*2 ^ s % B:=by
 rw[Nat.or_comm,nat_join s _ _ (shl_mod I) hc,Nat.add_comm]
theorem ud.step{xs e:List Nat}{s k:Nat}(h:ud xs s k e)(H:s<=31)(Q:k<xs.length)(G:k+1<e.length)(x c:Nat)(U:xs.getD k 0=x)(A:x<B)(hc:e.getD k 0=c):
 ud xs s (k+1) ((e.set k (c ||| (x*2 ^ s % B))).set (k+1) (x*2 ^ s / B)):=by
 obtain⟨C,E,F,J⟩:=h;have i:c<B:=by rw[<-hc];exact C.getD k
 rw[hc]at F;have R:x*2 ^ s / B<2 ^ s:=shl_div_lt A;have u:x*2 ^ s / B<B:=by
  have:2 ^ s<=2 ^ 31:=Nat.pow_le_pow_right I H;unfold B at *;omega
 refine⟨(C.set _ _ (or_lt_B i (Nat.mod_lt _ jo))).set _ _ u,?_,?_,fun j X=>?_⟩
 ·rw[bZ _ _ _ (by simpa using G),bZ _ _ _ I,bO xs k Q,U,shl_join H F]
  rw[bO e k I,hc]at E;rw[Nat.mul_add (2 ^ s),<-E,Nat.mul_add,Nat.pow_succ,Nat.mul_assoc];have:=Nat.div_add_mod (x*2 ^ s) B;have L:B ^ k*(x*2 ^ s)=B ^ k*(B*(x*2 ^ s / B)+x*2 ^ s % B):=by rw[this]
  rw[Nat.mul_add]at L;have W:2 ^ s*(B ^ k*x)=B ^ k*(x*2 ^ s):=by rw[Nat.mul_left_comm,Nat.mul_comm x]
  omega
 ·rw[eP _ _ _ (by simpa using G)];exact R
 ·rw[bY _ _ _ _ I,bY _ _ _ _ I];exact J j I
theorem pS(a:Option Addr)(C ca:Nat)(s:Nat)(xs:List Nat)(w:World)(ha:Mag w a C ca xs)(h1:C<=1000000)(hs:s<=31):
 Calls prog 197 #[.slice a C ca,.int .i64 (s:Nat)] w fun e w' =>
  (∃G,e=.returned (.slice (some ⟨w.heap.size,0,none⟩) (C+1) (C+1))/\Own w' w.heap.size (C+1) G/\Dg G/\val G=2 ^ s*val xs)/\Bl w w':=by
 obtain⟨HA,U⟩:=η2 ha ha.len;clear ha
 go_enter func197,ntmps197
 go_wp2_with (at_make;refine gI _ rfl _ _ rfl _ _ _ _ rfl rfl (C+1) ?c1 ?c2 ?c3 ?_)
 case c1=>omega
 case c2=>omega
 case c3=>omega
 intro w0 E A;obtain⟨HO,HG⟩:=η2 E A;clear E A;go_wp2
 go_loopw [14] (fun i wr=>∃k G,k<=C/\i=.int .i64 (k:Nat)/\Own wr w.heap.size (C+1) G/\ud xs s k G/\Bl w wr)
  (fun i _=>C-(intOf i).toNat)
 case atStart=>exact⟨0,_,Nat.zero_le _,rfl,HO.o,⟨Dg.zeros _,by simp[val,List.replicate_succ],by simp[List.replicate_succ,Nat.two_pow_pos],fun j _=>by simp[List.getElem?_replicate];split<;>rfl⟩,HG.o⟩
 case round =>
  obtain⟨k,G,hk,rfl,u,F,H⟩:=hrel;obtain⟨Q,HW,HR⟩:=η3 u H F;by_cases aa:k<C
  ·obtain⟨ba,oa,rfl,X,an,hx⟩:=(HA.o.below H).cells I
   have ad:=hx k I;obtain⟨x,L⟩:=χ (xs.getD k 0);rw[L]at ad;have ac:x<4294967296:=by have:=HA.o.dg.getD k;rw[L]at this;exact this
   have ab:=u.cell k I;have ao:=u.free k;obtain⟨c,J⟩:=χ (G.getD k 0);rw[J]at ab;have Y:c<4294967296:=by have:=F.1.getD k;rw[J]at this;exact this
   have af:=u.cell (k+1) I;have ag:=u.free (k+1);have R:=O (F.step hs (by rw[U.o];exact aa) (by rw[u.len];omega) x c L ac J);obtain⟨p,W⟩:=χ (x*2 ^ s);have au:(x:Int)*2 ^ s=(p:Int):=by rw[<-W,Int.natCast_mul,Int.natCast_pow];rfl
   have ar:p<18446744073709551616:=by
    rw[<-W];have h3:2 ^ s<=2 ^ 31:=Nat.pow_le_pow_right I hs;have h4:x*2 ^ s<=4294967295*2 ^ 31:=Nat.mul_le_mul I h3;omega
   rw[W]at R;have ap:bits .or .u32 (c:Int) ((p:Int) % 4294967296)=((c ||| p % B:Nat):Int):=by
    rw[<-u32_or_nat c (p % B) Y (Nat.mod_lt _ jo)];rfl
   clear hx L u H X F J W;go_wp2;go_region;go_wp2;refine⟨⟨k+1,(G.set k (c ||| p % B)).set (k+1) (p / B),by omega,by go_num,((Q.o.stored _ _ _ rfl).stored _ _ _ ?_).drewN 1,R.o,((HW.o.setCell ρ _).setCell ρ _).drew⟩,?_⟩
   ·show _=((p / 4294967296:Nat):Int)
    omega
   ·simp[intOf];omega
  ·obtain rfl:k=C:=I
   clear H u F;go_wp2;go_ret;refine⟨⟨G,rfl,Q.o,HR.o.1,?_⟩,HW.o⟩;have h2:=HR.o.2.1;have l1:=Q.o.len
   rwa [List.take_of_length_le I,List.take_of_length_le (by rw[U.o];exact Nat.le_refl _)]at h2
theorem reverse_one(g o i:Nat)(w:World):Calls prog 136 #[.slice (some ⟨g,o,none⟩) 1 i] w fun e w'=>e=.returned (.tuple #[])/\w'=w:=by
 go_enter func136,ntmps136
 go_wp2_with fail
 refine aN.loop 2 ?_;refine aN.next (fun K hK=>?_)
 go_wp2_with fail
 exact⟨rfl,_,results_none rfl _ _ _,rfl,rfl⟩
theorem join_one(g o i:Nat)(s sep:ByteArray)(w:World)(hc:w.cell? ⟨g,o,none⟩=some (.string s)):Calls prog 137 #[.slice (some ⟨g,o,none⟩) 1 i,.string sep] w fun e w'=>e=.returned (.string s)/\w'=w:=by
 go_enter func137,ntmps137
 go_wp2_with fail
 go_ret;exact⟨rfl,rfl⟩
theorem pD(va:Value)(z:Nat)(w:World)(ha:aO w va z)(h0:0<z)(h1:z<100):
 Calls prog 87 #[va] w fun e w'=>e=.returned (.string ⟨(Lib.decDigits z).toArray⟩)/\Bl w w':=by
 obtain⟨s,a,n,C,ds,rfl,rfl,Y,hn,hv,hl⟩:=ha.open ⟨1,by omega,by show(z:Int).natAbs<B ^ 1;unfold B;omega⟩;have hz:(decide ((z:Int)<0))=false:=by simp
 rw[hz];obtain⟨W,hW,b1,R,hS⟩:=aB w #[.bool false,.slice a n C] 53;obtain⟨x0,x1,-⟩:=b1.two;obtain⟨HB,HM⟩:=η2 R (Y.below R);have af:0<n:=by
  rcases Nat.eq_zero_or_pos n with e|e
  ·have:=Y.len
   rw[e]at this;have:=List.length_eq_zero_iff.1 this;subst this;rw[val]at hv;omega
  ·exact e
 have HV:=O (show val ds=z by rw[hv];omega);clear Y hn hv R hS
 go_enter func87,ntmps87
 go_wp2_with fail
 refine aN.loop 3 ?_;refine aN.next (fun K hK=>?_)
 go_wp2_with fail
 refine(rT a n C 1000000000 ds W HM.o I I I).mono ?_;rw[HV.o];rintro e w1 ⟨⟨a2,n2,c2,d2,rfl,aa,ab,ac,ad⟩,E⟩;have X:d2=[]:=by
  have:val d2=0:=by rw[ac];omega
  exact ab.zero this
 subst X;have e2:n2=0:=by have:=aa.len;simpa using this.symm
 subst e2;have G:z % 1000000000=z:=I;rw[G];have L:=O (b1.to E);obtain⟨y0,y1,-⟩:=L.o.two;have A:=O (ae HB.o E I)
 go_wp2_with fail
 refine(strconv_Itoa_small z h1 _).mono ?_;rintro e j ⟨rfl,rfl⟩
 go_wp2_with fail
 obtain⟨J,F⟩:=χ ((Question.appendCap 1 0 9).cut (j.tape j.drawn (Question.appendCap 1 0 9)));rw[F];obtain⟨H,i⟩:=χ (((j.alloc (Obj.cells #[Value.string { data:=(Lib.decDigits z).toArray }] 9)).alloc (Obj.cells (#[Value.string { data:=(Lib.decDigits z).toArray }]++Builtin.zeroCells #[Value.string { data:=#[] }] (J-1)) 9)).drew);rw[i];have u:Bl j H:=by rw[<-i];exact(((Below.refl _ j).alloc ρ _).alloc (by simp) _).drew
 have U:H.cell? ⟨j.heap.size+1,0,none⟩=some (.string { data:=(Lib.decDigits z).toArray }):=by
  rw[<-i];exact((Box.new (j.alloc (Obj.cells #[Value.string { data:=(Lib.decDigits z).toArray }] 9)) (#[Value.string { data:=(Lib.decDigits z).toArray }]++Builtin.zeroCells #[Value.string { data:=#[] }] (J-1)) 9 (j.heap.size+1) (by simp)).cell 0).trans (by rw[Array.getElem?_append_left (by simp)];rfl)
 have Q:=O (ae A.o u (ψ A.o.size));obtain⟨z0,z1,-⟩:=(L.o.to u).two;clear i u F y0 y1;refine aN.next (fun K hK=>?_)
 go_wp2_with fail
 refine(reverse_one _ _ _ _).mono ?_;rintro e w4 ⟨rfl,rfl⟩
 go_wp2_with fail
 refine(join_one _ _ _ _ _ _ U).mono ?_;rintro e w4 ⟨rfl,rfl⟩
 go_wp2_with fail
 go_ret;exact⟨rfl,Q.o⟩
end Go.Proofs.Υ
