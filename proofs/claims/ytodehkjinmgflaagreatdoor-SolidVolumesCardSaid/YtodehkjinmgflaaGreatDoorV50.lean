/- Lemmas. -/
import Derived.Test.YtodehkjinmgflaaGreatDoorV49
import Derived.Test.YtodehkjinmgflaaGreatDoorV38
set_option linter.all false
set_option maxHeartbeats 0
set_option maxRecDepth 99999
namespace Go.Proofs.Υ
open Go Go.RowKit Tryz
theorem gcdD_pos{f:Nat}{a b g:List UInt8}(h:rE f a b=some g):∃i,f=i+1/\(b=[48]->g=a)/\(b≠[48]->∃p,iI a b=some p/\rE i b p.2=some g):=by
 cases f with
 | zero=>cases h
 | succ f =>
  refine⟨f,rfl,fun e=>?_,fun e=>?_⟩
  ·unfold rE at h;rw[if_pos e]at h;exact(Option.some.inj h).symm
  ·unfold rE at h;rw[if_neg e,Option.bind_eq_some_iff]at h;exact h
theorem dgcd_any(s t g:List UInt8)(f:Nat)(w:World)(hs:gQ s)(ht:gQ t)(ap:s.length<=50)(ar:t.length<=50)(h:rE f (df false (dO s)) (df false (dO t))=some g):
 Calls prog 145 #[.string ⟨s.toArray⟩,.string ⟨t.toArray⟩] w fun e w'=>e=.returned (.string ⟨g.toArray⟩)/\Bl w w':=by
 obtain⟨E,F⟩:=η2 (fun w=>fk s w I hs) (fun w=>fk t w I ht);have L:=O (fun b w v (h:DgS b w v (dO s))=>ij false b v (dO s) w h (by have:=eQ s;omega) (dR hs));have Q:=O (fun b w v (h:DgS b w v (dO t))=>ij false b v (dO t) w h (by have:=eQ t;omega) (dR ht));obtain⟨H,N1,N2⟩:=η3 h (fK (b:=false) (dR hs)) (fK (b:=false) (dR ht));have L1:=O (show(df false (dO s)).length<=100 from by have:=lY (dO s);have:=eQ s;omega);have L2:=O (show(df false (dO t)).length<=100 from by have:=lY (dO t);have:=eQ t;omega);obtain⟨P1,P2⟩:=η2 (fe false (dO s)) (fe false (dO t));obtain⟨A,hA⟩:=χ (df false (dO s));obtain⟨B,hB⟩:=χ (df false (dO t));rw[hA]at L H N1 L1 P1;rw[hB]at Q H N2 L2 P2;clear h hs ht ap ar hA hB;obtain⟨S,hS⟩:∃S:ByteArray,⟨s.toArray⟩=S:=⟨_,rfl⟩;obtain⟨T,U⟩:∃T:ByteArray,⟨t.toArray⟩=T:=⟨_,rfl⟩;rw[hS]at E⊢;rw[U]at F⊢;clear hS U
 go_enter func145,ntmps145
 go_wp2_with fail
 refine(E.o _).mono ?_;rintro e w1 ⟨⟨v1,rfl,af⟩,Y⟩;obtain⟨D1,B1⟩:=η2 af Y;clear af Y E
 go_wp2_with fail
 refine(L.o _ _ _ D1.o).mono ?_;rintro e w2 ⟨rfl,aa⟩;have B2:=O (ae B1.o aa ρ);clear aa L D1 B1
 go_wp2_with fail
 refine(F.o _).mono ?_;rintro e w3 ⟨⟨v3,rfl,ag⟩,ab⟩;obtain⟨D3,B3⟩:=η2 ag (ae B2.o ab ρ);clear ag ab F B2
 go_wp2_with fail
 refine(Q.o _ _ _ D3.o).mono ?_;rintro e w4 ⟨rfl,ac⟩;have B4:=O (ae B3.o ac ρ);clear ac Q D3 B3
 go_wp2_with fail
 go_loopg [5,6] f (fun f av bv wr=>∃u lb:List UInt8,av=.string ⟨u.toArray⟩/\bv=.string ⟨lb.toArray⟩/\Hid ((gQ u/\0<u.length/\u.length<=100)/\(gQ lb/\0<lb.length/\lb.length<=100))/\Hid (rE f u lb=some g)/\Hid (Bl w wr))
 case atStart=>exact⟨A,B,rfl,rfl,⟨⟨N1.o,P1.o,L1.o⟩,N2.o,P2.o,L2.o⟩,H.o,B4.o⟩
 case round =>
  clear B4 N1 N2 P1 P2 L1 L2 H;obtain⟨u,lb,rfl,rfl,G,HG,HW⟩:=hrel;obtain⟨wk,rfl⟩:=φ wr;obtain⟨f',rfl,h1,h2⟩:=gcdD_pos HG.o;obtain⟨LA,R⟩:∃S:ByteArray,⟨u.toArray⟩=S:=⟨_,rfl⟩;obtain⟨LB,j⟩:∃S:ByteArray,⟨lb.toArray⟩=S:=⟨_,rfl⟩;have U:LB.toList=lb:=by rw[<-j,ByteArray.toList_mk]
  rw[R,j];obtain⟨W,X⟩:=η2 R j;clear R j;by_cases i:lb=[48]
  ·have hE:(LB.toList == [48])=true:=by rw[U,i];rfl
   have HE:=O (h1 i);clear U i h1 h2
   go_wp2_with fail
   go_ret;exact⟨by rw[HE.o,W.o];rfl,HW.o⟩
  ·have hE:(LB.toList == [48])=false:=by rw[U,beq_eq_false_iff_ne];exact i
   obtain⟨⟨q,r⟩,hp,hg⟩:=h2 i;have C:=O (fun w=>kg u lb q r w G.o.1.1 G.o.2.1 G.o.1.2.1 G.o.2.2.1 G.o.1.2.2 G.o.2.2.2 hp);rw[W.o,X.o]at C;have an:=O hg;have J:=O (jD hp).2;clear U i h1 h2 hp hg HG
   go_wp2_with fail
   refine(C.o _).mono ?_;rintro e w5 ⟨rfl,ad⟩;have ao:=O (ae HW.o ad ρ);clear ad C HW
   go_wp2_with fail
   go_roundg f'
   case measure=>omega
   case rel=>exact⟨lb,r,by rw[X.o],rfl,⟨G.o.2,J.o.1,J.o.2.1,by have:=J.o.2.2;omega⟩,an.o,ao.o⟩
def oI(u k:Nat):List Nat:=(List.range k).map fun i=>u / 10 ^ i % 10
theorem decL_succ(u k:Nat):oI u (k+1)=oI u k++[u / 10 ^ k % 10]:=by unfold oI;rw[List.range_succ,List.map_append];rfl
theorem decL_text:∀u∈List.range 256,∀k∈List.range 4,u / 10 ^ k=0->df false (oI u k)=cY u/\(u≠0->df true (oI u k)=45::cY u):=by decide +kernel
theorem decL_nine(u k:Nat):∀x∈oI u k,x<=9:=fun x e=>by
 unfold oI at e;rw[List.mem_map]at e;obtain⟨i,-,rfl⟩:=e;omega
theorem decL_len(u k:Nat):(oI u k).length=k:=by unfold oI;simp
theorem pB(a:Nat):((a:Nat):Int).tmod 10=((a % 10:Nat):Int)/\((a:Nat):Int).tdiv 10=((a / 10:Nat):Int):=⟨(Int.ofNat_tmod a 10).symm,(Int.ofNat_tdiv a 10).symm⟩
theorem tmod_neg(a:Nat):(-((a:Nat):Int)).tmod 10=-((a % 10:Nat):Int)/\(-((a:Nat):Int)).tdiv 10=-((a / 10:Nat):Int):=by
 rw[Int.neg_tmod,Int.neg_tdiv,(pB a).1,(pB a).2];exact⟨rfl,rfl⟩
theorem dfrom_any(n:Int)(w:World)(hn:n.natAbs<256):Calls prog 95 #[.int .i64 n] w fun e w'=>e=.returned (.string ⟨(dT n).toArray⟩)/\Bl w w':=by
 obtain⟨u,hu⟩:=χ n.natAbs;rw[hu]at hn;have R:=O hu;clear hu;have af:-256<n/\n<256:=by have:=R.o;omega
 go_enter func95,ntmps95
 go_wp2_with fail
 go_loopw [3,4] (fun ov mv wr=>∃(k:Nat) (m:Int),k<=3/\mv=.int .i64 m/\Hid (m.natAbs=u / 10 ^ k/\(0<=n->0<=m)/\(n<=0->m<=0))/\Hid (bo wr w.heap.size ov (oI u k))/\Hid (Bl w wr)) (fun _ mv _=>(intOf mv).natAbs)
 case atStart=>exact⟨0,n,by omega,rfl,⟨by rw[R.o];simp,id,id⟩,World.ownsRow_nil _ _ _ _,Below.refl _ _⟩
 case round =>
  obtain⟨k,m,hk,rfl,F,HO,U⟩:=hrel;obtain⟨wk,rfl⟩:=φ wr;by_cases h0:m=0
  ·subst h0
   have HD:=O HO.o.dg;obtain⟨p,c,rfl,-⟩:=HO.o.ints;obtain⟨b,hb⟩:=χ (decide (n<0));have HT:=O (ij b _ _ _ wk HD.o (by rw[decL_len];omega) (decL_nine u k));have aa:=O (show u / 10 ^ k=0 from F.o.1.symm)
   go_wp2_with fail
   refine HT.o.mono ?_;rintro e w1 ⟨rfl,ab⟩
   go_wp2_with fail
   go_ret;refine⟨?_,ae U.o ab ρ⟩
   obtain⟨E,W⟩:=decL_text u (List.mem_range.mpr hn) k (List.mem_range.mpr I) aa.o;rw[<-hb];unfold dT;by_cases h0:n<0
   ·rw[decide_eq_true h0,if_pos h0,W (ψ R.o),R.o];rfl
   ·rw[decide_eq_false h0,if_neg h0,E,R.o];rfl
  ·have ac:(m != 0)=true:=by rw[bne_iff_ne];exact h0
   have ad:-256<m/\m<256:=by
    have E:=F.o.1;have:u / 10 ^ k<=u:=Nat.div_le_self _ _;omega
   obtain⟨v,hv⟩:=χ (u / 10 ^ k);have HV:=O hv;have Y:=F.o.1;rw[hv]at Y;have X:k+1<=3:=by
    have E:v≠0:=I
    rcases Nat.lt_or_ge k 3 with h|h
    ·exact h
    ·have:k=3:=I
     subst this;have:u / 10 ^ 3=0:=Nat.div_eq_of_lt I;omega
   have HN:=O (show m.tdiv 10=(m.tdiv 10)/\(m.tdiv 10).natAbs=v / 10/\(0<=m->0<=m.tdiv 10)/\(m<=0->m.tdiv 10<=0)/\(0<=m->m.tmod 10=((v % 10:Nat):Int))/\(m<0->m.tmod 10=-((v % 10:Nat):Int))from by
    rcases Int.le_total 0 m with h|h
    ·obtain⟨a,rfl⟩:∃a:Nat,m=a:=⟨m.toNat,by omega⟩
     obtain⟨E,W⟩:=pB a;have:a=v:=I;subst this;rw[E,W];refine⟨rfl,by omega,fun _=>by omega,fun h=>by omega,fun _=>rfl,fun h=>by omega⟩
    ·obtain⟨a,rfl⟩:∃a:Nat,m=-(a:Int):=⟨(-m).toNat,by omega⟩
     obtain⟨E,W⟩:=tmod_neg a;have:a=v:=I;subst this;rw[E,W];refine⟨rfl,by omega,fun h=>by omega,fun _=>by omega,fun h=>?_,fun _=>rfl⟩;omega)
   obtain⟨-,q1,q2,q3,G,H⟩:=HN.o;obtain⟨y,hy⟩:=χ (m.tmod 10);obtain⟨z,hz⟩:=χ (m.tdiv 10);rw[hz]at q1 q2 q3;rw[hy]at G H;have HZ:=O (show z.natAbs=u / 10 ^ (k+1)/\(0<=n->0<=z)/\(n<=0->z<=0)from⟨by rw[q1,Nat.pow_succ,<-Nat.div_div_eq_div_mul,HV.o],fun h=>q2 (F.o.2.1 h),fun h=>q3 (F.o.2.2 h)⟩);obtain⟨Q,HS,J⟩:=η3 q1 (decL_succ u k) (decL_len u k);have L:=O (show m.natAbs=v/\v≠0 from⟨Y,by omega⟩);have ao:-256<z/\z<256:=I;have ag:-9<=y/\y<=9:=by
    rcases Int.lt_or_le m 0 with h|h
    ·have:=H h;omega
    ·have:=G h;omega
   clear q1 q2 q3 HN F h0 hv;by_cases an:y<0
   ·have HC:=O (show -y=((v % 10:Nat):Int) by rcases Int.lt_or_le m 0 with h|h;(have:=H h;omega);(have:=G h;omega))
    clear G H
    go_wp2_with (at_builtin;refine dG rfl _ _ rfl rfl HO.o (v % 10) (congrArg (fun z=>#[Value.int .i64 z]) HC.o) rfl (ψ J.o) U.o U.o.size ?_)
    intro v3 w3 j i;have C:=O (show bo w3 w.heap.size v3 (oI u (k+1))from by rw[HS.o,HV.o];exact j);have A:=O i;clear j i
    go_wp2_with fail
    go_round
    case rel=>exact⟨k+1,z,X,rfl,HZ.o,C.o,A.o⟩
    case measure=>show z.natAbs<m.natAbs;have:=Q.o;have:=L.o;omega
   ·have HC:=O (show y=((v % 10:Nat):Int) by rcases Int.lt_or_le m 0 with h|h;(have:=H h;omega);(have:=G h;omega))
    clear G H
    go_wp2_with (at_builtin;refine dG rfl _ _ rfl rfl HO.o (v % 10) (congrArg (fun z=>#[Value.int .i64 z]) HC.o) rfl (ψ J.o) U.o U.o.size ?_)
    intro v3 w3 j i;have C:=O (show bo w3 w.heap.size v3 (oI u (k+1))from by rw[HS.o,HV.o];exact j);have A:=O i;clear j i
    go_wp2_with fail
    go_round
    case rel=>exact⟨k+1,z,X,rfl,HZ.o,C.o,A.o⟩
    case measure=>show z.natAbs<m.natAbs;have:=Q.o;have:=L.o;omega
def lC(A:List Nat)(y i:Nat):List Nat:=(A.take i).map (· * y)++List.replicate (A.length+2-i) 0
theorem mulK_zero(A:List Nat)(y:Nat):lC A y 0=List.replicate (A.length+2) 0:=by simp[lC]
theorem mulK_end(A:List Nat)(y:Nat):lC A y A.length=A.map (· * y)++[0,0]:=by
 unfold lC;rw[List.take_length,show A.length+2-A.length=2 by omega];rfl
theorem mulK_len{A:List Nat}{y i:Nat}(hi:i<=A.length):(lC A y i).length=A.length+2:=by
 unfold lC;rw[List.length_append,List.length_map,List.length_take,List.length_replicate];omega
theorem mulK_at{A:List Nat}{y i:Nat}(hi:i<A.length):(lC A y i).getD i 0=0/\(lC A y i).set i (A.getD i 0*y)=lC A y (i+1):=by
 have e:((A.take i).map (· * y)).length=i:=by rw[List.length_map,List.length_take];omega
 obtain⟨m,j⟩:∃m,A.length+2-i=m+1:=⟨A.length+1-i,by omega⟩
 constructor
 ·unfold lC
  rw[List.getD_eq_getElem?_getD,List.getElem?_append_right I,e,Nat.sub_self,j];rfl
 ·unfold lC
  rw[List.set_append_right _ _ I,e,Nat.sub_self,j,List.replicate_succ,List.set_cons_zero,List.take_succ_eq_append_getElem hi,List.map_append,List.append_assoc,show A.length+2-(i+1)=m by omega];simp[hi]
theorem dmul_any(s t r:List UInt8)(w:World)(hs:gQ s)(ht:gQ t)(a0:0<s.length)(a8:0<t.length)(a7:s.length<=100)(bs:t.length<=100)(h:mulD s t=some r):
 Calls prog 94 #[.string ⟨s.toArray⟩,.string ⟨t.toArray⟩] w fun e w'=>e=.returned (.string ⟨r.toArray⟩)/\Bl w w':=by
 unfold mulD at h;obtain⟨H,J,Y,aa⟩:=η4 (fun w=>fk s w I hs) (fun w=>fk t w I ht) (fun w=>ik s w a0) (fun w=>ik t w a8);have a4:=l7 s;have a6:=l7 t;have bl:=Nat.le_trans (eQ s) a7;have ab:=dR hs;have ad:=dR ht;obtain⟨A,hA⟩:=χ (dO s);obtain⟨D,hD⟩:=χ (dO t);obtain⟨sa,a3⟩:∃a,dD s=a:=ξ;obtain⟨sb,a5⟩:∃b,dD t=b:=ξ;rw[hA]at H h bl ab;rw[hD]at J h ad;rw[a3]at Y h a4;rw[a5]at aa h a6
 split at h
 ·rename_i hc
  obtain⟨ar,C⟩:=hc;obtain⟨y,rfl⟩:∃y,D=[y]:=by
   match D,ar with
   | [y],_=>exact⟨y,rfl⟩
  have hr:=Option.some.inj h;rw[show([y]:List Nat).headD 0=y from rfl,<-mulK_end]at hr;have af:∀x∈A,x*y<=9:=C;have an:∀x∈lC A y A.length,x<=9:=fun x R=>by
   rw[mulK_end]at R
   rcases List.mem_append.mp R with R|R
   ·rw[List.mem_map]at R
    obtain⟨z,hz,rfl⟩:=R;exact af z hz
   ·simp at R;omega
  have az:wrap64 (sa*sb)=sa*sb:=by
   obtain rfl|rfl|rfl:sa=-1\/sa=0\/sa=1:=I
   all_goals exact IntWalk.wrap64_in _ ⟨by omega,by omega⟩
  obtain⟨sp,ag⟩:=χ (sa*sb);rw[ag]at az hr;obtain⟨bi,HR,be⟩:=η3 ag hr an;have bg:=O (fun i (_:i<A.length)=>af (A.getD i 0) (by rw[List.getD_eq_getElem?_getD,List.getElem?_eq_getElem (by assumption)];exact List.getElem_mem _));have bc:=O ab;have b0:y<=9:=ad y (by simp);obtain⟨S,hS⟩:∃S:ByteArray,⟨s.toArray⟩=S:=⟨_,rfl⟩;obtain⟨T,hT⟩:∃T:ByteArray,⟨t.toArray⟩=T:=⟨_,rfl⟩;rw[hS]at H Y⊢;rw[hT]at J aa⊢;clear hS hT h hr an af C ar ad ab hA hD a3 a5 ag hs ht a0 a8 a7 bs
  go_enter func94,ntmps94
  go_wp2_with fail
  refine(H.o _).mono ?_;rintro e w1 ⟨⟨v1,rfl,a1,c1,rfl,aw,-⟩,ao⟩;obtain⟨I1,L1⟩:=η2 aw ao;clear aw ao H
  go_wp2_with fail
  refine(J.o _).mono ?_;rintro e w2 ⟨⟨v2,rfl,a2,c2,rfl,ay,-⟩,L⟩;obtain⟨J2,I2,L2⟩:=η3 ay (I1.o.below L) (ae L1.o L ρ);clear ay L J I1 L1
  go_wp2_with (at_make;refine lT _ rfl _ _ rfl _ _ _ _ rfl rfl (A.length+2) ?c1 ?c2 I ?_)
  case c1=>simp;omega
  case c2=>simp;omega
  intro w3 Q ac;obtain⟨G,av⟩:∃g,w2.heap.size=g:=ξ;(try unfold Bl at Q);(try unfold Bl at ac);rw[av]at Q ac⊢;rw[<-mulK_zero A y]at Q;obtain⟨O3,L3,X⟩:=η3 Q ac av;clear Q ac
  go_wp2_with fail
  go_loopw [8] (fun iv wr=>∃i:Nat,i<=A.length/\iv=.int .i64 (i:Nat)/\Hid (bo wr G (.slice (some ⟨G,0,none⟩) (A.length+2) (A.length+2)) (lC A y i))/\Hid (Below G w2 wr)) (fun iv _=>A.length-(intOf iv).toNat)
  case atStart=>exact⟨0,Nat.zero_le _,rfl,O3.o,L3.o⟩
  case round =>
   clear O3 L3;obtain⟨i,hi,rfl,HO,HW⟩:=hrel;obtain⟨wk,rfl⟩:=φ wr;by_cases h0:i=A.length
   ·have bI:¬ (i:Int)<(A.length:Int):=I
    have HD:=O (show DgS G wk (.slice (some ⟨G,0,none⟩) (A.length+2) (A.length+2)) (lC A y A.length)from by have h:=bo.dg HO.o;rw[h0]at h;exact h);have HT:=O (ij (decide (sp<0)) _ _ _ wk HD.o (by rw[mulK_len ρ];omega) be.o);have bv:=bi.o;clear h0
    go_wp2_with fail
    refine(Y.o _).mono ?_;rintro e w5 ⟨rfl,F⟩;rw[F];clear F w5
    go_wp2_with fail
    refine(aa.o _).mono ?_;rintro e w5 ⟨rfl,F⟩;rw[F];clear F w5
    go_wp2_with fail
    refine HT.o.mono ?_;rintro e w5 ⟨rfl,bm⟩
    go_wp2_with fail
    go_ret;exact⟨by rw[<-HR.o];rfl,ae (L2.o.trans (HW.o.mono (by have:=X.o;have:=L2.o.size;omega))) bm ρ⟩
   ·have bF:(i:Int)<(A.length:Int):=I
    have u:i<A.length:=I;obtain⟨b,off,rfl,hb,hc,ap⟩:=(I2.o.below (show Below _ _ _ from X.o▸HW.o)).digit u;obtain⟨b2,bz,rfl,L,bp,W⟩:=(J2.o.below (show Below _ _ _ from X.o▸HW.o)).digit (i:=0) (by simp);have R:=ap i u;have bu:=W 0 (by simp);have bt:=kK bc.o i;have ba:=bg.o i u;obtain⟨au,E⟩:=mulK_at (y:=y) u;obtain⟨br,bV⟩:=HO.o.cellN (j:=i) (by rw[mulK_len hi];omega);rw[au]at br;obtain⟨x,a9⟩:=χ (A.getD i 0);rw[a9]at R bt ba E;have U:=O E;obtain⟨z,hz⟩:=χ (x*y);rw[hz]at ba U;have b3:(x:Int)*(y:Int)=(z:Int):=by rw[<-hz];simp
    rw[show([y]:List Nat).getD 0 0=y from rfl,Nat.add_zero]at bu;clear ap W a9 E au h0 hz hc bp
    go_wp2_with fail
    refine aN.loop 2 ?_;refine aN.next (fun K hK=>?_)
    go_wp2_with fail
    go_quiet (fail)
    have hm:(z:Int) % 10=(z:Int):=I;have hd:(z:Int) / 10=0:=I;have bf:=O (show bo ((wk.drewN nq).setCell ⟨G,i,none⟩ (.int .i64 (z:Int))) G (.slice (some ⟨G,0,none⟩) (A.length+2) (A.length+2)) (lC A y (i+1))from by rw[<-U.o];exact bo.setN (show bo (wk.drewN nq) G _ _ from aC HO.o (aF β _)) i z);have bk:=O ((aF HW.o nq).setCell (p:=⟨G,i,none⟩) ρ (.int .i64 (z:Int)));clear HO HW
    go_wp2_with fail
    refine aN.next (fun K hK=>?_)
    go_wp2_with fail
    go_roundw
    case rel=>exact⟨i+1,u,rfl,bf.o,bk.o⟩
    case measure=>simp[intOf];omega
 ·cases h
end Go.Proofs.Υ
