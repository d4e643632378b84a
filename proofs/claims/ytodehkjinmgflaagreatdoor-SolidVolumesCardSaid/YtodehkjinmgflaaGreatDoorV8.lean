/- Lemmas. -/
import Derived.Test.YtodehkjinmgflaaGreatDoorV7
set_option linter.all false
set_option maxHeartbeats 0
set_option maxRecDepth 99999
namespace Go.Proofs.Υ
open Go Go.RowKit Tryz
def jO(w:World)(g n cap:Nat)(ds:List Nat):Prop:=w.ownsRow g 176 1 (.slice (some ⟨g,0,none⟩) n cap) n (ds.map dig)
theorem jO.len{w:World}{g n e:Nat}{i:List Nat}(h:jO w g n e i):i.length=n:=by
 have:=h.1;simpa using this
theorem jO.cell{w:World}{g n e:Nat}{i:List Nat}(h:jO w g n e i)(j:Nat)(C:j<n):w.cell? ⟨g,j,none⟩=some (.int .u32 (i.getD j 0:Nat)):=by
 have u:=World.ownsRow.cellAt h j I;have A:=h.len;rw[u];have:j<i.length:=I;simp[this,dig]
theorem jO.free{w:World}{g n e:Nat}{i:List Nat}(h:jO w g n e i)(j:Nat):w.frozen? ⟨g,j,none⟩=false:=World.ownsRow.frozenAt h j
theorem jO.stored{w:World}{g n e:Nat}{i:List Nat}(h:jO w g n e i)(j d:Nat)(z:Int)(u:z=(d:Int)):jO (w.setCell ⟨g,j,none⟩ (.int .u32 z)) g n e (i.set j d):=by
 subst u;have:=(World.ownsRow.stored h j (dig d)).1;unfold jO;rw[List.map_set];exact this
theorem jO.lt{w:World}{g n e:Nat}{i:List Nat}(h:jO w g n e i):g<w.heap.size:=(World.ownsRow.lt h g rfl).2
theorem jO.le{w:World}{g n e:Nat}{A:List Nat}(h:jO w g n e A):n<=e:=by
 rcases h.2 with⟨i,_⟩|⟨g',j,u,i,_,_,C,_⟩
 ·simp at i
 ·simp only[Value.slice.injEq]at i
  obtain⟨_,_,rfl⟩:=i;exact C
theorem jO.mag{w:World}{g n j:Nat}{u:List Nat}(h:jO w g n j u)(H:Dg u):Mag w (some ⟨g,0,none⟩) n j u:=
 ⟨Sl.mk' h.le (by simpa using h.len) h.lt (fun i hi=>by
  rw[Nat.zero_add,h.cell i I];have:=h.len;have:i<u.length:=I;simp[this,dig]),H,h.len,fun x J=>by
   cases J;obtain⟨_,⟨C,_⟩|⟨g',E,A,C,_,G,_⟩⟩:=h
   ·simp at C
   ·have e:=(Value.slice.inj C).1
    have F:=congrArg Addr.block (Option.some.inj e);dsimp only at F;subst F;exact⟨A,G⟩⟩
def RetClone(w0 w:World)(e:Ending)(n:Nat)(ds:List Nat):Prop:=∃g cap,e=.returned (.slice (some ⟨g,0,none⟩) n cap)/\w0.heap.size<=g/\jO w g n cap ds
theorem tz{w:World}{base e size:Nat}{v:Value}{n:Nat}{xs:List Value}(h:w.ownsRow base e size v n xs)(F:v≠.slice none 0 0):
 ∃g i,v=.slice (some ⟨g,0,none⟩) n i/\base<=g/\w.ownsRow g e size v n xs:=by
 obtain⟨u,⟨A,G⟩|⟨g,i,j,rfl,C,E⟩⟩:=h
 ·exact absurd A F
 ·exact⟨g,i,rfl,C,u,Or.inr ⟨g,i,j,rfl,Nat.le_refl _,E⟩⟩
theorem clone_u32(b off n C:Nat)(G:List Nat)(w:World)(ha:Mag w (some ⟨b,off,none⟩) n C G)(h1:n<=1000001):
 Calls prog 241 #[.slice (some ⟨b,off,none⟩) n C] w fun e w'=>RetClone w w' e n G/\Bl w w':=by
 obtain⟨HI,L⟩:=η2 (info_parts infoU32) ha;clear ha;have aa:=fun(W:World)=>Lib.run_eql_slice_nil (P:=prog) W 51 176 (some ⟨b,off,none⟩) n C 0 0 underlying51
 go_enter func241,ntmps241
 go_wp2_with (at_builtin;obtain⟨i0,hi,R,U,X⟩:=HI.o;refine wpList_append_own _ rfl _ _ 51 rfl w.heap.size 176 i0 (.int .u32 0) 1 4 underlying51 hi R U X rfl I _ _ _ rfl (World.ownsRow_made w #[] 0 ρ (Nat.zero_le _) (by simp)) ⟨b,off,none⟩ n C (G.map dig) rfl ?qc1 ?qc2 ?qc3 ?qc4 ?qc5 ?qc6 ?_)
 case qc1=>simpa using L.o.len
 case qc2 =>
  intro j u hj;have H:j<n:=by have hq:=(List.getElem?_eq_some_iff.1 hj).1;have hl:=L.o.len;rw[List.length_map]at hq;omega
  obtain⟨b',ab,he,Q,Y,hc⟩:=L.o.cells I;simp only[Option.some.injEq,Addr.mk.injEq,and_true]at he;obtain⟨rfl,rfl⟩:=he;have h2:=hc j H;rw[Addr.add_mid,World.cell?_alloc_lt _ _ _ (by exact Q),h2,<-hj];have:j<G.length:=by rw[L.o.len];exact H
  simp[this,dig]
 case qc3=>intro u hu;obtain⟨d,_,rfl⟩:=List.mem_map.1 hu;rfl
 case qc4=>unfold maxLen;omega
 case qc5=>omega
 case qc6=>simp
 intro v' w1 E i hv;have A:w1.ownsRow w.heap.size 176 1 v' n (G.map dig):=by simpa using E
 obtain⟨g,F,rfl,hg,J⟩:=tz A hv;obtain⟨HR,HG⟩:=η2 J hg;have HB:Hid (Bl w w1):=((Below.refl _ w).alloc ρ _).grown i (by simp) (by intro k hk;simp[Value.ownBlock]at hk;omega);clear E A i hv J hg;go_wp2;go_ret;exact⟨⟨g,F,rfl,HG.o,HR.o⟩,HB.o⟩
def m6(s x y:Nat):Nat:=(x / 2 ^ s) ||| (y*4294967296 / 2 ^ s % 4294967296)
theorem lowD_eq{s x y:Nat}(G:s<=31)(C:x<4294967296):2 ^ s*m6 s x y+x % 2 ^ s=x+B*(y % 2 ^ s):=by
 unfold m6;have e:(4294967296:Nat)=2 ^ s*2 ^ (32-s):=by rw[<-Nat.pow_add,show s+(32-s)=32 from by omega]
 have i:0<2 ^ s:=Nat.two_pow_pos s;have j:y*4294967296 / 2 ^ s=y*2 ^ (32-s):=by
  rw[e,Nat.mul_left_comm,Nat.mul_div_cancel_left _ i]
 have u:y*2 ^ (32-s) % 4294967296=(y % 2 ^ s)*2 ^ (32-s):=by
  rw[e,Nat.mul_mod_mul_right]
 have A:x / 2 ^ s<2 ^ (32-s):=by
  rw[Nat.div_lt_iff_lt_mul i,Nat.mul_comm,<-e];exact C
 rw[j,u,Nat.or_comm,nat_join (32-s) _ _ (Nat.mul_mod_left _ _) A,Nat.mul_add];have E:2 ^ s*(y % 2 ^ s*2 ^ (32-s))=B*(y % 2 ^ s):=by
  unfold B;rw[e,Nat.mul_left_comm,Nat.mul_comm]
 have F:=Nat.div_add_mod x (2 ^ s);omega
theorem lowD_lt{s x y:Nat}(e:x<4294967296):m6 s x y<B:=
 or_lt_B (Nat.lt_of_le_of_lt (Nat.div_le_self _ _) e) (Nat.mod_lt _ I)
theorem lowD_z{s x y:Nat}(j:x<4294967296):bits .or .u32 ((x:Int) / 2 ^ s) ((y:Int)*4294967296 / 2 ^ s % 4294967296)=((m6 s x y:Nat):Int):=by
 have e:((x / 2 ^ s:Nat):Int)=(x:Int) / 2 ^ s:=by rw[Int.natCast_ediv,Int.natCast_pow];rfl
 have i:((y*4294967296 / 2 ^ s % 4294967296:Nat):Int)=(y:Int)*4294967296 / 2 ^ s % 4294967296:=by rw[Int.natCast_emod,Int.natCast_ediv,Int.natCast_mul,Int.natCast_pow];rfl
 unfold m6;rw[<-u32_or_nat _ _ (Nat.lt_of_le_of_lt (Nat.div_le_self _ _) j) (Nat.mod_lt _ I),e,i]
theorem lowD_zero{s x:Nat}:m6 s x 0=x / 2 ^ s:=by unfold m6;simp
theorem low_step{xs e:List Nat}{s k j x y:Nat}(L:e.length=j)(G:xs.length=j)(J:k<j)(u:xs.getD k 0=x)(H:xs.getD (k+1) 0=y)(E:s<=31)(i:x<4294967296)(F:2 ^ s*val (e.take k)+xs.getD 0 0 % 2 ^ s=val (xs.take k)+B ^ k*(xs.getD k 0 % 2 ^ s)):
 2 ^ s*val ((e.set k (m6 s x y)).take (k+1))+xs.getD 0 0 % 2 ^ s=val (xs.take (k+1))+B ^ (k+1)*(xs.getD (k+1) 0 % 2 ^ s):=by
 rw[bZ _ _ _ I,bO xs k I,u,H,Nat.mul_add];rw[u]at F;have A:=lowD_eq (y:=y) E i;have C:B ^ k*(2 ^ s*m6 s x y+x % 2 ^ s)=B ^ k*(x+B*(y % 2 ^ s)):=by rw[A]
 rw[Nat.mul_add,Nat.mul_add,Nat.mul_left_comm,<-Nat.mul_assoc (B ^ k) B,<-Nat.pow_succ,Nat.succ_eq_add_one]at C;omega
def RetMagN(w:World)(e:Ending)(v:Nat)(most:Nat):Prop:=∃a n cap ds,e=.returned (.slice a n cap)/\Mag w a n cap ds/\Nz ds/\val ds=v/\n<=most
theorem lowered_any(b off F ca s:Nat)(xs:List Nat)(w:World)(ha:Mag w (some ⟨b,off,none⟩) F ca xs)(h1:F<=1000001)(hs:s<=31):
 Calls prog 199 #[.slice (some ⟨b,off,none⟩) F ca,.int .i64 (s:Nat)] w fun e w'=>RetMagN w' e (val xs / 2 ^ s) F/\Bl w w':=by
 obtain⟨X,R⟩:=η2 ha ha.len;clear ha
 go_enter func199,ntmps199
 go_wp2_with fail
 refine(clone_u32 b off F ca xs w X.o h1).mono ?_;rintro e w0 ⟨⟨g,ag,rfl,hg,u⟩,Y⟩;obtain⟨HO,HG,HB⟩:=η3 u hg Y;clear u hg Y;go_wp2
 go_loopw [11] (fun i wr=>∃k U,k<=F/\i=.int .i64 (k:Nat)/\jO wr g F ag U/\Dg U/\(2 ^ s*val (U.take k)+xs.getD 0 0 % 2 ^ s=val (xs.take k)+B ^ k*(xs.getD k 0 % 2 ^ s))/\(∀j,k<=j->U.getD j 0=xs.getD j 0)/\Bl w wr)
  (fun i _=>F-(intOf i).toNat)
 case atStart=>exact⟨0,xs,Nat.zero_le _,rfl,HO.o,X.o.dg,by simp[val],fun _ _=>rfl,HB.o⟩
 case round =>
  obtain⟨k,U,hk,rfl,u,L,E,A,G⟩:=hrel;obtain⟨C,HW,HD,HV,HR⟩:=η5 u G L E A;by_cases ab:k<F
  ·obtain⟨b',au,he,aa,av,hx⟩:=(X.o.below G).cells I
   simp only[Option.some.injEq,Addr.mk.injEq,and_true]at he;obtain⟨rfl,rfl⟩:=he;have ao:=u.cell k I;have aw:=u.free k;obtain⟨x,H⟩:=χ (xs.getD k 0);rw[A k ρ,H]at ao;have J:x<4294967296:=by have:=X.o.dg.getD k;rw[H]at this;exact this
   have HX:=O H;by_cases an:k+1<F
   ·have ap:=hx (k+1) an
    obtain⟨y,Q⟩:=χ (xs.getD (k+1) 0);rw[Q]at ap;have ay:y<4294967296:=by have:=X.o.dg.getD (k+1);rw[Q]at this;exact this
    have HY:=O Q;clear hx H u G aa L E A Q;go_wp2;go_region;go_wp2;have hz:=lowD_z (s:=s) (y:=y) J;rw[hz];refine⟨⟨k+1,U.set k (m6 s x y),by omega,by go_num,?_,HD.o.set _ _ (lowD_lt J),low_step C.o.len R.o ab HX.o HY.o hs J HV.o,fun j hj=>?_,((HW.o.setCell HG.o _).setCell HG.o _).drew⟩,?_⟩
    ·have:=(C.o.stored k 0 0 rfl).stored k (m6 s x y) _ rfl
     rw[List.set_set]at this;have W:=(C.o.stored k (x / 2 ^ s) ((x:Int) / 2 ^ s) (by rw[Int.natCast_ediv,Int.natCast_pow];rfl)).stored k (m6 s x y) _ rfl;rw[List.set_set]at W;exact W
    ·rw[bY _ _ _ _ I];exact HR.o j I
    ·simp[intOf];omega
   ·have ar:¬ (k:Int)+1<(F:Int):=I
    have HY:Hid (xs.getD (k+1) 0=0):=iH _ _ (ψ R.o);clear hx H u G aa L E A;go_wp2;refine⟨⟨k+1,U.set k (m6 s x 0),by omega,by go_num,C.o.stored _ _ _ (by rw[lowD_zero,Int.natCast_ediv,Int.natCast_pow];rfl),HD.o.set _ _ (lowD_lt J),low_step C.o.len R.o ab HX.o HY.o hs J HV.o,fun j hj=>?_,HW.o.setCell HG.o _⟩,?_⟩
    ·rw[bY _ _ _ _ I];exact HR.o j I
    ·simp[intOf];omega
  ·obtain rfl:k=F:=I
   clear G u L E A
   go_wp2_with fail
   refine(ft _ _ _ U _ (C.o.mag HD.o) I).mono ?_;rintro e w' ⟨⟨n,hm,hn,ac,hv,rfl⟩,rfl⟩;obtain⟨HM,af,ad⟩:=η3 hm hv ac;clear hm ac hv;go_wp2;go_ret;refine⟨⟨_,_,_,_,rfl,HM.o,ad.o,?_,hn⟩,HW.o⟩;rw[af.o];have W:=HV.o;have l1:=C.o.len;have l2:=R.o;rw[List.take_of_length_le I,List.take_of_length_le I,iH xs k I]at W;simp only[Nat.zero_mod,Nat.mul_zero,Nat.add_zero]at W;rw[<-W,Nat.mul_add_div (Nat.two_pow_pos s),Nat.div_eq_of_lt (Nat.mod_lt _ (Nat.two_pow_pos s)),Nat.add_zero]
theorem kH{k:IntKind}{a b:Int}(h:a=b):Value.int k a=Value.int k b:=by rw[h]
def RetDigit(w w':World)(e:Ending)(g o m n U V:Nat)(ds:List Nat):Prop:=
 ∃ds',e=.returned (.int .u32 (U / V:Nat))/\Own w' g m ds'/\Dg ds'/\val (win ds' o (n+1))=U % V/\(∀j,(j<o\/o+n<j)->ds'.getD j 0=ds.getD j 0)/\Tch g w w'
theorem digit_any(g o m n cu bv ov cv:Nat)(J vs:List Nat)(w:World)(A:Own w g m J)(an:Dg J)(hm:o+n<m)(c1:n+1<=cu)(hv:Mag w (some ⟨bv,ov,none⟩) n cv vs)(hg:bv≠g)(hn:2<=n)(c5:n<=1000001)(av:0<vs.getD (n-1) 0)(bF:val (win J o (n+1))<val vs*B):
 Calls prog 198 #[.slice (some ⟨g,o,none⟩) (n+1) cu,.slice (some ⟨bv,ov,none⟩) n cv] w fun e w'=>RetDigit w w' e g o m n (val (win J o (n+1))) (val vs) J:=by
 obtain⟨b',o',he,ag,c2,hy⟩:=hv.cells I;simp only[Option.some.injEq,Addr.mk.injEq,and_true]at he;obtain⟨rfl,rfl⟩:=he;have cr:=A.cell (o+n) hm;have cs:=A.cell (o+(n-1)) I;have cy:=A.cell (o+(n-2)) I;have cB:=hy (n-1) I;have cD:=hy (n-2) I;have cg:J.getD (o+n) 0<4294967296:=an.getD _;have bt:J.getD (o+(n-1)) 0<4294967296:=an.getD _;have a5:J.getD (o+(n-2)) 0<4294967296:=an.getD _;have ch:vs.getD (n-1) 0<4294967296:=hv.dg.getD _;have a6:vs.getD (n-2) 0<4294967296:=hv.dg.getD _;obtain⟨HO,HD,HV,HU,ao⟩:=η5 A an hv bF hv.len;generalize e0:J.getD (o+n) 0=x0 at *;generalize e1:J.getD (o+(n-1)) 0=x1 at *;generalize e2:J.getD (o+(n-2)) 0=x2 at *;generalize f1:vs.getD (n-1) 0=Q at *;generalize f2:vs.getD (n-2) 0=y2 at *;obtain⟨E0,E1,E2,F1,F2⟩:=η5 e0 e1 e2 f1 f2;clear A an hv bF e0 e1 e2 f1 f2 hy ag;have ab:=oP x0 x1 cg bt;have b4:x0*4294967296+x1<18446744073709551616:=I;generalize a8:x0*4294967296+x1=hi at *;obtain⟨cU,cc,ap⟩:=η3 a8 b4 (guess_of HD.o HV.o.dg hn ao.o E0.o E1.o E2.o F1.o F2.o a8 av HU.o);clear a8;obtain⟨U,hU⟩:=χ (val (win J o (n+1)));obtain⟨V,hV⟩:=χ (val vs);rw[hU,hV]at ap HU;obtain⟨br,bs⟩:=η2 hU hV;rw[hU,hV];have bI:Hid (0<V):=by
  show 0<V
  rcases Nat.eq_zero_or_pos V with h|h
  ·have:=HU.o;rw[h]at this;omega
  ·exact h
 clear hU hV;have w1:IntKind.i64.wrap ((n:Int)-1)=(n:Int)-1:=IntWalk.i64_in _ I;have w2:IntKind.i64.wrap ((n:Int)-2)=(n:Int)-2:=IntWalk.i64_in _ I;have t1:((n:Int)-1).toNat=n-1:=I;have t2:((n:Int)-2).toNat=n-2:=I;have cn:IntKind.u64.wrap ((hi:Int).tdiv (Q:Int))=((hi / Q:Nat):Int):=by
  rw[IntWalk.u64_quo _ _ I];rfl
 have cq:(hi:Int).tmod (Q:Int)=((hi % Q:Nat):Int):=by
  rw[IntWalk.rem_in _ _ I];rfl
 go_enter func198,ntmps198
 go_wp2
 go_quiet (fail)
 go_wp2
 go_quiet (fail)
 go_wp2
 go_loopw [7,8] (fun qv rv wr=>∃q r k,qv=.int .u64 (q:Nat)/\rv=.int .u64 (r:Nat)/\q*Q+r=hi/\U / V<=q/\r<8589934592/\wr=w.drewN k) (fun _ rv _=>(4294967296-intOf rv).toNat)
 case atStart =>
  refine⟨hi / Q,hi % Q,_,?_,rfl,?_,ap.o.start,?_,World.drewN_drewN _ _ _⟩
  ·rw[show((hi:Int) / (Q:Int))=((hi / Q:Nat):Int)from rfl,IntWalk.u64_in _ ⟨Int.natCast_nonneg _,by have:=Nat.div_le_self hi Q;have:0<=hi / Q:=Nat.zero_le _;generalize hi / Q=z at *;omega⟩]
  ·rw[Nat.mul_comm];exact Nat.div_add_mod hi Q
  ·have:=Nat.mod_lt hi av;omega
 case round =>
  obtain⟨q,r,k,rfl,rfl,b9,hq,hr,rfl⟩:=hrel;obtain⟨a3,HQ⟩:=η2 b9 hq;clear b9 hq cn cq ab b4;by_cases E:r<4294967296/\(4294967296<=q\/r*4294967296+x2<q*y2)
  ·have R:=O (ap.o.step q r a3.o HQ.o E.2)
   have cp:0<q:=R.o.1;have ad:=E.1;have au:decide ((r:Int)<4294967296)=true:=by simp;omega
   by_cases ay:q<4294967296
   ·have ht:r*4294967296+x2<q*y2:=by have:=E.2;omega
    obtain⟨p,hp⟩:=χ (q*y2);have Y:=mf ay a6;rw[hp]at Y ht;have ac:(q:Int)*(y2:Int)=(p:Int):=by rw[<-hp,Int.natCast_mul]
    have a1:IntKind.u64.wrap ((q:Int)*(y2:Int))=(p:Int):=by rw[ac];exact IntWalk.u64_in _ I
    have ab:=oP r x2 ad a5;have az:r*4294967296+x2<18446744073709551616:=I;obtain⟨s,hs⟩:=χ (r*4294967296+x2);rw[hs]at ab az ht;have ar:decide ((4294967296:Int)<=(q:Int))=false:=by simp;omega
    have b3:decide (s<p)=true:=by simp;omega
    clear hs hp ac E;go_wp2
    go_quiet (fail)
    go_wp2;refine⟨⟨q-1,r+Q,_,?_,rfl,R.o.2.2,R.o.2.1,by omega,rfl⟩,?_⟩
    ·exact kH I
    ·simp[intOf];omega
   ·have ar:decide ((4294967296:Int)<=(q:Int))=true:=by simp;omega
    have c6:q<18446744073709551616:=by
     have h1:=a3.o;have h2:=cc.o;have h3:q*1<=q*Q:=Nat.mul_le_mul_left _ av;omega
    clear E;go_wp2
    go_quiet (fail)
    go_wp2;refine⟨⟨q-1,r+Q,_,?_,rfl,R.o.2.2,R.o.2.1,by omega,rfl⟩,?_⟩
    ·exact kH I
    ·simp[intOf];omega
  ·have a9:=ap.o.stop q r a3.o (by unfold B;omega)
   have cd:=O a9.2;have ay:q<4294967296:=a9.1;have ar:decide ((4294967296:Int)<=(q:Int))=false:=by simp;omega
   have a0:(4294967296<=r)\/(r<4294967296/\q*y2<=r*4294967296+x2):=I;clear a9 E
   rcases a0 with ad|⟨ad,ht⟩
   case' inl =>
    have au:decide ((r:Int)<4294967296)=false:=by simp;omega
    go_wp2
    go_quiet (fail)
    go_wp2;clear au ad ar
   case' inr =>
    have au:decide ((r:Int)<4294967296)=true:=by simp;omega
    obtain⟨p,hp⟩:=χ (q*y2);have Y:=mf ay a6;rw[hp]at Y ht;have ac:(q:Int)*(y2:Int)=(p:Int):=by rw[<-hp,Int.natCast_mul]
    have a1:IntKind.u64.wrap ((q:Int)*(y2:Int))=(p:Int):=by rw[ac];exact IntWalk.u64_in _ I
    have ab:=oP r x2 ad a5;have az:r*4294967296+x2<18446744073709551616:=I;obtain⟨s,hs⟩:=χ (r*4294967296+x2);rw[hs]at ab az ht;have b3:decide (s<p)=false:=by simp;omega
    clear hs hp ac;have HT:=O ht;clear ht;go_wp2
    go_quiet (fail)
    clear au ad ar ab a1 az b3 Y;go_wp2
   all_goals
    clear w1 w2 t1 t2 cs cy cB cD av bt a5 ch a6
    go_loopw [9,10,86] (fun cv ce iv wr=>∃kk c b L,kk<=n/\iv=.int .i64 (kk:Nat)/\c<4294967296/\cv=.int .u64 (c:Nat)/\b<=1/\ce=.int .i64 (b:Nat)/\Own wr g m L/\MsI J vs o q kk c b L/\Tch g w wr)
     (fun _ _ iv _=>n-(intOf iv).toNat)
    case atStart=>exact⟨0,0,0,J,Nat.zero_le _,rfl,by omega,rfl,Nat.zero_le _,rfl,HO.o.drewN _,MsI.start HD.o _ _,(Tch.refl g w).drewN _⟩
    case round =>
     obtain⟨kk,c,b,L,c4,rfl,hc,rfl,hb,rfl,A,X,G⟩:=hrel;obtain⟨af,aa,a4⟩:=η3 A X G;by_cases b6:kk<n
     ·obtain⟨b',o',he,ag,b0,hy⟩:=(HV.o.touch G hg).cells I
      simp only[Option.some.injEq,Addr.mk.injEq,and_true]at he;obtain⟨rfl,rfl⟩:=he;have bc:=hy kk b6;have F:=A.cell (o+kk) I;have aw:=A.free (o+kk);have C:=X.2.2 (o+kk) I;rw[C]at F;have bu:J.getD (o+kk) 0<4294967296:=HD.o.getD _;have bd:vs.getD kk 0<4294967296:=HV.o.dg.getD _;obtain⟨u,hu⟩:=χ (J.getD (o+kk) 0);obtain⟨d,hd⟩:=χ (vs.getD kk 0);rw[hu]at F bu;rw[hd]at bc bd;have Y:=mf ay bd;obtain⟨pr,hp⟩:=χ (q*d);rw[hp]at Y;have ac:(q:Int)*(d:Int)=(pr:Int):=by rw[<-hp,Int.natCast_mul]
      have HE:Hid (∀(new b2:Nat) (nz:Int),(new:Int)=nz->new+(c+pr) % 4294967296+b=u+4294967296*b2->new<4294967296->b2<=1 ->
       ∃be c' b' bz,be<=n/\Value.int .i64 ((kk:Int)+1)=.int .i64 (be:Nat)/\c'<4294967296/\Value.int .u64 (((c:Int)+(pr:Int)) / 4294967296)=.int .u64 (c':Nat)/\b'<=1/\Value.int .i64 (b2:Int)=.int .i64 (b':Nat) /\
        Own (wr.setCell ⟨g,o+kk,none⟩ (.int .u32 nz)) g m bz/\MsI J vs o q be c' b' bz/\Tch g w (wr.setCell ⟨g,o+kk,none⟩ (.int .u32 nz))):=by
       intro new b2 nz b8 b7 cm cl;refine⟨kk+1,(c+pr) / 4294967296,b2,L.set (o+kk) new,by omega,rfl,by omega,by rfl,cl,rfl,af.o.stored _ _ _ b8.symm,?_,a4.o.set _ _⟩;refine aa.o.step (by rw[af.o.len];omega) (by rw[ao.o];exact b6) hu hd ?_ b7 cm;rw[hp];unfold B;omega
      have cV:=O Y;clear A X G hy C hu hd hp ag;by_cases a2:(u:Int)-b-((c:Int)+pr) % 4294967296<0
      ·go_wp2
       go_roundw
       case rel=>exact HE.o (u+4294967296-b-(c+pr) % 4294967296) 1 _ I I I I
       case measure=>simp[intOf];omega
      ·go_wp2
       go_roundw
       case rel=>exact HE.o (u-b-(c+pr) % 4294967296) 0 _ I I I I
       case measure=>simp[intOf];omega
     ·obtain rfl:kk=n:=I
      have F:=A.cell (o+kk) hm;have aw:=A.free (o+kk);have C:=X.2.2 (o+kk) I;rw[C,E0.o]at F;by_cases ba:c+b<=x0
      ·have hend:=ms_end X (by rw[A.len];exact hm) ao.o E0.o br.o bs.o bI.o HQ.o ba
       have H:=O hend;clear A X G C hend;go_wp2;go_ret;refine⟨L.set (o+kk) (x0-b-c),?_,af.o.stored _ _ _ I,aa.o.1.set _ _ (by unfold B;omega),H.o.2,fun j hj=>?_,a4.o.set _ _⟩
       ·rw[<-H.o.1];rfl
       ·rw[bY _ _ _ _ I];exact aa.o.2.2 j I
      ·have a2:(x0:Int)-b-c<0:=I
       have bk:=O (af.o.stored (o+kk) (x0+4294967296-b-c) (((x0:Int)-b-c) % 4294967296) I);have bf:=O (aa.o.1.set (o+kk) (x0+4294967296-b-c) (by unfold B;omega));have bm:=O (a4.o.set (o+kk) (.int .u32 (((x0:Int)-b-c) % 4294967296)));clear A X G C;have bi:=O ba;clear ba cr;go_wp2;clear F aw a2;obtain⟨W3,bV⟩:∃W3,W3=wr.setCell ⟨g,o+kk,none⟩ (.int .u32 (((x0:Int)-b-c) % 4294967296)):=⟨_,rfl⟩;rw[<-bV]at bk bm⊢;clear bV
       go_loopw [9,139] (fun ci iv wi=>∃j c3 es,j<=kk/\iv=.int .i64 (j:Nat)/\c3<=1/\ci=.int .u64 (c3:Nat)/\Own wi g m es/\AbI (L.set (o+kk) (x0+4294967296-b-c)) vs o j c3 es/\Tch g w wi) (fun _ iv _=>kk-(intOf iv).toNat)
       case atStart=>exact⟨0,0,_,Nat.zero_le _,rfl,Nat.zero_le _,rfl,bk.o,AbI.start bf.o _,bm.o⟩
       case round =>
        obtain⟨j,c3,es,hj,rfl,c0,rfl,A,W,G⟩:=hrel;obtain⟨bl,bg,bp⟩:=η3 A W G;by_cases b5:j<kk
        ·obtain⟨b',o',he,ag,b0,hy⟩:=(HV.o.touch G hg).cells I
         simp only[Option.some.injEq,Addr.mk.injEq,and_true]at he;obtain⟨rfl,rfl⟩:=he;have bc:=hy j b5;have F:=A.cell (o+j) I;have aw:=A.free (o+j);have C:=W.2.2 (o+j) I;rw[C]at F;have bu:(L.set (o+kk) (x0+4294967296-b-c)).getD (o+j) 0<4294967296:=bf.o.getD _;have bd:vs.getD j 0<4294967296:=HV.o.dg.getD _;obtain⟨u,hu⟩:=χ ((L.set (o+kk) (x0+4294967296-b-c)).getD (o+j) 0);obtain⟨d,hd⟩:=χ (vs.getD j 0);rw[hu]at F bu;rw[hd]at bc bd;have R:=O (W.step (by rw[A.len];omega) (by rw[ao.o];exact b5) hu hd (s:=c3+(u+d)) rfl);clear A W G hy C hu hd ag;go_wp2
         go_roundw
         case rel=>exact⟨j+1,(c3+(u+d)) / 4294967296,_,by omega,by go_num,by omega,by rfl,bl.o.stored _ _ _ (by rfl),R.o,bp.o.set _ _⟩
         case measure=>simp[intOf];omega
        ·obtain rfl:j=kk:=I
         have F:=A.cell (o+j) hm;have aw:=A.free (o+j);have C:=W.2.2 (o+j) I;rw[C,eP _ _ _ (by rw[af.o.len];exact hm)]at F;have hend:=ab_end aa.o ao.o HV.o.dg E0.o br.o bs.o bI.o cd.o (ψ bi.o) (by unfold B;omega) W (by rw[A.len];exact hm);have H:=O hend.2;have cp:=hend.1;obtain⟨d2,a7⟩:=χ (x0+4294967296-b-c);have cF:d2<4294967296:=by have:=bi.o;omega
         rw[a7]at F;have ca:=O a7;clear A W G C hend a7;go_wp2;go_ret;refine⟨es.set (o+j) ((d2+c3) % 4294967296),?_,bl.o.stored _ _ _ I,bg.o.1.set _ _ (by unfold B;omega),?_,fun i hi=>?_,bp.o.set _ _⟩
         ·have h5:=H.o.1
          show Ending.returned (.int .u32 _)=_;rw[<-h5];exact congrArg Ending.returned (kH I)
         ·have:=H.o.2
          unfold B at this;rw[ca.o]at this;exact this
         ·rw[bY _ _ _ _ I,bg.o.2.2 i I,bY _ _ _ _ I];exact aa.o.2.2 i I
end Go.Proofs.Υ
