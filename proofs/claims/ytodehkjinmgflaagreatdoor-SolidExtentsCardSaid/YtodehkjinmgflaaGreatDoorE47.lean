/- Lemmas. -/
import Derived.Test.YtodehkjinmgflaaGreatDoorE46
import Derived.Test.YtodehkjinmgflaaGreatDoorE18
set_option linter.all false
set_option maxHeartbeats 0
set_option maxRecDepth 99999
namespace Go.Proofs.Υ
open Go Go.RowKit Tryz
theorem DgS.src{base:Nat}{w:World}{a:Option Addr}{n c:Nat}{d:List Nat}(h:DgS base w (.slice a n c) d):jr w 1 a n (d.map fun(i:Nat)=>Value.int .i64 (i:Int)):=by
 obtain⟨G,H,e,h,-⟩:=h;injection e with e1 e2 e3
 subst e1;subst e2;refine⟨by simp,?_⟩
 cases a with
 | none=>exact .inl ⟨rfl,by have:=h.sl.nil rfl;have:=h.sl.le;omega⟩
 | some x =>
  right
  refine⟨x,rfl,fun j u A=>?_⟩;obtain⟨C,J,F⟩:=h.sl.at_ x rfl;have E:j<d.length:=by
   have:=(List.getElem?_eq_some_iff.1 A).1
   simpa using this
  have e:x.add j=⟨x.block,x.off+j,none⟩:=by
   obtain⟨b,o,s⟩:=x;simp only at C;subst C;simp[Addr.add]
  rw[e,F j I];simp[E]at A;simp[E,A]
theorem bH.len{w:World}{base n c:Nat}{a:Option Addr}{l:List Nat}(h:bH w base (.slice a n c) l):l.length=n:=by
 obtain⟨-,⟨e,A⟩|⟨g,j,u,e,-⟩⟩:=h
 ·rw[A];injection e with _ h5;exact h5.symm
 ·injection e with _ h5;exact h5.symm
theorem bH.cellN{w:World}{base g n c:Nat}{l:List Nat}(h:bH w base (.slice (some ⟨g,0,none⟩) n c) l){j:Nat}(e:j<l.length):w.cell? ⟨g,j,none⟩=some (.int .i64 ((l.getD j 0:Nat):Int))/\w.frozen? ⟨g,j,none⟩=false:=by
 have u:=h.len;subst u;refine⟨?_,World.ownsRow.frozenAt h j⟩;rw[World.ownsRow.cellAt h j I];simp[e]
theorem bH.setN{w:World}{base g n c:Nat}{l:List Nat}(h:bH w base (.slice (some ⟨g,0,none⟩) n c) l)(j x:Nat):bH (w.setCell ⟨g,j,none⟩ (.int .i64 (x:Int))) base (.slice (some ⟨g,0,none⟩) n c) (l.set j x):=by
 have u:=h.len;subst u;have e:=(World.ownsRow.stored h j (.int .i64 (x:Int))).1;unfold bH;rw[List.length_set,List.map_set];exact e
theorem DgS.set{base:Nat}{w:World}{v:Value}{d:List Nat}(h:DgS base w v d){p:Addr}(H:p.block<base)(u:Value):DgS base (w.setCell p u) v d:=by
 obtain⟨a,c,e,h,hb⟩:=h;refine⟨a,c,e,⟨⟨h.sl.le,h.sl.len,h.sl.nil,fun x j=>?_⟩,h.len⟩,hb⟩;obtain⟨E,F,G⟩:=h.sl.at_ x j;refine⟨E,by simpa using F,fun i hi=>?_⟩;rw[<-G i hi];refine World.cell?_setCell_other _ _ _ _ (fun A=>?_);have:=hb x j;have C:=congrArg Addr.block A;simp only at C;omega
theorem src_below{w w':World}{size m:Nat}{a:Option Addr}{news:List Value}(h:jr w size a m news)(F:∀x,a=some x->x.block<w.heap.size)(hb:Bl w w'):jr w' size a m news:=by
 refine⟨h.1,h.2.imp id ?_⟩;rintro⟨A,e,E⟩;refine⟨A,e,fun j u G=>?_⟩;have C:=F A e;rw[hb.cell (p:=A.add j) (by unfold Addr.add;split<;>exact C)];exact E j u G
theorem DgS.lt{base:Nat}{w:World}{a:Option Addr}{n c:Nat}{d:List Nat}(h:DgS base w (.slice a n c) d):∀x,a=some x->x.block<w.heap.size:=by
 obtain⟨u,A,e,h,-⟩:=h;injection e with e1
 subst e1;exact fun x j=>(h.sl.at_ x j).2.1
theorem mu(s:List UInt8):-1<=dr s/\dr s<=1:=by
 unfold dr
 split
 ·exact⟨by decide,by decide⟩
 ·split<;>exact⟨by decide,by decide⟩
theorem fe(b:Bool)(d:List Nat):0<(df b d).length:=by
 unfold df;by_cases h:dG d=[]
 ·rw[if_pos h];exact Nat.one_pos
 ·rw[if_neg h,List.length_append,List.length_map,List.length_reverse]
  have:=List.length_pos_iff.2 h;omega
theorem dU{l:List UInt8}(h:gR l):∀x∈dN l,x<=9:=fun x A=>by
 have j:=kN A;rw[List.mem_map]at j;obtain⟨b,hb,rfl⟩:=j;rw[List.mem_filter,List.mem_reverse]at hb;have:=h b hb.1;have u:b.toNat≠45:=fun e=>by
  have:b=45:=UInt8.toNat_inj.mp (e.trans rfl);rw[this]at hb;exact absurd hb.2 ν
 omega
theorem eS(l:List UInt8):(dN l).length<=l.length:=Nat.le_trans (jd _) (by
 rw[List.length_map];refine Nat.le_trans (List.length_filter_le _ _) ?_;rw[List.length_reverse];exact Nat.le_refl _)
theorem divL_cons{b a r X R:List Nat}{x:Nat}(h:divL b (x::a) r=some (X,R)):∃p t,divI b 11 (dG (x::r)) 0=some p/\divL b a p.1=some (t,R)/\X=t++[p.2]:=by
 unfold divL at h;rw[Option.bind_eq_some_iff]at h;obtain⟨p,j,e⟩:=h;rw[Option.map_eq_some_iff]at e;obtain⟨t,e,u⟩:=e;cases u;exact⟨p,t.1,j,e,rfl⟩
theorem divI_pos{b r:List Nat}{f q:Nat}{p:List Nat×Nat}(h:divI b f r q=some p):∃e,f=e+1/\(0<=gQ r b->divI b e (lO r b) (q+1)=some p)/\(¬ 0<=gQ r b->p=(r,q)):=by
 cases f with
 | zero=>cases h
 | succ f =>
  refine⟨f,rfl,fun h0=>?_,fun h0=>?_⟩
  ·unfold divI at h;rwa [if_pos h0]at h
  ·unfold divI at h;rw[if_neg h0]at h;exact(Option.some.inj h).symm
theorem orderD_le(a b:List Nat):-1<=gQ a b/\gQ a b<=1:=by
 have h:∀a b,-1<=kA a b/\kA a b<=1:=by
  intro a
  induction a with
  | nil=>intro b;exact⟨by cases b<;>(unfold kA;decide),by cases b<;>(unfold kA;decide)⟩
  | cons x a ih =>
   intro b
   cases b with
   | nil=>exact⟨by unfold kA;decide,by unfold kA;decide⟩
   | cons y b =>
    unfold kA
    split
    ·exact⟨by decide,by decide⟩
    ·split
     ·exact⟨by decide,by decide⟩
     ·exact ih b
 unfold gQ
 split
 ·exact⟨by decide,by decide⟩
 ·split
  ·exact⟨by decide,by decide⟩
  ·exact h _ _
theorem fM{b:Bool}{d:List Nat}(h:∀x∈d,x<=9):gR (df b d):=by
 unfold df;intro c hc
 split at hc
 ·rw[List.mem_singleton]at hc
  subst hc;exact .inr ν
 ·rcases List.mem_append.mp hc with hc|hc
  ·cases b with
   | false=>simp at hc
   | true =>
    simp at hc;subst hc;exact .inl ν
  ·rw[List.mem_map]at hc
   obtain⟨x,e,rfl⟩:=hc;have:=h x (kN (List.mem_reverse.mp e));rw[UInt8.toNat_ofNat'];omega
theorem jL{s t q r:List UInt8}(h:iP s t=some (q,r)):(gR q/\0<q.length/\q.length<=20)/\gR r/\0<r.length/\r.length<=20:=by
 unfold iP at h;rw[Option.bind_eq_some_iff]at h;obtain⟨⟨Q,R⟩,-,h⟩:=h
 split at h
 ·rename_i hc
  obtain⟨⟨e,j,u,A⟩,-⟩:=hc;cases h;exact⟨⟨fM e,fe _ _,u⟩,fM j,fe _ _,A⟩
 ·cases h
theorem mq(d:List Nat):(df false d).length<=d.length+1:=by
 unfold df
 split
 ·simp
 ·have:=jd d
  simp;omega
theorem mf(w:World){e:Array Oper}{rest:List Oper}{o:Oper}{a:Act}{Q:Exit->Act->World->Prop}(U:o.guard=none)(l c:Operand)(hop:o.op=Op.makeSlice 63 l c)(G F:IntKind)(L C:Int)(W:a.eval l=.int G L)(hc:a.eval c=.int F C)(n:Nat)(R:L=(n:Int))(J:C=(n:Int))(hn:n<=1000000)(hK:∀w',bH w' w.heap.size (.slice (some ⟨w.heap.size,0,none⟩) n n) (List.replicate n 0)->Bl w w'->wpList prog e Q rest (a.put o.dst (.slice (some ⟨w.heap.size,0,none⟩) n n)) w'):wpList prog e Q (o::rest) a w:=by
 obtain⟨Y,hi,j,u,A⟩:=info_parts sX;refine wpList_make_full w U l c 63 hop w.heap.size 3 Y (.int .i64 0) 1 underlying63 hi j u G F L C n W hc R J (by rw[A];omega) (by unfold maxLen;omega) ρ ?_;intro w' E H;refine hK w' ?_ ((Below.refl w.heap.size w).grown H ρ (fun k h=>by cases h));have X:(madeCells (Value.int .i64 0).cells (n*1)).toList=(List.replicate n 0).map fun(i:Nat)=>Value.int .i64 (i:Int):=by
  rw[Nat.mul_one];simp[Value.cells,toList_madeCells_one]
 rw[X]at E;unfold bH;rw[List.length_replicate];exact E
theorem tC{C:Array Oper}{rest:List Oper}{o:Oper}{a:Act}{Q:Exit->Act->World->Prop}{j:World}{c:Array Value}(G:o.guard=none)(s x:Operand)(X:o.op=.call { callee:=.builtin .append,args:=#[s,x],argTypes:=#[63,63] })(n:Nat)(hc:c=#[.int .i64 (n:Int)])(Y:a.eval s=.slice (some ⟨j.heap.size,0,none⟩) 1 1){base:Nat}{p:Option Addr}{m k:Nat}{d:List Nat}(hx:a.eval x=.slice p m k)(hD:DgS base j (.slice p m k) d)(hl:m<=1000000)(h:∀E w',bH w' j.heap.size E (n::d)->Bl j w'->wpList prog C Q rest (a.put o.dst E) w'):wpList prog C Q (o::rest) a (j.alloc (.cells c 3)):=by
 obtain⟨i0,A,J,L,R⟩:=info_parts sX;subst hc;have hb:Bl j (j.alloc (.cells #[.int .i64 (n:Int)] 3)):=β.alloc ρ _;have W:m=d.length:=by
  obtain⟨a',c',e,-⟩:=hD;injection e
 refine cH _ G s x 63 X j.heap.size 3 i0 (.int .i64 0) 1 8 underlying63 A J L R rfl ν _ 1 [.int .i64 (n:Int)] Y (World.ownsRow_lit _ _ 1 ρ (by unfold maxLen;omega) rfl) p m k _ hx (src_below hD.src hD.lt hb) (by intro u U;rw[List.mem_map]at U;obtain⟨_,-,rfl⟩:=U;rfl) (by unfold maxLen;omega) I (by simp) ?_;intro E w1 H F;refine h E w1 ?_ (hb.grown F (by simp) (fun g e=>by cases e;exact Nat.le_refl _));unfold bH;rw[List.length_cons,List.map_cons,<-W,Nat.add_comm];exact H
theorem kE(s t q r:List UInt8)(w:World)(hs:gR s)(ht:gR t)(c8:0<s.length)(ds:0<t.length)(de:s.length<=100)(du:t.length<=100)(h:iP s t=some (q,r)):
 Calls prog 146 #[.string ⟨s.toArray⟩,.string ⟨t.toArray⟩] w fun e w'=>e=.returned (.tuple #[.string ⟨q.toArray⟩,.string ⟨r.toArray⟩])/\Bl w w':=by
 unfold iP at h;rw[Option.bind_eq_some_iff]at h;obtain⟨⟨Qd,R⟩,az,L⟩:=h;obtain⟨an,ao,ar,au,a6,b0,bs,bu,bt⟩:=η9 (fun w=>fj s w I hs) (fun w=>fj t w I ht) (fun w=>iu s w c8) (fun w=>iu t w ds) az L (dU hs) (dU ht) (show(dN s).length<=100 from Nat.le_trans (eS s) de);have a3:=O (show(dN t).length<=100 from Nat.le_trans (eS t) du);obtain⟨A,hA⟩:=χ (dN s);obtain⟨D,hD⟩:=χ (dN t);rw[hA]at an a6 bs bt;rw[hD]at ao a6 bu a3;have eg:=bt.o;clear az L hs ht de du hA hD c8 ds;obtain⟨S,hS⟩:∃S:ByteArray,⟨s.toArray⟩=S:=⟨_,rfl⟩;obtain⟨T,hT⟩:∃T:ByteArray,⟨t.toArray⟩=T:=⟨_,rfl⟩;rw[hS]at an ar⊢;rw[hT]at ao au⊢;clear hS hT
 go_enter func146,ntmps146
 go_wp2_with fail
 refine(an.o _).mono ?_;rintro e w1 ⟨⟨v1,rfl,a1,c1,rfl,cD,-⟩,cn⟩;obtain⟨I1,L1⟩:=η2 cD cn;clear cD cn an
 go_wp2_with fail
 refine(ao.o _).mono ?_;rintro e w2 ⟨⟨v2,rfl,cs⟩,be⟩;obtain⟨D2,I2,L2⟩:=η3 (cs.mono (Nat.zero_le _)) (I1.o.below be) (ae L1.o be ρ);obtain⟨a2,c2,rfl,-⟩:=cs;clear be ao I1 L1
 go_wp2_with (at_make;refine mf _ rfl _ _ rfl _ _ _ _ rfl rfl A.length rfl rfl I ?_)
 intro w3 bp bf;obtain⟨u,cB⟩:∃g,w2.heap.size=g:=ξ;(try unfold Bl at bp);(try unfold Bl at bf);rw[cB]at bp bf⊢;obtain⟨O3,L3,ap⟩:=η3 bp bf cB;clear bp bf
 go_wp2_with fail
 go_loopw [8,10] (fun rv iv wr=>∃(k:Nat) (rl qs:List Nat),k<=A.length/\iv=.int .i64 ((k:Int)-1)/\Hid (DgS (u+1) wr rv rl/\rl.length<=A.length-k/\∀x∈rl,x<=9)/\Hid (bH wr u (.slice (some ⟨u,0,none⟩) A.length A.length) (List.replicate k 0++qs))/\Hid (∃X,divL D (A.take k).reverse rl=some (X,R)/\X++qs=Qd)/\Hid (Below u w2 wr)) (fun _ iv _=>(intOf iv+1).toNat)
 case atStart=>exact⟨A.length,[],[],Nat.le_refl _,rfl,⟨⟨none,0,rfl,⟨Sl.none _ _,rfl⟩,fun x hx=>by cases hx⟩,by simp,fun x hx=>by cases hx⟩,by show bH _ _ _ _;rw[List.append_nil];exact O3.o,⟨Qd,by rw[List.take_length];exact a6.o,List.append_nil _⟩,L3.o⟩
 case round =>
  clear O3 L3;obtain⟨k,rl,qs,hk,rfl,U,W,HX,HW⟩:=hrel;obtain⟨wk,rfl⟩:=φ wr;by_cases h0:k=0
  ·subst h0
   have em:¬ (0:Int)<=((0:Nat):Int)-1:=I;obtain⟨X,H,ad⟩:=HX.o;have d9:some (([]:List Nat),rl)=some (X,R):=H;cases d9;rw[List.replicate_zero,List.nil_append,show qs=Qd from ad]at W;have L:=b0.o
   split at L
   ·rename_i bl
    obtain⟨⟨ec,-⟩,af⟩:=bl;have aw:=Option.some.inj L;obtain⟨cc,cd,b6,b7⟩:=η4 (fun w b (h:DgS u w (.slice (some ⟨u,0,none⟩) A.length A.length) Qd)=>ir b u _ Qd w h (ψ W.o.len) ec) (fun w b v (h:DgS (u+1) w v R)=>ir b (u+1) v R w h (ψ U.o.2.1) U.o.2.2) (bH.dg W.o) U.o.1;obtain⟨sa,c9⟩:∃a,dr s=a:=ξ;obtain⟨sb,db⟩:∃b,dr t=b:=ξ;have da:=mu s;have dd:=mu t;rw[c9]at ar aw af da;rw[db]at au aw af dd;have cF:wrap64 (sa*sb)=sa*sb:=by
     obtain rfl|rfl|rfl:sa=-1\/sa=0\/sa=1:=I
     all_goals exact IntWalk.wrap64_in _ ⟨by omega,by omega⟩
    obtain⟨T1,bc⟩:∃l,df (decide (sa*sb<0)) Qd=l:=ξ;obtain⟨T2,ac⟩:∃l,df (decide (sa<0)) R=l:=ξ;rw[bc,ac]at aw;rw[ac]at af;cases aw;obtain⟨b5,d4⟩:=η2 bc ac;have c7:0<r.length:=by rw[<-ac];exact fe _ _
    obtain⟨ba,d5⟩:=η2 (fun w=>iu r w c7) af;obtain⟨sp,br⟩:=χ (sa*sb);rw[br]at cF b5;have d6:=O br;obtain⟨pr,cr,rfl,-⟩:=U.o.1;clear H ad HX L af bc ac U b0 c9 db c7
    go_wp2_with fail
    refine(ar.o _).mono ?_;rintro e w5 ⟨rfl,F⟩;rw[F];clear F w5
    go_wp2_with fail
    refine(au.o _).mono ?_;rintro e w5 ⟨rfl,F⟩;rw[F];clear F w5;have dk:=d6.o
    go_wp2_with fail
    clear dk br;refine(cc.o _ _ b6.o).mono ?_;rintro e w5 ⟨rfl,bi⟩;rw[b5.o];have cg:=O (ae (L2.o.trans (HW.o.mono (by have:=ap.o;have:=L2.o.size;omega))) bi ρ);have ay:=O (b7.o.below bi);clear bi cc b6 b7 HW W
    go_wp2_with fail
    refine(ar.o _).mono ?_;rintro e w6 ⟨rfl,dv⟩;rw[dv];clear dv w6
    go_wp2_with fail
    refine(cd.o _ _ _ ay.o).mono ?_;rintro e w6 ⟨rfl,J⟩;rw[d4.o];have G:=O (ae cg.o J ρ);clear J cd ay cg;obtain⟨RS,ab⟩:∃RS:ByteArray,⟨r.toArray⟩=RS:=⟨_,rfl⟩;have av:RS.toList=r:=by rw[<-ab,ByteArray.toList_mk]
    rw[ab]at ba;rw[ab];have b9:=O ab;clear ab;by_cases E:r=[48]
    ·have hE:(RS.toList == [48])=true:=by rw[av,E];rfl
     clear av;clear E
     go_wp2_with fail
     refine bodyPost_ret (results_tmp2 results146 _ _ _) rfl ?_;exact⟨by rw[b9.o];rfl,G.o⟩
    ·have hE:(RS.toList == [48])=false:=by rw[av,beq_eq_false_iff_ne];exact E
     rw[d5.o.resolve_left E]at ba;clear av E
     go_wp2_with fail
     refine(ba.o _).mono ?_;rintro e w7 ⟨rfl,ag⟩;rw[ag];clear ag w7
     go_wp2_with fail
     refine(au.o _).mono ?_;rintro e w7 ⟨rfl,ag⟩;rw[ag];clear ag w7
     go_wp2_with fail
     refine bodyPost_ret (results_tmp2 results146 _ _ _) rfl ?_;exact⟨by rw[b9.o];rfl,G.o⟩
   ·cases L
  ·obtain⟨j,rfl⟩:∃j,k=j+1:=⟨k-1,by omega⟩
   have ek:(0:Int)<=((j+1:Nat):Int)-1:=I;have hj:j<A.length:=I;obtain⟨b,off,rfl,hb,hc,cp⟩:=(I2.o.below (show Below _ _ _ from ap.o▸HW.o)).digit hj;have eb:=cp j hj;have dx:=kY bs.o j;obtain⟨X,H,ad⟩:=HX.o;rw[iW hj]at H;obtain⟨x,hx⟩:=χ (A.getD j 0);rw[hx]at eb dx H;obtain⟨⟨pr,pq⟩,tt,c3,c4,c5⟩:=divL_cons H;have b4:=O c3;have d0:=O (show ∃X,divL D (A.take j).reverse pr=some (X,R)/\X++(pq::qs)=Qd from⟨tt,c4,by rw[<-ad,c5,List.append_assoc];rfl⟩);obtain⟨d8,cl,cm⟩:=U.o;obtain⟨pa,pc,rfl,ci⟩:=d8;have ed:rl.length<=1000000:=I;have dy:=O (show ∀y∈x::rl,y<=9 from fun y hy=>by
    rcases List.mem_cons.mp hy with rfl|hy
    ·exact dx
    ·exact cm y hy)
   have b8:=O cl;clear cp hx H ad c3 c4 c5 h0 hc ci cl cm HX
   go_wp2_with (at_builtin;refine tC rfl _ _ rfl x rfl rfl rfl U.o.1 ed ?_)
   intro v4 w4 cU bg;have ce:=O (HW.o.trans (bg.mono (by have:=HW.o.size;have:=W.o.lt _ rfl;omega)));have b3:=O (show bH w4 u _ _ from aF W.o bg);have bv:=O ((bH.dg cU).mono (show u+1<=wk.heap.size from by have:=W.o.lt _ rfl;omega));clear cU bg U HW W
   go_wp2_with fail
   refine(lg _ _ _ _ bv.o (by rw[List.length_cons];have:=b8.o;omega)).mono ?_;rintro e w5 ⟨⟨v5,rfl,cu⟩,F⟩;rw[F];have bz:=O cu;clear F w5 cu bv
   go_wp2_with fail
   go_loopg [8] 11 (fun f rv wr=>∃(C:List Nat) (n:Nat),n+f=11/\Hid (DgS (u+1) wr rv C/\C.length<=A.length-j/\∀x∈C,x<=9)/\Hid (bH wr u (.slice (some ⟨u,0,none⟩) A.length A.length) (List.replicate j 0++n::qs))/\Hid (divI D f C n=some (pr,pq))/\Hid (Below u w2 wr))
   case atStart=>exact⟨_,0,rfl,⟨bz.o,by have h1:=jd (x::rl);have h2:=b8.o;rw[List.length_cons]at h1;omega,fun y hy=>dy.o y (kN hy)⟩,by show bH _ _ _ _;have h:=b3.o;rw[List.replicate_succ',List.append_assoc]at h;exact h,b4.o,ce.o⟩
   case round =>
    clear ce b3 bz b4;obtain⟨C,n,el,U,W,HV,HW⟩:=hrel;obtain⟨wj,rfl⟩:=φ wr;obtain⟨f',rfl,bm,Q⟩:=divI_pos HV.o;have a4:=O U.o.1;obtain⟨p6,c6,rfl,-⟩:=U.o.1;have c0:=orderD_le C D;obtain⟨a7,a0⟩:=η2 U.o.2.1 U.o.2.2;have ef:C.length<=100:=by have:=a7.o;omega
    have a9:=O (dorder_any _ _ _ _ C D wj a4.o (D2.o.below (show Below _ _ _ from ap.o▸HW.o)) I (ψ a3.o));obtain⟨od,cV⟩:=χ (gQ C D);rw[cV]at a9 bm Q c0;obtain⟨bV,aa⟩:=η2 bm Q;clear bm Q cV U HV
    go_wp2_with fail
    refine a9.o.mono ?_;rintro e w6 ⟨rfl,J⟩;have G:=O (HW.o.trans (J.mono (by have:=W.o.lt _ rfl;omega)));obtain⟨Y,a5⟩:=η2 (show bH w6 u _ _ from aF W.o J) (a4.o.below J);clear J a9 HW W a4;by_cases ho:0<=od
    ·have dz:=O (bV.o ho)
     clear bV aa
     go_wp2_with fail
     refine(dminus_any _ _ _ _ C D w6 a5.o (D2.o.below (show Below _ _ _ from ap.o▸G.o)) I (ψ a3.o) a0.o bu.o).mono ?_;rintro e w7 ⟨⟨v7,rfl,cv⟩,bk⟩;have ch:=O (G.o.trans (bk.mono (by have:=Y.o.lt _ rfl;omega)));have a8:=O (show bH w7 u _ _ from aF Y.o bk);have bF:=O (cv.mono (show u+1<=w6.heap.size from by have:=Y.o.lt _ rfl;omega));clear cv bk G Y a5;have cq:=a8.o.cellN (j:=j) (by rw[List.length_append,List.length_replicate,List.length_cons];omega);have cy:(List.replicate j 0++n::qs).getD j 0=n:=by simp
     have dl:(List.replicate j 0++n::qs).set j (n+1)=List.replicate j 0++(n+1)::qs:=by simp
     rw[cy]at cq;obtain⟨ei,ej⟩:=cq;have ca:=O dl;clear cy dl;have dB:=O (show bH (w7.setCell ⟨u,j,none⟩ (.int .i64 ((n:Int)+1))) u (.slice (some ⟨u,0,none⟩) A.length A.length) (List.replicate j 0++(n+1)::qs)from by rw[<-ca.o];exact a8.o.setN j (n+1));have bI:=O (bF.o.set (p:=⟨u,j,none⟩) (show u<u+1 by omega) (.int .i64 ((n:Int)+1)));obtain⟨d7,dA⟩:=η2 (ch.o.setCell (p:=⟨u,j,none⟩) ρ (.int .i64 ((n:Int)+1))) (show(lO C D).length<=A.length-j from Nat.le_trans (minusD_len _ _) a7.o);have ee:n<=11:=I;clear a8 bF ch
     go_wp2_with fail
     go_roundg f'
     case measure=>omega
     case rel=>exact⟨_,n+1,by omega,⟨bI.o,dA.o,minusD_nine a0.o⟩,dB.o,dz.o,d7.o⟩
    ·have dm:=aa.o I
     cases dm
     go_wp2_with fail
     go_round
     case rel=>exact⟨j,_,_,by omega,rfl,⟨a5.o,a7.o,a0.o⟩,Y.o,d0.o,G.o⟩
     case measure=>simp[intOf]
end Go.Proofs.Υ
