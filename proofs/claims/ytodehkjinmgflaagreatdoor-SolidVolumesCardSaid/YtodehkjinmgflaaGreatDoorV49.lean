/- Lemmas. -/
import Derived.Test.YtodehkjinmgflaaGreatDoorV48
import Derived.Test.YtodehkjinmgflaaGreatDoorV18
set_option linter.all false
set_option maxHeartbeats 0
set_option maxRecDepth 99999
namespace Go.Proofs.Υ
open Go Go.RowKit Tryz
theorem DgS.src{base:Nat}{w:World}{a:Option Addr}{n c:Nat}{d:List Nat}(h:DgS base w (.slice a n c) d):jj w 1 a n (d.map fun(i:Nat)=>Value.int .i64 (i:Int)):=by
 obtain⟨G,H,e,h,-⟩:=h;injection e with e1 e2 e3
 subst e1;subst e2;refine⟨by simp,?_⟩
 cases a with
 | none=>exact .inl ⟨rfl,by have:=h.sl.nil rfl;have:=h.sl.le;omega⟩
 | some x =>
  right
  refine⟨x,rfl,fun j u A=>?_⟩;obtain⟨C,J,F⟩:=h.sl.at_ x rfl;have E:j<d.length:=by
   have:=(List.getElem?_eq_some_iff.1 A).1
   simpa using this
  have e:x.add j=⟨x.block,x.off+j,none⟩:=by
   obtain⟨b,o,s⟩:=x;simp only at C;subst C;simp[Addr.add]
  rw[e,F j I];simp[E]at A;simp[E,A]
theorem bo.len{w:World}{base n c:Nat}{a:Option Addr}{l:List Nat}(h:bo w base (.slice a n c) l):l.length=n:=by
 obtain⟨-,⟨e,u⟩|⟨g,i,j,e,-⟩⟩:=h
 ·rw[u];injection e with _ h5;exact h5.symm
 ·injection e with _ h5;exact h5.symm
theorem bo.cellN{w:World}{base g n c:Nat}{l:List Nat}(h:bo w base (.slice (some ⟨g,0,none⟩) n c) l){j:Nat}(e:j<l.length):w.cell? ⟨g,j,none⟩=some (.int .i64 ((l.getD j 0:Nat):Int))/\w.frozen? ⟨g,j,none⟩=false:=by
 have i:=h.len;subst i;refine⟨?_,World.ownsRow.frozenAt h j⟩;rw[World.ownsRow.cellAt h j I];simp[e]
theorem bo.setN{w:World}{base g n c:Nat}{l:List Nat}(h:bo w base (.slice (some ⟨g,0,none⟩) n c) l)(j x:Nat):bo (w.setCell ⟨g,j,none⟩ (.int .i64 (x:Int))) base (.slice (some ⟨g,0,none⟩) n c) (l.set j x):=by
 have i:=h.len;subst i;have e:=(World.ownsRow.stored h j (.int .i64 (x:Int))).1;unfold bo;rw[List.length_set,List.map_set];exact e
theorem DgS.set{base:Nat}{w:World}{v:Value}{d:List Nat}(h:DgS base w v d){p:Addr}(H:p.block<base)(u:Value):DgS base (w.setCell p u) v d:=by
 obtain⟨a,c,e,h,hb⟩:=h;refine⟨a,c,e,⟨⟨h.sl.le,h.sl.len,h.sl.nil,fun x j=>?_⟩,h.len⟩,hb⟩;obtain⟨E,F,G⟩:=h.sl.at_ x j;refine⟨E,by simpa using F,fun i hi=>?_⟩;rw[<-G i hi];refine World.cell?_setCell_other _ _ _ _ (fun A=>?_);have:=hb x j;have C:=congrArg Addr.block A;simp only at C;omega
theorem src_below{w w':World}{size m:Nat}{a:Option Addr}{news:List Value}(h:jj w size a m news)(E:∀x,a=some x->x.block<w.heap.size)(hb:Bl w w'):jj w' size a m news:=by
 refine⟨h.1,h.2.imp id ?_⟩;rintro⟨i,e,C⟩;refine⟨i,e,fun j u F=>?_⟩;have A:=E i e;rw[hb.cell (p:=i.add j) (by unfold Addr.add;split<;>exact A)];exact C j u F
theorem DgS.lt{base:Nat}{w:World}{a:Option Addr}{n c:Nat}{d:List Nat}(h:DgS base w (.slice a n c) d):∀x,a=some x->x.block<w.heap.size:=by
 obtain⟨j,u,e,h,-⟩:=h;injection e with e1
 subst e1;exact fun x i=>(h.sl.at_ x i).2.1
theorem l7(s:List UInt8):-1<=dD s/\dD s<=1:=by
 unfold dD
 split
 ·exact⟨by decide,by decide⟩
 ·split<;>exact⟨by decide,by decide⟩
theorem fe(b:Bool)(d:List Nat):0<(df b d).length:=by
 unfold df;by_cases h:dH d=[]
 ·rw[if_pos h];exact Nat.one_pos
 ·rw[if_neg h,List.length_append,List.length_map,List.length_reverse]
  have:=List.length_pos_iff.2 h;omega
theorem dR{l:List UInt8}(h:gQ l):∀x∈dO l,x<=9:=fun x u=>by
 have i:=ku u;rw[List.mem_map]at i;obtain⟨b,hb,rfl⟩:=i;rw[List.mem_filter,List.mem_reverse]at hb;have:=h b hb.1;have j:b.toNat≠45:=fun e=>by
  have:b=45:=UInt8.toNat_inj.mp (e.trans rfl);rw[this]at hb;exact absurd hb.2 ν
 omega
theorem eQ(l:List UInt8):(dO l).length<=l.length:=Nat.le_trans (iV _) (by
 rw[List.length_map];refine Nat.le_trans (List.length_filter_le _ _) ?_;rw[List.length_reverse];exact Nat.le_refl _)
theorem divL_cons{b a r X R:List Nat}{x:Nat}(h:divL b (x::a) r=some (X,R)):∃p t,divI b 11 (dH (x::r)) 0=some p/\divL b a p.1=some (t,R)/\X=t++[p.2]:=by
 unfold divL at h;rw[Option.bind_eq_some_iff]at h;obtain⟨p,i,e⟩:=h;rw[Option.map_eq_some_iff]at e;obtain⟨t,e,j⟩:=e;cases j;exact⟨p,t.1,i,e,rfl⟩
theorem divI_pos{b r:List Nat}{f q:Nat}{p:List Nat×Nat}(h:divI b f r q=some p):∃e,f=e+1/\(0<=gP r b->divI b e (lD r b) (q+1)=some p)/\(¬ 0<=gP r b->p=(r,q)):=by
 cases f with
 | zero=>cases h
 | succ f =>
  refine⟨f,rfl,fun h0=>?_,fun h0=>?_⟩
  ·unfold divI at h;rwa [if_pos h0]at h
  ·unfold divI at h;rw[if_neg h0]at h;exact(Option.some.inj h).symm
theorem orderD_le(a b:List Nat):-1<=gP a b/\gP a b<=1:=by
 have h:∀a b,-1<=j7 a b/\j7 a b<=1:=by
  intro a
  induction a with
  | nil=>intro b;exact⟨by cases b<;>(unfold j7;decide),by cases b<;>(unfold j7;decide)⟩
  | cons x a ih =>
   intro b
   cases b with
   | nil=>exact⟨by unfold j7;decide,by unfold j7;decide⟩
   | cons y b =>
    unfold j7
    split
    ·exact⟨by decide,by decide⟩
    ·split
     ·exact⟨by decide,by decide⟩
     ·exact ih b
 unfold gP
 split
 ·exact⟨by decide,by decide⟩
 ·split
  ·exact⟨by decide,by decide⟩
  ·exact h _ _
theorem fK{b:Bool}{d:List Nat}(h:∀x∈d,x<=9):gQ (df b d):=by
 unfold df;intro c hc
 split at hc
 ·rw[List.mem_singleton]at hc
  subst hc;exact .inr ν
 ·rcases List.mem_append.mp hc with hc|hc
  ·cases b with
   | false=>simp at hc
   | true =>
    simp at hc;subst hc;exact .inl ν
  ·rw[List.mem_map]at hc
   obtain⟨x,e,rfl⟩:=hc;have:=h x (ku (List.mem_reverse.mp e));rw[UInt8.toNat_ofNat'];omega
theorem jD{s t q r:List UInt8}(h:iI s t=some (q,r)):(gQ q/\0<q.length/\q.length<=20)/\gQ r/\0<r.length/\r.length<=20:=by
 unfold iI at h;rw[Option.bind_eq_some_iff]at h;obtain⟨⟨Q,R⟩,-,h⟩:=h
 split at h
 ·rename_i hc
  obtain⟨⟨e,i,j,u⟩,-⟩:=hc;cases h;exact⟨⟨fK e,fe _ _,j⟩,fK i,fe _ _,u⟩
 ·cases h
theorem lY(d:List Nat):(df false d).length<=d.length+1:=by
 unfold df
 split
 ·simp
 ·have:=iV d
  simp;omega
theorem lT(w:World){e:Array Oper}{rest:List Oper}{o:Oper}{a:Act}{Q:Exit->Act->World->Prop}(U:o.guard=none)(l c:Operand)(hop:o.op=Op.makeSlice 63 l c)(G F:IntKind)(L C:Int)(W:a.eval l=.int G L)(hc:a.eval c=.int F C)(n:Nat)(R:L=(n:Int))(J:C=(n:Int))(hn:n<=1000000)(hK:∀w',bo w' w.heap.size (.slice (some ⟨w.heap.size,0,none⟩) n n) (List.replicate n 0)->Bl w w'->wpList prog e Q rest (a.put o.dst (.slice (some ⟨w.heap.size,0,none⟩) n n)) w'):wpList prog e Q (o::rest) a w:=by
 obtain⟨Y,hi,j,u,A⟩:=info_parts sF;refine wpList_make_full w U l c 63 hop w.heap.size 3 Y (.int .i64 0) 1 underlying63 hi j u G F L C n W hc R J (by rw[A];omega) (by unfold maxLen;omega) ρ ?_;intro w' E H;refine hK w' ?_ ((Below.refl w.heap.size w).grown H ρ (fun k h=>by cases h));have X:(madeCells (Value.int .i64 0).cells (n*1)).toList=(List.replicate n 0).map fun(i:Nat)=>Value.int .i64 (i:Int):=by
  rw[Nat.mul_one];simp[Value.cells,toList_madeCells_one]
 rw[X]at E;unfold bo;rw[List.length_replicate];exact E
theorem s8{A:Array Oper}{rest:List Oper}{o:Oper}{a:Act}{Q:Exit->Act->World->Prop}{i:World}{c:Array Value}(F:o.guard=none)(s x:Operand)(W:o.op=.call { callee:=.builtin .append,args:=#[s,x],argTypes:=#[63,63] })(n:Nat)(hc:c=#[.int .i64 (n:Int)])(X:a.eval s=.slice (some ⟨i.heap.size,0,none⟩) 1 1){base:Nat}{p:Option Addr}{m k:Nat}{d:List Nat}(Y:a.eval x=.slice p m k)(hD:DgS base i (.slice p m k) d)(hl:m<=1000000)(h:∀C w',bo w' i.heap.size C (n::d)->Bl i w'->wpList prog A Q rest (a.put o.dst C) w'):wpList prog A Q (o::rest) a (i.alloc (.cells c 3)):=by
 obtain⟨i0,j,H,J,L⟩:=info_parts sF;subst hc;have hb:Bl i (i.alloc (.cells #[.int .i64 (n:Int)] 3)):=β.alloc ρ _;have U:m=d.length:=by
  obtain⟨a',c',e,-⟩:=hD;injection e
 refine cH _ F s x 63 W i.heap.size 3 i0 (.int .i64 0) 1 8 underlying63 j H J L rfl ν _ 1 [.int .i64 (n:Int)] X (World.ownsRow_lit _ _ 1 ρ (by unfold maxLen;omega) rfl) p m k _ Y (src_below hD.src hD.lt hb) (by intro u R;rw[List.mem_map]at R;obtain⟨_,-,rfl⟩:=R;rfl) (by unfold maxLen;omega) I (by simp) ?_;intro C w1 G E;refine h C w1 ?_ (hb.grown E (by simp) (fun g e=>by cases e;exact Nat.le_refl _));unfold bo;rw[List.length_cons,List.map_cons,<-U,Nat.add_comm];exact G
theorem kg(s t q r:List UInt8)(w:World)(hs:gQ s)(ht:gQ t)(c7:0<s.length)(dm:0<t.length)(dd:s.length<=100)(ds:t.length<=100)(h:iI s t=some (q,r)):
 Calls prog 146 #[.string ⟨s.toArray⟩,.string ⟨t.toArray⟩] w fun e w'=>e=.returned (.tuple #[.string ⟨q.toArray⟩,.string ⟨r.toArray⟩])/\Bl w w':=by
 unfold iI at h;rw[Option.bind_eq_some_iff]at h;obtain⟨⟨Qd,R⟩,ay,J⟩:=h;obtain⟨ag,an,ap,ar,a5,bV,br,bt,bs⟩:=η9 (fun w=>fk s w I hs) (fun w=>fk t w I ht) (fun w=>ik s w c7) (fun w=>ik t w dm) ay J (dR hs) (dR ht) (show(dO s).length<=100 from Nat.le_trans (eQ s) dd);have a0:=O (show(dO t).length<=100 from Nat.le_trans (eQ t) ds);obtain⟨A,hA⟩:=χ (dO s);obtain⟨D,hD⟩:=χ (dO t);rw[hA]at ag a5 br bs;rw[hD]at an a5 bt a0;have ef:=bs.o;clear ay J hs ht dd ds hA hD c7 dm;obtain⟨S,hS⟩:∃S:ByteArray,⟨s.toArray⟩=S:=⟨_,rfl⟩;obtain⟨T,hT⟩:∃T:ByteArray,⟨t.toArray⟩=T:=⟨_,rfl⟩;rw[hS]at ag ap⊢;rw[hT]at an ar⊢;clear hS hT
 go_enter func146,ntmps146
 go_wp2_with fail
 refine(ag.o _).mono ?_;rintro e w1 ⟨⟨v1,rfl,a1,c1,rfl,cB,-⟩,cm⟩;obtain⟨I1,L1⟩:=η2 cB cm;clear cB cm ag
 go_wp2_with fail
 refine(an.o _).mono ?_;rintro e w2 ⟨⟨v2,rfl,cq⟩,bc⟩;obtain⟨D2,I2,L2⟩:=η3 (cq.mono (Nat.zero_le _)) (I1.o.below bc) (ae L1.o bc ρ);obtain⟨a2,c2,rfl,-⟩:=cq;clear bc an I1 L1
 go_wp2_with (at_make;refine lT _ rfl _ _ rfl _ _ _ _ rfl rfl A.length rfl rfl I ?_)
 intro w3 bm be;obtain⟨i,cy⟩:∃g,w2.heap.size=g:=ξ;(try unfold Bl at bm);(try unfold Bl at be);rw[cy]at bm be⊢;obtain⟨O3,L3,ao⟩:=η3 bm be cy;clear bm be
 go_wp2_with fail
 go_loopw [8,10] (fun rv iv wr=>∃(k:Nat) (rl qs:List Nat),k<=A.length/\iv=.int .i64 ((k:Int)-1)/\Hid (DgS (i+1) wr rv rl/\rl.length<=A.length-k/\∀x∈rl,x<=9)/\Hid (bo wr i (.slice (some ⟨i,0,none⟩) A.length A.length) (List.replicate k 0++qs))/\Hid (∃X,divL D (A.take k).reverse rl=some (X,R)/\X++qs=Qd)/\Hid (Below i w2 wr)) (fun _ iv _=>(intOf iv+1).toNat)
 case atStart=>exact⟨A.length,[],[],Nat.le_refl _,rfl,⟨⟨none,0,rfl,⟨Sl.none _ _,rfl⟩,fun x hx=>by cases hx⟩,by simp,fun x hx=>by cases hx⟩,by show bo _ _ _ _;rw[List.append_nil];exact O3.o,⟨Qd,by rw[List.take_length];exact a5.o,List.append_nil _⟩,L3.o⟩
 case round =>
  clear O3 L3;obtain⟨k,rl,qs,hk,rfl,Q,U,HX,HW⟩:=hrel;obtain⟨wk,rfl⟩:=φ wr;by_cases h0:k=0
  ·subst h0
   have el:¬ (0:Int)<=((0:Nat):Int)-1:=I;obtain⟨X,G,ac⟩:=HX.o;have d8:some (([]:List Nat),rl)=some (X,R):=G;cases d8;rw[List.replicate_zero,List.nil_append,show qs=Qd from ac]at U;have J:=bV.o
   split at J
   ·rename_i bk
    obtain⟨⟨eb,-⟩,ad⟩:=bk;have av:=Option.some.inj J;obtain⟨ca,cc,b5,b6⟩:=η4 (fun w b (h:DgS i w (.slice (some ⟨i,0,none⟩) A.length A.length) Qd)=>ij b i _ Qd w h (ψ U.o.len) eb) (fun w b v (h:DgS (i+1) w v R)=>ij b (i+1) v R w h (ψ Q.o.2.1) Q.o.2.2) (bo.dg U.o) Q.o.1;obtain⟨sa,c8⟩:∃a,dD s=a:=ξ;obtain⟨sb,da⟩:∃b,dD t=b:=ξ;have c9:=l7 s;have db:=l7 t;rw[c8]at ap av ad c9;rw[da]at ar av ad db;have cD:wrap64 (sa*sb)=sa*sb:=by
     obtain rfl|rfl|rfl:sa=-1\/sa=0\/sa=1:=I
     all_goals exact IntWalk.wrap64_in _ ⟨by omega,by omega⟩
    obtain⟨T1,ba⟩:∃l,df (decide (sa*sb<0)) Qd=l:=ξ;obtain⟨T2,ab⟩:∃l,df (decide (sa<0)) R=l:=ξ;rw[ba,ab]at av;rw[ab]at ad;cases av;obtain⟨b4,d0⟩:=η2 ba ab;have c5:0<r.length:=by rw[<-ab];exact fe _ _
    obtain⟨a9,d4⟩:=η2 (fun w=>ik r w c5) ad;obtain⟨sp,bp⟩:=χ (sa*sb);rw[bp]at cD b4;have d5:=O bp;obtain⟨pr,cr,rfl,-⟩:=Q.o.1;clear G ac HX J ad ba ab Q bV c8 da c5
    go_wp2_with fail
    refine(ap.o _).mono ?_;rintro e w5 ⟨rfl,E⟩;rw[E];clear E w5
    go_wp2_with fail
    refine(ar.o _).mono ?_;rintro e w5 ⟨rfl,E⟩;rw[E];clear E w5;have de:=d5.o
    go_wp2_with fail
    clear de bp;refine(ca.o _ _ b5.o).mono ?_;rintro e w5 ⟨rfl,bg⟩;rw[b4.o];have ce:=O (ae (L2.o.trans (HW.o.mono (by have:=ao.o;have:=L2.o.size;omega))) bg ρ);have aw:=O (b6.o.below bg);clear bg ca b5 b6 HW U
    go_wp2_with fail
    refine(ap.o _).mono ?_;rintro e w6 ⟨rfl,du⟩;rw[du];clear du w6
    go_wp2_with fail
    refine(cc.o _ _ _ aw.o).mono ?_;rintro e w6 ⟨rfl,H⟩;rw[d0.o];have F:=O (ae ce.o H ρ);clear H cc aw ce;obtain⟨RS,aa⟩:∃RS:ByteArray,⟨r.toArray⟩=RS:=⟨_,rfl⟩;have au:RS.toList=r:=by rw[<-aa,ByteArray.toList_mk]
    rw[aa]at a9;rw[aa];have b8:=O aa;clear aa;by_cases C:r=[48]
    ·have hE:(RS.toList == [48])=true:=by rw[au,C];rfl
     clear au;clear C
     go_wp2_with fail
     refine bodyPost_ret (results_tmp2 results146 _ _ _) rfl ?_;exact⟨by rw[b8.o];rfl,F.o⟩
    ·have hE:(RS.toList == [48])=false:=by rw[au,beq_eq_false_iff_ne];exact C
     rw[d4.o.resolve_left C]at a9;clear au C
     go_wp2_with fail
     refine(a9.o _).mono ?_;rintro e w7 ⟨rfl,af⟩;rw[af];clear af w7
     go_wp2_with fail
     refine(ar.o _).mono ?_;rintro e w7 ⟨rfl,af⟩;rw[af];clear af w7
     go_wp2_with fail
     refine bodyPost_ret (results_tmp2 results146 _ _ _) rfl ?_;exact⟨by rw[b8.o];rfl,F.o⟩
   ·cases J
  ·obtain⟨j,rfl⟩:∃j,k=j+1:=⟨k-1,by omega⟩
   have ej:(0:Int)<=((j+1:Nat):Int)-1:=I;have hj:j<A.length:=I;obtain⟨b,off,rfl,hb,hc,cn⟩:=(I2.o.below (show Below _ _ _ from ao.o▸HW.o)).digit hj;have d9:=cn j hj;have dv:=kK br.o j;obtain⟨X,G,ac⟩:=HX.o;rw[iQ hj]at G;obtain⟨x,hx⟩:=χ (A.getD j 0);rw[hx]at d9 dv G;obtain⟨⟨pr,pq⟩,tt,c0,c3,c4⟩:=divL_cons G;have b3:=O c0;have dB:=O (show ∃X,divL D (A.take j).reverse pr=some (X,R)/\X++(pq::qs)=Qd from⟨tt,c3,by rw[<-ac,c4,List.append_assoc];rfl⟩);obtain⟨d7,ci,cl⟩:=Q.o;obtain⟨pa,pc,rfl,ch⟩:=d7;have ec:rl.length<=1000000:=I;have dx:=O (show ∀y∈x::rl,y<=9 from fun y hy=>by
    rcases List.mem_cons.mp hy with rfl|hy
    ·exact dv
    ·exact cl y hy)
   have b7:=O ci;clear cn hx G ac c0 c3 c4 h0 hc ch ci cl HX
   go_wp2_with (at_builtin;refine s8 rfl _ _ rfl x rfl rfl rfl Q.o.1 ec ?_)
   intro v4 w4 cF bf;have cd:=O (HW.o.trans (bf.mono (by have:=HW.o.size;have:=U.o.lt _ rfl;omega)));have b0:=O (show bo w4 i _ _ from aC U.o bf);have bu:=O ((bo.dg cF).mono (show i+1<=wk.heap.size from by have:=U.o.lt _ rfl;omega));clear cF bf Q HW U
   go_wp2_with fail
   refine(kO _ _ _ _ bu.o (by rw[List.length_cons];have:=b7.o;omega)).mono ?_;rintro e w5 ⟨⟨v5,rfl,cs⟩,E⟩;rw[E];have bv:=O cs;clear E w5 cs bu
   go_wp2_with fail
   go_loopg [8] 11 (fun f rv wr=>∃(u:List Nat) (n:Nat),n+f=11/\Hid (DgS (i+1) wr rv u/\u.length<=A.length-j/\∀x∈u,x<=9)/\Hid (bo wr i (.slice (some ⟨i,0,none⟩) A.length A.length) (List.replicate j 0++n::qs))/\Hid (divI D f u n=some (pr,pq))/\Hid (Below i w2 wr))
   case atStart=>exact⟨_,0,rfl,⟨bv.o,by have h1:=iV (x::rl);have h2:=b7.o;rw[List.length_cons]at h1;omega,fun y hy=>dx.o y (ku hy)⟩,by show bo _ _ _ _;have h:=b0.o;rw[List.replicate_succ',List.append_assoc]at h;exact h,b3.o,cd.o⟩
   case round =>
    clear cd b0 bv b3;obtain⟨u,n,ek,Q,U,HV,HW⟩:=hrel;obtain⟨wj,rfl⟩:=φ wr;obtain⟨f',rfl,bl,L⟩:=divI_pos HV.o;have a3:=O Q.o.1;obtain⟨p6,c6,rfl,-⟩:=Q.o.1;have cV:=orderD_le u D;obtain⟨a6,az⟩:=η2 Q.o.2.1 Q.o.2.2;have ee:u.length<=100:=by have:=a6.o;omega
    have a8:=O (dorder_any _ _ _ _ u D wj a3.o (D2.o.below (show Below _ _ _ from ao.o▸HW.o)) I (ψ a0.o));obtain⟨od,cU⟩:=χ (gP u D);rw[cU]at a8 bl L cV;obtain⟨bI,Y⟩:=η2 bl L;clear bl L cU Q HV
    go_wp2_with fail
    refine a8.o.mono ?_;rintro e w6 ⟨rfl,H⟩;have F:=O (HW.o.trans (H.mono (by have:=U.o.lt _ rfl;omega)));obtain⟨W,a4⟩:=η2 (show bo w6 i _ _ from aC U.o H) (a3.o.below H);clear H a8 HW U a3;by_cases ho:0<=od
    ·have dy:=O (bI.o ho)
     clear bI Y
     go_wp2_with fail
     refine(dminus_any _ _ _ _ u D w6 a4.o (D2.o.below (show Below _ _ _ from ao.o▸F.o)) I (ψ a0.o) az.o bt.o).mono ?_;rintro e w7 ⟨⟨v7,rfl,cu⟩,bi⟩;have cg:=O (F.o.trans (bi.mono (by have:=W.o.lt _ rfl;omega)));have a7:=O (show bo w7 i _ _ from aC W.o bi);have bz:=O (cu.mono (show i+1<=w6.heap.size from by have:=W.o.lt _ rfl;omega));clear cu bi F W a4;have cp:=a7.o.cellN (j:=j) (by rw[List.length_append,List.length_replicate,List.length_cons];omega);have cv:(List.replicate j 0++n::qs).getD j 0=n:=by simp
     have dk:(List.replicate j 0++n::qs).set j (n+1)=List.replicate j 0++(n+1)::qs:=by simp
     rw[cv]at cp;obtain⟨eg,ei⟩:=cp;have b9:=O dk;clear cv dk;have dA:=O (show bo (w7.setCell ⟨i,j,none⟩ (.int .i64 ((n:Int)+1))) i (.slice (some ⟨i,0,none⟩) A.length A.length) (List.replicate j 0++(n+1)::qs)from by rw[<-b9.o];exact a7.o.setN j (n+1));have bF:=O (bz.o.set (p:=⟨i,j,none⟩) (show i<i+1 by omega) (.int .i64 ((n:Int)+1)));obtain⟨d6,dz⟩:=η2 (cg.o.setCell (p:=⟨i,j,none⟩) ρ (.int .i64 ((n:Int)+1))) (show(lD u D).length<=A.length-j from Nat.le_trans (minusD_len _ _) a6.o);have ed:n<=11:=I;clear a7 bz cg
     go_wp2_with fail
     go_roundg f'
     case measure=>omega
     case rel=>exact⟨_,n+1,by omega,⟨bF.o,dz.o,minusD_nine az.o⟩,dA.o,dy.o,d6.o⟩
    ·have dl:=Y.o I
     cases dl
     go_wp2_with fail
     go_round
     case rel=>exact⟨j,_,_,by omega,rfl,⟨a4.o,a6.o,az.o⟩,W.o,dB.o,F.o⟩
     case measure=>simp[intOf]
end Go.Proofs.Υ
