/- Lemmas. -/
import Derived.Test.YtodehkjinmgflaaGreatDoorV43
import Derived.Test.YtodehkjinmgflaaGreatDoorV44
set_option linter.all false
set_option maxHeartbeats 0
set_option maxRecDepth 99999
namespace Go.Proofs.Υ
open Go Go.RowKit Tryz
def setL(cs:Array Value):Nat->List Value->Array Value
 | _,[]=>cs
 | o,v::l=>setL (cs.setIfInBounds o v) (o+1) l
theorem Box.setL{g:Nat}{t:TypeId}:∀(l:List Value) {w:World} {cs:Array Value} (o:Nat),Box w g cs t->Box (w.setCells g o l) g (Υ.setL cs o l) t
 | [],_,_,_,h=>h
 | _::l,_,_,o,h=>Box.setL l (o+1) (h.set o _)
theorem ir{g:Nat}:∀(l:List Value) {w:World} (o:Nat),w.grownBy (w.setCells g o l) (some g)
 | [],_,_=>World.grownBy.refl _ _
 | v::l,w,o=>(bE w g o v).trans (ir l (o+1))
theorem zero48:aJ (RC.zero,RC.zero,RC.zero) (RC.zero,RC.zero,RC.zero) (RC.zero,RC.zero,RC.zero) (RC.zero,RC.zero,RC.zero)=#[.bool false,.slice none 0 0,.bool false,.slice none 0 0,.bool false,.slice none 0 0,.bool false,.slice none 0 0,.bool false,.slice none 0 0,.bool false,.slice none 0 0,.bool false,.slice none 0 0,.bool false,.slice none 0 0,.bool false,.slice none 0 0,.bool false,.slice none 0 0,.bool false,.slice none 0 0,.bool false,.slice none 0 0,.bool false,.slice none 0 0,.bool false,.slice none 0 0,.bool false,.slice none 0 0,.bool false,.slice none 0 0,.bool false,.slice none 0 0,.bool false,.slice none 0 0,.bool false,.slice none 0 0,.bool false,.slice none 0 0,.bool false,.slice none 0 0,.bool false,.slice none 0 0,.bool false,.slice none 0 0,.bool false,.slice none 0 0]:=rfl
def z3:RC×RC×RC:=(RC.zero,RC.zero,RC.zero)
def qZ(w:World)(g k:Nat)(m:Mo):Prop:=∃a b c s,Box w g (aJ a b c s) 60/\(0<k->am w (rc3 a) m.a)/\(1<k->am w (rc3 b) m.b)/\(2<k->am w (rc3 c) m.c)/\am w (rc3 s) m.s
theorem qZ.below{w w':World}{g k:Nat}{m:Mo}(h:qZ w g k m)(hb:Bl w w'):qZ w' g k m:=by
 obtain⟨a,b,c,s,h0,e,i,j,u⟩:=h;exact⟨a,b,c,s,h0.to hb,fun h=>(e h).below hb,fun h=>(i h).below hb,fun h=>(j h).below hb,u.below hb⟩
theorem Box.there48{w:World}{g:Nat}{a b c s:RC×RC×RC}{t:TypeId}(h:Box w g (aJ a b c s) t){k:Nat}(i:k<3):w.there g (k*12) 12:=fun j e=>by
 rw[h.cell];refine⟨?_,h.free _⟩;rw[Array.getElem?_eq_getElem (by rw[tV];omega)];rfl
theorem setL_row(a b c s r:RC×RC×RC):setL (aJ a b c s) 0 (bQ r)=aJ r b c s/\setL (aJ a b c s) 12 (bQ r)=aJ a r c s/\setL (aJ a b c s) 24 (bQ r)=aJ a b r s:=by
 have h0:setL (aJ a b c s) 0 (bQ r)=aJ r b c s:=by kernel_rfl
 have e:setL (aJ a b c s) 12 (bQ r)=aJ a r c s:=by kernel_rfl
 have i:setL (aJ a b c s) 24 (bQ r)=aJ a b r s:=by kernel_rfl
 exact⟨h0,e,i⟩
theorem qZ.put{w:World}{g k:Nat}{m:Mo}(h:qZ w g k m)(G:k<3){r:RC×RC×RC}(hr:am w (rc3 r) (m.row k)):qZ (w.setCells g (k*12) (bQ r)) g (k+1) m:=by
 obtain⟨a,b,c,s,h0,u,F,H,j⟩:=h;have hb:=h0.setL (bQ r) (k*12);have e:=ir (g:=g) (bQ r) (w:=w) (k*12);have i:=eH h0 ν;have J:=G;obtain⟨A,C,E⟩:=setL_row a b c s r;obtain rfl|rfl|rfl:k=0\/k=1\/k=2:=I
 ·rw[Nat.zero_mul,A]at hb
  exact⟨r,b,c,s,hb,fun _=>hr.grown e i,fun h=>absurd h I,fun h=>absurd h I,j.grown e i⟩
 ·rw[Nat.one_mul,C]at hb
  exact⟨a,r,c,s,hb,fun _=>(u I).grown e i,fun _=>hr.grown e i,fun h=>absurd h I,j.grown e i⟩
 ·rw[show 2*12=24 from rfl,E]at hb
  exact⟨a,b,r,s,hb,fun _=>(u I).grown e i,fun _=>(F I).grown e i,fun _=>hr.grown e i,j.grown e i⟩
def RetMotE(w:World)(e:Ending)(m:Mo):Prop:=∃v,e=.returned (.tuple #[v,.int .i64 0])/\sX w v m
def row9(q:Q4):Array Value:=#[.int .i64 (q.row 0).x,.int .i64 (q.row 0).y,.int .i64 (q.row 0).z,.int .i64 (q.row 1).x,.int .i64 (q.row 1).y,.int .i64 (q.row 1).z,.int .i64 (q.row 2).x,.int .i64 (q.row 2).y,.int .i64 (q.row 2).z]
theorem row_le{q:Q4}(h:∀i,(q.at i).natAbs<=12)(i:Nat):LeV 576 (q.row i):=by
 have p:∀x y,-144<=q.at x*q.at y/\q.at x*q.at y<=144:=fun x y=>sq_le (h x) (h y)
 have e:=p 0 0;have bb:=p 1 1;have E:=p 2 2;have G:=p 3 3;have j:=p 0 1;have u:=p 0 2;have A:=p 0 3;have C:=p 1 2;have bd:=p 1 3;have F:=p 2 3;simp only[Q4.at]at e bb E G j u A C bd F;clear p;unfold LeV Le
 match i with
 | 0=>simp only[Q4.row];omega
 | 1=>simp only[Q4.row];omega
 | _+2=>simp only[Q4.row];omega
theorem ki(a b c s:RC×RC×RC):(aJ a b c s).all (·.oneCell')=true:=by kernel_rfl
theorem bq(w:World)(g:Nat)(cs:Array Value):w.grownBy (w.setRow g cs) (some g):=by
 refine⟨rfl,rfl,rfl,by unfold World.setRow;simp,fun i hi j=>?_⟩;unfold World.setRow;rw[Array.getElem?_modify,if_neg (fun e=>j (by rw[e]))]
theorem cT{w:World}{g:Nat}{cs:Array Value}{t:TypeId}(h:Box w g cs t)(e:Array Value):Box (w.setRow g e) g e t:=setRow_heap w g cs e t (0,0) h
theorem MotR.grown{w w':World}{a b c s:RC×RC×RC}{m:Mo}(h:MotR w a b c s m){row:Option Nat}(e:w.grownBy w' row)(hr:re w row):MotR w' a b c s m:=⟨h.a.grown e hr,h.b.grown e hr,h.c.grown e hr,h.s.grown e hr⟩
theorem motQ_row(q:Q4)(s:Q3)(k:Nat):(cS q s).row k=qscale (1 / (q.sq:Rat)) (ptQ (q.row k)):=by
 match k with
 | 0=>rfl
 | 1=>rfl
 | _+2=>rfl
theorem my:(prog.info? 49).map (·.size)=some 7:=by kernel_rfl
theorem info9:(prog.info? 125).map (·.size)=some 9:=by kernel_rfl
theorem build_mot(s0 s1 s2:RC)(w:World):(Instr.build 60 #[(1,.agg (ah s0 s1 s2))]).run prog w=.ok (.agg (aJ z3 z3 z3 (s0,s1,s2))) w:=by kernel_rfl
theorem mR{e:Array Oper}{rest:List Oper}{o:Oper}{a:Act}{w:World}{Q:Exit->Act->World->Prop}(i:o.guard=none)(x:Operand)(s0 s1 s2:RC)(j:o.op=.build 60 #[(1,x)])(u:a.eval x=.agg (ah s0 s1 s2))(h:wpList prog e Q rest (a.put o.dst (.agg (aJ z3 z3 z3 (s0,s1,s2)))) w):wpList prog e Q (o::rest) a w:=
 wpList_plain i fun K hK=>by
  unfold Oper.wp execOp;simp only[j,Sem.run_bind,Sem.run_pure,Result.andThen_ok,List.map_toArray,List.map_cons,List.map_nil,u,build_mot];exact hK _ _ h
theorem info45:(prog.info? 76).map (·.size)=some 3:=by kernel_rfl
theorem index_m3(q:Q4)(k:Nat)(j:k<3)(w:World):(Instr.index 125 (.agg (row9 q)) (.int .i64 (k:Nat))).run prog w=.ok (dP (q.row k)) w:=by
 have h0:∀w,(Instr.index 125 (.agg (row9 q)) (.int .i64 0)).run prog w=.ok (dP (q.row 0)) w:=fun _=>by kernel_rfl
 have e:∀w,(Instr.index 125 (.agg (row9 q)) (.int .i64 1)).run prog w=.ok (dP (q.row 1)) w:=fun _=>by kernel_rfl
 have i:∀w,(Instr.index 125 (.agg (row9 q)) (.int .i64 2)).run prog w=.ok (dP (q.row 2)) w:=fun _=>by kernel_rfl
 obtain rfl|rfl|rfl:k=0\/k=1\/k=2:=I
 ·exact h0 w
 ·exact e w
 ·exact i w
theorem mof_any(q:Q4)(sh:Q3)(w:World)(hV:jh w)(hq:OkQ q)(hs:oB sh):
 Calls prog 11 #[.agg (plc q sh)] w fun e w'=>RetMotE w' e (cS q sh)/\Bl w w':=by
 obtain⟨W,hW,b1,b2,hB,hS⟩:=bU w (plc q sh) (aJ z3 z3 z3 z3) 49 60;obtain⟨HB,a7,B1,B2⟩:=η4 hB hS b1 b2;have dk:0<W.heap.size:=I;obtain⟨ce,cr,U,cg⟩:=η4 (mcheck_any q sh W (hV.below hB) hq.le hs) (fun w' (h:Bl W w')=>o7 sh w' ((hV.below hB).below h) hs) hq hq.chk;clear hB b1 b2 hS hV hs;unfold z3 at hW;rw[zero48]at hW
 go_enter func11,ntmps11
 unfold plc at hW⊢
 go_wp2_with (refine aj rfl _ _ rfl w.heap.size 0 rfl (plc q sh) _ (fun j hj=>B1.o.whole j hj) underlying49 rfl my ?_)
 refine ce.o.mono ?_;rintro e w1 ⟨rfl,X⟩;rw[cg.o];obtain⟨C1,C2,ci,ay⟩:=η4 (B1.o.to X) (B2.o.to X) X (ae HB.o X (ψ a7.o));clear X
 go_wp2_with (refine aj rfl _ _ rfl w.heap.size 4 rfl (ptS sh) _ (fun j hj=>C1.o.shift3 j hj) underlying47 rfl jb ?_)
 refine(cr.o _ ci.o).mono ?_;rintro e w2 ⟨⟨v,rfl,hv⟩,an⟩;obtain⟨s0,s1,s2,rfl,bi⟩:=hv.rcv;obtain⟨C3,C4⟩:=η2 (C1.o.to an) (C2.o.to an);have bz:=O (ae ay.o an (by have:=a7.o;have:=ay.o.size;omega));have SV:=O bi;clear an hv bi
 go_upto_region 5 with(refine aA rfl _ _ _ rfl _ (ah s0 s1 s2) rfl rfl aZ rfl (bC s0 s1 s2) ?_)
 obtain⟨w3,br,b3,Y,c8⟩:=aB w2 (ah s0 s1 s2) 57;rw[br];obtain⟨C5,C6,S3,cD,bF⟩:=η5 (C3.o.to Y) (C4.o.to Y) b3 (SV.o.below Y) (ae bz.o Y ρ);obtain⟨x0,x1,x2,x3⟩:Γ4 w3 w.heap.size 0 (.int .i64 q.a) w.heap.size 1 (.int .i64 q.b) w.heap.size 2 (.int .i64 q.c) w.heap.size 3 (.int .i64 q.d):=⟨C5.o.cell 0,C5.o.cell 1,C5.o.cell 2,C5.o.cell 3⟩;clear br b3 Y c8
 go_quiet (fail)
 have hd:Bl w3 (w3.drewN nq):=aF β nq;generalize w3.drewN nq=w4 at *;obtain⟨bI,D2,S4,cF⟩:=η4 (ae bF.o hd ρ) (C6.o.to hd) (S3.o.to hd) (cD.o.below hd);clear hd x0 x1 x2 x3;have p:∀x y,-144<=q.at x*q.at y/\q.at x*q.at y<=144:=U.o.prods;have aa:=p 0 0;have bb:=p 1 1;have cc:=p 2 2;have dd:=p 3 3;have ab:=p 0 1;have ac:=p 0 2;have ad:=p 0 3;have bc:=p 1 2;have bd:=p 1 3;have cd:=p 2 3;simp only[Q4.at]at aa bb cc dd ab ac ad bc bd cd;have k0:wrap64 (q.a*q.a)=q.a*q.a:=ζ;have k1:wrap64 (q.b*q.b)=q.b*q.b:=ζ;have k2:wrap64 (q.c*q.c)=q.c*q.c:=ζ;have k3:wrap64 (q.d*q.d)=q.d*q.d:=ζ;have k4:wrap64 (q.b*q.c)=q.b*q.c:=ζ;have k5:wrap64 (q.a*q.d)=q.a*q.d:=ζ;have k6:wrap64 (q.b*q.d)=q.b*q.d:=ζ;have k7:wrap64 (q.a*q.c)=q.a*q.c:=ζ;have k8:wrap64 (q.c*q.d)=q.c*q.d:=ζ;have k9:wrap64 (q.a*q.b)=q.a*q.b:=ζ;have dm:wrap64 (q.a*q.a+q.b*q.b)=q.a*q.a+q.b*q.b:=ζ;have ds:wrap64 (q.a*q.a+q.b*q.b-q.c*q.c)=q.a*q.a+q.b*q.b-q.c*q.c:=ζ;have du:wrap64 (q.a*q.a+q.b*q.b-q.c*q.c-q.d*q.d)=q.a*q.a+q.b*q.b-q.c*q.c-q.d*q.d:=ζ;have dv:wrap64 (q.b*q.c-q.a*q.d)=q.b*q.c-q.a*q.d:=ζ;have dx:wrap64 (q.b*q.d+q.a*q.c)=q.b*q.d+q.a*q.c:=ζ;have dy:wrap64 (q.b*q.c+q.a*q.d)=q.b*q.c+q.a*q.d:=ζ;have dA:wrap64 (q.a*q.a-q.b*q.b)=q.a*q.a-q.b*q.b:=ζ;have dB:wrap64 (q.a*q.a-q.b*q.b+q.c*q.c)=q.a*q.a-q.b*q.b+q.c*q.c:=ζ;have d0:wrap64 (q.a*q.a-q.b*q.b+q.c*q.c-q.d*q.d)=q.a*q.a-q.b*q.b+q.c*q.c-q.d*q.d:=ζ;have d4:wrap64 (q.c*q.d-q.a*q.b)=q.c*q.d-q.a*q.b:=ζ;have d5:wrap64 (q.b*q.d-q.a*q.c)=q.b*q.d-q.a*q.c:=ζ;have d6:wrap64 (q.c*q.d+q.a*q.b)=q.c*q.d+q.a*q.b:=ζ;have d7:wrap64 (q.a*q.a-q.b*q.b-q.c*q.c)=q.a*q.a-q.b*q.b-q.c*q.c:=ζ;have d8:wrap64 (q.a*q.a-q.b*q.b-q.c*q.c+q.d*q.d)=q.a*q.a-q.b*q.b-q.c*q.c+q.d*q.d:=ζ;have d9:wrap64 (q.a*q.a+q.b*q.b+q.c*q.c)=q.a*q.a+q.b*q.b+q.c*q.c:=ζ;have eb:wrap64 (q.a*q.a+q.b*q.b+q.c*q.c+q.d*q.d)=q.a*q.a+q.b*q.b+q.c*q.c+q.d*q.d:=ζ;have ec:wrap64 (2*(q.b*q.c-q.a*q.d))=2*(q.b*q.c-q.a*q.d):=ζ
 have ed:wrap64 (2*(q.b*q.d+q.a*q.c))=2*(q.b*q.d+q.a*q.c):=ζ;have ee:wrap64 (2*(q.b*q.c+q.a*q.d))=2*(q.b*q.c+q.a*q.d):=ζ;have ef:wrap64 (2*(q.c*q.d-q.a*q.b))=2*(q.c*q.d-q.a*q.b):=ζ;have eg:wrap64 (2*(q.b*q.d-q.a*q.c))=2*(q.b*q.d-q.a*q.c):=ζ;have ei:wrap64 (2*(q.c*q.d+q.a*q.b))=2*(q.c*q.d+q.a*q.b):=ζ;clear p aa bb cc dd ab ac ad bc bd cd
 go_upto_region 7 with(refine aA rfl _ _ _ rfl _ (row9 q) rfl rfl info9 rfl rfl ?_)
 obtain⟨w5,bs,b5,af,c9⟩:=aB w4 (row9 q) 125;change Code.wp _ _ _ _ (w4.alloc (Obj.cells (row9 q) 125));rw[bs];obtain⟨bV,D3,S5,cU,M5⟩:=η5 (ae bI.o af ρ) (D2.o.to af) (S4.o.to af) (cF.o.below af) b5;have bg:Bd 2 (q.sq:Rat):=Bd.int _ (by have:=U.o.prods 0 0;have:=U.o.prods 1 1;have:=U.o.prods 2 2;have:=U.o.prods 3 3;simp only[Q4.at]at *;unfold Q4.sq;unfold B;omega);have ap:-576<=q.a*q.a+q.b*q.b+q.c*q.c+q.d*q.d/\q.a*q.a+q.b*q.b+q.c*q.c+q.d*q.d<=576:=by have:=U.o.prods 0 0;have:=U.o.prods 1 1;have:=U.o.prods 2 2;have:=U.o.prods 3 3;simp only[Q4.at]at *;omega
 obtain⟨a3,a5⟩:=η2 bg ap;have a6:=O (show(q.sq:Rat)≠0 from fun e=>by
  have h:=U.o.pos;have e2:q.sq=0:=by exact_mod_cast e
  omega)
 clear bs b5 af c9 bg ap
 go_wp2_with fail
 refine(dc 1 w5 I I).mono ?_;rintro e w6 ⟨⟨v6,rfl,bk⟩,H⟩;obtain⟨V6,b0,D4,S6,cV,M6⟩:=η6 bk (ae bV.o H ρ) (D3.o.to H) (S5.o.to H) (cU.o.below H) (M5.o.to H);clear bk H
 go_wp2_with fail
 refine(dc (q.a*q.a+q.b*q.b+q.c*q.c+q.d*q.d) w6 (ψ a5.o) (ψ a5.o)).mono ?_;rintro e w7 ⟨⟨v7,rfl,bl⟩,E⟩;obtain⟨V7,c7,b4,D5,S7,c4,M7⟩:=η7 bl (V6.o.below E) (ae b0.o E ρ) (D4.o.to E) (S6.o.to E) (cV.o.below E) (M6.o.to E);clear bl E
 go_wp2_with fail
 refine(kr v6 v7 1 (q.sq:Rat) 2 2 w7 c7.o V7.o (Bd.int 1 (by unfold B;omega)) a3.o I a6.o).mono ?_;rintro e w8 ⟨⟨v8,rfl,bp⟩,J⟩;obtain⟨A,rfl,bf⟩:=bp.rcv;obtain⟨cv,b6,D6,S8,c5,M8⟩:=η6 bf (ae b4.o J ρ) (D5.o.to J) (S7.o.to J) (c4.o.below J) (M7.o.to J);clear bp bf J
 go_upto_region 8 with(refine aA rfl _ _ _ rfl _ (#[.bool A.s,.slice A.a A.n A.c,.bool A.t,.slice A.b A.m A.d]) rfl rfl bD rfl rfl ?_)
 obtain⟨w9,bt,b9,F,da⟩:=aB w8 #[.bool A.s,.slice A.a A.n A.c,.bool A.t,.slice A.b A.m A.d] 55;rw[bt];obtain⟨P9,cy,az,D7,S9,c6,M9⟩:=η7 b9 (cv.o.below F) (ae b6.o F ρ) (D6.o.to F) (S8.o.to F) (c5.o.below F) (M8.o.to F);clear bt b9 F da
 go_upto_region 9 with(first|refine aj rfl _ _ rfl w2.heap.size 0 rfl (ah s0 s1 s2) _ (fun j hj=>S9.o.whole j hj) underlying57 rfl aZ ?_|refine mR rfl _ s0 s1 s2 rfl rfl ?_|refine aA rfl _ _ _ rfl _ (aJ z3 z3 z3 (s0,s1,s2)) rfl rfl gt rfl (ki _ _ _ _) ?_)
 obtain⟨C,ao⟩:=χ w9.heap.size;obtain⟨wa,bu,ba,G,db⟩:=aB w9 (aJ z3 z3 z3 (s0,s1,s2)) 60;rw[bu,ao];rw[ao]at ba;have a1:=O (show w.heap.size+2<=C from by have:=az.o.size;have:=D7.o.lt;omega);obtain⟨cm,ca,Da,Pa,cB,Ma⟩:=η6 (show qZ wa C 0 (cS q sh)from⟨z3,z3,z3,(s0,s1,s2),ba,fun h=>absurd h I,fun h=>absurd h I,fun h=>absurd h I,c6.o.below G⟩) (ae az.o G ρ) (D7.o.to G) (P9.o.to G) (cy.o.below G) (M9.o.to G);have ch:=O (show w8.heap.size<C from by rw[<-ao];exact P9.o.lt);clear bu ba G db ao
 go_wp2_with (refine aj rfl _ _ rfl w4.heap.size 0 rfl (row9 q) _ (fun j hj=>Ma.o.whole j hj) underlying125 rfl info9 ?_)
 go_loopw [162] (fun kv wr=>∃k:Nat,k<=3/\kv=.int .i64 (k:Nat)/\Hid (qZ wr C k (cS q sh))/\Hid (Box wr (w.heap.size+1) (aJ z3 z3 z3 z3) 60)/\Hid (Box wr w8.heap.size #[.bool A.s,.slice A.a A.n A.c,.bool A.t,.slice A.b A.m A.d] 55)/\Hid (ak wr A.agg (1 / (q.sq:Rat)))/\Hid (Bl w wr)) (fun kv _=>3-(intOf kv).toNat)
 case atStart=>exact⟨0,by omega,rfl,cm.o,Da.o,Pa.o,cB.o,ca.o⟩
 case round =>
  obtain⟨k,hk,rfl,HM,HZ,au,a2,HL⟩:=hrel;obtain⟨wk,rfl⟩:=φ wr;by_cases h0:k=3
  ·have dl:¬ (k:Int)<3:=I
   obtain⟨a,b,c,s,a8,h1,h2,h3,h4⟩:=HM.o;obtain⟨BX,MR⟩:=η2 a8 (show MotR wk a b c s (cS q sh)from⟨h1 I,h2 I,h3 I,h4⟩);clear h0 a8 h1 h2 h3 h4
   go_wp2_with (first|refine aj rfl _ _ rfl C 0 rfl (aJ a b c s) _ (fun j hj=>BX.o.whole j hj) underlying60 rfl gt ?_|refine wpList_store_row rfl 60 _ _ rfl (w.heap.size+1) (aJ a b c s) rfl rfl 60 _ HZ.o gt rfl (ki a b c s) ?_)
   obtain⟨BR,cu⟩:=η2 (cT HZ.o (aJ a b c s)) (MR.o.grown (bq wk (w.heap.size+1) (aJ a b c s)) (eH HZ.o ν));have ar:=O (HL.o.grown (bq wk (w.heap.size+1) (aJ a b c s)) HL.o.size (fun g e=>by cases e;omega));exact bS results11 (w.heap.size+1) BR.o _ rfl underlying60 rfl gt rfl ⟨⟨_,rfl,a,b,c,s,rfl,cu.o⟩,ar.o⟩
  ·have be:(k:Int)<3:=I
   have av:k<3:=I;have R:=O av;have a9:=fun w=>index_m3 q k av w
   unfold dP at a9;clear h0
   go_upto_region 12 with(refine aA rfl _ _ _ rfl _ (#[.int .i64 (q.row k).x,.int .i64 (q.row k).y,.int .i64 (q.row k).z]) rfl rfl info45 rfl rfl ?_)
   obtain⟨wm,bv,bm,Q,de⟩:=aB wk #[.int .i64 (q.row k).x,.int .i64 (q.row k).y,.int .i64 (q.row k).z] 76;rw[bv];obtain⟨RB,PB,PR,ZB,cl,L3,a4⟩:=η7 bm (au.o.to Q) (a2.o.below Q) (HZ.o.to Q) (HM.o.below Q) (ae HL.o Q ρ) (show LeV 9007199254740992 (q.row k)from(row_le U.o.le k).mono I);obtain⟨ar,b8,cn⟩:=η3 (jG a4.o) a3.o.inv (motQ_row q sh k);clear bv bm Q de HM HZ au a2 HL a9 be;refine aU (rest:=1) [isV 0 (.int .i64 (k:Nat)),isV 1 (.agg #[.int .i64 (q.row k).x,.int .i64 (q.row k).y,.int .i64 (q.row k).z]),isP 2 (fun u w=>am w u (ptQ (q.row k))),isV 3 (.agg #[.bool A.s,.slice A.a A.n A.c,.bool A.t,.slice A.b A.m A.d]),isP 4 (fun u w=>am w u (qscale (1 / (q.sq:Rat)) (ptQ (q.row k)))),isV 5 (.pointer (some ⟨C,0,none⟩)),isV 6 (.pointer (some ⟨C,k*12,none⟩))] [] ?A1 (τ 7 1) Z [0,1,2,3,4,5,6] Z Z Z Z Z Z ?st ?hA ?hop ?hend
   case hA=>exact cZ
   case st=>exact aq.cons isV.stab (aq.cons isV.stab (aq.cons (isP.stab (fun _ _ _ h hv=>hv.below h)) (aq.cons isV.stab (aq.cons (isP.stab (fun _ _ _ h hv=>hv.below h)) (aq.cons isV.stab (aq.cons isV.stab (aq.nil)))))))
   case hop =>
    refine ai.cons rfl (fun y w' hS hD K hK=>?_) ?_
    ·as_aux_lemma =>
     go_simp;exact hK.out _ w' hS β isV.put δ
    refine ai.cons rfl (fun y w' hS hD K hK=>?_) ?_
    ·as_aux_lemma =>
     have bx:=RB.o.to hS;obtain⟨c0,c1,c2,-⟩:=bx.three;go_simp;exact hK.out _ w' hS β isV.put δ
    refine ai.cons rfl (fun y w' hS hD K hK=>?_) ?_
    ·simp only[isV.get (hD 1 Z)]at hK⊢
     as_aux_lemma =>
     go_simp;refine(oY (q.row k) w' a4.o).mono ?_
     rintro e aw ⟨⟨v,rfl,hv⟩,hb⟩;exact hK.out v aw (ae hS hb ρ) hb (isP.put hv) δ
    refine ai.cons rfl (fun y w' hS hD K hK=>?_) ?_
    ·as_aux_lemma =>
     have bx:=PB.o.to hS;obtain⟨c0,c1,c2,c3⟩:=bx.at1.1;go_simp;exact hK.out _ w' hS β isV.put δ
    refine ai.cons rfl (fun y w' hS hD K hK=>?_) ?_
    ·simp only[isV.get (hD 3 Z)]at hK⊢
     as_aux_lemma =>
     have e2:=isP.get (hD 2 Z);go_simp;refine(dq _ _ (ptQ (q.row k)) (1 / (q.sq:Rat)) 2 2 w' e2 (PR.o.below hS) b8.o ar.o I).mono ?_;rintro e aw ⟨⟨v,rfl,hv⟩,hb⟩;exact hK.out v aw (ae hS hb ρ) hb (isP.put hv) δ
    refine ai.cons rfl (fun y w' hS hD K hK=>?_) ?_
    ·as_aux_lemma =>
     go_simp;exact hK.out _ w' hS β isV.put δ
    refine ai.cons rfl (fun y w' hS hD K hK=>?_) ?_
    ·simp only[isV.get (hD 5 Z),isV.get (hD 0 Z)]at hK⊢
     as_aux_lemma =>
     have av:=R.o;have be:(k:Int)<3:=I;go_simp;exact hK.out _ w' hS β isV.put δ
    exact ai.nil
   case hend =>
    intro y w' hS hR hF;obtain⟨n0,n1,n2,e4,hn⟩:=(isP.get (i:=4) (p:=fun u w=>am w u (qscale (1 / (q.sq:Rat)) (ptQ (q.row k)))) (hR 4 Z)).rcv;have e6:=isV.get (hR 6 Z);simp only[e4,e6];obtain⟨a,b,c,s,bx,hA⟩:=cl.o.below hS;refine aL (i:=7) (listed2:=τ 8 0) Z rfl Z (fun K hK=>?_);refine bJ ?_;refine wp_store_mid 57 _ _ rfl C (k*12) (ah n0 n1 n2) rfl rfl (bx.there48 R.o) aZ (bC n0 n1 n2) ?_;refine hK.out _ _ ?_;clear hK K;have a0:=O (show qZ (w'.setCells C (k*12) (ah n0 n1 n2).toList) C (k+1) (cS q sh)from qZ.put (show qZ w' C k _ from⟨a,b,c,s,bx,hA⟩) R.o (r:=(n0,n1,n2)) (by rw[cn.o];exact hn));have ag:=ir (g:=C) (ah n0 n1 n2).toList (w:=w') (k*12);have b7:=O ((ae L3.o hS ρ).grown ag (by have:=L3.o.size;have:=hS.size;omega) (fun g e=>by cases e;have:=a1.o;omega));have cs:=O ((ZB.o.to hS).grown ag (fun e=>by cases e;have:=a1.o;omega));have cp:=O ((PB.o.to hS).grown ag (fun e=>by cases e;have:=ch.o;omega));have cq:=O ((PR.o.below hS).grown ag (eH bx ν));clear ag;generalize w'.setCells C (k*12) (ah n0 n1 n2).toList=w9 at *;clear hS hR hF e4 e6 bx hA hn;refine aP Z ?_
    go_wp2_with fail
    go_round
    case rel=>exact⟨k+1,R.o,rfl,a0.o,cs.o,cp.o,cq.o,b7.o⟩
    case measure=>exact μ (ψ R.o)
theorem tL(qs:List Q3)(n:Q3):∀k,0<k->(∃i,i<k/\(dY qs n k).1=aT n (qAt qs i))/\∃i,i<k/\(dY qs n k).2=aT n (qAt qs i)
 | 0,h=>absurd h I
 | k+1,_=>by
  have j:=fun h=>tL qs n k h
  constructor
  ·unfold dY
   dsimp only
   split
   ·exact⟨k,by omega,rfl⟩
   ·rename_i h
    obtain⟨i,hi,e⟩:=(j I).1;exact⟨i,by omega,e⟩
  ·unfold dY
   dsimp only
   split
   ·exact⟨k,by omega,rfl⟩
   ·rename_i h
    obtain⟨i,hi,e⟩:=(j I).2;exact⟨i,by omega,e⟩
theorem oO{qs:List Q3}{i:Nat}(h:i<qs.length):qAt qs i∈qs:=by
 unfold qAt;rw[List.getD_eq_getElem?_getD,List.getElem?_eq_getElem h];exact List.getElem_mem _
theorem cmpR_ge{x y:Rat}:0<=dr x y↔y<=x:=by
 unfold dr
 split
 ·rename_i h;exact⟨fun e=>by omega,fun e=>absurd h (Rat.not_lt.mpr e)⟩
 ·rename_i h;split<;>exact⟨fun _=>Rat.not_lt.mp h,fun _=>by omega⟩
theorem sep_ext{e u:List Q3}{n:Q3}(h:SepQ e u n)(ha:0<e.length)(hb:0<u.length):0<=dr (dY e n e.length).1 (dY u n u.length).2\/0<=dr (dY u n u.length).1 (dY e n e.length).2:=by
 obtain⟨⟨i,hi,E⟩,j,J,F⟩:=tL e n e.length ha;obtain⟨⟨Q,A,G⟩,R,C,H⟩:=tL u n u.length hb;rw[cmpR_ge,cmpR_ge,E,F,G,H]
 rcases h with h|h
 ·exact .inl (h _ (oO hi) _ (oO C))
 ·exact .inr (h _ (oO J) _ (oO A))
theorem dV{w:World}{base e k:Nat}{v:Value}{n:Nat}{xs:List Value}(h:w.ownsRow base e k v n xs):∃p n c,v=.slice p n c:=by
 obtain⟨_,⟨rfl,h0⟩|⟨g,i,j,rfl,_⟩⟩:=h
 ·exact⟨_,_,_,rfl⟩
 ·exact⟨_,_,_,rfl⟩
theorem ShM.forms{w:World}{s:ShV}{d:ShD}(h:ShM w s d):(∃p n c,s.a=.slice p n c)/\(∃p n c,s.b=.slice p n c)/\∃p n c,s.c=.slice p n c:=by
 obtain⟨⟨b1,A,e⟩,⟨b2,C,i,-⟩,u,j⟩:=h;exact⟨dV e.own,dV i.own,dV j⟩
theorem fH.forms{w:World}{base:Nat}{e:List FR}{rns:List (List Nat)}(h:fH w base e rns)(j:e.length=rns.length):∀r∈e,∃a n c,r.v=.slice a n c:=fun r hr=>by
 obtain⟨i,hi⟩:=List.getElem?_of_mem hr;obtain⟨x,u⟩:∃x,rns[i]?=some x:=⟨_,List.getElem?_eq_getElem (by rw[<-j];exact(List.getElem?_eq_some_iff.1 hi).1)⟩;exact dV (h i r x hi u)
structure PenOk (w:World) (sa sb:ShV) (da db:ShD) (s k:Nat):Prop where
 a:ShM w sa da
 b:ShM w sb db
 sep:∃ f,da.fqs[s]?=some f/\SepQ da.qs db.qs f.1
 ka:∀ i,i<da.qs.length→BdV k (qAt da.qs i)
 kb:∀ i,i<db.qs.length→BdV k (qAt db.qs i)
 kf:∀ f ∈ da.fqs,BdV k f.1
 k500:k<=500
 na:0<da.qs.length/\da.qs.length<=262144
 nb:0<db.qs.length/\db.qs.length<=262144
 nf:da.fqs.length<=262144
 nr:da.fqs.length=da.rns.length
theorem zip1(i:Tmp)(v:Value)(t:Array Value):Array.foldl (fun t (p,v)=>t.setIfInBounds p v) t ((#[i]:Array Tmp).zip #[v])=t.setIfInBounds i v:=by
 simp
theorem two_new(P:Program)(w:World)(r i:RC):∃u W,(storeCells ⟨w.heap.size,0,none⟩ (aE r).toList).run P ((w.alloc (.cells #[.bool false,.slice none 0 0,.bool false,.slice none 0 0] 55)).alloc (.cells #[.bool false,.slice none 0 0,.bool false,.slice none 0 0] 55))=.ok () u/\(storeCells ⟨w.heap.size+1,0,none⟩ (aE i).toList).run P u=.ok () W/\Box W w.heap.size (aE r) 55/\Box W (w.heap.size+1) (aE i) 55/\Bl w W:=by
 have h0:Bl w ((w.alloc (.cells #[.bool false,.slice none 0 0,.bool false,.slice none 0 0] 55)).alloc (.cells #[.bool false,.slice none 0 0,.bool false,.slice none 0 0] 55)):=(β.alloc ρ _).alloc (by simp) _;have b1:Box ((w.alloc (.cells #[.bool false,.slice none 0 0,.bool false,.slice none 0 0] 55)).alloc (.cells #[.bool false,.slice none 0 0,.bool false,.slice none 0 0] 55)) w.heap.size #[.bool false,.slice none 0 0,.bool false,.slice none 0 0] 55:=(Box.new w _ _ _ rfl).old _;have b2:Box ((w.alloc (.cells #[.bool false,.slice none 0 0,.bool false,.slice none 0 0] 55)).alloc (.cells #[.bool false,.slice none 0 0,.bool false,.slice none 0 0] 55)) (w.heap.size+1) #[.bool false,.slice none 0 0,.bool false,.slice none 0 0] 55:=Box.new _ _ _ _ (by simp);have F:=run_storeCells_from (P:=P) w.heap.size 55 (aE r).toList 0 _ _ b1 rfl (fun v j=>(Array.all_eq_true_iff_forall_mem.1 (fZ r)) v (by simpa using j));have A:=bq ((w.alloc (.cells #[.bool false,.slice none 0 0,.bool false,.slice none 0 0] 55)).alloc (.cells #[.bool false,.slice none 0 0,.bool false,.slice none 0 0] 55)) w.heap.size (aE r);have c2:=b2.grown A (fun e=>by injection e with e;omega);have c1:=setRow_heap _ _ _ (aE r) _ (0,0) b1;have G:=run_storeCells_from (P:=P) (w.heap.size+1) 55 (aE i).toList 0 _ _ c2 rfl (fun v j=>(Array.all_eq_true_iff_forall_mem.1 (fZ i)) v (by simpa using j));have C:=bq (((w.alloc (.cells #[.bool false,.slice none 0 0,.bool false,.slice none 0 0] 55)).alloc (.cells #[.bool false,.slice none 0 0,.bool false,.slice none 0 0] 55)).setRow w.heap.size (aE r)) (w.heap.size+1) (aE i);refine⟨_,_,F,G,Box.grown (t:=55) c1 C (fun e=>by injection e with e;omega),setRow_heap _ _ _ (aE i) _ (0,0) c2,?_⟩;have E:=h0.grown A h0.size (fun k e=>by injection e with e;omega);exact E.grown C E.size (fun k e=>by injection e with e;omega)
theorem Box.at12{w:World}{g:Nat}{n0 e i:RC}{t:TypeId}(h:Box w g (ah n0 e i) t):Γ12 w g 0 (.bool n0.s) g 1 (.slice n0.a n0.n n0.c) g 2 (.bool n0.t) g 3 (.slice n0.b n0.m n0.d) g 4 (.bool e.s) g 5 (.slice e.a e.n e.c) g 6 (.bool e.t) g 7 (.slice e.b e.m e.d) g 8 (.bool i.s) g 9 (.slice i.a i.n i.c) g 10 (.bool i.t) g 11 (.slice i.b i.m i.d):=
 ⟨h.cell 0,h.cell 1,h.cell 2,h.cell 3,h.cell 4,h.cell 5,h.cell 6,h.cell 7,h.cell 8,h.cell 9,h.cell 10,h.cell 11⟩
section
attribute [local go_sem] Oper.semAt_some
theorem rt(sa sb:ShV)(da db:ShD)(s k:Nat)(w:World)(h:PenOk w sa sb da db s k):
 Calls prog 91 #[.agg #[sa.a,sa.b,sa.c],.agg #[sb.a,sb.b,sb.c]] w fun e w'=>e=.returned (.bool false)/\Bl w w':=by
 obtain⟨⟨ba,cV,a3⟩,⟨bf,R,hF,b2,hI⟩,-⟩:=h.a;obtain⟨⟨bb,c3,a4⟩,-⟩:=h.b;obtain⟨⟨p0,l0,c0,e0⟩,⟨p1,l1,c1,e1⟩,p2,l2,c2,e2⟩:=h.a.forms;obtain⟨⟨q0,m0,d0,e3⟩,⟨q1,m1,d1,e4⟩,q2,m2,d2,e5⟩:=h.b.forms;obtain⟨va,vb,vc⟩:=sa;obtain⟨ua,ub,uc⟩:=sb;simp only at e0 e1 e2 e3 e4 e5 a3 hF a4;subst e0;subst e1;subst e2;subst e3;subst e4;subst e5;have a7:R.length=da.fqs.length:=hF.len;have ch:=O (hI.forms (by rw[a7];exact h.nr));obtain⟨C,cl,cm,HF,aw⟩:=η5 h a3 a4 hF a7;obtain⟨W,hW,b1,b2,b3,hB,bV⟩:=cC w #[.slice p0 l0 c0,.slice p1 l1 c1,.slice p2 l2 c2] #[.slice q0 m0 d0,.slice q1 m1 d1,.slice q2 m2 d2] #[.bool false] 86 86 4;obtain⟨w1,b9,x1,x2,hx,ca⟩:=bU W #[.slice p0 l0 c0,.slice p1 l1 c1,.slice p2 l2 c2] #[.slice q0 m0 d0,.slice q1 m1 d1,.slice q2 m2 d2] 86 86;obtain⟨bl,A1,A2,A3,C1,C2,bp,bt,cn⟩:=η9 (ae hB hx ρ) (b1.to hx) (b2.to hx) (b3.to hx) x1 x2 bV ca b9;have y0:W.cell? ⟨w.heap.size,0,none⟩=some (.slice p0 l0 c0):=b1.cell 0;have y1:W.cell? ⟨w.heap.size,1,none⟩=some (.slice p1 l1 c1):=b1.cell 1;have y2:W.cell? ⟨w.heap.size,2,none⟩=some (.slice p2 l2 c2):=b1.cell 2;have z0:W.cell? ⟨w.heap.size+1,0,none⟩=some (.slice q0 m0 d0):=b2.cell 0;have z1:W.cell? ⟨w.heap.size+1,1,none⟩=some (.slice q1 m1 d1):=b2.cell 1;have z2:W.cell? ⟨w.heap.size+1,2,none⟩=some (.slice q2 m2 d2):=b2.cell 2;clear h a3 a4 hF hI a7 b1 b2 b3 hB bV x1 x2 hx ca b9;refine(callsIn_wide (n:=9)).1 ?_;refine callsIn_of_wp_marks func91 rfl trivial ?_ rfl;simp only[ntmps91,List.size_toArray,List.length_cons,List.length_nil,Nat.reduceAdd,Nat.reduceSub,Array.replicate_succ,Array.replicate_zero,List.push_toArray,List.append_toArray,List.nil_append,List.cons_append]
 gi_wp2_with fail
 refine⟨trivial,?_⟩;refine(callsIn_wide.2 (axes_any _ _ _ _ _ _ W)).mono ?_;rintro e w' ⟨rfl,rfl⟩;rw[cn.o];clear y0 y1 y2 z0 z1 z2
 gi_wp2_with fail
 have b0:∀i,i<R.length->∃n0 F G f,nAt R i=.agg (ah n0 F G)/\da.fqs[i]?=some f/\am w (.agg (ah n0 F G)) f.1:=fun i hi=>by
  obtain⟨b,cr,r,e,hb,hr,-⟩:=HF.o.at_ i hi;obtain⟨f,hf⟩:∃f,da.fqs[i]?=some f:=⟨_,List.getElem?_eq_getElem (by rw[<-aw.o];exact hi)⟩;have hv:=(HF.o.vec i r f hr hf).1;obtain⟨⟨n0,F,G⟩,ro,rv⟩:=r;exact⟨n0,F,G,f,by unfold nAt rc3;rw[List.getD_eq_getElem?_getD,hr];rfl,hf,hv⟩
 have bk:=O b0;have b8:s<R.length:=by
  obtain⟨f,hf,-⟩:=C.o.sep;rw[aw.o];exact(List.getElem?_eq_some_iff.1 hf).1
 have ag:=bp.o;have af:=bt.o;have au:(Value.slice p1 l1 c1).ownBlock≠some (w.heap.size+2):=fun e=>by
  obtain⟨b,cr,r,e2,hb,-⟩:=HF.o.at_ s b8;rw[e2]at e;simp only[Value.ownBlock]at e;injection e with e
  omega
 clear b0;refine o6 rfl I (gf:=183) (lb:=#[.pointer (some ⟨W.heap.size,0,none⟩),.pointer (some ⟨W.heap.size+1,0,none⟩)]) rfl trivial (enters_of func183 Z rfl) (n0:=w.heap.size) (X:=fun k=>k=w.heap.size+2)
  (axes1_ret _ I _ _ _ _ _ _ W.heap.size (W.heap.size+1) bf da.fqs R s w.heap.size _ w1 C1.o C2.o (HF.o.below bl.o) ch.o ⟨_,_,_,rfl⟩ ⟨_,_,_,rfl⟩ b8 (by rw[aw.o];exact C.o.nf) I (fun k hk=>⟨by omega,by omega,by omega,fun e=>au (by rw[e,hk])⟩)) I β (fun _=>rfl)
  (fun i W'=>i<=s/\Box W' w.heap.size #[.slice p0 l0 c0,.slice p1 l1 c1,.slice p2 l2 c2] 86/\Box W' (w.heap.size+1) #[.slice q0 m0 d0,.slice q1 m1 d1,.slice q2 m2 d2] 86/\Box W' (w.heap.size+2) #[.bool false] 4/\Bl w W')
  (fun i W1 W2 ⟨h0,h1,h2,h3,h4⟩ hk=>⟨h0,h1.keepC hk (fun h=>h),h2.keepC hk (fun h=>h),h3.keepC hk (fun h=>h),h4.trans (hk.bel.mono I)⟩)
  (fun W'=>Box W' (w.heap.size+2) #[.bool false] 4/\Bl w W')
  (fun _ W1 W2 ⟨h3,h4⟩ hk=>⟨h3.keepC hk (fun h=>h),h4.trans (hk.bel.mono I)⟩)
  ⟨Nat.zero_le _,A1.o,A2.o,A3.o,bl.o⟩
  (fun i a' W'=>∃gx n0 F G,nAt R i=.agg (ah n0 F G)/\a'={ tmps:=#[.agg #[.slice p0 l0 c0,.slice p1 l1 c1,.slice p2 l2 c2],.agg #[.slice q0 m0 d0,.slice q1 m1 d1,.slice q2 m2 d2],.pointer (some ⟨w.heap.size,0,none⟩),.pointer (some ⟨w.heap.size+1,0,none⟩),.pointer (some ⟨w.heap.size+1+1,0,none⟩),.pointer (some ⟨gx,0,none⟩),undef,undef,undef,undef,.agg #[.slice p0 l0 c0,.slice p1 l1 c1,.slice p2 l2 c2],.agg #[.slice q0 m0 d0,.slice q1 m1 d1,.slice q2 m2 d2],.func (.func 183) #[] #[.pointer (some ⟨W.heap.size,0,none⟩),.pointer (some ⟨W.heap.size+1,0,none⟩)],.agg (ah n0 F G),undef,undef,undef,undef,undef,undef,undef,undef,undef,undef,undef,undef,undef,undef,undef,undef,undef,undef,undef,undef,undef,undef],defers:=[] }/\Box W' gx (ah n0 F G) 57/\w.heap.size+2<gx)
  (fun i a' _ W1 W2 ⟨gx,n0,F,G,h1,h2,h3,h4⟩ hk=>⟨gx,n0,F,G,h1,h2,h3.keepC hk (fun h=>h),h4⟩) ?assign ?body ?stop
 case assign =>
  rintro l i W' K cB hI hK;clear ag af au;obtain⟨n0,F,G,f,hn,-,-⟩:=bk.o i I;have HN:=O hn;rw[hn];obtain⟨HK,j⟩:=η2 hK hI;clear hK hn hI;rw[zip1]
  gi_wp2_with fail
  have e:=run_storeCells_new W' 57 (ah RC.zero RC.zero RC.zero) (ah n0 F G) cG rfl (bC ..);rw[lS]at e;rw[e];clear e;obtain⟨W2,cu,a1,hA,hZ⟩:=aB W' (ah n0 F G) 57;rw[cu]
  gi_wp2_with fail
  refine HK.o _ _ (ck hA) (KeepC.below hA j.o.2.2.2.2.size) ⟨j.o.1,j.o.2.1.to hA,j.o.2.2.1.to hA,j.o.2.2.2.1.to hA,j.o.2.2.2.2.trans (hA.mono j.o.2.2.2.2.size)⟩ ⟨W'.heap.size,n0,F,G,HN.o,rfl,a1,j.o.2.2.2.1.lt⟩
 case body =>
  rintro l i a' W' cB ⟨c5,aa,bz,bF,av⟩ ⟨gx,n0,F,G,hn,rfl,U,c6⟩;clear ag af au;obtain⟨X1,X2,X3,XG,Y,XN⟩:=η6 aa bz bF U av hn;have y0:W'.cell? ⟨w.heap.size,0,none⟩=some (.slice p0 l0 c0):=aa.cell 0;have y1:W'.cell? ⟨w.heap.size,1,none⟩=some (.slice p1 l1 c1):=aa.cell 1;have y2:W'.cell? ⟨w.heap.size,2,none⟩=some (.slice p2 l2 c2):=aa.cell 2;clear aa bz bF av hn;obtain⟨x0,x1,x2,x3,x4,x5,x6,x7,x8,x9,be,bg⟩:=U.at12
  gi_wp2_with fail
  obtain⟨c7,c8,c9,f,a9,hf,bc⟩:=bk.o i I;rw[XN.o]at a9;rw[<-a9]at bc;clear a9 x0 x1 x2 x3 x4 x5 x6 x7 x8 x9 be bg y0 y1 y2;obtain⟨br,cg,ar⟩:=η3 (bc.below Y.o) hf (C.o.kf f (List.mem_of_getElem? hf));clear bc hf;refine⟨trivial,?_⟩;refine(CallsIn.inRound l (callsIn_wide.2 (qB _ _ _ _ da.qs cV f.1 ba k k W' (cl.o.below Y.o) C.o.ka br.o ar.o (ψ C.o.k500) C.o.na.2))).mono ?_;rintro e w2 ⟨⟨lr,hr,rfl,ad,ac⟩,ab⟩;obtain⟨K2,R1,R2⟩:=η3 ab ad ac;obtain⟨W3,W4,e1,e2,d1,d2,an⟩:=two_new prog w2 lr hr;obtain⟨D1,D2,K4,bs,KK⟩:=η5 d1 d2 an ((U.to ab).below an (U.to ab).lt) (ae ab an ρ);clear ab ad ac d1 d2 an;obtain⟨az,J,a0⟩:=η3 (X1.o.to KK.o) (X2.o.to KK.o) (X3.o.to KK.o);have y0:W4.cell? ⟨w.heap.size+1,0,none⟩=some (.slice q0 m0 d0):=J.o.cell 0;have y1:W4.cell? ⟨w.heap.size+1,1,none⟩=some (.slice q1 m1 d1):=J.o.cell 1;have y2:W4.cell? ⟨w.heap.size+1,2,none⟩=some (.slice q2 m2 d2):=J.o.cell 2;obtain⟨x0,x1,x2,x3,x4,x5,x6,x7,x8,x9,be,bg⟩:=bs.o.at12
  gi_wp2_with fail
  clear e1 e2 W3 x0 x1 x2 x3 x4 x5 x6 x7 x8 x9 be bg y0 y1 y2;refine⟨trivial,?_⟩;have ay:=O (Y.o.trans (KK.o.mono Y.o.size));refine(CallsIn.inRound l (callsIn_wide.2 (qB _ _ _ _ db.qs c3 f.1 bb k k W4 (cm.o.below ay.o) C.o.kb (br.o.below KK.o) ar.o (ψ C.o.k500) C.o.nb.2))).mono ?_;rintro e w5 ⟨⟨cU,cF,rfl,ad,ac⟩,b5⟩;obtain⟨W6,W7,e1,e2,d3,d4,ao⟩:=two_new prog w5 cU cF;obtain⟨H,R3,R4,D3,D4⟩:=η5 (ae b5 ao ρ) (ad.below ao) (ac.below ao) d3 d4;clear b5 ad ac d3 d4 ao;obtain⟨cc,bi,bu,bv,Q,cp,cq,c4⟩:=η8 (D1.o.to H.o) (D2.o.to H.o) (az.o.to H.o) (J.o.to H.o) (a0.o.to H.o) ((R1.o.below K4.o).below H.o) ((R2.o.below K4.o).below H.o) (ay.o.trans (H.o.mono ay.o.size));clear X1 X2 X3 az J a0 D1 D2 R1 R2 bs;obtain⟨x0,x1,x2,x3⟩:=cc.o.at1.1;obtain⟨x4,x5,x6,x7⟩:=D4.o.at1.1
  gi_wp2_with fail
  clear x0 x1 x2 x3 x4 x5 x6 x7;refine⟨trivial,?_⟩;have a5:=oW (K:=3*(k+k+1)+1) (n:=f.1) (fun i hi=>Bd.dot ar.o (C.o.ka i hi)) I _ ρ;have a6:=oW (K:=3*(k+k+1)+1) (n:=f.1) (fun i hi=>Bd.dot ar.o (C.o.kb i hi)) I _ ρ;obtain⟨cd,ce⟩:=η2 a5 a6;have a8:=C.o.k500;refine(CallsIn.inRound l (callsIn_wide.2 (cj _ _ _ _ _ _ W7 cp.o R4.o a5.1 a6.2 I))).mono ?_;clear a5 a6 a8;rintro e w8 ⟨rfl,E⟩;by_cases hc:0<=dr (dY da.qs f.1 da.qs.length).1 (dY db.qs f.1 db.qs.length).2
  ·have K8:=O E
   have A:=Q.o.to E;have e3:w8.cell? ⟨w.heap.size+2,0,none⟩=some (.bool false):=A.cell 0;have e4:=A.free 0;clear E
   gi_wp2_with fail
   refine⟨trivial,?_⟩
   gi_wp2_with fail
   refine⟨(ck (ae (ae KK.o H.o ρ) K8.o ρ)).trans (fT A (bE w8 (w.heap.size+2) 0 (.bool false))),A.set 0 _,?_⟩;have u:=Y.o.trans ((ae (ae KK.o H.o ρ) K8.o ρ).mono Y.o.size);exact u.grown (bE w8 (w.heap.size+2) 0 (.bool false)) u.size (fun k e=>by injection e with e;omega)
  ·have K8:=O E
   have ci:=O hc;obtain⟨x0,x1,x2,x3⟩:=(D3.o.to E).at1.1;obtain⟨x4,x5,x6,x7⟩:=(bi.o.to E).at1.1;clear E
   gi_wp2_with fail
   refine⟨trivial,?_⟩;have a8:=C.o.k500;refine(CallsIn.inRound l (callsIn_wide.2 (cj _ _ _ _ _ _ w8 (R3.o.below K8.o) (cq.o.below K8.o) ce.o.1 cd.o.2 I))).mono ?_;clear a8 x0 x1 x2 x3 x4 x5 x6 x7;rintro e w9 ⟨rfl,ap⟩;by_cases cy:0<=dr (dY db.qs f.1 db.qs.length).1 (dY da.qs f.1 da.qs.length).2
   ·have K9:=O (ae K8.o ap ρ)
    have A:=Q.o.to K9.o;have e3:w9.cell? ⟨w.heap.size+2,0,none⟩=some (.bool false):=A.cell 0;have e4:=A.free 0;clear ap
    gi_wp2_with fail
    refine⟨(ck (ae (ae KK.o H.o ρ) K9.o ρ)).trans (fT A (bE w9 (w.heap.size+2) 0 (.bool false))),A.set 0 _,?_⟩;have u:=Y.o.trans ((ae (ae KK.o H.o ρ) K9.o ρ).mono Y.o.size);exact u.grown (bE w9 (w.heap.size+2) 0 (.bool false)) u.size (fun k e=>by injection e with e;omega)
   ·have K9:=O (ae K8.o ap ρ)
    have bm:=O cy;clear ap
    gi_wp2_with fail
    have cD:i≠s:=fun e=>by
     subst e;obtain⟨f',b6,b7⟩:=C.o.sep;rw[cg.o]at b6;cases b6
     rcases sep_ext b7 C.o.na.1 C.o.nb.1 with h|h
     ·have:=ci.o;omega
     ·have:=bm.o;omega
    have u:=(ae (ae KK.o H.o ρ) K9.o ρ);exact⟨ck u,KeepC.below u Y.o.size,cD,by omega,bu.o.to K9.o,bv.o.to K9.o,Q.o.to K9.o,Y.o.trans (u.mono Y.o.size)⟩
 case stop =>
  rintro D W' hD ⟨b4,u⟩ hK;clear ag af au
  gi_wp2_with fail
  have cs:w.heap.size<=D:=by have:=bt.o;have:=bp.o;omega
  have a2:KeepC w.heap.size (fun _=>False) W' (W'.putObj D (.deferred none)):=KeepC.putObj _ _ cs hK rfl;have bI:=b4.keepC a2 (fun h=>h);have cv:(W'.putObj D (.deferred none)).cell? ⟨w.heap.size+1+1,0,none⟩=some (.bool false):=bI.cell 0;refine⟨by simp,.inl ⟨_,_,rfl,run_takeDeferred hK,?_⟩⟩;refine⟨.bool false,?_,rfl,u.trans a2.bel⟩;clear a2 bI b4 hK;simp[results,results91,asAddr,go_sem,cv]
end
theorem PenOk.below{w w':World}{j sb:ShV}{e i:ShD}{s k:Nat}(h:PenOk w j sb e i s k)(hb:Bl w w'):PenOk w' j sb e i s k:=
 ⟨h.a.below hb,h.b.below hb,h.sep,h.ka,h.kb,h.kf,h.k500,h.na,h.nb,h.nf,h.nr⟩
theorem shapes1_any(j sb:ShV)(F G:ShD)(s k g:Nat)(w:World)(A:Box w g #[j.a,j.b,j.c] 86)(h:PenOk w j sb F G s k):
 Calls prog 90 #[.agg #[sb.a,sb.b,sb.c],.pointer (some ⟨g,0,none⟩)] w fun e w'=>e=.returned (.bool false)/\Bl w w':=by
 obtain⟨⟨p0,l0,c0,J⟩,⟨p1,l1,c1,Q⟩,p2,l2,c2,R⟩:=h.a.forms;obtain⟨⟨q0,m0,E,U⟩,⟨q1,m1,d1,X⟩,q2,m2,d2,Y⟩:=h.b.forms;obtain⟨va,vb,vc⟩:=j;obtain⟨ua,ub,uc⟩:=sb;simp only at J Q R U X Y A;subst J;subst Q;subst R;subst U;subst X;subst Y;obtain⟨W,hW,b1,u,hS⟩:=aB w #[.slice q0 m0 E,.slice q1 m1 d1,.slice q2 m2 d2] 86;have i:=A.to u;obtain⟨H,HB⟩:=η2 (h.below u) u;have x0:W.cell? ⟨g,0,none⟩=some (.slice p0 l0 c0):=i.cell 0;have x1:W.cell? ⟨g,1,none⟩=some (.slice p1 l1 c1):=i.cell 1;have x2:W.cell? ⟨g,2,none⟩=some (.slice p2 l2 c2):=i.cell 2;have y0:W.cell? ⟨w.heap.size,0,none⟩=some (.slice q0 m0 E):=b1.cell 0;have y1:W.cell? ⟨w.heap.size,1,none⟩=some (.slice q1 m1 d1):=b1.cell 1;have y2:W.cell? ⟨w.heap.size,2,none⟩=some (.slice q2 m2 d2):=b1.cell 2;clear A i h b1 u hS
 go_enter func90,ntmps90
 go_wp2_with fail
 refine(rt _ _ F G s k W H.o).mono ?_;rintro e w2 ⟨rfl,hb⟩;have C:=O (ae HB.o hb ρ);clear hb
 go_wp2_with fail
 go_ret;exact⟨rfl,C.o⟩
theorem enters90:∀args w,(callFunc 90 args).run prog w=.ok (.enter 90 args) w:=
 enters_of func90 Z rfl
def CloOk(w:World)(p:Option Addr)(n g:Nat):Prop:=
 n=0\/(n=1/\∃b sa sb da db s k,p=some ⟨b,0,none⟩/\b<w.heap.size/\Box w g #[sa.a,sa.b,sa.c] 86/\PenOk w sa sb da db s k/\∀j,j<3->w.cell? ⟨b,j,none⟩=(sh3 sb)[j]?)
theorem oG(p:Option Addr)(n c g:Nat)(w:World)(h:CloOk w p n g):
 Calls prog 140 #[.slice p n c,.func (.func 90) #[] #[.pointer (some ⟨g,0,none⟩)]] w fun e w'=>e=.returned (.int .i64 (-1))/\Bl w w':=by
 have H:=O h;have eg:=enters90;clear h
 go_enter func140,ntmps140
 go_wp2_with fail
 go_loopw [8] (fun v wr=>∃k:Nat,k<=n/\v=.int .i64 (k:Int)/\Hid (Bl w wr)) (fun v _=>n-(intOf v).toNat)
 case atStart=>exact⟨0,Nat.zero_le _,rfl,Below.refl _ _⟩
 case round =>
  obtain⟨k,hk,rfl,A⟩:=hrel;by_cases h0:k=n
  ·have hn:¬ (k:Int)<(n:Int):=I
   clear h0 eg;go_wp2;exact bodyPost_ret (results_tmp results140 _ _ _) rfl ⟨rfl,A.o⟩
  ·obtain hz|⟨h1,b,sa,sb,X,Y,s,kk,hp,hb,j,u,i⟩:=H.o
   ·omega
   ·subst hp
    obtain⟨⟨q0,m0,d0,J⟩,⟨q1,m1,d1,Q⟩,q2,m2,d2,R⟩:=u.b.forms;have E:k=0:=I;have i1:((k:Nat):Int)<(n:Int):=I;have U:n<=64:=I;obtain⟨F,G⟩:=η2 (j.to A.o) (u.below A.o);have y0:wr.cell? ⟨b,k*3,none⟩=some sb.a:=by rw[E];exact(A.o.cell (p:=⟨b,0,none⟩) hb).trans (i 0 I)
    have y1:wr.cell? ⟨b,k*3+1,none⟩=some sb.b:=by rw[E];exact(A.o.cell (p:=⟨b,1,none⟩) hb).trans (i 1 I)
    have y2:wr.cell? ⟨b,k*3+2,none⟩=some sb.c:=by rw[E];exact(A.o.cell (p:=⟨b,2,none⟩) hb).trans (i 2 I)
    rw[J]at y0;rw[Q]at y1;rw[R]at y2;clear i u j hb E h1 h0
    go_wp2_with fail
    rw[<-J,<-Q,<-R];refine(shapes1_any sa sb X Y s kk g wr F.o G.o).mono ?_;rintro e w1 ⟨rfl,C⟩;have W:=O (ae A.o C ρ);clear C;go_wp2;go_round
    case rel=>exact⟨k+1,by omega,rfl,W.o⟩
    case measure=>exact μ
theorem lK(p:Option Addr)(n c g:Nat)(w:World)(h:CloOk w p n g):
 Calls prog 89 #[.slice p n c,.func (.func 90) #[] #[.pointer (some ⟨g,0,none⟩)]] w fun e w'=>e=.returned (.bool false)/\Bl w w':=by
 go_enter func89,ntmps89
 go_wp2_with fail
 refine(oG p n c g w h).mono ?_;rintro e j ⟨rfl,hb⟩;have i:=O hb;clear hb h;go_wp2;go_ret;exact⟨rfl,i.o⟩
structure Blk where
 k:Nat
 a:Nat→Nat
 s:Nat→Nat
def eM(b:Blk):Array Value:=#[.int .u8 (b.k:Nat),.int .u8 (b.a 0:Nat),.int .u8 (b.a 1:Nat),.int .u8 (b.a 2:Nat),.int .u8 (b.s 0:Nat),.int .u8 (b.s 1:Nat),.int .u8 (b.s 2:Nat)]
def Blk.ok(b:Blk):Prop:=b.k<256/\∀i,b.a i<256/\b.s i<256
def Blk.at(b:Blk):V:=⟨(b.a 0 % 5:Nat),(b.a 1 % 5:Nat),(b.a 2 % 5:Nat)⟩
def Blk.sz(b:Blk):V:=⟨(1+b.s 0 % 3:Nat),(1+b.s 1 % 3:Nat),(1+b.s 2 % 3:Nat)⟩
def Blk.pts(b:Blk):List V:=lf (b.k % 6) b.at b.sz
def mg(b:Blk)(m:Nat):List V:=((cubeB.take m).filter (sD (b.k % 6))).map (atB b.at b.sz)
theorem preB_end(b:Blk):mg b 8=b.pts:=rfl
theorem preB_len(b:Blk)(m:Nat):(mg b m).length<=8:=by
 unfold mg;rw[List.length_map];refine Nat.le_trans (List.length_filter_le _ _) ?_;rw[List.length_take];show min m 8<=8;omega
theorem preB_succ(b:Blk){i j k:Nat}(hi:i<2)(e:j<2)(u:k<2):mg b (4*i+2*j+k+1)=if sD (b.k % 6) ⟨(i:Int),(j:Int),(k:Int)⟩=true then mg b (4*i+2*j+k)++[atB b.at b.sz ⟨(i:Int),(j:Int),(k:Int)⟩] else mg b (4*i+2*j+k):=by
 have hc:cubeB[4*i+2*j+k]?=some ⟨(i:Int),(j:Int),(k:Int)⟩:=by
  obtain rfl|rfl:i=0\/i=1:=I
  all_goals (obtain rfl|rfl:j=0\/j=1:=by omega)
  all_goals (obtain rfl|rfl:k=0\/k=1:=by omega)
  all_goals rfl
 unfold mg;rw[List.take_add_one,hc,Option.toList_some,List.filter_append,List.map_append]
 split
 ·rename_i h;rw[List.filter_cons_of_pos h];rfl
 ·rename_i h;rw[List.filter_cons_of_neg h];simp
def mixA(b:Blk)(e:V)(t:Nat):V:=⟨if 0<t then(atB b.at b.sz e).x else e.x,if 1<t then(atB b.at b.sz e).y else e.y,if 2<t then(atB b.at b.sz e).z else e.z⟩
structure CelS (w wr:World) (b:Blk) (ov:Value) (l:List V):Prop where
 bb:Box wr w.heap.size (eM b) 106
 zb:Box wr (w.heap.size+1) #[.slice none 0 0] 102
 cb:Box wr (w.heap.size+2) #[ov] 102
 own:bM wr (w.heap.size+3) ov l
 bel:Bl w wr
theorem CelS.below{w wr wx:World}{b:Blk}{e:Value}{l:List V}(h:CelS w wr b e l)(hb:Bl wr wx):CelS w wx b e l:=
 ⟨h.bb.to hb,h.zb.to hb,h.cb.to hb,bL.below h.own hb,ae h.bel hb ρ⟩
theorem CelS.other{w wr:World}{b:Blk}{j:Value}{l:List V}(h:CelS w wr b j l){g:Nat}(E:w.heap.size+2<g)(C:∀x,j.ownBlock=some x->x≠g)(i:Nat)(u:Value):CelS w (wr.setCell ⟨g,i,none⟩ u) b j l:=
 ⟨h.bb.other (p:=⟨g,i,none⟩) (by show w.heap.size≠g;omega) u,h.zb.other (p:=⟨g,i,none⟩) (by show w.heap.size+1≠g;omega) u,h.cb.other (p:=⟨g,i,none⟩) (by show w.heap.size+2≠g;omega) u,
  bL.kept h.own (bE _ _ _ _) (by
   cases e:j.ownBlock with
   | none=>exact .inl rfl
   | some x=>exact .inr (fun A=>C x e (Option.some.inj A))),h.bel.setCell (p:=⟨g,i,none⟩) (show w.heap.size<=g by omega) u⟩
theorem CelS.app{w wr wx:World}{b:Blk}{u v:Value}{l:List V}{p:V}(h:CelS w wr b u l)(E:wx.ownsRow (w.heap.size+3) 77 3 v (l.length+1) (l.flatMap v3++v3 p))(i:wr.grownBy wx u.ownBlock):CelS w (wx.setCell ⟨w.heap.size+2,0,none⟩ v) b v (l++[p]):=by
 have A:=h.bb.grown i (aH h.own h.bb ν);have C:=h.zb.grown i (aH h.own h.zb ν);have j:=h.cb.grown i (aH h.own h.cb ν)
 exact⟨A.other (p:=⟨w.heap.size+2,0,none⟩) (by show w.heap.size≠w.heap.size+2;omega) v,C.other (p:=⟨w.heap.size+2,0,none⟩) (by show w.heap.size+1≠w.heap.size+2;omega) v,j.set 0 v,
  bL.set (bL.app (x:=[p]) rfl (by simpa using E)) j ν 0 v,(h.bel.grown i h.bel.size (fun g e=>by have:=cz h.own g e;omega)).setCell (p:=⟨w.heap.size+2,0,none⟩) (show w.heap.size<=w.heap.size+2 by omega) v⟩
def mixV(b:Blk)(e:V)(t:Nat):Array Value:=(v3 (mixA b e t)).toArray
theorem mixV_at{w:World}{g:Nat}{b:Blk}{e:V}{t:Nat}{ty:TypeId}(h:Box w g (mixV b e t) ty)(i:t<3):w.cell? ⟨g,t,none⟩=some (.int .i64 (e.co t)):=by
 rw[h.cell];obtain rfl|rfl|rfl:t=0\/t=1\/t=2:=I
 all_goals rfl
theorem mixV_set(b:Blk)(e:V){t:Nat}(i:t<3):(mixV b e t).setIfInBounds t (.int .i64 (((b.a t % 5:Nat):Int)+e.co t*((1+b.s t % 3:Nat):Int)))=mixV b e (t+1):=by
 obtain rfl|rfl|rfl:t=0\/t=1\/t=2:=I
 all_goals rfl
theorem blIn_a{w:World}{g:Nat}{b:Blk}{ty:TypeId}(h:Box w g (eM b) ty){t:Nat}(e:t<3):w.cell? ⟨g,1+t,none⟩=some (.int .u8 (b.a t:Nat))/\w.cell? ⟨g,4+t,none⟩=some (.int .u8 (b.s t:Nat)):=by
 rw[h.cell,h.cell];obtain rfl|rfl|rfl:t=0\/t=1\/t=2:=I
 all_goals exact⟨rfl,rfl⟩
theorem src_v3(w:World)(p:V)(t:TypeId):jj (w.alloc (.cells #[.int .i64 p.x,.int .i64 p.y,.int .i64 p.z] t)) 3 (some ⟨w.heap.size,0,none⟩) 1 (v3 p):=
 ⟨rfl,.inr ⟨_,rfl,fun j u e=>by rw[nF,Nat.zero_add,(Box.new w _ t _ rfl).cell,List.getElem?_toArray];exact e⟩⟩
theorem info3v:(prog.info? 77).map (fun i=>(i.zero,i.size,i.bytes))=some (some (.agg #[.int .i64 0,.int .i64 0,.int .i64 0]),3,24):=by kernel_rfl
theorem nD(b:Blk)(w:World)(hb:b.ok):Calls prog 40 #[.agg (eM b)] w fun e w'=>(∃v,e=.returned (.agg #[v])/\bM w' w.heap.size v b.pts)/\Bl w w':=by
 obtain⟨W,hW,b1,b2,b3,hB,hS⟩:=cC w (eM b) #[.slice none 0 0] #[.slice none 0 0] 106 102 102;obtain⟨C,ao,bm⟩:=η3 (show CelS w W b (.slice none 0 0) (mg b 0)from⟨b1,b2,b3,bL.nil _ _ _ _ _,hB⟩) hb hS;clear b1 b2 b3 hB hS hb;unfold eM at hW⊢
 go_enter func40,ntmps40
 go_wp2_with fail
 go_loopw [4] (fun iv wr=>∃i:Nat,i<=2/\iv=.int .i64 (i:Nat)/\Hid (∃A,CelS w wr b A (mg b (4*i)))) (fun iv _=>2-(intOf iv).toNat)
 case atStart=>exact⟨0,by omega,rfl,_,C.o⟩
 case round =>
  clear C;obtain⟨i,hi,rfl,C⟩:=hrel;obtain⟨w1,rfl⟩:=φ wr;by_cases h0:i=2
  ·subst h0
   have ab:¬ ((2:Nat):Int)<2:=I;obtain⟨A,u⟩:=C.o;have u:=O (show CelS w w1 b A b.pts from u);obtain⟨Y,oc,J,-⟩:=u.o.own.form;obtain⟨ol,ay⟩:=χ b.pts.length;rw[ay]at J;clear ay;subst J;have c0:w1.cell? ⟨w.heap.size+2,0,none⟩=some (.slice Y ol oc):=u.o.cb.cell 0;have c1:w1.cell? ⟨w.heap.size+1,0,none⟩=some (.slice none 0 0):=u.o.zb.cell 0;have f1:=u.o.zb.free 0
   go_wp2_with fail
   obtain⟨BR,OR⟩:=η2 (u.o.zb.set 0 (.slice Y ol oc)) (bL.set u.o.own u.o.zb ν 0 (.slice Y ol oc));have LR:=O (u.o.bel.setCell (p:=⟨w.heap.size+1,0,none⟩) (show w.heap.size<=w.heap.size+1 by omega) (.slice Y ol oc));exact aK results40 (w.heap.size+1) BR.o _ rfl underlying102 rfl jc rfl ⟨⟨_,rfl,bL.down OR.o I⟩,LR.o⟩
  ·have bf:(i:Int)<2:=I
   go_wp2_with fail
   go_loopw [5] (fun jv wr=>∃j:Nat,j<=2/\jv=.int .i64 (j:Nat)/\Hid (∃A,CelS w wr b A (mg b (4*i+2*j)))) (fun jv _=>2-(intOf jv).toNat)
   case atStart=>exact⟨0,by omega,rfl,C.o⟩
   case round =>
    clear C;obtain⟨j,hj,rfl,C⟩:=hrel;obtain⟨w2,rfl⟩:=φ wr;by_cases h1:j=2
    ·subst h1
     have ab:¬ ((2:Nat):Int)<2:=I
     go_wp2_with fail
     go_round
     case rel=>exact⟨i+1,by omega,rfl,show ∃A,CelS _ _ _ _ _ from by have h:=C.o;rwa [show 4*i+2*2=4*(i+1) by omega]at h⟩
     case measure=>simp[intOf];omega
    ·have bg:(j:Int)<2:=I
     go_wp2_with fail
     go_loopw [6] (fun kv wr=>∃k:Nat,k<=2/\kv=.int .i64 (k:Nat)/\Hid (∃A,CelS w wr b A (mg b (4*i+2*j+k)))) (fun kv _=>2-(intOf kv).toNat)
     case atStart=>exact⟨0,by omega,rfl,C.o⟩
     case round =>
      clear C;obtain⟨k,hk,rfl,C⟩:=hrel;obtain⟨wk,rfl⟩:=φ wr;by_cases h2:k=2
      ·subst h2
       have ab:¬ ((2:Nat):Int)<2:=I
       go_wp2_with fail
       go_round
       case rel=>exact⟨j+1,by omega,rfl,show ∃A,CelS _ _ _ _ _ from by have h:=C.o;rwa [show 4*i+2*j+2=4*i+2*(j+1) by omega]at h⟩
       case measure=>simp[intOf];omega
      ·have bi:(k:Int)<2:=I
       obtain⟨A,hcs⟩:=C.o;have u:=O hcs;have hn:wk.cell? ⟨w.heap.size,0,none⟩=some (.int .u8 (b.k:Nat)):=hcs.bb.cell 0;obtain⟨n,aw⟩:=χ (b.k % 6);have X:((b.k:Nat):Int) % 6=(n:Int):=I;have ad:((b.k:Nat):Int).tmod 6=(n:Int):=by rw[Int.tmod_eq_emod_of_nonneg I,X]
       have br:n<6:=I;have af:=preB_succ b (i:=i) (j:=j) (k:=k) I I I;rw[aw]at af;have F:=O af;clear hcs C h0 h1 h2 af aw
       go_upto_region 12 with fail
       go_cut [67] from 26 to 67 (fun v wx=>v=.bool (!sD n ⟨(i:Int),(j:Int),(k:Int)⟩)/\wx=wk)
       case first =>
        have h2:(1:Int)<(i:Int)+(j:Int)\/¬ (1:Int)<(i:Int)+(j:Int):=Classical.em _;have h3:(i:Int)+(j:Int)<1\/¬ (i:Int)+(j:Int)<1:=Classical.em _;have h4:(1:Int)<(i:Int)+(j:Int)+(k:Int)\/¬ (1:Int)<(i:Int)+(j:Int)+(k:Int):=Classical.em _;have h5:(i:Int)+(j:Int)+(k:Int)<2\/¬ (i:Int)+(j:Int)+(k:Int)<2:=Classical.em _;obtain rfl|rfl|rfl|rfl|rfl|rfl:n=0\/n=1\/n=2\/n=3\/n=4\/n=5:=I
        case' inr.inr.inl=>rcases h2 with h|h
        case' inr.inr.inr.inl=>rcases h3 with h|h
        case' inr.inr.inr.inr.inl=>rcases h4 with h|h
        case' inr.inr.inr.inr.inr=>rcases h5 with h|h
        all_goals
         go_wp2_with fail
         go_meet
         case rel =>
          refine⟨congrArg Value.bool ?_,rfl⟩;unfold sD
          first|rfl|(simp;done)|(simp;omega)
       case rest =>
        obtain⟨hv,a9⟩:=hcut;obtain rfl:wc=wk:=a9;obtain⟨kb,av⟩:=χ (sD n ⟨(i:Int),(j:Int),(k:Int)⟩);rw[av]at hv F;subst hv;clear av X ad hn
        cases kb with
        | false =>
         go_wp2_with fail
         go_round
         case rel=>exact⟨k+1,by omega,rfl,show ∃A,CelS _ _ _ _ _ from⟨A,by rw[<-Nat.add_assoc,F.o,if_neg ν];exact u.o⟩⟩
         case measure=>simp[intOf];omega
        | true =>
         go_wp2_with fail
         obtain⟨w3,az,b3,ap,a8⟩:=aB wc #[.int .i64 (i:Nat),.int .i64 (j:Nat),.int .i64 (k:Nat)] 77;rw[az];obtain⟨H,aa⟩:=χ wc.heap.size;(try unfold Bl at b3);rw[aa]at b3⊢;have a2:=O (show w.heap.size+2<H from by rw[<-aa];exact u.o.cb.lt);have a3:=O (show ∀x,A.ownBlock=some x->x≠H from fun x hx=>by have:=(World.ownsRow.lt u.o.own x hx).2;omega);have ag:=O (u.o.below ap);obtain⟨e,he⟩:∃e:V,⟨(i:Int),(j:Int),(k:Int)⟩=e:=⟨_,rfl⟩;rw[he]at F;have V3:=O (show Box w3 H (mixV b e 0) 77 from by rw[<-he];exact b3);have HE:=O (show ∀t,t<3->0<=e.co t/\e.co t<=1 from fun t ht=>by
          rw[<-he];obtain rfl|rfl|rfl:t=0\/t=1\/t=2:=I
          ·show(0:Int)<=(i:Int)/\(i:Int)<=1;omega
          ·show(0:Int)<=(j:Int)/\(j:Int)<=1;omega
          ·show(0:Int)<=(k:Int)/\(k:Int)<=1;omega)
         clear az b3 ap a8 aa u he
         go_loopw [9] (fun tv wr=>∃t:Nat,t<=3/\tv=.int .i64 (t:Nat)/\Hid (Box wr H (mixV b e t) 77)/\Hid (CelS w wr b A (mg b (4*i+2*j+k)))) (fun tv _=>3-(intOf tv).toNat)
         case atStart=>exact⟨0,by omega,rfl,V3.o,ag.o⟩
         case round =>
          clear V3 ag;obtain⟨t,ht,rfl,VB,u⟩:=hrel;obtain⟨U,rfl⟩:=φ wr;by_cases h3:t=3
          ·subst h3
           have ab:¬ ((3:Nat):Int)<3:=I;obtain⟨i0,au,ba,bc,be⟩:=info_parts info3v;obtain⟨p,hp⟩:=χ (atB b.at b.sz e);have VP:=O (show Box U H #[.int .i64 p.x,.int .i64 p.y,.int .i64 p.z] 77 from by rw[<-hp];exact VB.o);rw[hp]at F;have c0:U.cell? ⟨H,0,none⟩=some (.int .i64 p.x):=VP.o.cell 0;have c1:U.cell? ⟨H,1,none⟩=some (.int .i64 p.y):=VP.o.cell 1;have c2:U.cell? ⟨H,2,none⟩=some (.int .i64 p.z):=VP.o.cell 2;obtain⟨Y,oc,J,-⟩:=u.o.own.form;obtain⟨M,hM⟩:=χ (mg b (4*i+2*j+k));have an:=O (hM▸preB_len b (4*i+2*j+k));rw[hM]at u F J;have bl:=O hM;subst J;have c3:U.cell? ⟨w.heap.size+2,0,none⟩=some (.slice Y M.length oc):=u.o.cb.cell 0;have f3:=u.o.cb.free 0;clear hp VB hM
           go_wp2_with (at_builtin;refine cH _ rfl _ _ 100 rfl (w.heap.size+3) 77 i0 (.agg #[.int .i64 0,.int .i64 0,.int .i64 0]) 3 24 underlying100 au ba bc be rfl ν _ _ _ rfl (World.ownsRow.alloc u.o.own _) (some ⟨U.heap.size,0,none⟩) 1 1 (v3 p) rfl (src_v3 U p _) (v3_one1 p) (by have:=an.o;unfold maxLen;omega) (ψ an.o) (by have:=u.o.cb.lt;simp;omega) ?_)
           intro v5 w5 ac G;have E:U.grownBy w5 (Value.slice Y M.length oc).ownBlock:=⟨G.os,G.tape,G.output,Nat.le_trans (by simp) G.size,fun x hx hn=>(G.block x (by simp;omega) hn).trans (Below.heap_alloc _ _ _ hx)⟩;have a0:=O (u.o.app (p:=p) ac E);obtain⟨va,vc,rfl⟩:∃va vc,v5=.slice va (M.length+1) vc:=by
            obtain⟨a,c,e,-⟩:=bL.form (show bM w5 (w.heap.size+3) v5 (M++[p])from bL.app (x:=[p]) rfl (by simpa using ac));exact⟨a,c,by rw[e];simp⟩
           have c4:w5.cell? ⟨w.heap.size+2,0,none⟩=some (.slice Y M.length oc):=(u.o.cb.grown E (aH u.o.own u.o.cb ν)).cell 0;have f4:=(u.o.cb.grown E (aH u.o.own u.o.cb ν)).free 0;have a4:=O (show mg b (4*i+2*j+k+1)=M++[p] from by rw[F.o];exact if_pos trivial);clear u ac G E c3 f3 VP
           go_wp2_with fail
           go_round
           case rel=>exact⟨k+1,by omega,rfl,show ∃A,CelS _ _ _ _ _ from⟨_,by rw[<-Nat.add_assoc,a4.o];exact a0.o⟩⟩
           case measure=>simp[intOf];omega
          ·have bk:(t:Int)<3:=I
           have R:t<3:=I;obtain⟨bp,hcs⟩:=blIn_a u.o.bb R;have a6:=mixV_at VB.o R;have hf:=VB.o.free t;have Q:=mixV_set b e R;have ar:=HE.o t R;have a5:=(ao.o.2 t).1;have a7:=(ao.o.2 t).2;obtain⟨x,hx⟩:=χ (b.a t % 5);obtain⟨y,hy⟩:=χ (b.s t % 3);obtain⟨z,hz⟩:=χ (e.co t);rw[hx,hy,hz]at Q;rw[hz]at a6 ar;have bu:((b.a t:Nat):Int).tmod 5=(x:Int):=by rw[Int.tmod_eq_emod_of_nonneg I];omega
           have bt:((b.s t:Nat):Int).tmod 3=(y:Int):=by rw[Int.tmod_eq_emod_of_nonneg I];omega
           have bv:x<5:=I;have bz:y<3:=I;have bs:0<=z*(1+(y:Int))/\z*(1+(y:Int))<=3:=by
            rcases show z=0\/z=1 by omega with h|h
            ·rw[h,Int.zero_mul];omega
            ·rw[h,Int.one_mul];omega
           have VS:=O (show Box ((U.setCell ⟨H,t,none⟩ (.int .i64 ((x:Int)+z*(1+(y:Int))))).drew) H (mixV b e (t+1)) 77 from by rw[<-Q];exact VB.o.set t _);have a1:=O ((u.o.other a2.o a3.o t (.int .i64 ((x:Int)+z*(1+(y:Int))))).below (aF β 1));clear hx hy hz h3 Q VB u
           go_wp2_with fail
           go_region_with (fail)
           all_goals
            go_wp2_with fail
            go_roundw
            case rel=>exact⟨t+1,R,rfl,VS.o,a1.o⟩
            case measure=>simp[intOf];omega
def kX(a b:Blk)(t:Nat):Prop:=b.a t % 5+1+b.s t % 3<=a.a t % 5\/a.a t % 5+1+a.s t % 3<=b.a t % 5
instance (a b : Blk) (t : Nat) : Decidable (kX a b t) := by unfold kX; infer_instance
def tB(a b:Blk):Bool:=(List.range 3).all fun t=>!decide (kX a b t)
theorem sn{a b:Blk}(h:∀t,t<3->¬ kX a b t):tB a b=true:=List.all_eq_true.mpr fun t e=>by rw[decide_eq_false (h t (List.mem_range.mp e))];rfl
theorem qg{a b:Blk}{t:Nat}(i:t<3)(h:kX a b t):tB a b=false:=by
 rw[Bool.eq_false_iff];intro e;have:=List.all_eq_true.mp e t (List.mem_range.mpr i);rw[decide_eq_true h]at this;cases this
theorem ovlB_part{a b:Blk}(h:tB a b=false):∃t,t<3/\kX a b t:=by
 refine Classical.byContradiction fun hc=>?_
 rw[sn (fun t i e=>hc ⟨t,i,e⟩)]at h;cases h
theorem overlap_any(a b:Blk)(w:World)(ha:a.ok)(hb:b.ok):Calls prog 47 #[.agg (eM a),.agg (eM b)] w fun e w'=>e=.returned (.bool (tB a b))/\Bl w w':=by
 obtain⟨W,hW,b1,b2,Y,hS⟩:=bU w (eM a) (eM b) 106 106;obtain⟨A,Q,R,U,E⟩:=η5 Y b1 b2 ha hb;clear Y b1 b2 hS ha hb;unfold eM at hW⊢
 go_enter func47,ntmps47
 go_wp2_with fail
 go_loopw [4,5] (fun rv J wr=>∃t:Nat,rv=rv/\t<=3/\J=.int .i64 (t:Nat)/\Hid (∀s,s<t->¬ kX a b s)/\Hid (Bl W wr)) (fun _ J _=>3-(intOf J).toNat)
 case atStart=>exact⟨0,rfl,by omega,rfl,fun s hs=>absurd hs I,Below.refl _ _⟩
 case round =>
  obtain⟨t,-,ht,rfl,X,C⟩:=hrel;obtain⟨wk,rfl⟩:=φ wr;by_cases h0:t=3
  ·subst h0
   have af:¬ ((3:Nat):Int)<3:=I
   go_wp2_with fail
   go_ret;exact⟨by rw[sn X.o];rfl,A.o.trans (C.o.mono A.o.size)⟩
  ·have aa:(t:Int)<3:=I
   have i:t<3:=I;obtain⟨ab,hcs⟩:=blIn_a (Q.o.to C.o) i;obtain⟨ac,ad⟩:=blIn_a (R.o.to C.o) i;have q1:=(U.o.2 t).1;have q2:=(U.o.2 t).2;have q3:=(E.o.2 t).1;have q4:=(E.o.2 t).2;have u:kX a b t↔b.a t % 5+1+b.s t % 3<=a.a t % 5\/a.a t % 5+1+a.s t % 3<=b.a t % 5:=Iff.rfl;obtain⟨x,hx⟩:=χ (a.a t % 5);obtain⟨y,hy⟩:=χ (b.a t % 5);obtain⟨p,hp⟩:=χ (a.s t % 3);obtain⟨q,hq⟩:=χ (b.s t % 3);rw[hx,hy,hp,hq]at u;have r1:((a.a t:Nat):Int).tmod 5=(x:Int):=by rw[Int.tmod_eq_emod_of_nonneg I];omega
   have r2:((b.a t:Nat):Int).tmod 5=(y:Int):=by rw[Int.tmod_eq_emod_of_nonneg I];omega
   have r3:((a.s t:Nat):Int).tmod 3=(p:Int):=by rw[Int.tmod_eq_emod_of_nonneg I];omega
   have r4:((b.s t:Nat):Int).tmod 3=(q:Int):=by rw[Int.tmod_eq_emod_of_nonneg I];omega
   have l1:x<5:=I;have l2:y<5:=I;have l3:p<3:=I;have l4:q<3:=I;have j:=O u;clear hx hy hp hq u h0
   go_upto_region 5 with fail
   go_quiet (fail)
   have G:(y:Int)+1+(q:Int)<=(x:Int)\/¬ (y:Int)+1+(q:Int)<=(x:Int):=Classical.em _;have H:(x:Int)+1+(p:Int)<=(y:Int)\/¬ (x:Int)+1+(p:Int)<=(y:Int):=Classical.em _
   rcases G with h|h
   ·go_wp2_with fail
    go_ret;exact⟨by rw[qg i (j.o.mpr (.inl I))];rfl,A.o.trans ((aF C.o _).mono A.o.size)⟩
   ·rcases H with h2|h2
    ·go_wp2_with fail
     go_ret;exact⟨by rw[qg i (j.o.mpr (.inr I))];rfl,A.o.trans ((aF C.o _).mono A.o.size)⟩
    ·have F:=O (show ∀s,s<t+1->¬ kX a b s from fun s hs=>by
      by_cases e:s=t
      ·rw[e,j.o];omega
      ·exact X.o s I)
     go_wp2_with fail
     go_roundw
     case rel=>exact⟨t+1,trivial,i,rfl,F.o,aF C.o _⟩
     case measure=>simp[intOf];omega
structure Blks (w:World) (a:Option Addr) (n cap:Nat) (B:Nat→Blk):Prop where
 le:n<=cap
 nil:a=none→cap=0
 at_:∀ x,a=some x→x.spot=none/\x.block<w.heap.size/\∀ i,i<n→∀ j,j<7→w.cell? ⟨x.block,x.off+i*7+j,none⟩=(eM (B i))[j]?
 ok:∀ i,i<n→(B i).ok
theorem Blks.below{w w':World}{a:Option Addr}{n e:Nat}{B:Nat->Blk}(h:Blks w a n e B){m:Nat}(hb:Below m w w')(G:w.heap.size<=m):Blks w' a n e B:=
 ⟨h.le,h.nil,fun x F=>by
  obtain⟨u,A,C⟩:=h.at_ x F;exact⟨u,Nat.lt_of_lt_of_le A hb.size,fun i hi j E=>by rw[hb.cell (p:=⟨x.block,x.off+i*7+j,none⟩) (show x.block<m by omega)];exact C i hi j E⟩,h.ok⟩
theorem Blks.some{w:World}{a:Option Addr}{n e:Nat}{B:Nat->Blk}(h:Blks w a n e B)(E:0<n):∃b o,a=some ⟨b,o,none⟩/\b<w.heap.size/\∀i,i<n->∀j,j<7->w.cell? ⟨b,o+i*7+j,none⟩=(eM (B i))[j]? := by
 cases a with
 | none=>have:=h.nil rfl;have:=h.le;omega
 | some x =>
  obtain⟨u,A,C⟩:=h.at_ x rfl;obtain⟨b,o,s⟩:=x;simp only at u;subst u;exact⟨b,o,rfl,A,C⟩
theorem Blks.keep{w w':World}{b o n e:Nat}{B:Nat->Blk}(h:Blks w (.some ⟨b,o,none⟩) n e B)(hb:w'.heap[b]?=w.heap[b]?)(F:w.heap.size<=w'.heap.size):Blks w' (.some ⟨b,o,none⟩) n e B:=
 ⟨h.le,h.nil,fun x G=>by
  cases G;obtain⟨u,A,C⟩:=h.at_ _ rfl;exact⟨u,Nat.lt_of_lt_of_le A F,fun i hi j E=>by
   rw[<-C i hi j E];unfold World.cell?;simp only;rw[hb]⟩,h.ok⟩
theorem Blks.rec0{w:World}{b o n i:Nat}{B:Nat->Blk}(h:Blks w (.some ⟨b,o,none⟩) n i B)(u:0<n)(j:Nat)(A:j<(eM (B 0)).size):w.cell? ⟨b,o+j,none⟩=(eM (B 0))[j]? := by
 obtain⟨b1,C,e,-,hc⟩:=h.some u;cases e;have:=hc 0 u j A
 rwa [show o+0*7+j=o+j by omega]at this
theorem Blks.rec1{w:World}{b o n i:Nat}{B:Nat->Blk}(h:Blks w (.some ⟨b,o,none⟩) n i B)(A:1<n)(j:Nat)(u:j<(eM (B 1)).size):w.cell? ⟨b,o+7+j,none⟩=(eM (B 1))[j]? := by
 obtain⟨b1,C,e,-,hc⟩:=h.some I;cases e;have:=hc 1 A j u
 rwa [show o+1*7+j=o+7+j by omega]at this
def blk0:Blk:=⟨0,fun _=>0,fun _=>0⟩
theorem Blks.one(w:World):Blks (w.alloc (.cells (eM blk0) 106)) (.some ⟨w.heap.size,0,none⟩) 1 1 (fun _=>blk0):=by
 refine⟨Nat.le_refl _,(fun h=>by cases h),fun x e=>?_,fun i _=>⟨by decide,fun i=>⟨Nat.zero_lt_succ 255,Nat.zero_lt_succ 255⟩⟩⟩;cases e;refine⟨rfl,by simp,fun i hi j u=>?_⟩;obtain rfl:i=0:=I;rw[show 0+0*7+j=j by omega];exact(Box.new w _ _ _ rfl).cell j
def eJ(n:Nat)(B:Nat->Blk):List Blk:=if n=0 then[blk0] else if 1<n/\tB (B 0) (B 1)=false then[B 0,B 1] else[B 0]
structure CelR (w:World) (base:Nat) (v:Value) (vs:List Value) (ls:List (List V)):Prop where
 own:w.ownsRow base 102 1 v vs.length vs
 len:vs.length=ls.length
 ea:∀ (i:Nat) (u:Value) (l:List V),vs[i]?=some u→ls[i]?=some l→bM w base u l
theorem CelR.below{w w':World}{base:Nat}{v:Value}{vs:List Value}{e:List (List V)}(h:CelR w base v vs e)(hb:Bl w w'):CelR w' base v vs e:=
 ⟨aC h.own hb,h.len,fun i u l j A=>bL.below (h.ea i u l j A) hb⟩
theorem CelR.down{w:World}{base e:Nat}{v:Value}{vs:List Value}{j:List (List V)}(h:CelR w base v vs j)(hb:e<=base):CelR w e v vs j:=
 ⟨bX h.own hb,h.len,fun i u l A C=>bL.down (h.ea i u l A C) hb⟩
theorem CelR.nil(w:World)(base:Nat):CelR w base (.slice none 0 0) [] []:=⟨World.ownsRow_nil _ _ _ _,rfl,fun i u l h=>by simp at h⟩
theorem CelR.set{w:World}{base:Nat}{v:Value}{vs:List Value}{e:List (List V)}(h:CelR w base v vs e){g:Nat}{cs:Array Value}{t:TypeId}(hb:Box w g cs t)(E:t≠102)(F:t≠77)(i:Nat)(u:Value):CelR (w.setCell ⟨g,i,none⟩ u) base v vs e:=
 ⟨eE h.own hb (Ne.symm E) i u,h.len,fun j x l A C=>bL.set (h.ea j x l A C) hb (Ne.symm F) i u⟩
theorem CelR.kept{w w':World}{base:Nat}{v:Value}{vs:List Value}{E:List (List V)}(h:CelR w base v vs E){g:Nat}{cs:Array Value}{t:TypeId}(hb:Box w g cs t)(F:t≠102)(G:t≠77)(C:w.grownBy w' (.some g)):CelR w' base v vs E:=by
 have ne:∀{e k n base:Nat} {v:Value} {xs:List Value},w.ownsRow base e k v n xs->e≠t->v.ownBlock=none\/v.ownBlock≠.some g:=fun J H=>by
  rename_i v xs
  cases e:v.ownBlock with
  | none=>exact .inl rfl
  | some x=>exact .inr (fun j=>aH J hb H (by rw[e,j]))
 exact⟨World.ownsRow.kept h.own C (ne h.own (Ne.symm F)),h.len,fun i u l A j=>bL.kept (h.ea i u l A j) C (ne (h.ea i u l A j) (Ne.symm G))⟩
theorem CelR.app{w w':World}{base:Nat}{v F:Value}{vs:List Value}{E:List (List V)}(h:CelR w base v vs E){u:Value}{l:List V}(J:bM w base u l)(H:w'.ownsRow base 102 1 F (vs.length+1) (vs++[u]))(G:w.grownBy w' v.ownBlock):CelR w' base F (vs++[u]) (E++[l]):=by
 have keep:∀{x:Value} {y:List V},bM w base x y->bM w' base x y:=fun C=>bL.kept C G (iO C h.own ν)
 refine⟨by simpa using H,by simp[h.len],fun i x y j A=>?_⟩;by_cases hi:i<vs.length
 ·rw[List.getElem?_append_left hi]at j
  rw[List.getElem?_append_left (by rw[<-h.len];exact hi)]at A;exact keep (h.ea i x y j A)
 ·by_cases e:i=vs.length
  ·subst e
   rw[List.getElem?_append_right ρ,Nat.sub_self]at j;rw[List.getElem?_append_right (by rw[h.len];exact Nat.le_refl _),h.len,Nat.sub_self]at A;simp at j A;subst j;subst A;exact keep J
  ·rw[List.getElem?_eq_none (by simp;omega)]at j;cases j
def RetPart(base:Nat)(D:Nat)(bl:List Blk)(w:World)(e:Ending):Prop:=∃v vs,e=.returned (.agg #[.string ⟨#[112,97,114,116]⟩,.int .i64 ((1+D % 9:Nat):Int),v])/\CelR w base v vs (bl.map Blk.pts)
structure ParS (w wr:World) (D:Nat) (bv:Value) (d:Nat) (v:Value) (vs:List Value) (ls:List (List V)):Prop where
 bb:Box wr w.heap.size #[.int .u8 (D:Nat),bv] 24
 zb:Box wr (w.heap.size+1) #[.string ⟨#[]⟩,.int .i64 0,.slice none 0 0] 42
 pb:Box wr (w.heap.size+2) #[.string ⟨#[112,97,114,116]⟩,.int .i64 (d:Nat),v] 42
 own:CelR wr (w.heap.size+3) v vs ls
 bel:Bl w wr
theorem ParS.below{w wr wx:World}{D:Nat}{e:Value}{d:Nat}{v:Value}{vs:List Value}{i:List (List V)}(h:ParS w wr D e d v vs i)(hb:Bl wr wx):ParS w wx D e d v vs i:=
 ⟨h.bb.to hb,h.zb.to hb,h.pb.to hb,h.own.below hb,ae h.bel hb ρ⟩
theorem ParS.app{w wr wx:World}{D:Nat}{A:Value}{d:Nat}{v i:Value}{vs:List Value}{E:List (List V)}(h:ParS w wr D A d v vs E){u:Value}{l:List V}(J:bM wr (w.heap.size+3) u l)(H:wx.ownsRow (w.heap.size+3) 102 1 i (vs.length+1) (vs++[u]))(j:wr.grownBy wx v.ownBlock):ParS w (wx.setCell ⟨w.heap.size+2,2,none⟩ i) D A d i (vs++[u]) (E++[l]):=by
 have F:=h.bb.grown j (aH h.own.own h.bb ν);have G:=h.zb.grown j (aH h.own.own h.zb ν);have C:=h.pb.grown j (aH h.own.own h.pb ν)
 exact⟨F.other (p:=⟨w.heap.size+2,2,none⟩) (by show w.heap.size≠w.heap.size+2;omega) i,G.other (p:=⟨w.heap.size+2,2,none⟩) (by show w.heap.size+1≠w.heap.size+2;omega) i,C.set 2 i,
  (h.own.app J H j).set C ν ν 2 i,(h.bel.grown j h.bel.size (fun g e=>by have:=cz h.own.own g e;omega)).setCell (p:=⟨w.heap.size+2,2,none⟩) (show w.heap.size<=w.heap.size+2 by omega) i⟩
theorem oT:(prog.info? 106).map (·.size)=some 7:=by kernel_rfl
theorem fA:(prog.info? 42).map (·.size)=some 3:=by kernel_rfl
theorem infoCz:(prog.info? 102).map (fun i=>(i.zero,i.size,i.bytes))=some (some (.agg #[.slice none 0 0]),1,24):=by kernel_rfl
theorem pZ(s:ByteArray)(d:Int)(a:Option Addr×Nat×Nat):((#[.string s,.int .i64 d,.slice a.1 a.2.1 a.2.2]:Array Value).all fun x=>x.oneCell')=true:=by simp[Value.oneCell']
theorem own_one{w:World}{base:Nat}{u:Value}{l:List V}(h:bM w base u l):∀x∈[u],x.oneCell'=true:=fun x i=>by
 rw[List.mem_singleton]at i;subst i;obtain⟨a,c,e,-⟩:=h.form;rw[e];rfl
theorem bslice_cell(a:Option Addr)(n c:Nat)(w:World):(Instr.buildSlice 40 1 #[(0,.agg #[.slice a n c])]).run prog w=.ok (.slice (some ⟨w.heap.size,0,none⟩) 1 1) (w.alloc (.cells #[.slice a n c] 102)):=by kernel_rfl
theorem jP{o:Oper}{a:Act}{w:World}{K:Act->World->Prop}{Q:Exit->Act->World->Prop}(x:Operand)(p:Option Addr)(n c:Nat)(e:o.op=.buildSlice 40 1 #[(0,x)])(i:a.eval x=.agg #[.slice p n c])(h:K (a.put o.dst (.slice (some ⟨w.heap.size,0,none⟩) 1 1)) (w.alloc (.cells #[.slice p n c] 102))):o.wp prog a w K Q:=by
 unfold Oper.wp execOp;simp only[e,Sem.run_bind,Sem.run_pure,Result.andThen_ok,List.map_toArray,List.map_cons,List.map_nil,i,bslice_cell];exact h
theorem part_any(a:Option Addr)(n ab D:Nat)(B:Nat->Blk)(w:World)(hB:Blks w a n ab B)(hD:D<256)(hn:n<=9223372036854775807):
 Calls prog 9 #[.agg #[.int .u8 (D:Nat),.slice a n ab]] w fun e w'=>RetPart w.heap.size D (eJ n B) w' e/\Bl w w':=by
 obtain⟨d,hd⟩:=χ (1+D % 9);obtain⟨r,hr⟩:=χ (D % 9);obtain⟨W,hW,b1,b2,hL,hS⟩:=bU w #[.int .u8 (D:Nat),.slice a n ab] #[.string ⟨#[]⟩,.int .i64 0,.slice none 0 0] 24 42;obtain⟨W3,br,c3,hC,-⟩:=aB W #[.string ⟨#[112,97,114,116]⟩,.int .i64 (d:Nat),.slice none 0 0] 42;rw[hS]at c3;have HP:=O (show ParS w W3 D (.slice a n ab) d (.slice none 0 0) [] [] from⟨b1.to hC,b2.to hC,c3,CelR.nil _ _,ae hL hC ρ⟩);have be:=O (show ∀b o,a=some ⟨b,o,none⟩->b≠w.heap.size+2 from fun b o e=>by have:=(hB.at_ _ e).2.1;simp only at this;omega);obtain⟨aa,bm,bp,bf⟩:=η4 ((hB.below hL ρ).below hC ρ) hS br hd;have h9:((D:Nat):Int).tmod 9=((r:Nat):Int):=by rw[Int.tmod_eq_emod_of_nonneg I];omega
 have b3:r<9:=I;have b0:1+((r:Nat):Int)=((d:Nat):Int):=I;have x0:W.cell? ⟨w.heap.size,0,none⟩=some (.int .u8 (D:Nat)):=b1.cell 0;have y1:W3.cell? ⟨w.heap.size,1,none⟩=some (.slice a n ab):=HP.o.bb.cell 1;clear b1 b2 c3 hC hL hS hd hr hB br
 go_enter func9,ntmps9
 go_upto_region 2 with(refine aA rfl _ _ _ rfl _ (#[.string ⟨#[112,97,114,116]⟩,.int .i64 (d:Nat),.slice none 0 0]) rfl rfl fA rfl (pZ _ _ (none,0,0)) ?_)
 rw[bp.o,bm.o];clear hW x0 h9 b3 b0
 go_upto_if 15 with fail
 go_cut [4] from 16 to 17 (fun v wx=>∃(bb o m c:Nat) (E:Nat->Blk),v=.slice (some ⟨bb,o,none⟩) m c/\Hid (0<m/\m<=9223372036854775807/\eJ n B=eJ m E/\bb≠w.heap.size+2/\bb<wx.heap.size)/\Hid (Blks wx (some ⟨bb,o,none⟩) m c E)/\Hid (ParS w wx D (.slice a n ab) d (.slice none 0 0) [] []))
 case first =>
  by_cases h0:n=0
  ·subst h0
   go_wp2_with fail
   go_meet
   case rel=>exact⟨W3.heap.size,0,1,1,fun _=>blk0,rfl,⟨by omega,by omega,rfl,by have:=HP.o.pb.lt;omega,by simp⟩,Blks.one W3,HP.o.below (β.alloc ρ _)⟩
  ·have a7:((n:Int) == 0)=false:=by rw[beq_eq_false_iff_ne];omega
   obtain⟨bb,o,ea,-⟩:=aa.o.some I;have bv:=O (be.o bb o ea);subst ea
   go_wp2_with fail
   go_meet
   case rel=>exact⟨bb,o,n,ab,B,rfl,⟨by omega,hn,rfl,bv.o,((aa.o.at_ _ rfl).2).1⟩,aa.o,HP.o⟩
 case rest =>
  clear HP aa be y1 bp bm;obtain⟨bb,o,m,c,E,rfl,HM,aa,HP⟩:=hcut;obtain⟨w4,rfl⟩:=φ wc;have a4:=HP;have F:=O (show 0<m/\(0:Int)<(m:Int)from⟨HM.o.1,by have:=HM.o.1;omega⟩);obtain⟨bi,an⟩:=η2 (aa.o.ok 0 HM.o.1) (fun w' (h:Bl w4 w') j (G:j<(eM (E 0)).size)=>(aa.o.below h ρ).rec0 HM.o.1 j G)
  go_upto_region 5 with fail
  refine aU (rest:=3) [isV 0 (.pointer (some ⟨w.heap.size+2,2,none⟩)),isV 1 (.slice none 0 0),isV 2 (.slice (some ⟨bb,o,none⟩) m c),isV 3 (.pointer (some ⟨bb,o,none⟩)),isV 4 (.agg (eM (E 0))),isP 5 (fun u w=>∃v,u=.agg #[v]/\bM w w4.heap.size v (E 0).pts),isP 6 (fun u w=>∃(g:Nat) (v:Value),u=.slice (some ⟨g,0,none⟩) 1 1/\w4.heap.size<=g/\Box w g #[v] 102/\bM w w4.heap.size v (E 0).pts)] [6] ?A1 (τ 7 3) Z [0,1,2,3,4,5,6] Z Z Z Z Z Z ?st ?hA ?hop ?hend
  case hA=>exact cZ
  case st=>(iterate 5 refine aq.cons isV.stab ?_);refine aq.cons (isP.stab (fun _ _ _ h ⟨v,e,h1⟩=>⟨v,e,bL.below h1 h⟩)) ?_;refine aq.cons (isP.stab (fun _ _ _ h ⟨g,v,e,h0,h1,h2⟩=>⟨g,v,e,h0,h1.to h,bL.below h2 h⟩)) ?_;exact aq.nil
  case hop =>
   refine ai.cons rfl (fun y w' hS hD K hK=>?_) ?_
   ·as_aux_lemma =>
    go_simp;exact hK.out _ w' hS β isV.put δ
   refine ai.cons rfl (fun y w' hS hD K hK=>?_) ?_
   ·simp only[isV.get (hD 0 Z)]at hK⊢
    as_aux_lemma =>
    have c0:w'.cell? ⟨w.heap.size+2,2,none⟩=some (.slice none 0 0):=(a4.o.below hS).pb.cell 2;go_simp;exact hK.out _ w' hS β isV.put δ
   refine ai.cons rfl (fun y w' hS hD K hK=>?_) ?_
   ·as_aux_lemma =>
    go_simp;exact hK.out _ w' hS β isV.put δ
   refine ai.cons rfl (fun y w' hS hD K hK=>?_) ?_
   ·simp only[isV.get (hD 2 Z)]at hK⊢
    as_aux_lemma =>
    have hl:=F.o.1;have a6:=F.o.2;go_simp;exact hK.out _ w' hS β isV.put δ
   refine ai.cons rfl (fun y w' hS hD K hK=>?_) ?_
   ·simp only[isV.get (hD 3 Z)]at hK⊢
    as_aux_lemma =>
    refine bJ ?_;refine aV 106 _ rfl bb (o) rfl (eM (E 0)) _ (fun j G=>an.o w' hS j G) underlying106 rfl oT ?_;exact hK.out _ w' hS β isV.put δ
   refine ai.cons rfl (fun y w' hS hD K hK=>?_) ?_
   ·simp only[isV.get (hD 4 Z)]at hK⊢
    as_aux_lemma =>
    go_simp;refine(nD (E 0) w' bi.o).mono ?_
    rintro e af ⟨⟨v,rfl,hv⟩,hb⟩;exact hK.out _ af (ae hS hb ρ) hb (isP.put ⟨v,rfl,bL.down hv hS.size⟩) δ
   refine ai.cons rfl (fun y w' hS hD K hK=>?_) ?_
   ·as_aux_lemma =>
    have e5:=isP.get (hD 5 Z);obtain⟨v,eq,hv⟩:=e5;simp only[eq]at hK⊢;have HV:=O hv;obtain⟨J,R,az,-⟩:=hv.form;obtain⟨vl,a0⟩:=χ ((Blk.pts (E 0)).length);rw[a0]at az;subst az;clear hv a0 eq;refine bJ ?_;refine jP _ J vl R rfl rfl ?_;exact hK.out _ _ (hS.alloc hS.size _) (β.alloc ρ _) (isP.put ⟨_,_,rfl,hS.size,Box.new _ _ _ _ rfl,bL.below HV.o (β.alloc ρ _)⟩) (fun _ j G a7 _=>absurd (List.mem_singleton.1 G) a7)
   exact ai.nil
  case hend =>
   intro y w' hS hR hF;have e1:=isV.get (hR 1 Z);obtain⟨gn,u,e6,bc,au,hu⟩:=isP.get (i:=6) (p:=fun u w=>∃(g:Nat) (v:Value),u=.slice (some ⟨g,0,none⟩) 1 1/\w4.heap.size<=g/\Box w g #[v] 102/\bM w w4.heap.size v (E 0).pts) (hR 6 Z);simp only[e1,e6];have PX:=a4.o.below hS;refine aL (i:=7) (listed2:=τ 8 2) Z rfl Z (fun K hK=>?_);refine bJ ?_;obtain⟨i0,ac,a1,a2,a3⟩:=info_parts infoCz;refine eN w' _ _ 40 rfl (w.heap.size+3) 102 i0 (.agg #[.slice none 0 0]) 1 24 underlying40 ac a1 a2 a3 rfl ν (.slice none 0 0) 0 ([]) rfl PX.own.own (some ⟨gn,0,none⟩) 1 1 [u] rfl ⟨rfl,.inr ⟨_,rfl,fun j x hx=>by rw[nF,Nat.zero_add,au.cell,List.getElem?_toArray];exact hx⟩⟩ (own_one hu) (by unfold maxLen;omega) I (ψ PX.pb.lt) ?_;intro v' w5 H A;have C:=O (PX.app (bL.down hu (show w.heap.size+3<=w4.heap.size from by have:=a4.o.pb.lt;omega)) H A);obtain⟨J,R,rfl⟩:∃J R,v'=.slice J 1 R:=by
    obtain⟨a,c,e,-⟩:=eU H;exact⟨a,c,e⟩
   have bg:=O (show ∀x b,b<w4.heap.size->b≠w.heap.size+2->((.slice none 0 0):Value).ownBlock=none->(w5.setCell ⟨w.heap.size+2,2,none⟩ x).heap[b]?=w4.heap[b]? from fun x b h1 h2 h3=>by
    rw[heap_setCell_other _ _ _ _ (show b≠_ from h2),A.block b (ψ hS.size) (by rw[h3];intro e;cases e),hS.block b I])
   have ar:=O (show w4.heap.size<=(w5.setCell ⟨w.heap.size+2,2,none⟩ (.slice J 1 R)).heap.size from by simp;exact Nat.le_trans hS.size A.size);have ad:=O (PX.pb.grown A (aH PX.own.own PX.pb ν));refine hK.out _ _ ?_;clear hK K hS hR hF e1 e6 bc au hu H A PX ac a1 a2 a3;refine aL (i:=8) (listed2:=τ 9 1) Z rfl Z (fun K hK=>?_);go_simp;refine hK.out _ _ ?_;clear hK K;refine aL (i:=9) (listed2:=τ 10 0) Z rfl Z (fun K hK=>?_);have f0:=ad.o.free 2;have c0:w5.cell? ⟨w.heap.size+2,2,none⟩=some (.slice none 0 0):=ad.o.cell 2;go_simp;refine hK.out _ _ ?_;clear hK K f0 c0 ad;refine aP Z ?_;obtain⟨a8,a9⟩:=η2 (bg.o (.slice J 1 R) bb HM.o.2.2.2.2 HM.o.2.2.2.1 rfl) (show w4.heap.size<=(w5.setCell ⟨w.heap.size+2,2,none⟩ (.slice J 1 R)).heap.size from ar.o);obtain⟨w6,bu⟩:=χ (w5.setCell ⟨w.heap.size+2,2,none⟩ (.slice J 1 R));rw[bu]at C a8 a9⊢;clear bu F bg ar;obtain⟨Q,aw⟩:∃x,x=J:=⟨_,rfl⟩;obtain⟨U,ay⟩:∃x,x=R:=⟨_,rfl⟩;obtain⟨u1,bt⟩:∃x,x=u:=⟨_,rfl⟩;rw[<-aw,<-ay,<-bt]at C;rw[<-aw,<-ay];obtain⟨bl,Y⟩:=η2 (show ParS w w6 D (.slice a n ab) d (.slice Q 1 U) [u1] [(E 0).pts] from C.o) (aa.o.keep a8.o a9.o);clear aw ay bt C J R u HP a4 aa an a8 a9;obtain⟨ob,bs⟩:=χ (tB (E 0) (E 1));have ap:=O bs;clear bs
   go_upto_region 6 with fail
   go_cut [39] from 27 to 39 (fun v wx=>v=.bool (decide (1<m)&&!ob)/\Bl w6 wx)
   case first =>
    by_cases h1:1<m
    ·have F:=O (show 0<m/\(1:Int)<(m:Int)from⟨by omega,by omega⟩)
     have bz:=O (fun w'=>show Calls prog 47 #[.agg (eM (E 0)),.agg (eM (E 1))] w' fun e af=>e=.returned (.bool ob)/\Bl w' af from by rw[<-ap.o];exact overlap_any (E 0) (E 1) w' (Y.o.ok 0 I) (Y.o.ok 1 h1));obtain⟨an,ao⟩:=η2 (fun w' (h:Bl w6 w') j (G:j<(eM (E 0)).size)=>(Y.o.below h ρ).rec0 I j G) (fun w' (h:Bl w6 w') j (G:j<(eM (E 1)).size)=>(Y.o.below h ρ).rec1 h1 j G)
     go_wp2_with fail
     refine aU (rest:=1) [isV 0 (.slice (some ⟨bb,o,none⟩) m c),isV 1 (.int .i64 (m:Nat)),isV 2 (.bool true),isV 3 (.bool true),isV 4 (.slice (some ⟨bb,o,none⟩) m c),isV 5 (.pointer (some ⟨bb,o,none⟩)),isV 6 (.agg (eM (E 0))),isV 7 (.slice (some ⟨bb,o,none⟩) m c),isV 8 (.pointer (some ⟨bb,o+7,none⟩)),isV 9 (.agg (eM (E 1))),isV 10 (.bool ob),isV 11 (.bool (!ob))] [] ?A6 (τ 12 1) Z [0,1,2,3,4,5,6,7,8,9,10,11] Z Z Z Z Z Z ?st ?hA ?hop ?hend
     case hA=>exact cZ
     case st=>(iterate 12 refine aq.cons isV.stab ?_);exact aq.nil
     case hop =>
      iterate 2
       refine ai.cons rfl (fun y w' hS hD K hK=>?_) ?_
       ·try simp only[isV.get (hD 0 (by decide +kernel))]at hK⊢
        as_aux_lemma =>
        go_simp;exact hK.out _ w' hS β isV.put δ
      refine ai.cons rfl (fun y w' hS hD K hK=>?_) ?_
      ·simp only[isV.get (hD 1 Z)]at hK⊢
       as_aux_lemma =>
       have a6:=F.o.2;go_simp;exact hK.out _ w' hS β isV.put δ
      iterate 2
       refine ai.cons rfl (fun y w' hS hD K hK=>?_) ?_
       ·try simp only[isV.get (hD 2 (by decide +kernel))]at hK⊢
        try simp only[isV.get (hD 3 (by decide +kernel))]at hK⊢
        as_aux_lemma =>
        go_simp;exact hK.out _ w' hS β isV.put δ
      refine ai.cons rfl (fun y w' hS hD K hK=>?_) ?_
      ·simp only[isV.get (hD 4 Z),isV.get (hD 3 Z)]at hK⊢
       as_aux_lemma =>
       have hl:=F.o.1;have a6:=F.o.2;go_simp;exact hK.out _ w' hS β isV.put δ
      refine ai.cons rfl (fun y w' hS hD K hK=>?_) ?_
      ·simp only[isV.get (hD 5 Z),isV.get (hD 3 Z)]at hK⊢
       as_aux_lemma =>
       refine bJ ?_;refine aV 106 _ rfl bb (o) rfl (eM (E 0)) _ (fun j G=>an.o w' hS j G) underlying106 rfl oT ?_;exact hK.out _ w' hS β isV.put δ
      refine ai.cons rfl (fun y w' hS hD K hK=>?_) ?_
      ·simp only[isV.get (hD 3 Z)]at hK⊢
       as_aux_lemma =>
       go_simp;exact hK.out _ w' hS β isV.put δ
      refine ai.cons rfl (fun y w' hS hD K hK=>?_) ?_
      ·simp only[isV.get (hD 7 Z),isV.get (hD 3 Z)]at hK⊢
       as_aux_lemma =>
       have hl:=F.o.1;have a6:=F.o.2;go_simp;exact hK.out _ w' hS β isV.put δ
      refine ai.cons rfl (fun y w' hS hD K hK=>?_) ?_
      ·simp only[isV.get (hD 8 Z),isV.get (hD 3 Z)]at hK⊢
       as_aux_lemma =>
       refine bJ ?_;refine aV 106 _ rfl bb (o+7) rfl (eM (E 1)) _ (fun j G=>ao.o w' hS j G) underlying106 rfl oT ?_;exact hK.out _ w' hS β isV.put δ
      refine ai.cons rfl (fun y w' hS hD K hK=>?_) ?_
      ·simp only[isV.get (hD 6 Z),isV.get (hD 9 Z),isV.get (hD 3 Z)]at hK⊢
       as_aux_lemma =>
       go_simp;refine(bz.o w').mono ?_
       rintro e af ⟨rfl,hb⟩;exact hK.out _ af (ae hS hb ρ) hb isV.put δ
      refine ai.cons rfl (fun y w' hS hD K hK=>?_) ?_
      ·simp only[isV.get (hD 10 Z),isV.get (hD 3 Z)]at hK⊢
       as_aux_lemma =>
       go_simp;exact hK.out _ w' hS β isV.put δ
      exact ai.nil
     case hend =>
      intro y w' hS hR hF;have e3:=isV.get (hR 3 Z);have bV:=isV.get (hR 11 Z);simp only[e3,bV];refine aL (i:=12) (listed2:=τ 13 0) Z rfl Z (fun K hK=>?_);go_simp;refine hK.out _ _ ?_;clear hK K;refine aP Z ?_
      go_wp2_with fail
      go_meet
      case rel=>exact⟨by rw[decide_eq_true (show 1<m by omega)];rfl,hS⟩
    ·obtain rfl:m=1:=by have:=HM.o.1;omega
     have b5:¬ (1:Int)<((1:Nat):Int):=I
     go_wp2_with fail
     go_quiet (fail)
     go_wp2_with fail
     go_meet
     case rel=>exact⟨rfl,aF β _⟩
   case rest =>
    obtain⟨rfl,ba⟩:=hcut;obtain⟨w7,rfl⟩:=φ wc;obtain⟨X,ag⟩:=η2 (bl.o.below ba) (Y.o.below ba ρ);clear bl Y ba;by_cases hb:(decide (1<m)&&!ob)=true
    ·rw[hb]
     have av:1<m/\ob=false:=by
      rw[Bool.and_eq_true,decide_eq_true_iff]at hb;exact⟨hb.1,by simpa using hb.2⟩
     have bI:=O (show eJ m E=[E 0,E 1]/\True from⟨by unfold eJ;rw[if_neg I,if_pos ⟨av.1,by rw[ap.o,av.2]⟩],trivial⟩);have F:=O (show 0<m/\(1:Int)<(m:Int)from⟨by omega,by omega⟩);obtain⟨bk,ao⟩:=η2 (ag.o.ok 1 av.1) (fun w' (h:Bl w7 w') j (G:j<(eM (E 1)).size)=>(ag.o.below h ρ).rec1 av.1 j G);clear hb av ap ag
     go_wp2_with fail
     refine aU (rest:=3) [isV 0 (.pointer (some ⟨w.heap.size+2,2,none⟩)),isV 1 (.slice Q 1 U),isV 2 (.slice (some ⟨bb,o,none⟩) m c),isV 3 (.pointer (some ⟨bb,o+7,none⟩)),isV 4 (.agg (eM (E 1))),isP 5 (fun u w=>∃v,u=.agg #[v]/\bM w w7.heap.size v (E 1).pts),isP 6 (fun u w=>∃(g:Nat) (v:Value),u=.slice (some ⟨g,0,none⟩) 1 1/\w7.heap.size<=g/\Box w g #[v] 102/\bM w w7.heap.size v (E 1).pts)] [6] ?A7 (τ 7 3) Z [0,1,2,3,4,5,6] Z Z Z Z Z Z ?st ?hA ?hop ?hend
     case hA=>exact cZ
     case st=>(iterate 5 refine aq.cons isV.stab ?_);refine aq.cons (isP.stab (fun _ _ _ h ⟨v,e,h1⟩=>⟨v,e,bL.below h1 h⟩)) ?_;refine aq.cons (isP.stab (fun _ _ _ h ⟨g,v,e,h0,h1,h2⟩=>⟨g,v,e,h0,h1.to h,bL.below h2 h⟩)) ?_;exact aq.nil
     case hop =>
      refine ai.cons rfl (fun y w' hS hD K hK=>?_) ?_
      ·as_aux_lemma =>
       go_simp;exact hK.out _ w' hS β isV.put δ
      refine ai.cons rfl (fun y w' hS hD K hK=>?_) ?_
      ·simp only[isV.get (hD 0 Z)]at hK⊢
       as_aux_lemma =>
       have c0:w'.cell? ⟨w.heap.size+2,2,none⟩=some (.slice Q 1 U):=(X.o.below hS).pb.cell 2;go_simp;exact hK.out _ w' hS β isV.put δ
      refine ai.cons rfl (fun y w' hS hD K hK=>?_) ?_
      ·as_aux_lemma =>
       go_simp;exact hK.out _ w' hS β isV.put δ
      refine ai.cons rfl (fun y w' hS hD K hK=>?_) ?_
      ·simp only[isV.get (hD 2 Z)]at hK⊢
       as_aux_lemma =>
       have hl:=F.o.1;have a6:=F.o.2;go_simp;exact hK.out _ w' hS β isV.put δ
      refine ai.cons rfl (fun y w' hS hD K hK=>?_) ?_
      ·simp only[isV.get (hD 3 Z)]at hK⊢
       as_aux_lemma =>
       refine bJ ?_;refine aV 106 _ rfl bb (o+7) rfl (eM (E 1)) _ (fun j G=>ao.o w' hS j G) underlying106 rfl oT ?_;exact hK.out _ w' hS β isV.put δ
      refine ai.cons rfl (fun y w' hS hD K hK=>?_) ?_
      ·simp only[isV.get (hD 4 Z)]at hK⊢
       as_aux_lemma =>
       go_simp;refine(nD (E 1) w' bk.o).mono ?_
       rintro e af ⟨⟨v,rfl,hv⟩,hb⟩;exact hK.out _ af (ae hS hb ρ) hb (isP.put ⟨v,rfl,bL.down hv hS.size⟩) δ
      refine ai.cons rfl (fun y w' hS hD K hK=>?_) ?_
      ·as_aux_lemma =>
       have e5:=isP.get (hD 5 Z);obtain⟨v,eq,hv⟩:=e5;simp only[eq]at hK⊢;have HV:=O hv;obtain⟨J,R,az,-⟩:=hv.form;obtain⟨vl,a0⟩:=χ ((Blk.pts (E 1)).length);rw[a0]at az;subst az;clear hv a0 eq;refine bJ ?_;refine jP _ J vl R rfl rfl ?_;exact hK.out _ _ (hS.alloc hS.size _) (β.alloc ρ _) (isP.put ⟨_,_,rfl,hS.size,Box.new _ _ _ _ rfl,bL.below HV.o (β.alloc ρ _)⟩) (fun _ j G a7 _=>absurd (List.mem_singleton.1 G) a7)
      exact ai.nil
     case hend =>
      intro y w' hS hR hF;have e1:=isV.get (hR 1 Z);obtain⟨gn,u,e6,bc,au,hu⟩:=isP.get (i:=6) (p:=fun u w=>∃(g:Nat) (v:Value),u=.slice (some ⟨g,0,none⟩) 1 1/\w7.heap.size<=g/\Box w g #[v] 102/\bM w w7.heap.size v (E 1).pts) (hR 6 Z);simp only[e1,e6];have PX:=X.o.below hS;refine aL (i:=7) (listed2:=τ 8 2) Z rfl Z (fun K hK=>?_);refine bJ ?_;obtain⟨i0,ac,a1,a2,a3⟩:=info_parts infoCz;refine eN w' _ _ 40 rfl (w.heap.size+3) 102 i0 (.agg #[.slice none 0 0]) 1 24 underlying40 ac a1 a2 a3 rfl ν (.slice Q 1 U) 1 ([u1]) rfl PX.own.own (some ⟨gn,0,none⟩) 1 1 [u] rfl ⟨rfl,.inr ⟨_,rfl,fun j x hx=>by rw[nF,Nat.zero_add,au.cell,List.getElem?_toArray];exact hx⟩⟩ (own_one hu) (by unfold maxLen;omega) I (ψ PX.pb.lt) ?_;intro v' w5 H A;have C:=O (PX.app (bL.down hu (show w.heap.size+3<=w7.heap.size from by have:=X.o.pb.lt;omega)) H A);obtain⟨J,R,rfl⟩:∃J R,v'=.slice J 2 R:=by
       obtain⟨a,c,e,-⟩:=eU H;exact⟨a,c,e⟩
      skip
      have ar:=O (show w7.heap.size<=(w5.setCell ⟨w.heap.size+2,2,none⟩ (.slice J 2 R)).heap.size from by simp;exact Nat.le_trans hS.size A.size);have ad:=O (PX.pb.grown A (aH PX.own.own PX.pb ν));refine hK.out _ _ ?_;clear hK K hS hR hF e1 e6 bc au hu H A PX ac a1 a2 a3;refine aL (i:=8) (listed2:=τ 9 1) Z rfl Z (fun K hK=>?_);go_simp;refine hK.out _ _ ?_;clear hK K;refine aL (i:=9) (listed2:=τ 10 0) Z rfl Z (fun K hK=>?_);have f0:=ad.o.free 2;have c0:w5.cell? ⟨w.heap.size+2,2,none⟩=some (.slice Q 1 U):=ad.o.cell 2;go_simp;refine hK.out _ _ ?_;clear hK K f0 c0 ad;refine aP Z ?_;obtain⟨w9,b4⟩:=χ (w5.setCell ⟨w.heap.size+2,2,none⟩ (.slice J 2 R));rw[b4]at C⊢
      go_wp2_with (first|refine aj rfl _ _ rfl (w.heap.size+2) 0 rfl (#[.string ⟨#[112,97,114,116]⟩,.int .i64 (d:Nat),.slice J 2 R]) _ (fun j G=>C.o.pb.whole j G) underlying42 rfl fA ?_|refine wpList_store_row rfl 42 _ _ rfl (w.heap.size+1) (#[.string ⟨#[112,97,114,116]⟩,.int .i64 (d:Nat),.slice J 2 R]) rfl rfl 42 _ C.o.zb fA rfl (pZ _ _ (J,2,R)) ?_)
      obtain⟨BR,CR⟩:=η2 (cT C.o.zb (#[.string ⟨#[112,97,114,116]⟩,.int .i64 (d:Nat),.slice J 2 R])) (C.o.own.kept C.o.zb ν ν (bq _ (w.heap.size+1) (#[.string ⟨#[112,97,114,116]⟩,.int .i64 (d:Nat),.slice J 2 R])));have LR:=O (C.o.bel.grown (bq _ (w.heap.size+1) (#[.string ⟨#[112,97,114,116]⟩,.int .i64 (d:Nat),.slice J 2 R])) C.o.bel.size (fun g e=>by cases e;omega));exact aK results9 (w.heap.size+1) BR.o _ rfl underlying42 rfl fA rfl ⟨⟨_,_,by rw[bf.o],by rw[HM.o.2.2.1,bI.o.1];exact CR.o.down I⟩,LR.o⟩
    ·have a5:(decide (1<m)&&!ob)=false:=by simpa using hb
     rw[a5];have bF:=O (show eJ m E=[E 0] from by
      unfold eJ;rw[if_neg (ψ HM.o.1),if_neg];rintro⟨h1,h2⟩;rw[ap.o]at h2;rw[h2,decide_eq_true h1]at a5;cases a5)
     clear hb a5 ap ag
     go_wp2_with (first|refine aj rfl _ _ rfl (w.heap.size+2) 0 rfl (#[.string ⟨#[112,97,114,116]⟩,.int .i64 (d:Nat),.slice Q 1 U]) _ (fun j G=>X.o.pb.whole j G) underlying42 rfl fA ?_|refine wpList_store_row rfl 42 _ _ rfl (w.heap.size+1) (#[.string ⟨#[112,97,114,116]⟩,.int .i64 (d:Nat),.slice Q 1 U]) rfl rfl 42 _ X.o.zb fA rfl (pZ _ _ (Q,1,U)) ?_)
     obtain⟨BR,CR⟩:=η2 (cT X.o.zb (#[.string ⟨#[112,97,114,116]⟩,.int .i64 (d:Nat),.slice Q 1 U])) (X.o.own.kept X.o.zb ν ν (bq _ (w.heap.size+1) (#[.string ⟨#[112,97,114,116]⟩,.int .i64 (d:Nat),.slice Q 1 U])));have LR:=O (X.o.bel.grown (bq _ (w.heap.size+1) (#[.string ⟨#[112,97,114,116]⟩,.int .i64 (d:Nat),.slice Q 1 U])) X.o.bel.size (fun g e=>by cases e;omega));exact aK results9 (w.heap.size+1) BR.o _ rfl underlying42 rfl fA rfl ⟨⟨_,_,by rw[bf.o],by rw[HM.o.2.2.1,bF.o];exact CR.o.down I⟩,LR.o⟩
theorem lg(b:Blk):BlkOk (ofL b.pts) b.pts.length b.at b.sz:=
 blk_ok _ (Nat.mod_lt _ ν) _ _ (by refine⟨⟨?_,?_⟩,⟨?_,?_⟩,?_,?_⟩<;>(show(_:Int)<=_;simp only[Blk.at];omega))
  (by refine⟨⟨?_,?_⟩,⟨?_,?_⟩,?_,?_⟩<;>(simp only[Blk.sz];omega))
theorem bl_len(b:Blk):b.pts.length<=8:=by rw[<-preB_end];exact preB_len b 8
theorem kP(b:Blk):∀i,i<b.pts.length->LeV 8 (ofL b.pts i):=fun i hi=>by
 obtain⟨⟨e,j⟩,⟨u,A⟩,C,E⟩:=(lg b).within i hi;simp only[Blk.at,Blk.sz]at e j u A C E;refine⟨?_,?_,?_⟩<;>(unfold Le;omega)
theorem LeV.mono'{k l:Int}{p:V}(h:LeV k p)(u:k<=l):LeV l p:=by
 obtain⟨e,i,j⟩:=h;unfold Le at e i j;refine⟨?_,?_,?_⟩<;>(unfold Le;omega)
def gL(b:Blk)(d:ShD):Prop:=∃fs E es,d=ShD.of (ofL b.pts) b.pts.length fs es/\RingsOk (ofL b.pts) b.pts.length fs E/\EdgesOk (fs.map RF.r) es
structure RawL (L:List Blk) (ds:List ShD):Prop where
 len:ds.length=L.length
 at_:∀ (i:Nat) (b:Blk) (d:ShD),L[i]?=some b→ds[i]?=some d→gL b d
theorem RawL.nil:RawL [] []:=⟨rfl,fun i b d h=>by simp at h⟩
theorem RawL.app{L:List Blk}{A:List ShD}(h:RawL L A){b:Blk}{d:ShD}(C:gL b d):RawL (L++[b]) (A++[d]):=by
 refine⟨by simp[h.len],fun i x y j u=>?_⟩;by_cases hi:i<L.length
 ·rw[List.getElem?_append_left hi]at j
  rw[List.getElem?_append_left (by rw[h.len];exact hi)]at u;exact h.at_ i x y j u
 ·rw[List.getElem?_append_right I]at j
  rw[List.getElem?_append_right (by rw[h.len];omega),h.len]at u;by_cases e:i-L.length=0
  ·rw[e]at j u
   simp at j u;subst j;subst u;exact C
  ·rw[List.getElem?_eq_none (by simp;omega)]at j
   cases j
def qX(L:List Blk):Prop:=(∃b,L=[b])\/∃a b,L=[a,b]/\tB a b=false
theorem partL_ok(n:Nat)(B:Nat->Blk):qX (eJ n B):=by
 unfold eJ
 split
 ·exact .inl ⟨_,rfl⟩
 ·split
  ·rename_i h;exact .inr ⟨_,_,rfl,h.2⟩
  ·exact .inl ⟨_,rfl⟩
theorem qX.len{L:List Blk}(h:qX L):0<L.length/\L.length<=2:=by
 rcases h with⟨b,rfl⟩|⟨a,b,rfl,-⟩<;>simp
theorem part_apart{a b:Blk}(h:tB a b=false):apart b.at b.sz a.at a.sz:=by
 obtain⟨t,i,e⟩:=ovlB_part h;refine⟨t,i,?_⟩;unfold kX at e;obtain rfl|rfl|rfl:t=0\/t=1\/t=2:=I
 all_goals simp[V.co,Blk.at,Blk.sz];omega
theorem gL.facts{b:Blk}{d:ShD}(h:gL b d):(∀i,i<d.qs.length->BdV 2 (qAt d.qs i))/\(∀f∈d.fqs,BdV 2 f.1)/\(0<d.qs.length/\d.qs.length<=262144)/\d.fqs.length<=262144/\d.fqs.length=d.rns.length:=by
 obtain⟨fs,E,es,rfl,hR,-⟩:=h;have u:=(lg b).valid;have F:=u.four;have C:(cR (ofL b.pts) b.pts.length).length=b.pts.length:=by simp[cR]
 have A:=hR.few u.le;refine⟨fun i hi=>?_,fun f A=>(hR.bd u.sorted (fun i hi=>(kP b i hi).mono' I) f A).1,?_,?_,?_⟩
 ·have j:i<b.pts.length:=by rw[<-C];exact hi
  show BdV 2 (qAt (cR (ofL b.pts) b.pts.length) i);have e:qAt (cR (ofL b.pts) b.pts.length) i=ptQ (ofL b.pts i):=by unfold qAt cR;simp[List.getD,j]
  rw[e];exact jG ((kP b i j).mono' I)
 ·show 0<(cR (ofL b.pts) b.pts.length).length/\(cR (ofL b.pts) b.pts.length).length<=262144
  rw[C];have:=bl_len b;omega
 ·show(fs.map (fj (ofL b.pts))).length<=262144
  rw[List.length_map];omega
 ·show(fs.map (fj (ofL b.pts))).length=(fs.map RF.r).length
  rw[List.length_map,List.length_map]
theorem gL.pen{a b:Blk}{e i:ShD}(ha:gL a e)(hb:gL b i)(h:tB a b=false){w:World}{A sb:ShV}(ma:ShM w A e)(mb:ShM w sb i):∃s,PenOk w sb A i e s 2:=by
 obtain⟨W,h2,X,h4,h5⟩:=ha.facts;obtain⟨H,J,Q,R,U⟩:=hb.facts;obtain⟨fs,E,es,u,hR,-⟩:=hb;obtain⟨G,E',F,C,Y,-⟩:=ha;obtain⟨f,hf,hs⟩:=sep_blocks (lg b) (lg a) hR (part_apart h);obtain⟨s,j⟩:=List.getElem?_of_mem hf;refine⟨s,mb,ma,⟨f,by rw[u];exact j,by rw[u,C];exact hs⟩,H,W,J,by omega,Q,X,R,U⟩
theorem ShM.one{w:World}{s:ShV}{d:ShD}(h:ShM w s d):∀u∈sh3 s,u.oneCell'=true:=by
 obtain⟨⟨_,_,_,i⟩,⟨_,_,_,j⟩,_,_,_,A⟩:=h.forms;intro u e;unfold sh3 at e;rw[i,j,A]at e;simp at e
 rcases e with rfl|rfl|rfl<;>rfl
theorem infoShz:(prog.info? 86).map (fun i=>(i.zero,i.size,i.bytes))=some (some (.agg #[.slice none 0 0,.slice none 0 0,.slice none 0 0]),3,72):=by kernel_rfl
theorem lU{G:Array Oper}{rest:List Oper}{o:Oper}{a:Act}{Q:Exit->Act->World->Prop}{e:World}{c:Array Value}(R:o.guard=none)(s x:Operand)(ho:o.op=.call { callee:=.builtin .append,args:=#[s,x],argTypes:=#[34,34] }){w0:World}{base:Nat}{v:Value}{vs:List ShV}{ds:List ShD}(hs:a.eval s=v)(J:ShL e base v vs ds){i:ShV}{d:ShD}(F:ShM e i d)(hc:c=#[i.a,i.b,i.c])(hx:a.eval x=.slice (some ⟨e.heap.size,0,none⟩) 1 1)(hl:vs.length<=1000000)(hB:Below base w0 e)(hb:base<=e.heap.size)(h:∀H w',ShL w' base H (vs++[i]) (ds++[d])->Below base w0 w'->wpList prog G Q rest (a.put o.dst H) w'):wpList prog G Q (o::rest) a (e.alloc (.cells c 86)):=by
 obtain⟨i0,E,W,X,Y⟩:=info_parts infoShz;subst hc;have A:Bl e (e.alloc (.cells #[i.a,i.b,i.c] 86)):=β.alloc ρ _;refine Go.wpList_append_own _ R s x 34 ho base 86 i0 (.agg #[.slice none 0 0,.slice none 0 0,.slice none 0 0]) 3 72 underlying34 E W X Y rfl ν v vs.length _ hs (World.ownsRow.alloc J.own _) ⟨e.heap.size,0,none⟩ 1 1 (sh3 i) hx rfl (fun j u hj=>fD e _ _ j u hj) F.one (by unfold maxLen;omega) I (by simp;omega) ?_;intro H w1 U C _;exact h H w1 ((J.below A).app (F.below A) (by simpa using U) C) ((hB.alloc hb _).grown C (by simp;omega) (cz J.own))
structure ShF (d:ShD) (D M K:Nat):Prop where
 dpos:0<D
 pts:∀ i,bA D M (qAt d.qs i)
 nor:∀ f ∈ d.fqs,∃ n:V,f.1=ptQ n/\LeV K n/\n≠V.zero
 off:oA d.qs d.fqs d.rns
 nq:0<d.qs.length/\d.qs.length<=64
 nf:d.fqs.length<=262144
 ring:∀ r ∈ d.rns,r.length<=64/\r≠[]/\∀ i ∈ r,i<d.qs.length
 es:d.es.length<=262144
theorem jC(d M:Nat):bA d M ⟨0,0,0⟩:=⟨(cP.zero d).mono (Nat.zero_le _),(cP.zero d).mono (Nat.zero_le _),(cP.zero d).mono (Nat.zero_le _)⟩
theorem qw{n:V}{K:Nat}(h:LeV K n):bA 1 K (ptQ n):=
 ⟨cP.int _ _ (by have:=h.1;unfold Le at this;omega),cP.int _ _ (by have:=h.2.1;unfold Le at this;omega),cP.int _ _ (by have:=h.2.2;unfold Le at this;omega)⟩
theorem ptQ_ne{n:V}(h:n≠V.zero):ptQ n≠⟨0,0,0⟩:=fun e=>h (pt_zero e)
theorem turn_nor{q:Q4}(j:OkQ q)(s:Q3){n:V}{K:Nat}(E:LeV K n)(h0:n≠V.zero):∃A:V,cE (bH (cS q s) (ptQ n))=ptQ A/\LeV (1728*K:Nat) A/\A≠V.zero:=by
 have r:=fun i=>((qu j s i).dot (qw E)).mono (show 3*(576*K)<=1728*K by omega)
 have G:=j.sqn;have C:bA (sqn q*1) (1728*K) (bH (cS q s) (ptQ n)):=⟨r 0,r 1,r 2⟩;obtain⟨y,e,F,u⟩:=prim_int C (lX (l9 q s (ψ j.pos)) (ptQ_ne h0)) I;exact⟨aR y,e,pV F I,im u⟩
theorem ShF.mono{d:ShD}{D M K u j:Nat}(h:ShF d D M K)(E:M<=u)(hK:K<=j):ShF d D u j:=
 ⟨h.dpos,fun i=>(h.pts i).mono E,fun f F=>by obtain⟨n,e,A,C⟩:=h.nor f F;exact⟨n,e,A.mono' I,C⟩,h.off,h.nq,h.nf,h.ring,h.es⟩
theorem ShF.move{d:ShD}{D M K S:Nat}(h:ShF d D M K){q:Q4}(j:OkQ q){s:Q3}(G:bA D S s):ShF (d.move (cS q s)) (sqn q*D) (1728*M+S*sqn q) (1728*K):=by
 have C:=j.sqn;have hR:Rot (cS q s):=l9 q s (ψ j.pos);have E:(dn (cS q s) d.qs d.fqs d.rns d.fqs.length).length=d.rns.length:=by unfold dn;rw[List.length_map,List.length_take,List.length_zip,h.off.1];omega
 refine⟨Nat.mul_pos C.1 h.dpos,fun i=>?_,fun g A=>?_,h.off.move hR,?_,?_,fun r hr=>?_,h.es⟩
 ·show bA _ _ (qAt (d.qs.map (aQ (cS q s))) i)
  by_cases hi:i<d.qs.length
  ·rw[i6 hi]
   exact frac_move j G (h.pts i)
  ·have e:qAt (d.qs.map (aQ (cS q s))) i=⟨0,0,0⟩:=by unfold qAt;rw[List.getD_eq_getElem?_getD,List.getElem?_eq_none (by rw[List.length_map];omega)];rfl
   rw[e];exact jC _ _
 ·obtain⟨i,f,r,u,H,rfl⟩:=lE.mp A
  obtain⟨n,e,F,h0⟩:=h.nor f (List.mem_of_getElem? u);show ∃n,cE (bH (cS q s) f.1)=ptQ n/\_;rw[e];exact turn_nor j s F h0
 ·show 0<(d.qs.map _).length/\(d.qs.map _).length<=64
  rw[List.length_map];exact h.nq
 ·show(dn (cS q s) d.qs d.fqs d.rns d.fqs.length).length<=262144
  rw[E,<-h.off.1];exact h.nf
 ·obtain⟨a,b,c⟩:=h.ring r hr
  exact⟨a,b,fun i hi=>by show i<(d.qs.map _).length;rw[List.length_map];exact c i hi⟩
theorem gL.shf{b:Blk}{d:ShD}(h:gL b d)(D:Nat)(hD:0<D):ShF d D (8*D) 134217728:=by
 obtain⟨fs,E,es,rfl,hR,C⟩:=h;have j:=(lg b).valid;have U:=j.four;have A:(cR (ofL b.pts) b.pts.length).length=b.pts.length:=by simp[cR]
 have F:=hR.few j.le;have W:=bl_len b;refine⟨hD,fun i=>?_,fun f F=>?_,hR.off j.sorted,?_,?_,fun r hr=>?_,?_⟩
 ·show bA D (8*D) (qAt (cR (ofL b.pts) b.pts.length) i)
  by_cases hi:i<b.pts.length
  ·have e:qAt (cR (ofL b.pts) b.pts.length) i=ptQ (ofL b.pts i):=by unfold qAt cR;simp[List.getD,hi]
   rw[e];have:=(qw (K:=8) (kP b i hi)).lift D
   rwa [Nat.one_mul]at this
  ·have e:qAt (cR (ofL b.pts) b.pts.length) i=⟨0,0,0⟩:=by unfold qAt;rw[List.getD_eq_getElem?_getD,List.getElem?_eq_none (by rw[A];omega)];rfl
   rw[e];exact jC _ _
 ·obtain⟨g,u,rfl⟩:=List.mem_map.mp F
  obtain⟨G,hF,-,-,-⟩:=hR.pl j.sorted u;obtain⟨H,-⟩:=hR.face j.sorted u;have J:=tK (fun i hi=>(kP b i hi).mono' I) hF;exact⟨aR g.n,by rw[H];rfl,pV J I,im hF.n0⟩
 ·show 0<(cR (ofL b.pts) b.pts.length).length/\(cR (ofL b.pts) b.pts.length).length<=64
  rw[A];omega
 ·show(fs.map _).length<=262144
  rw[List.length_map];omega
 ·obtain⟨g,u,rfl⟩:=List.mem_map.mp hr
  obtain⟨G,hF,-,e⟩:=hR.ok g u;obtain⟨Q,R⟩:=hR.rows j.sorted g u;refine⟨by rw[e];exact pO hF j.sorted I,Q,fun i hi=>?_⟩;show i<(cR (ofL b.pts) b.pts.length).length;rw[A];exact R i hi
 ·show es.length<=262144
  have:=kA C.small C.nodup;have:es.length<=4096:=by simpa using this
  omega
theorem place_sh(s:ShV)(d:ShD)(q:Q4)(sh:Q3)(R:Value)(D M K E S:Nat)(w:World)(hs:ShM w s d)(hF:ShF d D M K)(A:OkQ q)(hm:sX w R (cS q sh))(Q:bA E S sh)(hD:D<=1000000000)(hM:M<=1000000000000000000)(hK:1728*K<=9007199254740992)(G:0<E/\E<=1000000000)(hS:S<=1000000000000000000):
 Calls prog 37 #[.agg #[s.a,s.b,s.c],R] w fun e w'=>(∃C,e=.returned (.agg #[C.a,C.b,C.c])/\ShM w' C (d.move (cS q sh)))/\Bl w w':=by
 have aa:B ^ 2=18446744073709551616:=by decide
 have hk:=A.sqn;obtain⟨⟨b1,U,h1⟩,⟨b2,j,W,b3,h3⟩,b4,h4⟩:=hs;have u:=W.len
 have hP:PlaF w 0 s.b d.fqs j d.rns d.qs.length (cS q sh) 2 2:=⟨W.base (Nat.zero_le _),fun i f r e1 e2=>⟨_,h3 i f r e1 e2⟩,by rw[u];exact hF.off.1.symm,by rw[u];exact hF.nf,fun r hr=>by obtain⟨a,b,c⟩:=hF.ring r hr;exact⟨by omega,b,c⟩,by omega,by omega,fun f H=>by
  obtain⟨n,e,X,h0⟩:=hF.nor f H;rw[e];obtain⟨n',Y,J,-⟩:=turn_nor A sh X h0;exact⟨jG (X.mono' I),lX (l9 q sh (ψ A.pos)) (ptQ_ne h0),by rw[Y];exact jG (J.mono' I)⟩⟩
 refine(place_any R (cS q sh) 2 2 s.a s.b s.c d.qs 0 U d.es w hm (fun i=>(qu A sh i).bd hk.1 I I) (Q.bd G.1 I I) (h1.base (Nat.zero_le _)) (fun i=>(hF.pts i).bd hF.dpos I I) I (ψ hF.nq) (bX h4 (Nat.zero_le _)) hF.es d.fqs j d.rns 2 hP).mono ?_;rintro e w' ⟨⟨v0,v1,v2,rs,F,rfl,hv,H,hi,he⟩,hb⟩;exact⟨⟨⟨v0,v1,v2⟩,rfl,⟨_,rs,hv⟩,⟨_,F,H,_,hi⟩,_,he⟩,hb⟩
theorem own_cap{w:World}{base e k b n m i:Nat}{xs:List Value}(h:w.ownsRow base e k (.slice (some ⟨b,0,none⟩) n i) m xs):m<=i:=by
 obtain⟨a,c,e,j⟩:=Sl.of_owns h;cases e;exact j.le
theorem ShL.down{w:World}{base e:Nat}{v:Value}{vs:List ShV}{i:List ShD}(h:ShL w base v vs i)(hb:e<=base):ShL w e v vs i:=⟨bX h.own hb,h.len,h.sh⟩
theorem CelR.at_{w:World}{base:Nat}{v:Value}{vs:List Value}{C:List (List V)}(h:CelR w base v vs C)(h0:0<C.length):
 ∃b j,v=.slice (some ⟨b,0,none⟩) C.length j/\b<w.heap.size/\∀i l,C[i]?=some l->∃u,bM w base u l/\w.cell? ⟨b,i,none⟩=some u:=by
 obtain⟨J,⟨_,F⟩|⟨g,j,E,rfl,H,G,R,Q,U,W⟩⟩:=h.own
 ·rw[h.len]at F;omega
 ·refine⟨g,j,by rw[h.len],(Array.getElem?_eq_some_iff.1 G).1,fun i l hi=>?_⟩
  have A:i<vs.length:=by rw[h.len];exact(List.getElem?_eq_some_iff.1 hi).1
  have e:=World.ownsRow.cellAt h.own i I;exact⟨vs[i],h.ea i _ l (List.getElem?_eq_getElem A) hi,e.trans (List.getElem?_eq_getElem A)⟩
theorem blk_of(b:Blk)(base:Nat)(v:Value)(w:World)(A:Tab w)(J:bM w base v b.pts):
 Calls prog 88 #[.agg #[v]] w fun e w'=>(∃s d,e=.returned (.tuple #[.agg #[s.a,s.b,s.c],.int .i64 0])/\ShM w' s d/\gL b d)/\Bl w w':=by
 obtain⟨a,j,rfl,F⟩:=J.pts;have u:=(lg b).valid;have h:=of_any a _ j _ w F u.le (fun i hi=>(kP b i hi).mono' I) A u.sorted u.full (fun v G=>by
  have:=check_any a _ j (ofL b.pts) v (A.below G A.1) (F.below G) (ψ u.le);rw[tT.mpr u]at this;exact this)
 refine h.mono ?_;rintro e w' ⟨⟨Q,R,U,fs,E,W,H,es,rfl,C⟩,hb⟩;exact⟨⟨⟨Q,R,U⟩,_,rfl,C.shm,fs,E,es,rfl,C.ok,C.edg⟩,hb⟩
def RetShs(L:List Blk)(base:Nat)(w:World)(e:Ending):Prop:=∃v vs ds,e=.returned (.tuple #[v,.int .i64 0])/\ShL w base v vs ds/\RawL L ds
theorem pI(nm:ByteArray)(D:Nat)(v:Value)(bF:List Value)(L:List Blk)(base:Nat)(w:World)(hD:1<=D/\D<=1048576)(hL:qX L)(hC:CelR w base v bF (L.map Blk.pts))(hT:Tab w):
 Calls prog 46 #[.agg #[.string nm,.int .i64 (D:Nat),v]] w fun e w'=>RetShs L w.heap.size w' e/\Bl w w':=by
 have A:=hL.len;obtain⟨cb,a1,hv,a3,Q⟩:=hC.at_ (by rw[List.length_map];exact A.1);obtain⟨n,hn⟩:=χ L.length;rw[List.length_map,hn]at hv;rw[hn]at A;subst hv;obtain⟨W,hW,b1,hB,hS⟩:=aB w #[.string nm,.int .i64 (D:Nat),.slice (some ⟨cb,0,none⟩) n a1] 42;obtain⟨az,bl,B1,HB,H,G,bp,ag⟩:=η8 Q a3 b1 hB hS hn hL hT;have cs:0<n:=A.1;have cu:n<=2:=A.2;have x0:W.cell? ⟨w.heap.size,0,none⟩=some (.string nm):=b1.cell 0;have x1:W.cell? ⟨w.heap.size,1,none⟩=some (.int .i64 (D:Nat)):=b1.cell 1;have x2:W.cell? ⟨w.heap.size,2,none⟩=some (.slice (some ⟨cb,0,none⟩) n a1):=b1.cell 2;have d1:¬ ((D:Nat):Int)<1:=I;have d2:¬ (1048576:Int)<((D:Nat):Int):=I;have d3:(((n:Nat):Int) == 0)=false:=by rw[beq_eq_false_iff_ne];omega
 have d4:¬ (6:Int)<((n:Nat):Int):=I;clear Q a3 b1 hB hS hn hL hC hD A hT
 go_enter func46,ntmps46
 go_wp2_with fail
 clear d1 d2 d3 d4
 go_loopw [4,33] (fun sv iv wr=>∃(k:Nat) (vs:List ShV) (J:List ShD),k<=n/\iv=.int .i64 (k:Int)/\Hid (ShL wr (w.heap.size+1) sv vs J)/\Hid (RawL (L.take k) J)/\Hid (Below (w.heap.size+1) W wr)) (fun _ iv _=>n-(intOf iv).toNat)
 case atStart=>exact⟨0,[],[],Nat.zero_le _,rfl,ShL.nil _ _,RawL.nil,Below.refl _ _⟩
 case round =>
  obtain⟨k,vs,J,hk,rfl,E,C,F⟩:=hrel;by_cases b8:k=n
  ·subst b8
   have cp:¬ (k:Int)<(k:Int):=I;rw[List.take_of_length_le (ψ G.o)]at C;have ar:J.length=k:=by have:=C.o.len;rw[this,G.o]
   obtain⟨sb,R,s0,e4,a5,-⟩:=E.o.at_ 0 (J[0]'I) (List.getElem?_eq_getElem _);rw[ar]at e4;subst e4;obtain⟨X,cl⟩:=η2 ar a5;clear ar a5 hk az
   go_wp2_with fail
   obtain⟨w1,rfl⟩:=φ wr
   go_loopw [52] (fun iv wr=>∃i:Nat,i<=k/\iv=.int .i64 (i:Int)/\Hid (Bl w1 wr)) (fun iv _=>k-(intOf iv).toNat)
   case atStart=>exact⟨0,Nat.zero_le _,rfl,Below.refl _ _⟩
   case round =>
    obtain⟨i,hi,rfl,U⟩:=hrel;by_cases b7:i=k
    ·have au:¬ (i:Int)<(k:Int):=I
     clear b7
     go_wp2_with fail
     have b4:=HB.o.trans ((F.o.mono (ψ H.o)).trans (U.o.mono (by have:=(HB.o.trans (F.o.mono (ψ H.o))).size;omega)));exact bodyPost_ret (results_tmp2 results46 _ _ _) rfl ⟨⟨_,vs,J,rfl,(ShL.down E.o I).below U.o,C.o⟩,b4⟩
    ·obtain⟨wi,rfl⟩:=φ wr
     have au:(i:Int)<(k:Int):=I;have cn:i<k:=I;have an:=E.o.below U.o;obtain⟨b',c',si,e5,Y,a9,av,ac⟩:=an.at_ i (J[i]'(by rw[X.o];omega)) (List.getElem?_eq_getElem _);rw[X.o]at e5;obtain⟨⟨q0,m0,z0,f0⟩,⟨q1,m1,z1,f1⟩,q2,m2,z2,f2⟩:=av.forms;obtain⟨rfl,rfl⟩:sb=b'/\R=c':=by
      injection e5 with h1 _ h3
      injection h1 with h1
      injection h1 with h1
      exact⟨h1,h3⟩
     obtain⟨cB,cD,cF⟩:=si;simp only at f0 f1 f2;subst f0;subst f1;subst f2;have y0:wi.cell? ⟨sb,i*3,none⟩=some (.slice q0 m0 z0):=ac 0 I;have y1:wi.cell? ⟨sb,i*3+1,none⟩=some (.slice q1 m1 z1):=ac 1 I;have y2:wi.cell? ⟨sb,i*3+2,none⟩=some (.slice q2 m2 z2):=ac 2 I;obtain⟨bs,cm,bm⟩:=η3 an a9 av;have ch:k<=64:=I;have a6:=own_cap E.o.own;rw[E.o.len,X.o]at a6;have a7:(i:Int)<=(R:Int):=I;have a8:¬ (R:Int)<(i:Int):=I;clear a6;clear ac av a9 an e5 Y
     go_wp2_with fail
     obtain⟨w4,bf,c4,ab,ce⟩:=aB wi #[.slice q0 m0 z0,.slice q1 m1 z1,.slice q2 m2 z2] 86;rw[bf];clear bf;have af:CloOk w4 (some ⟨sb,0,none⟩) i wi.heap.size:=by
      by_cases b6:i=0
      ·exact .inl b6
      ·right
       have au:i=1:=I;subst au;refine⟨rfl,?_⟩
       rcases bp.o with⟨b,e⟩|⟨a,b,e,ca⟩
       ·have:=G.o
        rw[e]at this;simp at this;omega
       ·have cq:J.length=2:=by have:=G.o;rw[e]at this;rw[X.o,<-this];rfl
        have bI:=bs.o.below ab;obtain⟨b0,c0,cy,e0,bV,cv,b9,b5⟩:=bI.at_ 0 (J[0]'I) (List.getElem?_eq_getElem _);have ra:gL a (J[0]'I):=C.o.at_ 0 a _ (by rw[e];rfl) (List.getElem?_eq_getElem _);have rb:gL b (J[1]'I):=C.o.at_ 1 b _ (by rw[e];rfl) (List.getElem?_eq_getElem _);obtain⟨s,hp⟩:=ra.pen rb ca b9 (bm.o.below ab);injection e0 with h1 _ h3
        injection h1 with h1
        injection h1 with h1
        subst h1;exact⟨sb,_,_,_,_,s,2,rfl,bV,c4,hp,fun j hj=>by have:=b5 j hj;rwa [Nat.zero_mul,Nat.zero_add]at this⟩
     refine(lK _ _ _ _ w4 af).mono ?_;rintro e w5 ⟨rfl,Y⟩;have K5:=O (ae U.o (ae ab Y ρ) ρ);clear af Y c4 ab ce a7 a8 y0 y1 y2
     go_wp2_with fail
     go_round
     case rel=>exact⟨i+1,by omega,rfl,K5.o⟩
     case measure=>exact μ
  ·obtain⟨wk,rfl⟩:=φ wr
   have cr:(k:Int)<(n:Int):=I;obtain⟨b,hb⟩:∃b,L[k]?=some b:=⟨_,List.getElem?_eq_getElem (ψ G.o)⟩;obtain⟨u,hu,ap⟩:=az.o k b.pts (by rw[List.getElem?_map,hb];rfl);obtain⟨ua,uc,rfl,-⟩:=hu.pts;obtain⟨ul,ba⟩:=χ b.pts.length;rw[ba]at hu ap;have ad:Bl w wk:=HB.o.trans (F.o.mono (ψ H.o));have a0:=O ad;have x3:wk.cell? ⟨cb,k,none⟩=some (.slice ua ul uc):=(ad.cell (p:=⟨cb,k,none⟩) bl.o).trans ap;obtain⟨HU,bk⟩:=η2 (bL.below hu ad) hb;have ci:k<=64:=I;clear ap hu hb ad ba
   go_wp2_with fail
   obtain⟨w2,be,c2,aa,cd⟩:=aB wk #[.slice ua ul uc] 102;rw[be];clear be;refine(blk_of b base _ w2 ((ag.o.below a0.o ag.o.1).below aa (Nat.lt_of_lt_of_le ag.o.1 a0.o.size)) (bL.below HU.o aa)).mono ?_;rintro e w3 ⟨⟨sv,d,rfl,aw,a4⟩,a2⟩;obtain⟨br,bt,K3⟩:=η3 a4 aw (ae aa a2 ρ);clear c2 aa cd a2 a4 x3;obtain⟨⟨q0,m0,z0,f0⟩,⟨q1,m1,z1,f1⟩,q2,m2,z2,f2⟩:=aw.forms;obtain⟨cU,cV,c1⟩:=sv;simp only at f0 f1 f2;subst f0;subst f1;subst f2;clear aw
   go_upto_region 14 with fail
   obtain⟨w5,bg,c5,ao,cg⟩:=aB w3 #[.slice q0 m0 z0,.slice q1 m1 z1,.slice q2 m2 z2] 86;rw[bg];obtain⟨K5,bz⟩:=η2 (ae K3.o ao ρ) (bt.o.below ao);have bv:=O (E.o.below K5.o);have bc:vs.length<=1000000:=by
    rw[E.o.len,C.o.len,List.length_take];omega
   have bu:=O bc;have x0:w5.cell? ⟨w3.heap.size,0,none⟩=some (.slice q0 m0 z0):=c5.cell 0;have x1:w5.cell? ⟨w3.heap.size,1,none⟩=some (.slice q1 m1 z1):=c5.cell 1;have x2:w5.cell? ⟨w3.heap.size,2,none⟩=some (.slice q2 m2 z2):=c5.cell 2;have ay:=O (F.o.trans (K5.o.mono (by have:=F.o.size;have:=H.o;omega)));have bi:=O (Nat.le_trans (Nat.le_of_eq H.o.symm) ay.o.size);clear bg c5 ao cg bc
   go_wp2_with (at_builtin;refine lU rfl _ _ rfl (v:=u4) (w0:=W) (base:=w.heap.size+1) rfl bv.o bz.o rfl rfl bu.o ay.o bi.o ?_;intro v' w6 cc b3)
   go_round
   case rel=>exact⟨k+1,_,_,by omega,rfl,cc,(by rw[dw bk.o];exact C.o.app br.o),b3⟩
   case measure=>exact μ
structure MvOk (q:Q4) (sh:Q3) (D M K D' S:Nat):Prop where
 q:OkQ q
 sh:bA D' S sh
 D:D<=1000000000
 M:M<=1000000000000000000
 K:1728*K<=9007199254740992
 D0:0<D'/\D'<=1000000000
 S:S<=1000000000000000000
theorem ShM.set{w:World}{s:ShV}{d:ShD}(h:ShM w s d){g:Nat}{cs:Array Value}(hb:Box w g cs 86)(i:Nat)(u:Value):ShM (w.setCell ⟨g,i,none⟩ u) s d:=by
 obtain⟨⟨b1,J,E⟩,⟨b2,Q,F,e,G⟩,j,H⟩:=h;exact⟨⟨b1,J,E.set hb ν ν i u⟩,⟨b2,Q,F.set hb ν ν i u,e,fun k f r A C=>eE (G k f r A C) hb ν i u⟩,j,eE H hb ν i u⟩
theorem ShM.set3{w:World}{s:ShV}{d:ShD}(h:ShM w s d){g:Nat}{x y z e i j:Value}(hb:Box w g #[e,i,j] 86):ShM (((w.setCell ⟨g,0,none⟩ x).setCell ⟨g,1,none⟩ y).setCell ⟨g,2,none⟩ z) s d:=
 ((h.set hb 0 x).set (hb.set 0 x) 1 y).set ((hb.set 0 x).set 1 y) 2 z
def RetSol(base:Nat)(dz:Int)(ds:List ShD)(w:World)(e:Ending):Prop:=∃v vs,e=.returned (.agg #[.int .i64 dz,v])/\ShL w base v vs ds
theorem ShL.set{w:World}{base:Nat}{v:Value}{vs:List ShV}{A:List ShD}(h:ShL w base v vs A){g:Nat}{cs:Array Value}(hb:Box w g cs 36)(i:Nat)(u:Value):ShL (w.setCell ⟨g,i,none⟩ u) base v vs A:=
 ⟨eE h.own hb ν i u,h.len,fun k s d e j=>by
  obtain⟨⟨b1,Q,F⟩,⟨b2,R,G,C,H⟩,E,J⟩:=h.sh k s d e j;exact⟨⟨b1,Q,F.set hb ν ν i u⟩,⟨b2,R,G.set hb ν ν i u,C,fun k f r e j=>eE (H k f r e j) hb ν i u⟩,E,eE J hb ν i u⟩⟩
def RetShL(base:Nat)(ds:List ShD)(w:World)(e:Ending):Prop:=∃v vs,e=.returned v/\ShL w base v vs ds
theorem move1_any(s:ShV)(d:ShD)(q:Q4)(sh:Q3)(H mb J Q:RC×RC×RC)(g D M K D' S:Nat)(w:World)(hs:ShM w s d)(hF:ShF d D M K)(hO:MvOk q sh D M K D' S)(Y:Box w g (aJ H mb J Q) 60)(hm:MotR w H mb J Q (cS q sh)):
 Calls prog 60 #[.agg #[s.a,s.b,s.c],.pointer (some ⟨g,0,none⟩)] w fun e w'=>(∃A,e=.returned (.agg #[A.a,A.b,A.c])/\ShM w' A (d.move (cS q sh)))/\Bl w w':=by
 obtain⟨⟨q0,m0,d0,C⟩,⟨q1,m1,d1,E⟩,q2,m2,d2,F⟩:=hs.forms;obtain⟨ua,ub,uc⟩:=s;simp only at C E F;subst C;subst E;subst F;obtain⟨W,hW,b1,b2,G,hS⟩:=bU w #[.slice q0 m0 d0,.slice q1 m1 d1,.slice q2 m2 d2] #[.slice none 0 0,.slice none 0 0,.slice none 0 0] 86 86;obtain⟨HG,HM,HS,HF,i,HB,B2,aa⟩:=η8 (Y.to G) (hm.below G) (hs.below G) hF hO G b2 hS;have y0:W.cell? ⟨w.heap.size,0,none⟩=some (.slice q0 m0 d0):=b1.cell 0;have y1:W.cell? ⟨w.heap.size,1,none⟩=some (.slice q1 m1 d1):=b1.cell 1;have y2:W.cell? ⟨w.heap.size,2,none⟩=some (.slice q2 m2 d2):=b1.cell 2;clear Y hm hs hF hO b1 b2 G hS
 go_enter func60,ntmps60
 go_upto_region 1 with fail
 go_wp2_with (refine aj rfl _ _ rfl g 0 rfl (aJ H mb J Q) _ (fun j hj=>HG.o.whole j hj) underlying60 rfl gt ?_)
 refine(place_sh _ d q sh _ D M K D' S W HS.o HF.o i.o.q ⟨H,mb,J,Q,rfl,HM.o⟩ i.o.sh i.o.D i.o.M i.o.K i.o.D0 i.o.S).mono ?_;rintro e w2 ⟨⟨A,rfl,u⟩,hb⟩;obtain⟨⟨p0,n0,c0,C⟩,⟨p1,n1,c1,E⟩,p2,n2,c2,F⟩:=u.forms;obtain⟨va,vb,vc⟩:=A;simp only at C E F;subst C;subst E;subst F;obtain⟨R,X,U⟩:=η3 (B2.o.to hb) u (ae HB.o hb ρ);obtain⟨z0,z1,z2,f0,f1,f2⟩:=R.o.three;clear hb u y0 y1 y2
 go_wp2_with fail
 exact aK results60 (w.heap.size+1) (R.o.set3 (.slice p0 n0 c0) (.slice p1 n1 c1) (.slice p2 n2 c2)) _ rfl underlying86 rfl m9 rfl ⟨⟨⟨_,_,_⟩,rfl,X.o.set3 R.o⟩,gg U.o (Nat.le_succ _) _ _ _⟩
theorem enters60:∀args w,(callFunc 60 args).run prog w=.ok (.enter 60 args) w:=
 enters_of func60 Z rfl
theorem mapSh_any(v:Value)(vs:List ShV)(u:List ShD)(q:Q4)(sh:Q3)(ma mb mc ms:RC×RC×RC)(g D M K D' S base:Nat)(w:World)(hL:ShL w base v vs u)(W:0<u.length/\u.length<=1000)(hF:∀d∈u,ShF d D M K)(hO:MvOk q sh D M K D' S)(hg:Box w g (aJ ma mb mc ms) 60)(hm:MotR w ma mb mc ms (cS q sh)):
 Calls prog 59 #[v,.func (.func 60) #[] #[.pointer (some ⟨g,0,none⟩)]] w fun e w'=>RetShL w.heap.size (u.map (ShD.move (cS q sh))) w' e/\Bl w w':=by
 obtain⟨n,H⟩:=χ u.length;obtain⟨sb,aa,s0,ev,au,-⟩:=hL.at_ 0 (u[0]'W.1) (List.getElem?_eq_getElem _);rw[H]at ev W;subst ev;obtain⟨HL,E,HF,HO,HG,HM⟩:=η6 hL H hF hO hg hm;have eg:=enters60;have a5:=W.1;have a6:=W.2;clear hL hF hO hg hm H au W
 go_enter func59,ntmps59
 go_wp2_with fail
 go_loopw [5,10] (fun sv iv wr=>∃(k:Nat) (Q:List ShV),k<=n/\iv=.int .i64 (k:Int)/\Hid (ShL wr w.heap.size sv Q ((u.take k).map (ShD.move (cS q sh))))/\Hid (Bl w wr)) (fun _ iv _=>n-(intOf iv).toNat)
 case atStart=>exact⟨0,[],Nat.zero_le _,rfl,ShL.nil _ _,Below.refl _ _⟩
 case round =>
  obtain⟨k,Q,hk,rfl,A,i⟩:=hrel;by_cases ar:k=n
  ·have a3:¬ (k:Int)<(n:Int):=I
   rw[List.take_of_length_le (ψ E.o)]at A;clear ar
   go_wp2_with fail
   go_ret;exact⟨⟨_,_,rfl,A.o⟩,i.o⟩
  ·obtain⟨R,rfl⟩:=φ wr
   have a4:(k:Int)<(n:Int):=I;have U:k<u.length:=by have:=E.o;omega
   obtain⟨d,hd⟩:∃d,u[k]?=some d:=⟨_,List.getElem?_eq_getElem U⟩;obtain⟨b',c',sk,e5,-,aw,G,C⟩:=(HL.o.below i.o).at_ k d hd;rw[E.o]at e5;obtain⟨⟨q0,m0,z0,f0⟩,⟨q1,m1,z1,f1⟩,q2,m2,z2,f2⟩:=G.forms;obtain⟨rfl,rfl⟩:sb=b'/\aa=c':=by
    injection e5 with h1 _ h3
    injection h1 with h1
    injection h1 with h1
    exact⟨h1,h3⟩
   obtain⟨a7,a8,a9⟩:=sk;simp only at f0 f1 f2;subst f0;subst f1;subst f2;have y0:R.cell? ⟨sb,k*3,none⟩=some (.slice q0 m0 z0):=C 0 I;have y1:R.cell? ⟨sb,k*3+1,none⟩=some (.slice q1 m1 z1):=C 1 I;have y2:R.cell? ⟨sb,k*3+2,none⟩=some (.slice q2 m2 z2):=C 2 I;obtain⟨ad,HD,ac⟩:=η3 G hd (HF.o d (List.mem_of_getElem? hd));clear C G aw e5 U hd
   go_wp2_with fail
   obtain⟨w2,Y,c2,j,ay⟩:=aB R #[.slice q0 m0 z0,.slice q1 m1 z1,.slice q2 m2 z2] 86;rw[Y];have K0:=O (i.o.trans (j.mono i.o.size));refine(move1_any _ d q sh ma mb mc ms g D M K D' S w2 (ad.o.below j) ac.o HO.o (HG.o.to K0.o) (HM.o.below K0.o)).mono ?_;rintro e w3 ⟨⟨s',rfl,J⟩,F⟩;obtain⟨K3,an,ao⟩:=η3 (i.o.trans ((ae j F ρ).mono i.o.size)) (A.o.below (ae j F ρ)) J;have X:Q.length<=1000000:=by
    rw[A.o.len,List.length_map,List.length_take];omega
   obtain⟨ag,ab,af⟩:=η3 X K3.o.size (dw HD.o);obtain⟨⟨a0,i0,c0,g0⟩,⟨a1,i1,c1,g1⟩,a2,i2,az,g2⟩:=J.forms;obtain⟨ba,bc,be⟩:=s';simp only at g0 g1 g2;subst g0;subst g1;subst g2;clear Y c2 j ay F X J y0 y1 y2
   go_wp2_with (at_builtin;refine lU rfl _ _ rfl (v:=u5) (w0:=w) (base:=w.heap.size) rfl an.o ao.o rfl rfl ag.o K3.o ab.o ?_;intro v' w6 av ap)
   go_round
   case rel=>exact⟨k+1,_,by omega,rfl,(by rw[af.o,List.map_append];exact av),ap⟩
   case measure=>exact μ
theorem mx:(prog.info? 36).map (·.size)=some 2:=by kernel_rfl
theorem move_any(dz:Int)(v vm:Value)(vs:List ShV)(C:List ShD)(q:Q4)(sh:Q3)(D M Y D' S base:Nat)(w:World)(hL:ShL w base v vs C)(hn:0<C.length/\C.length<=1000)(hF:∀d∈C,ShF d D M Y)(hO:MvOk q sh D M Y D' S)(hm:sX w vm (cS q sh)):
 Calls prog 15 #[.agg #[.int .i64 dz,v],vm] w fun e w'=>RetSol w.heap.size dz (C.map (ShD.move (cS q sh))) w' e/\Bl w w':=by
 obtain⟨H,Q,J,rfl⟩:=dV hL.own;obtain⟨ma,mb,mc,ms,rfl,E⟩:=hm;obtain⟨W,hW,b1,b2,b3,G,hS⟩:=cC w #[.int .i64 dz,.slice H Q J] (aJ ma mb mc ms) #[.int .i64 0,.slice none 0 0] 36 60 36;obtain⟨F,MB,ZB,HB,X,HL,HM,HN,HF⟩:=η9 b1 b2 b3 G hS (hL.below G) (E.below G) hn hF;have HO:=O hO;clear b1 b2 b3 G hS hL E hn hF hO
 go_enter func15,ntmps15
 go_upto_region 1 with fail
 clear hW;refine aU (rest:=1) [isV 0 (.pointer (some ⟨w.heap.size,0,none⟩)),isV 1 (.int .i64 dz),isV 2 (.pointer (some ⟨w.heap.size,1,none⟩)),isV 3 (.slice H Q J),isV 4 (.func (.func 60) #[] #[.pointer (some ⟨w.heap.size+1,0,none⟩)]),isP 5 (fun u w=>∃(a:Option Addr) (n c:Nat) (j:List ShV),u=.slice a n c/\ShL w W.heap.size (.slice a n c) j (C.map (ShD.move (cS q sh)))),isP 6 (fun u w=>∃(a:Option Addr) (n c:Nat) (j:List ShV),u=.agg #[.int .i64 dz,.slice a n c]/\ShL w W.heap.size (.slice a n c) j (C.map (ShD.move (cS q sh))))] [] ?A (τ 7 1) Z [0,1,2,3,4,5,6] Z Z Z Z Z Z ?st ?hA ?hop ?hend
 case hA=>exact cZ
 case st=>(iterate 5 refine aq.cons isV.stab ?_);(iterate 2 refine aq.cons (isP.stab (fun _ _ _ h ⟨a,n,c,j,e,h1⟩=>⟨a,n,c,j,e,h1.below h⟩)) ?_);exact aq.nil
 case hop =>
  refine ai.cons rfl (fun y w' hS hD K hK=>?_) ?_
  ·as_aux_lemma =>
   go_simp;exact hK.out _ w' hS β isV.put δ
  refine ai.cons rfl (fun y w' hS hD K hK=>?_) ?_
  ·simp only[isV.get (hD 0 Z)]at hK⊢
   as_aux_lemma =>
   have c0:w'.cell? ⟨w.heap.size,0,none⟩=some (.int .i64 dz):=(F.o.to hS).cell 0;go_simp;exact hK.out _ w' hS β isV.put δ
  refine ai.cons rfl (fun y w' hS hD K hK=>?_) ?_
  ·as_aux_lemma =>
   go_simp;exact hK.out _ w' hS β isV.put δ
  refine ai.cons rfl (fun y w' hS hD K hK=>?_) ?_
  ·simp only[isV.get (hD 2 Z)]at hK⊢
   as_aux_lemma =>
   have c0:w'.cell? ⟨w.heap.size,1,none⟩=some (.slice H Q J):=(F.o.to hS).cell 1;go_simp;exact hK.out _ w' hS β isV.put δ
  refine ai.cons rfl (fun y w' hS hD K hK=>?_) ?_
  ·as_aux_lemma =>
   go_simp;exact hK.out _ w' hS β isV.put δ
  refine ai.cons rfl (fun y w' hS hD K hK=>?_) ?_
  ·simp only[isV.get (hD 3 Z),isV.get (hD 4 Z)]at hK⊢
   as_aux_lemma =>
   go_simp;refine(mapSh_any (.slice H Q J) vs C q sh ma mb mc ms (w.heap.size+1) D M Y D' S base w' (HL.o.below hS) HN.o HF.o HO.o (MB.o.to hS) (HM.o.below hS)).mono ?_
   rintro e aa ⟨⟨v,j,rfl,hv⟩,hb⟩;obtain⟨a,n,c,rfl⟩:=dV hv.own;exact hK.out _ aa (ae hS hb ρ) hb (isP.put ⟨a,n,c,j,rfl,hv.down hS.size⟩) δ
  refine ai.cons (i:=6) rfl (fun y w' hS hD K hK=>?_) ?_
  ·as_aux_lemma =>
   have e1:=isV.get (hD 1 Z);have e5:=isP.get (hD 5 Z);obtain⟨a,n,c,j,eq,h1⟩:=e5;simp only[e1,eq]at hK⊢;go_simp;exact hK.out _ w' hS β (isP.put ⟨a,n,c,j,rfl,h1⟩) δ
  exact ai.nil
 case hend =>
  intro y w' hS hR hF;obtain⟨a,n,c,j,e6,h6⟩:=isP.get (i:=6) (p:=fun u w=>∃(a:Option Addr) (n c:Nat) (j:List ShV),u=.agg #[.int .i64 dz,.slice a n c]/\ShL w W.heap.size (.slice a n c) j (C.map (ShD.move (cS q sh)))) (hR 6 Z);simp only[e6];have bz:=ZB.o.to hS;obtain⟨c0,c1,f0,f1⟩:=bz.two;refine aL (i:=7) (listed2:=τ 8 0) Z rfl Z (fun K hK=>?_);go_simp;refine hK.out _ _ ?_;clear hK K;refine aP Z ?_;obtain⟨R,H6,U⟩:=η3 bz h6 (ae HB.o hS ρ);have HZ:=X.o;clear hS hR hF h6 e6 bz c0 c1 f0 f1
  go_wp2_with fail
  exact aK results15 (w.heap.size+2) (R.o.set2 (.int .i64 dz) (.slice a n c)) _ rfl underlying36 rfl mx rfl ⟨⟨_,j,rfl,((H6.o.set R.o 0 _).set (R.o.set 0 _) 1 _).down I⟩,(U.o.setCell (p:=⟨w.heap.size+2,0,none⟩) (by show w.heap.size<=w.heap.size+2;omega) _).setCell (p:=⟨w.heap.size+2,1,none⟩) (by show w.heap.size<=w.heap.size+2;omega) _⟩
def RetSolE(L:List Blk)(m:Mo)(base:Nat)(dz:Int)(w:World)(e:Ending):Prop:=
 ∃v vs ds,e=.returned (.tuple #[.agg #[.int .i64 dz,v],.int .i64 0])/\ShL w base v vs (ds.map (ShD.move m))/\RawL L ds
theorem RawL.mem{L:List Blk}{j:List ShD}(h:RawL L j){d:ShD}(u:d∈j):∃b,gL b d:=by
 obtain⟨i,hi⟩:=List.getElem?_of_mem u;have e:=(List.getElem?_eq_some_iff.1 hi).1;exact⟨_,h.at_ i _ d (List.getElem?_eq_getElem (by rw[<-h.len];exact e)) hi⟩
theorem sof_any(nm:ByteArray)(D:Nat)(v:Value)(X:List Value)(L:List Blk)(q:Q4)(sh:Q3)(C S base:Nat)(w:World)(hD:1<=D/\D<=1048576)(hL:qX L)(hC:CelR w base v X (L.map Blk.pts))(hT:Tab w)(hV:jh w)(hq:OkQ q)(hs:oB sh)(aa:0<C/\C<=1000000000)(ag:bA C S sh)(hS:S<=1000000000000000000):
 Calls prog 8 #[.agg #[.string nm,.int .i64 (D:Nat),v],.agg (plc q sh)] w fun e w'=>RetSolE L (cS q sh) w.heap.size (D:Nat) w' e/\Bl w w':=by
 obtain⟨pa,pn,pc,rfl⟩:=dV hC.own;obtain⟨W,hW,b1,b2,b3,Y,ab⟩:=cC w #[.string nm,.int .i64 (D:Nat),.slice pa pn pc] (plc q sh) #[.int .i64 0,.slice none 0 0] 42 49 36;obtain⟨PB,LB,ZB,HB,a6,J,HC,HT,HV⟩:=η9 b1 b2 b3 Y ab hL (hC.below Y) (hT.below Y hT.1) (hV.below Y);obtain⟨HQ,ay,u,av,au,az⟩:=η6 hq hs aa ag hD hS;have x0:W.cell? ⟨w.heap.size,0,none⟩=some (.string nm):=b1.cell 0;have x1:W.cell? ⟨w.heap.size,1,none⟩=some (.int .i64 (D:Nat)):=b1.cell 1;have x2:W.cell? ⟨w.heap.size,2,none⟩=some (.slice pa pn pc):=b1.cell 2;clear b1 b2 b3 Y ab hL hC hT hV hq hs aa ag hD hS
 go_enter func8,ntmps8
 go_wp2_with fail
 refine(pI nm D _ X L base W au.o J.o HC.o HT.o).mono ?_;rintro e w2 ⟨⟨sv,vs,ds,rfl,H,A⟩,i⟩;obtain⟨qa,qn,qc,rfl⟩:=dV H.own;obtain⟨K2,a3,E,a2,Q,U,a0⟩:=η7 i H A (LB.o.to i) (PB.o.to i) (ZB.o.to i) (HV.o.below i);clear i H A x0 x1 x2 hW
 go_upto_region 4 with fail
 go_wp2_with (refine aj rfl _ _ rfl (w.heap.size+1) 0 rfl (plc q sh) _ (fun j hj=>a2.o.whole j hj) underlying49 rfl my ?_)
 refine(mof_any q sh w2 a0.o HQ.o ay.o).mono ?_;rintro e w3 ⟨⟨vm,rfl,ma,mb,mc,ms,rfl,an⟩,ac⟩;obtain⟨K3,aw⟩:=η2 ac an;clear ac an
 go_upto_region 5 with(refine aA rfl _ _ _ rfl _ (aJ ma mb mc ms) rfl rfl gt rfl (ki ..) ?_)
 obtain⟨w4,ao,c4,F,a4⟩:=aB w3 (aJ ma mb mc ms) 60;rw[ao];obtain⟨C4,K4,M4⟩:=η3 c4 (ae K3.o F ρ) (aw.o.below F);have R:=Q.o.to K4.o;have x1:w4.cell? ⟨w.heap.size,1,none⟩=some (.int .i64 (D:Nat)):=R.cell 1;clear ao c4 F a4 R
 go_upto_region 7 with fail
 go_wp2_with (refine aj rfl _ _ rfl w3.heap.size 0 rfl (aJ ma mb mc ms) _ (fun j hj=>C4.o.whole j hj) underlying60 rfl gt ?_)
 have af:0<ds.length/\ds.length<=1000:=by rw[E.o.len];have:=J.o.len;omega
 refine(move_any (D:Nat) _ _ vs ds q sh C (8*C) 134217728 C S W.heap.size w4 (a3.o.below K4.o) af (fun d hd=>by obtain⟨b,hb⟩:=E.o.mem hd;exact hb.shf C u.o.1) ⟨HQ.o,av.o,u.o.2,by have:=u.o.2;omega,by omega,u.o,az.o⟩ ⟨ma,mb,mc,ms,rfl,M4.o⟩).mono ?_;rintro e w5 ⟨⟨v5,a5,rfl,G⟩,ad⟩;obtain⟨ra,rn,rc,rfl⟩:=dV G.own;have K5:=O (ae K4.o ad ρ);obtain⟨Z5,L5,ar⟩:=η3 (U.o.to K5.o) G (ae HB.o (ae K2.o K5.o ρ) ρ);obtain⟨c0,c1,f0,f1⟩:=Z5.o.two;have ap:w.heap.size<=w4.heap.size:=by have:=(ae HB.o (ae K2.o K4.o ρ) ρ).size;omega
 have a1:=O ap;clear ad G x1 af ap
 go_wp2_with fail
 exact bS results8 (w.heap.size+2) (Z5.o.set2 (.int .i64 (D:Nat)) (.slice ra rn rc)) _ rfl underlying36 rfl mx rfl ⟨⟨_,a5,ds,rfl,((L5.o.set Z5.o 0 _).set (Z5.o.set 0 _) 1 _).down a1.o,E.o⟩,(ar.o.setCell (p:=⟨w.heap.size+2,0,none⟩) (by show w.heap.size<=w.heap.size+2;omega) _).setCell (p:=⟨w.heap.size+2,1,none⟩) (by show w.heap.size<=w.heap.size+2;omega) _⟩
section
theorem Wr.row{Sh:Array Value->Prop}{w:World}{n g:Nat}{cs e:Array Value}{t:TypeId}(i:n<=g)(hb:Box w g cs t)(j:Sh e):Wr Sh n t w (w.setRow g e):=⟨g,cs,e,i,hb,j,cT hb e,bq w g e⟩
def Sh2(cs:Array Value):Prop:=∃x y,cs=#[x,y]
theorem ml{w w':World}{base e k n:Nat}{v:Value}{xs:List Value}(h:w.ownsRow base e k v n xs){g:Nat}{cs:Array Value}{t:TypeId}(hb:Box w g cs t)(i:w.grownBy w' (some g))(j:e≠t):w'.ownsRow base e k v n xs:=
 World.ownsRow.kept h i (.inr fun e=>aH h hb j e.symm)
def FarT(t:TypeId):Prop:=t≠176/\57≠t/\155≠t/\3≠t/\153≠t/\86≠t
theorem ShL.far{w w':World}{base:Nat}{v:Value}{vs:List ShV}{A:List ShD}(h:ShL w base v vs A){g:Nat}{cs:Array Value}{t:TypeId}(hb:Box w g cs t)(i:w.grownBy w' (some g))(R:FarT t):ShL w' base v vs A:=by
 obtain⟨t1,t2,t3,X,Y,t6⟩:=R;have F:=eH hb t1;refine⟨ml h.own hb i t6,h.len,fun k s d j u=>?_⟩;obtain⟨⟨b1,U,C⟩,⟨b2,W,E,G,J⟩,H,Q⟩:=h.sh k s d j u;exact⟨⟨b1,U,C.other i F (.inr fun e=>aH C.own hb t2 e.symm)⟩,⟨b2,W,E.other i F (.inr fun e=>aH E.own hb t3 e.symm),G,fun k f r j u=>ml (J k f r j u) hb i X⟩,H,ml Q hb i Y⟩
theorem CelR.far{w w':World}{base:Nat}{v:Value}{vs:List Value}{j:List (List V)}(h:CelR w base v vs j){g:Nat}{cs:Array Value}{t:TypeId}(hb:Box w g cs t)(e:w.grownBy w' (some g))(E:102≠t)(F:77≠t):CelR w' base v vs j:=
 ⟨ml h.own hb e E,h.len,fun i u l A C=>ml (h.ea i u l A C) hb e F⟩
def qV(base:Nat)(m:Mo)(L:List Blk)(v:Value)(w:World):Prop:=∃vs ds,ShL w base v vs (ds.map (ShD.move m))/\RawL L ds
theorem qV.below{base:Nat}{m:Mo}{L:List Blk}{v:Value}{w w':World}(h:qV base m L v w)(hb:Bl w w'):qV base m L v w':=by
 obtain⟨vs,e,i,j⟩:=h;exact⟨vs,e,i.below hb,j⟩
theorem qV.wr{Sh:Array Value->Prop}{n base:Nat}{t:TypeId}(C:FarT t){m:Mo}{L:List Blk}{v:Value}{w w':World}(h:qV base m L v w)(E:Wr Sh n t w w'):qV base m L v w':=by
 obtain⟨vs,i,j,u⟩:=h;obtain⟨g,cs,e,-,hb,-,-,A⟩:=E;exact⟨vs,i,j.far hb A C,u⟩
theorem qV.sl{base:Nat}{m:Mo}{L:List Blk}{v:Value}{w:World}(h:qV base m L v w):∃a n c,v=.slice a n c:=by
 obtain⟨vs,i,e,-⟩:=h;exact dV e.own
def ug(z:Int)(base:Nat)(cs:List Nat)(u:Value)(w:World):Prop:=∃v,u=.tuple #[.int .i64 z,v]/\bo w base v cs
theorem ug.stab{z:Int}{base:Nat}{cs:List Nat}:∀u w w',Bl w w'->ug z base cs u w->ug z base cs u w':=fun _ _ _ h ⟨v,e,i⟩=>⟨v,e,aC i h⟩
theorem own_stab{base:Nat}{cs:List Nat}:∀u w w',Bl w w'->bo w base u cs->bo w' base u cs:=fun _ _ _ h e=>aC e h
def oJ(base:Nat)(nm:ByteArray)(d:Int)(ls:List (List V))(u:Value)(w:World):Prop:=∃a n c cvs,u=.agg #[.string nm,.int .i64 d,.slice a n c]/\CelR w base (.slice a n c) cvs ls
theorem oJ.stab{base:Nat}{A:ByteArray}{d:Int}{j:List (List V)}:∀u w w',Bl w w'->oJ base A d j u w->oJ base A d j u w':=fun _ _ _ h ⟨a,n,c,i,e,C⟩=>⟨a,n,c,i,e,C.below h⟩
theorem oJ.stabW{Sh:Array Value->Prop}{k base:Nat}{t:TypeId}(C:102≠t)(E:77≠t){A:ByteArray}{d:Int}{j:List (List V)}:∀u w w',Wr Sh k t w w'->oJ base A d j u w->oJ base A d j u w':=fun _ _ _ ⟨_,_,_,_,hb,_,_,F⟩ ⟨a,n,c,i,e,h⟩=>⟨a,n,c,i,e,h.far hb F C E⟩
def jl(dz:Int)(base:Nat)(m:Mo)(L:List Blk)(u:Value)(w:World):Prop:=∃v,u=.tuple #[.agg #[.int .i64 dz,v],.int .i64 0]/\qV base m L v w
def mM(dz:Int)(base:Nat)(m:Mo)(L:List Blk)(u:Value)(w:World):Prop:=∃v,u=.agg #[.int .i64 dz,v]/\qV base m L v w
def tY(dz:Int)(base:Nat)(m:Mo)(L:List Blk)(cs:Array Value)(w:World):Prop:=∃v,cs=#[.int .i64 dz,v]/\qV base m L v w
variable {dz : Int} {base : Nat} {m : Mo} {L : List Blk}
theorem jl.stab:∀u w w',Bl w w'->jl dz base m L u w->jl dz base m L u w':=fun _ _ _ h ⟨v,e,i⟩=>⟨v,e,i.below h⟩
theorem mM.stab:∀u w w',Bl w w'->mM dz base m L u w->mM dz base m L u w':=fun _ _ _ h ⟨v,e,i⟩=>⟨v,e,i.below h⟩
theorem tY.stab:∀u w w',Bl w w'->tY dz base m L u w->tY dz base m L u w':=fun _ _ _ h ⟨v,e,i⟩=>⟨v,e,i.below h⟩
theorem jl.stabW{Sh:Array Value->Prop}{n:Nat}{t:TypeId}(j:FarT t):∀u w w',Wr Sh n t w w'->jl dz base m L u w->jl dz base m L u w':=fun _ _ _ h ⟨v,e,i⟩=>⟨v,e,i.wr j h⟩
theorem mM.stabW{Sh:Array Value->Prop}{n:Nat}{t:TypeId}(j:FarT t):∀u w w',Wr Sh n t w w'->mM dz base m L u w->mM dz base m L u w':=fun _ _ _ h ⟨v,e,i⟩=>⟨v,e,i.wr j h⟩
theorem ns:FarT 36:=by unfold FarT;decide
end
def mN(w:World)(base:Nat)(v:Value)(l:List Int):Prop:=w.ownsRow base 3 1 v l.length (l.map (Value.int .i64))
def RetOwnI(base:Nat)(l:List Int)(w:World)(e:Ending):Prop:=∃v,e=.returned v/\mN w base v l
theorem ShF.faces{d:ShD}{D M K:Nat}(h:ShF d D M K)(hD:D<=1000000000)(E:M<=1000000000000000000)(hK:K<=9007199254740992):∀f∈d.fqs,BdV 4 f.1/\Bd 4 f.2:=fun f A=>by
 obtain⟨n,e,F,-⟩:=h.nor f A;obtain⟨i,hi⟩:=List.getElem?_of_mem A;obtain⟨r,hr⟩:∃r,d.rns[i]?=some r:=⟨_,List.getElem?_eq_getElem (by rw[<-h.off.1];exact(List.getElem?_eq_some_iff.1 hi).1)⟩;obtain⟨-,-,C⟩:=h.off.2 i f r hi hr;have j:=qw (F.mono' (show(K:Int)<=(9007199254740992:Nat) by omega));have G:=(h.pts (r.headD 0)).mono E;have u:=bA.dot j G;rw[C,e];have H:B ^ 4=340282366920938463463374607431768211456:=by decide
 exact⟨j.bd I I I,u.bd (ψ h.dpos) I I⟩
theorem nL{A:Array Oper}{rest:List Oper}{o:Oper}{a:Act}{Q:Exit->Act->World->Prop}{e:World}{c:Array Value}(F:o.guard=none)(s x:Operand)(ho:o.op=.call { callee:=.builtin .append,args:=#[s,x],argTypes:=#[63,63] }){w0:World}{base:Nat}{v:Value}{l:List Int}(hs:a.eval s=v)(U:mN e base v l)(n:Int)(hc:c=#[.int .i64 n])(hx:a.eval x=.slice (some ⟨e.heap.size,0,none⟩) 1 1)(hl:l.length<=1000000)(X:Below base w0 e)(hb:base<=e.heap.size)(h:∀C w',mN w' base C (l++[n])->Below base w0 w'->wpList prog A Q rest (a.put o.dst C) w'):wpList prog A Q (o::rest) a (e.alloc (.cells c 3)):=by
 obtain⟨i0,i,H,J,R⟩:=info_parts sF;subst hc;refine Go.wpList_append_own _ F s x 63 ho base 3 i0 (.int .i64 0) 1 8 underlying63 i H J R rfl ν v l.length _ hs (World.ownsRow.alloc U _) ⟨e.heap.size,0,none⟩ 1 1 [.int .i64 n] hx rfl (fun j u Y=>fD e _ _ j u Y) (by intro u W;simp at W;rw[W];rfl) (by unfold maxLen;omega) I (by simp;omega) ?_;intro C w1 G E _;exact h C w1 (by unfold mN;simpa using G) ((X.alloc hb _).grown E (by simp;omega) (cz U))
theorem locate_sh(s:ShV)(d:ShD)(u:Value)(p:Q3)(D M K:Nat)(w:World)(H:ShM w s d)(hF:ShF d D M K)(hD:D<=1000000000)(E:M<=1000000000000000000)(hK:K<=9007199254740992)(G:am w u p)(F:BdV 100 p):
 Calls prog 57 #[.agg #[s.a,s.b,s.c],u] w fun e w'=>e=.returned (.int .i64 (mt d.fqs p))/\Bl w w':=by
 obtain⟨-,⟨b2,i,A,J,C⟩,-⟩:=H;have j:=A.len;exact locate_any s.a s.b s.c u d.fqs i p b2 4 100 w A (C.forms (by rw[j];exact hF.off.1)) (hF.faces hD E hK) G F I hF.nf
theorem locate1_any(s:ShV)(d:ShD)(p:Q3)(n0 F G:RC)(g D M K:Nat)(w:World)(E:ShM w s d)(hF:ShF d D M K)(hD:D<=1000000000)(U:M<=1000000000000000000)(hK:K<=9007199254740992)(C:Box w g (ah n0 F G) 57)(Y:am w (.agg (ah n0 F G)) p)(X:BdV 100 p):
 Calls prog 56 #[.agg #[s.a,s.b,s.c],.pointer (some ⟨g,0,none⟩)] w fun e w'=>e=.returned (.int .i64 (mt d.fqs p))/\Bl w w':=by
 obtain⟨⟨q0,m0,H,J⟩,⟨q1,m1,d1,Q⟩,q2,m2,d2,R⟩:=E.forms;obtain⟨ua,ub,uc⟩:=s;simp only at J Q R;subst J;subst Q;subst R;obtain⟨W,hW,b1,u,hS⟩:=aB w #[.slice q0 m0 H,.slice q1 m1 d1,.slice q2 m2 d2] 86;obtain⟨HG,HP,HS,HF,HL,HB,i⟩:=η7 (C.to u) (Y.below u) (E.below u) hF X u (And.intro hD (And.intro U hK));have y0:W.cell? ⟨w.heap.size,0,none⟩=some (.slice q0 m0 H):=b1.cell 0;have y1:W.cell? ⟨w.heap.size,1,none⟩=some (.slice q1 m1 d1):=b1.cell 1;have y2:W.cell? ⟨w.heap.size,2,none⟩=some (.slice q2 m2 d2):=b1.cell 2;clear C Y E hF X b1 u hS hD U hK
 go_enter func56,ntmps56
 go_upto_region 1 with fail
 go_wp2_with (refine aj rfl _ _ rfl g 0 rfl (ah n0 F G) _ (fun j hj=>HG.o.whole j hj) underlying57 rfl cG ?_)
 refine(locate_sh _ d _ p D M K W HS.o HF.o i.o.1 i.o.2.1 i.o.2.2 HP.o HL.o).mono ?_;rintro e w2 ⟨rfl,hb⟩;have A:=O (ae HB.o hb ρ);clear hb y0 y1 y2
 go_wp2_with fail
 exact bodyPost_ret (results_tmp results56 _ _ _) rfl ⟨rfl,A.o⟩
theorem enters56:∀args w,(callFunc 56 args).run prog w=.ok (.enter 56 args) w:=
 enters_of func56 Z rfl
theorem mapLo_any(v:Value)(vs:List ShV)(j:List ShD)(p:Q3)(n0 n1 n2:RC)(g D M K base:Nat)(w:World)(hL:ShL w base v vs j)(U:0<j.length/\j.length<=1000)(hF:∀d∈j,ShF d D M K)(hD:D<=1000000000)(hM:M<=1000000000000000000)(hK:K<=9007199254740992)(hg:Box w g (ah n0 n1 n2) 57)(hp:am w (.agg (ah n0 n1 n2)) p)(hl:BdV 100 p):
 Calls prog 55 #[v,.func (.func 56) #[] #[.pointer (some ⟨g,0,none⟩)]] w fun e w'=>RetOwnI w.heap.size (jx j p) w' e/\Bl w w':=by
 obtain⟨n,J⟩:=χ j.length;obtain⟨sb,X,s0,ev,ar,-⟩:=hL.at_ 0 (j[0]'U.1) (List.getElem?_eq_getElem _);rw[J]at ev U;subst ev;obtain⟨HL,E,HF,HG,HP,ab,C⟩:=η7 hL J hF hg hp hl (And.intro hD (And.intro hM hK));have eg:=enters56;have a0:=U.1;have a1:=U.2;clear hL hF hg hp hl J ar U hD hM hK
 go_enter func55,ntmps55
 go_wp2_with fail
 go_loopw [5,10] (fun sv iv wr=>∃(k:Nat),k<=n/\iv=.int .i64 (k:Int)/\Hid (mN wr w.heap.size sv (jx (j.take k) p))/\Hid (Bl w wr)) (fun _ iv _=>n-(intOf iv).toNat)
 case atStart=>exact⟨0,Nat.zero_le _,rfl,World.ownsRow_nil _ _ _ _,Below.refl _ _⟩
 case round =>
  obtain⟨k,hk,rfl,F,i⟩:=hrel;by_cases ap:k=n
  ·have ay:¬ (k:Int)<(n:Int):=I
   rw[List.take_of_length_le (ψ E.o)]at F;clear ap
   go_wp2_with fail
   go_ret;exact⟨⟨_,rfl,F.o⟩,i.o⟩
  ·obtain⟨Q,rfl⟩:=φ wr
   have az:(k:Int)<(n:Int):=I;have R:k<j.length:=by have:=E.o;omega
   obtain⟨d,Y⟩:∃d,j[k]?=some d:=⟨_,List.getElem?_eq_getElem R⟩;obtain⟨b',c',sk,e5,-,av,H,A⟩:=(HL.o.below i.o).at_ k d Y;rw[E.o]at e5;obtain⟨⟨q0,m0,z0,f0⟩,⟨q1,m1,z1,f1⟩,q2,m2,z2,f2⟩:=H.forms;obtain⟨rfl,rfl⟩:sb=b'/\X=c':=by
    injection e5 with h1 _ h3
    injection h1 with h1
    injection h1 with h1
    exact⟨h1,h3⟩
   obtain⟨a2,a3,a4⟩:=sk;simp only at f0 f1 f2;subst f0;subst f1;subst f2;have y0:Q.cell? ⟨sb,k*3,none⟩=some (.slice q0 m0 z0):=A 0 I;have y1:Q.cell? ⟨sb,k*3+1,none⟩=some (.slice q1 m1 z1):=A 1 I;have y2:Q.cell? ⟨sb,k*3+2,none⟩=some (.slice q2 m2 z2):=A 2 I;obtain⟨ad,HD,ac⟩:=η3 H Y (HF.o d (List.mem_of_getElem? Y));clear A H av e5 R Y
   go_wp2_with fail
   obtain⟨w2,W,c2,u,aw⟩:=aB Q #[.slice q0 m0 z0,.slice q1 m1 z1,.slice q2 m2 z2] 86;rw[W];have K0:=O (i.o.trans (u.mono i.o.size));refine(locate1_any _ d p n0 n1 n2 g D M K w2 (ad.o.below u) ac.o C.o.1 C.o.2.1 C.o.2.2 (HG.o.to K0.o) (HP.o.below K0.o) ab.o).mono ?_;rintro e w3 ⟨rfl,G⟩;obtain⟨K3,an⟩:=η2 (i.o.trans ((ae u G ρ).mono i.o.size)) (show mN w3 w.heap.size _ _ from aC F.o (ae u G ρ));have ag:=O (show(jx (j.take k) p).length<=1000000 by
    unfold jx;rw[List.length_map,List.length_take];omega)
   obtain⟨aa,af⟩:=η2 K3.o.size (dw HD.o);clear W c2 u aw G y0 y1 y2
   go_wp2_with (at_builtin;refine nL rfl _ _ rfl (v:=u5) (w0:=w) (base:=w.heap.size) rfl an.o (mt d.fqs p) rfl rfl ag.o K3.o aa.o ?_;intro v' w6 au ao)
   go_round
   case rel=>exact⟨k+1,by omega,rfl,(by show mN _ _ _ _;rw[af.o];unfold jx;rw[List.map_append];exact au),ao⟩
   case measure=>exact μ
theorem VRow.all{w:World}{base:Nat}{v:Value}{qs:List Q3}{rs:List (RC×RC×RC)}(h:VRow w base v qs rs):
 ∃(b u:Nat) (C:Option Addr) (X:Nat->Array Value),v=.slice C qs.length u/\(0<qs.length->C=some ⟨b,0,none⟩)/\(∀i,(X i).size=12)/\(∀i,(X i).all (·.oneCell')=true) /\
  ∀i,i<qs.length->b<w.heap.size/\am w (.agg (X i)) (qAt qs i)/\∀j,j<(X i).size->w.cell? ⟨b,i*12+j,none⟩=(X i)[j]? := by
 by_cases h0:0<qs.length
 ·obtain⟨b,u,-,e,hb,-⟩:=h.at_ 0 (qs[0]'h0) (List.getElem?_eq_getElem _)
  have key:∀i,∃c:Array Value,c.size=12/\c.all (·.oneCell')=true/\(i<qs.length->am w (.agg c) (qAt qs i)/\∀j,j<c.size->w.cell? ⟨b,i*12+j,none⟩=c[j]?):=fun i=>by
   by_cases hi:i<qs.length
   ·subst e
    obtain⟨W,n0,R,U,F,-,Q,hc⟩:=h.open12 i hi;cases F;exact⟨ah n0 R U,rfl,bC ..,fun _=>⟨Q,fun j H=>hc j H⟩⟩
   ·exact⟨ah RC.zero RC.zero RC.zero,rfl,bC ..,fun h=>absurd h hi⟩
  obtain⟨X,A⟩:=Classical.skolem.mp key;exact⟨b,u,some ⟨b,0,none⟩,X,e,fun _=>rfl,fun i=>(A i).1,fun i=>(A i).2.1,fun i hi=>⟨hb,(A i).2.2 hi⟩⟩
 ·obtain⟨a,n,c,rfl⟩:=dV h.own
  have J:n=qs.length:=by
   obtain⟨Y,⟨e,G⟩|⟨g,u,E,e,-⟩⟩:=h.own
   ·cases e;rw[<-h.len,G]
   ·cases e;exact h.len
  subst J;exact⟨0,c,a,fun _=>ah RC.zero RC.zero RC.zero,rfl,fun h=>absurd h h0,fun _=>rfl,fun _=>bC ..,fun i hi=>absurd hi I⟩
theorem FRow.all{w:World}{base u:Nat}{v:Value}{fqs:List (Q3×Rat)}{H:List FR}{rns:List (List Nat)}(h:FRow w base v fqs H)(hi:fH w u H rns)(hl:fqs.length=rns.length):
 ∃(b A:Nat) (pa:Option Addr) (X:Nat->Array Value),v=.slice pa fqs.length A/\(0<fqs.length->pa=some ⟨b,0,none⟩)/\(∀i,(X i).size=17)/\(∀i,(X i).all (·.oneCell')=true) /\
  ∀i f r,fqs[i]?=some f->rns[i]?=some r->b<w.heap.size/\(∃(n0 Q R U:RC) (E:Option Addr) (G F:Nat),X i=aS n0 Q R U E G F/\am w (.agg (ah n0 Q R)) f.1/\ak w U.agg f.2/\bo w u (.slice E G F) r)/\∀j,j<(X i).size->w.cell? ⟨b,i*17+j,none⟩=(X i)[j]? := by
 by_cases h0:0<fqs.length
 ·obtain⟨b,A,-,e,hb,-⟩:=h.at_ 0 (by rw[h.len];exact h0)
  have key:∀i,∃c:Array Value,c.size=17/\c.all (·.oneCell')=true/\∀f r,fqs[i]?=some f->rns[i]?=some r->(∃(n0 Q R U:RC) (E:Option Addr) (G F:Nat),c=aS n0 Q R U E G F/\am w (.agg (ah n0 Q R)) f.1/\ak w U.agg f.2/\bo w u (.slice E G F) r)/\∀j,j<c.size->w.cell? ⟨b,i*17+j,none⟩=c[j]? := fun i=>by
   by_cases aa:i<fqs.length
   ·obtain⟨b',ab,x,e',-,hx,hc⟩:=h.at_ i (by rw[h.len];exact aa)
    rw[e]at e';injection e' with e1
    injection e1 with e1
    injection e1 with e1
    subst e1;obtain⟨r,hr⟩:∃r,rns[i]?=some r:=⟨_,List.getElem?_eq_getElem I⟩;have ho:=hi i x r hx hr;obtain⟨E,G,F,ev⟩:=dV ho;refine⟨aS x.n.1 x.n.2.1 x.n.2.2 x.o E G F,rfl,dK ..,fun f r' C J=>?_⟩;rw[hr]at J;cases J;obtain⟨W,h2⟩:=h.vec i x f hx C;refine⟨⟨_,_,_,_,_,_,_,rfl,W,h2,by rw[<-ev];exact ho⟩,fun j hj=>?_⟩;rw[hc j hj];have e5:cI x=(aS x.n.1 x.n.2.1 x.n.2.2 x.o E G F).toList:=by
     unfold cI;rw[ev]
     rfl
    rw[e5,Array.getElem?_toList]
   ·exact⟨aS RC.zero RC.zero RC.zero RC.zero none 0 0,rfl,dK ..,fun f r C=>by rw[List.getElem?_eq_none I]at C;cases C⟩
  obtain⟨X,Y⟩:=Classical.skolem.mp key;exact⟨b,A,some ⟨b,0,none⟩,X,by rw[e,h.len],fun _=>rfl,fun i=>(Y i).1,fun i=>(Y i).2.1,fun i f r C hr=>⟨hb,(Y i).2.2 f r C hr⟩⟩
 ·obtain⟨a,n,c,rfl⟩:=dV h.own
  have hn:n=fqs.length:=by
   obtain⟨hl,⟨e,W⟩|⟨g,A,ac,e,-⟩⟩:=h.own
   ·cases e;rw[<-h.len,W]
   ·cases e;exact h.len
  subst hn;exact⟨0,c,a,fun _=>aS RC.zero RC.zero RC.zero RC.zero none 0 0,rfl,fun h=>absurd h h0,fun _=>rfl,fun _=>dK ..,fun i f r C=>by rw[List.getElem?_eq_none I]at C;cases C⟩
theorem ownE_all{w:World}{base:Nat}{v:Value}{es:List ED}(h:eI w base v es):
 ∃(b e:Nat) (u:Option Addr),v=.slice u es.length e/\(0<es.length->u=some ⟨b,0,none⟩/\b<w.heap.size)/\∀i j,i<es.length->j<4->w.cell? ⟨b,i*4+j,none⟩=(cx (es.getD i ⟨0,0,0,0⟩))[j]? := by
 obtain⟨G,⟨rfl,h0⟩|⟨g,e,A,rfl,F,C,J,H,Q,R⟩⟩:=id h
 ·exact⟨0,0,none,by rw[h0],fun h=>by omega,fun i j hi=>by omega⟩
 ·refine⟨g,e,some ⟨g,0,none⟩,rfl,fun _=>⟨rfl,(Array.getElem?_eq_some_iff.1 C).1⟩,fun i j hi E=>?_⟩
  have hr:es[i]?=some (es.getD i ⟨0,0,0,0⟩):=by rw[List.getD_eq_getElem?_getD,List.getElem?_eq_getElem hi];rfl
  rw[World.ownsRow.cellAt h (i*4+j) I];exact dQ cx 4 (fun _=>rfl) es i j _ hr E
theorem entersVE:∀args w,(callFunc 32 args).run prog w=.ok (.enter 32 args) w:=enters_of func32 Z rfl
theorem entersFE:∀args w,(callFunc 117 args).run prog w=.ok (.enter 117 args) w:=enters_of func117 Z rfl
theorem entersCE:∀args w,(callFunc 80 args).run prog w=.ok (.enter 80 args) w:=enters_of func80 Z rfl
theorem veq_own(v W:Value)(qs:List Q3)(rs rs':List (RC×RC×RC))(base u k:Nat)(w:World)(h:VRow w base v qs rs)(h':VRow w u W qs rs')(hn:qs.length<=1000000)(U:∀i,BdV k (qAt qs i))(aa:k<=1000):
 Calls prog 114 #[v,W,.func (.func 32) #[] #[]] w fun e w'=>e=.returned (.bool true)/\Bl w w':=by
 obtain⟨b,ca,pa,X,rfl,J,hX,F,A⟩:=h.all;obtain⟨R,cb,pb,Y,rfl,Q,hY,G,C⟩:=h'.all;refine(eqV_any 32 b R qs.length ca cb X Y (fun _=>true) w hn pa pb (fun h0=>⟨J h0,Q h0⟩) entersVE hX hY F G
  (fun i hi w' E j H=>(E.cell (p:=⟨b,i*12+j,none⟩) (A i hi).1).trans ((A i hi).2.2 j H)) (fun i hi w' E j H=>(E.cell (p:=⟨R,i*12+j,none⟩) (C i hi).1).trans ((C i hi).2.2 j H))
  (fun i hi w' E=>(lN _ _ (qAt qs i) (qAt qs i) k k w' ((A i hi).2.1.below E) ((C i hi).2.1.below E) (U i) (U i) I).mono ?_)).mono ?_
 ·rintro e w1 ⟨⟨z,rfl,hz⟩,hb⟩
  exact⟨by rw[hz.mpr rfl],hb⟩
 ·rintro e w1 ⟨rfl,hb⟩
  exact⟨by simp,hb⟩
theorem feq_own(v v':Value)(fqs:List (Q3×Rat))(J C:List FR)(rns:List (List Nat))(base E b2 Q k:Nat)(w:World)(h:FRow w base v fqs J)(hi:fH w b2 J rns)(h':FRow w E v' fqs C)(aa:fH w Q C rns)(hl:fqs.length=rns.length)(hn:fqs.length<=1000000)(hk:∀f∈fqs,BdV k f.1/\Bd k f.2)(ab:k<=1000)(hr:∀r∈rns,r.length<=64):
 Calls prog 116 #[v,v',.func (.func 117) #[] #[]] w fun e w'=>e=.returned (.bool true)/\Bl w w':=by
 obtain⟨b,ca,pa,X,rfl,ac,hX,U,F⟩:=h.all hi hl;obtain⟨b',cb,pb,Y,rfl,ad,hY,W,G⟩:=h'.all aa hl;have R:∀i,i<fqs.length->∃f r,fqs[i]?=some f/\rns[i]?=some r:=fun i hi=>⟨_,_,List.getElem?_eq_getElem hi,List.getElem?_eq_getElem I⟩
 refine(eqF_any 117 b b' fqs.length ca cb X Y (fun _=>true) w hn pa pb (fun h0=>⟨ac h0,ad h0⟩) entersFE hX hY U W
  (fun i hi w' A j hj=>by obtain⟨f,r,u,hr⟩:=R i hi;exact(A.cell (p:=⟨b,i*17+j,none⟩) (F i f r u hr).1).trans ((F i f r u hr).2.2 j hj)) (fun i hi w' A j hj=>by obtain⟨f,r,u,hr⟩:=R i hi;exact(A.cell (p:=⟨b',i*17+j,none⟩) (G i f r u hr).1).trans ((G i f r u hr).2.2 j hj))
  (fun i hi w' A=>?_)).mono ?_
 ·obtain⟨f,r,u,H⟩:=R i hi
  obtain⟨-,⟨n0,n1,n2,ro,fa,fl,fc,e1,p1,p2,p3⟩,-⟩:=F i f r u H;obtain⟨-,⟨m0,m1,m2,so,ga,gl,gc,e2,q1,q2,q3⟩,-⟩:=G i f r u H;rw[e1,e2];exact eqFc_any n0 n1 n2 ro m0 m1 m2 so fa ga fl fc gl gc f r k _ _ w' (p1.below A) (q1.below A) (p2.below A) (q2.below A) (aC p3 A) (aC q3 A) (hk f (List.mem_of_getElem? u)).1 (hk f (List.mem_of_getElem? u)).2 ab (hr r (List.mem_of_getElem? H))
 ·rintro e w1 ⟨rfl,hb⟩
  exact⟨by simp,hb⟩
theorem eeq_own(v E:Value)(es:List ED)(base j:Nat)(w:World)(h:eI w base v es)(H:eI w j E es)(Q:es.length<=1000000):
 Calls prog 115 #[v,E] w fun e w'=>e=.returned (.bool true)/\Bl w w':=by
 obtain⟨b,G,J,rfl,u,hc⟩:=ownE_all h;obtain⟨F,cb,pb,rfl,A,C⟩:=ownE_all H;exact eqE_same b G F cb es.length (fun i=>es.getD i ⟨0,0,0,0⟩) J pb (fun h0=>⟨(u h0).1,(A h0).1⟩) w I (fun h0=>⟨(u h0).2,(A h0).2⟩) hc C
theorem ceq_any(s Q:ShV)(d:ShD)(D M K:Nat)(w:World)(hs:ShM w s d)(F:ShM w Q d)(hF:ShF d D M K)(hD:D<=1000000000)(hM:M<=1000000000000000000)(hK:K<=9007199254740992):
 Calls prog 80 #[.agg #[s.a,s.b,s.c],.agg #[Q.a,Q.b,Q.c]] w fun e w'=>e=.returned (.bool true)/\Bl w w':=by
 obtain⟨⟨q0,m0,z0,f0⟩,⟨q1,m1,z1,f1⟩,q2,m2,z2,f2⟩:=hs.forms;obtain⟨⟨p0,l0,y0,g0⟩,⟨p1,l1,y1,g1⟩,p2,l2,y2,g2⟩:=F.forms;obtain⟨ab,ac,ad⟩:=s;obtain⟨af,ag,an⟩:=Q;simp only at f0 f1 f2 g0 g1 g2;subst f0;subst f1;subst f2;subst g0;subst g1;subst g2;obtain⟨W,hW,b1,b2,X,hS⟩:=bU w #[.slice q0 m0 z0,.slice q1 m1 z1,.slice q2 m2 z2] #[.slice p0 l0 y0,.slice p1 l1 y1,.slice p2 l2 y2] 86 86;obtain⟨HM,aa,C,A,HB,B1,B2⟩:=η7 (hs.below X) (F.below X) hF (And.intro hD (And.intro hM hK)) X b1 b2;obtain⟨G,c1,c2,-⟩:=b1.three;obtain⟨H,d1,d2,-⟩:=b2.three;clear hs F hF hD hM hK X hS b1 b2
 go_enter func80,ntmps80
 go_wp2_with fail
 obtain⟨⟨v1,r1,h1⟩,⟨v2,r2,h2,v3,h3⟩,v4,h4⟩:=HM.o;obtain⟨⟨u1,t1,k1⟩,⟨u2,t2,k2,u3,k3⟩,u4,k4⟩:=aa.o;have E:B ^ 4=340282366920938463463374607431768211456:=by decide
 have HV:=O (fun i=>(C.o.pts i).bd (k:=4) C.o.dpos (by rw[E];have:=A.o;omega) (by rw[E];have:=A.o;omega));refine(veq_own _ _ d.qs r1 t1 v1 u1 4 W h1 k1 (ψ C.o.nq) HV.o I).mono ?_;rintro e w1 ⟨rfl,j⟩;obtain⟨Y,C2,L1,HE,R⟩:=η5 (B1.o.to j) (B2.o.to j) (ae HB.o j ρ) (And.intro (aC h4 j) (aC k4 j)) (And.intro (h2.below j) (And.intro (h3.below j) (And.intro (k2.below j) (k3.below j))));clear j h1 h2 h3 h4 k1 k2 k3 k4 G c1 c2 H d1 d2 E;obtain⟨G,c1,c2,-⟩:=Y.o.three;obtain⟨H,d1,d2,-⟩:=C2.o.three
 go_wp2_with fail
 refine(eeq_own _ _ d.es v4 u4 w1 HE.o.1 HE.o.2 (ψ C.o.es)).mono ?_;rintro e w2 ⟨rfl,u⟩;obtain⟨D1,D2,L2,U⟩:=η4 (Y.o.to u) (C2.o.to u) (ae L1.o u ρ) (And.intro (R.o.1.below u) (And.intro (R.o.2.1.below u) (And.intro (R.o.2.2.1.below u) (R.o.2.2.2.below u))));clear u G c1 c2 H d1 d2;obtain⟨G,c1,c2,-⟩:=D1.o.three;obtain⟨H,d1,d2,-⟩:=D2.o.three
 go_wp2_with fail
 refine(feq_own _ _ d.fqs r2 t2 d.rns v2 u2 v3 u3 4 w2 U.o.1 U.o.2.1 U.o.2.2.1 U.o.2.2.2 C.o.off.1 (ψ C.o.nf) (C.o.faces A.o.1 A.o.2.1 A.o.2.2) I (fun r hr=>(C.o.ring r hr).1)).mono ?_;rintro e w3 ⟨rfl,J⟩;have L3:=O (ae L2.o J ρ);clear J G c1 c2 H d1 d2
 go_wp2_with fail
 go_ret;exact⟨rfl,L3.o⟩
theorem seq_any(dz dy:Int)(v v':Value)(vs ad:List ShV)(u:List ShD)(D M K base E:Nat)(w:World)(hL:ShL w base v vs u)(G:ShL w E v' ad u)(hn:0<u.length/\u.length<=1000)(hF:∀d∈u,ShF d D M K)(hD:D<=1000000000)(hM:M<=1000000000000000000)(hK:K<=9007199254740992):
 Calls prog 34 #[.agg #[.int .i64 dz,v],.agg #[.int .i64 dy,v']] w fun e w'=>e=.returned (.bool (dz == dy))/\Bl w w':=by
 obtain⟨b,H,s0,ev,hb,-⟩:=hL.at_ 0 (u[0]'hn.1) (List.getElem?_eq_getElem _);obtain⟨b',C,af,F,J,-⟩:=G.at_ 0 (u[0]'hn.1) (List.getElem?_eq_getElem _);have key:∀{bs:Nat} {va:Value} {ss:List ShV} {g c:Nat},ShL w bs va ss u->va=.slice (some ⟨g,0,none⟩) u.length c->∀i,∃s:ShV,(#[s.a,s.b,s.c]:Array Value).all (·.oneCell')=true/\(i<u.length->∃d,u[i]?=some d/\ShM w s d/\∀j,j<3->w.cell? ⟨g,i*3+j,none⟩=(sh3 s)[j]?):=fun h hv i=>by
  by_cases hi:i<u.length
  ·obtain⟨d,R⟩:∃d,u[i]?=some d:=⟨_,List.getElem?_eq_getElem hi⟩
   obtain⟨g',c',s,e,-,-,hm,hc⟩:=h.at_ i d R;rw[hv]at e;injection e with e1
   injection e1 with e1
   injection e1 with e1
   subst e1;refine⟨s,?_,fun _=>⟨d,R,hm,hc⟩⟩;obtain⟨⟨q0,m0,z0,f0⟩,⟨q1,m1,z1,f1⟩,q2,m2,z2,f2⟩:=hm.forms;rw[f0,f1,f2];simp[Value.oneCell']
  ·exact⟨⟨.slice none 0 0,.slice none 0 0,.slice none 0 0⟩,by simp[Value.oneCell'],fun h=>absurd h hi⟩
 obtain⟨S,hS⟩:=Classical.skolem.mp (key hL ev);obtain⟨S',A⟩:=Classical.skolem.mp (key G F);obtain⟨n,X⟩:=χ u.length;rw[X]at ev F hn;subst ev;subst F;have cells:∀(s:ShV) (j:Nat),(#[s.a,s.b,s.c]:Array Value)[j]?=(sh3 s)[j]? := fun s j=>(Array.getElem?_toList (xs:=#[s.a,s.b,s.c])).symm
 have HC:=O (fun w' (h:Bl w w')=>eqS_any 80 b b' n H C (fun i=>#[(S i).a,(S i).b,(S i).c]) (fun i=>#[(S' i).a,(S' i).b,(S' i).c]) (fun _=>true) w' I (some ⟨b,0,none⟩) (some ⟨b',0,none⟩) (fun _=>⟨rfl,rfl⟩) entersCE (fun _=>rfl) (fun _=>rfl) (fun i=>(hS i).1) (fun i=>(A i).1)
  (fun i hi w2 Y j hj=>by
   obtain⟨d,-,-,hc⟩:=(hS i).2 I;rw[cells,<-hc j hj];exact(ae h Y ρ).cell (p:=⟨b,i*3+j,none⟩) hb)
  (fun i hi w2 Y j hj=>by
   obtain⟨d,-,-,hc⟩:=(A i).2 I;rw[cells,<-hc j hj];exact(ae h Y ρ).cell (p:=⟨b',i*3+j,none⟩) J)
  (fun i hi w2 Y=>by
   obtain⟨d,R,hm,-⟩:=(hS i).2 I;obtain⟨d',U,ac,-⟩:=(A i).2 I;rw[R]at U;cases U;have hb:=ae h Y ρ;exact ceq_any (S i) (S' i) d D M K w2 (hm.below hb) (ac.below hb) (hF d (List.mem_of_getElem? R)) hD hM hK))
 obtain⟨W,hW,b1,b2,hB,aa⟩:=bU w #[.int .i64 dz,.slice (some ⟨b,0,none⟩) n H] #[.int .i64 dy,.slice (some ⟨b',0,none⟩) n C] 36 36;have HB:=O hB;obtain⟨c0,c1,-⟩:=b1.two;obtain⟨d0,d1,-⟩:=b2.two;clear hL G hn hF hD hM hK hb J hS A cells hB aa b1 b2 X;obtain⟨bz,ab⟩:∃z,(dz == dy)=z:=ξ
 go_enter func34,ntmps34
 cases bz
 ·go_wp2_with fail
  go_ret;exact⟨rfl,HB.o⟩
 ·go_wp2_with fail
  refine(HC.o W HB.o).mono ?_;rintro e w1 ⟨rfl,Q⟩;have L1:=O (ae HB.o Q ρ);clear Q c0 c1 d0 d1
  go_wp2_with fail
  go_ret;exact⟨by simpa using ab,L1.o⟩
theorem vol_bd{w:World}{u A:Value}{qs:List Q3}{e:List FR}{rs:List (List Nat)}{d M:Nat}(hS:SolidF w u A qs e rs d M):Bd 20 (cK (aD (qAt qs) rs) / 6):=by
 obtain⟨i,-,-⟩:=th hS.dpos hS.dmax hS.mmax hS.frac (by rw[hS.sol.len];exact hS.sol.max) (fun r hr=>(hS.sol.ring r hr).1) (aD (qAt qs) rs) ρ (fun x j=>j);exact(Bd.div (show Bd 8 _ from i) bd6 ν).mono ν
def ShD.six(d:ShD):Rat:=cK (aD (qAt d.qs) d.rns)
theorem ShM.solid{w:World}{s:ShV}{d:ShD}(h:ShM w s d){D M K:Nat}(hF:ShF d D M K)(hD:D<=16777216)(H:M<=281474976710656):∃j,SolidF w s.a s.b d.qs j d.rns D M:=by
 obtain⟨Q,⟨b2,j,u,C,G⟩,-⟩:=h;have A:B ^ 8=115792089237316195423570985008687907853269984665640564039457584007913129639936:=by unfold B;decide
 exact⟨j,⟨Q,⟨b2,_,u⟩,fun i f r E F=>⟨C,G i f r E F⟩,by rw[u.len];exact hF.off.1.symm,by rw[u.len];exact hF.nf,hF.nq,hF.ring,fun q J=>by
  obtain⟨i,hi,rfl⟩:=List.mem_iff_getElem.1 J;have e:qAt d.qs i=d.qs[i]:=by unfold qAt;rw[List.getD_eq_getElem?_getD,List.getElem?_eq_getElem hi];rfl
  rw[<-e];exact(hF.pts i).bd hF.dpos (by rw[A];omega) (by rw[A];omega)⟩,hF.dpos,hD,H,hF.pts⟩
structure RRow (w:World) (base:Nat) (v:Value) (qs:List Rat) (rs:List RC):Prop where
 own:w.ownsRow base 55 4 v rs.length (rs.flatMap rc4)
 len:rs.length=qs.length
 val:∀ (i:Nat) (r:RC) (q:Rat),rs[i]?=some r→qs[i]?=some q→ak w r.agg q
theorem RRow.below{w w':World}{base:Nat}{v:Value}{qs:List Rat}{rs:List RC}(h:RRow w base v qs rs)(hb:Bl w w'):RRow w' base v qs rs:=
 ⟨aC h.own hb,h.len,fun i r q e j=>(h.val i r q e j).below hb⟩
theorem RRow.nil(w:World)(base:Nat):RRow w base (.slice none 0 0) [] []:=⟨World.ownsRow_nil _ _ _ _,rfl,fun i r q h=>by simp at h⟩
theorem RRow.app{w w':World}{base:Nat}{v E:Value}{qs:List Rat}{rs:List RC}(h:RRow w base v qs rs){r:RC}{q:Rat}(F:ak w r.agg q)(A:w'.ownsRow base 55 4 E (rs.length+1) (rs.flatMap rc4++rc4 r))(C:w.grownBy w' v.ownBlock):RRow w' base E (qs++[q]) (rs++[r]):=by
 have hr:=ja h.own ν;refine⟨by rw[List.length_append,List.flatMap_append];simpa using A,by simp[h.len],fun i H G j u=>?_⟩;by_cases hi:i<rs.length
 ·rw[List.getElem?_append_left hi]at j
  rw[List.getElem?_append_left (by rw[<-h.len];exact hi)]at u;exact(h.val i H G j u).grown C hr
 ·by_cases e:i=rs.length
  ·subst e
   rw[List.getElem?_append_right ρ,Nat.sub_self]at j;rw[List.getElem?_append_right (by rw[h.len];exact Nat.le_refl _),h.len,Nat.sub_self]at u;simp at j u;subst j;subst u;exact F.grown C hr
  ·rw[List.getElem?_eq_none (by simp;omega)]at j;cases j
theorem RRow.rats{w:World}{base:Nat}{v:Value}{qs:List Rat}{rs:List RC}(h:RRow w base v qs rs):∃a u,v=.slice a qs.length u/\Rats w a qs.length u (fun i=>qs.getD i 0):=by
 obtain⟨Q,⟨rfl,h0⟩|⟨g,u,E,rfl,J,F,H,R,U,W⟩⟩:=id h.own
 ·have e:qs.length=0:=by rw[<-h.len];exact h0
  exact⟨none,0,by rw[e],by omega,fun _=>rfl,fun x C=>by cases C⟩
 ·refine⟨some ⟨g,0,none⟩,u,by rw[h.len],by rw[<-h.len];exact H,fun e=>(by cases e),fun x C=>?_⟩
  cases C;refine⟨rfl,(Array.getElem?_eq_some_iff.1 F).1,fun i hi=>?_⟩;have A:i<rs.length:=by rw[h.len];exact hi
  have hr:rs[i]?=some rs[i]:=List.getElem?_eq_getElem A;have hc:∀j,j<4->w.cell? ⟨g,i*4+j,none⟩=(rc4 rs[i])[j]? := fun j G=>by
   rw[World.ownsRow.cellAt h.own (i*4+j) I];exact dQ rc4 4 (fun _=>rfl) rs i j _ hr G
  refine⟨rs[i],?_,h.val i _ _ hr (getD_some 0 hi)⟩;show RCat w g (0+i*4) rs[i];rw[Nat.zero_add];exact⟨hc 0 I,hc 1 I,hc 2 I,hc 3 I⟩
def gV(ds:List ShD):List Rat:=ds.map fun d=>d.six / 6
def dL(ds:List ShD):Rat:=psum (fun i=>(gV ds).getD i 0) ds.length
def RetRRow(base:Nat)(qs:List Rat)(w:World)(e:Ending):Prop:=∃v rs,e=.returned v/\RRow w base v qs rs
def mJ(ds:List ShD)(D M K:Nat):Prop:=(0<ds.length/\ds.length<=1000)/\(∀d∈ds,ShF d D M K)/\D<=16777216/\M<=281474976710656
theorem RC.one(r:RC):∀u∈rc4 r,u.oneCell'=true:=by intro u e;simp[rc4]at e;rcases e with rfl|rfl|rfl|rfl<;>rfl
theorem infoRz:(prog.info? 55).map (fun i=>(i.zero,i.size,i.bytes))=some (some (.agg #[.bool false,.slice none 0 0,.bool false,.slice none 0 0]),4,64):=by kernel_rfl
theorem wpList_appR{E:Array Oper}{rest:List Oper}{o:Oper}{a:Act}{Q:Exit->Act->World->Prop}{e:World}{c:Array Value}(H:o.guard=none)(s x:Operand)(ho:o.op=.call { callee:=.builtin .append,args:=#[s,x],argTypes:=#[145,145] }){w0:World}{base:Nat}{v:Value}{qs:List Rat}{rs:List RC}(hs:a.eval s=v)(G:RRow e base v qs rs){r:RC}{q:Rat}(hq:ak e r.agg q)(hc:c=(rc4 r).toArray)(hx:a.eval x=.slice (some ⟨e.heap.size,0,none⟩) 1 1)(hl:rs.length<=1000000)(X:Below base w0 e)(hb:base<=e.heap.size)(h:∀F w',RRow w' base F (qs++[q]) (rs++[r])->Below base w0 w'->wpList prog E Q rest (a.put o.dst F) w'):wpList prog E Q (o::rest) a (e.alloc (.cells c 55)):=by
 obtain⟨i0,C,R,U,W⟩:=info_parts infoRz;subst hc;have i:Bl e (e.alloc (.cells (rc4 r).toArray 55)):=β.alloc ρ _;refine Go.wpList_append_own _ H s x 145 ho base 55 i0 (.agg #[.bool false,.slice none 0 0,.bool false,.slice none 0 0]) 4 64 underlying145 C R U W rfl ν v rs.length _ hs (World.ownsRow.alloc G.own _) ⟨e.heap.size,0,none⟩ 1 1 (rc4 r) hx rfl (fun j u Y=>fD e _ _ j u Y) (RC.one r) (by unfold maxLen;omega) I (by simp;omega) ?_;intro F w1 J A _;exact h F w1 ((G.below i).app (hq.below i) (by simpa using J) A) ((X.alloc hb _).grown A (by simp;omega) (cz G.own))
theorem entersVol:∀args w,(callFunc 24 args).run prog w=.ok (.enter 24 args) w:=
 enters_of func24 Z rfl
theorem mS(s:ShV)(d:ShD)(D M K:Nat)(w:World)(u:ShM w s d)(hF:ShF d D M K)(hD:D<=16777216)(j:M<=281474976710656):
 Calls prog 24 #[.agg #[s.a,s.b,s.c]] w fun e w'=>eh w' e (d.six / 6)/\Bl w w':=by
 obtain⟨i,h⟩:=u.solid hF hD j;exact volume_any s.a s.b s.c _ _ _ _ _ w h
theorem mapVol_any(v:Value)(vs:List ShV)(C:List ShD)(D M K base:Nat)(w:World)(hL:ShL w base v vs C)(Y:mJ C D M K):
 Calls prog 77 #[v,.func (.func 24) #[] #[]] w fun e w'=>RetRRow w.heap.size (gV C) w' e/\Bl w w':=by
 obtain⟨n,H⟩:=χ C.length;have R:=Y.1.1;have ao:=Y.1.2;obtain⟨sb,X,s0,ev,-,-⟩:=hL.at_ 0 (C[0]'R) (List.getElem?_eq_getElem _);rw[H]at ev R ao;subst ev;obtain⟨HL,E,HO⟩:=η3 hL H Y.2;have eg:=entersVol;clear hL Y H
 go_enter func77,ntmps77
 go_wp2_with fail
 go_loopw [5,10] (fun sv iv wr=>∃(k:Nat) (rs:List RC),k<=n/\iv=.int .i64 (k:Int)/\Hid (RRow wr w.heap.size sv (gV (C.take k)) rs)/\Hid (Bl w wr)) (fun _ iv _=>n-(intOf iv).toNat)
 case atStart=>exact⟨0,[],Nat.zero_le _,rfl,RRow.nil _ _,Below.refl _ _⟩
 case round =>
  obtain⟨k,rs,hk,rfl,u,i⟩:=hrel;by_cases an:k=n
  ·have av:¬ (k:Int)<(n:Int):=I
   rw[List.take_of_length_le (ψ E.o)]at u;clear an
   go_wp2_with fail
   go_ret;exact⟨⟨_,rs,rfl,u.o⟩,i.o⟩
  ·obtain⟨J,rfl⟩:=φ wr
   have aw:(k:Int)<(n:Int):=I;have Q:k<C.length:=by have:=E.o;omega
   obtain⟨d,hd⟩:∃d,C[k]?=some d:=⟨_,List.getElem?_eq_getElem Q⟩;obtain⟨b',c',sk,e5,-,ar,G,A⟩:=(HL.o.below i.o).at_ k d hd;rw[E.o]at e5;obtain⟨⟨q0,m0,z0,f0⟩,⟨q1,m1,z1,f1⟩,q2,m2,z2,f2⟩:=G.forms;obtain⟨rfl,rfl⟩:sb=b'/\X=c':=by
    injection e5 with h1 _ h3
    injection h1 with h1
    injection h1 with h1
    exact⟨h1,h3⟩
   obtain⟨ay,az,a0⟩:=sk;simp only at f0 f1 f2;subst f0;subst f1;subst f2;have y0:J.cell? ⟨sb,k*3,none⟩=some (.slice q0 m0 z0):=A 0 I;have y1:J.cell? ⟨sb,k*3+1,none⟩=some (.slice q1 m1 z1):=A 1 I;have y2:J.cell? ⟨sb,k*3+2,none⟩=some (.slice q2 m2 z2):=A 2 I;obtain⟨ab,HD⟩:=η2 G hd;clear A G ar e5 Q hd
   go_wp2_with fail
   obtain⟨w2,W,c2,j,au⟩:=aB J #[.slice q0 m0 z0,.slice q1 m1 z1,.slice q2 m2 z2] 86;rw[W];have K0:=O (i.o.trans (j.mono i.o.size));refine(mS ⟨.slice q0 m0 z0,.slice q1 m1 z1,.slice q2 m2 z2⟩ d D M K w2 (ab.o.below j) (HO.o.1 d (List.mem_of_getElem? HD.o)) HO.o.2.1 HO.o.2.2).mono ?_;rintro e w3 ⟨⟨vr,rfl,U⟩,F⟩;obtain⟨r,rfl,hr⟩:=U.rcv;obtain⟨HR,K3,af⟩:=η3 hr (i.o.trans ((ae j F ρ).mono i.o.size)) (u.o.below (ae j F ρ));have ad:=O (show rs.length<=1000000 by
    rw[u.o.len];unfold gV;rw[List.length_map,List.length_take];omega)
   obtain⟨aa,ac⟩:=η2 K3.o.size (dw HD.o);clear W c2 j au F U hr y0 y1 y2
   go_wp2_with (at_builtin;refine wpList_appR rfl _ _ rfl (v:=u5) (w0:=w) (base:=w.heap.size) rfl af.o HR.o rfl rfl ad.o K3.o aa.o ?_;intro v' w6 ap ag)
   go_round
   case rel=>exact⟨k+1,rs++[r],by omega,rfl,(by show RRow _ _ _ _ _;rw[ac.o];unfold gV;rw[List.map_append];exact ap),ag⟩
   case measure=>exact μ
theorem o8{j:List ShD}{D M K:Nat}{w:World}{base:Nat}{v:Value}{vs:List ShV}(C:ShL w base v vs j)(u:mJ j D M K):∀i,i<j.length->Bd 20 ((gV j).getD i 0):=fun i hi=>by
 obtain⟨-,-,s,-,-,-,E,-⟩:=C.at_ i j[i] (List.getElem?_eq_getElem hi);obtain⟨A,h⟩:=E.solid (u.2.1 _ (List.getElem_mem hi)) u.2.2.1 u.2.2.2;have e:(gV j).getD i 0=j[i].six / 6:=by unfold gV;simp[List.getD,hi]
 rw[e];exact vol_bd h
theorem l8(dz:Int)(v:Value)(vs:List ShV)(i:List ShD)(D M K base:Nat)(w:World)(F:ShL w base v vs i)(Q:mJ i D M K):
 Calls prog 29 #[.agg #[.int .i64 dz,v]] w fun e w'=>eh w' e (dL i)/\Bl w w':=by
 have G:=O (o8 F Q);obtain⟨pa,pn,pc,rfl⟩:=dV F.own;obtain⟨W,hW,b1,b2,J,hS⟩:=bU w #[.int .i64 dz,.slice pa pn pc] (aE RC.zero) 36 55;obtain⟨HB,HS,Y,HL,U⟩:=η5 J hS b2 (F.below J) Q;have x1:W.cell? ⟨w.heap.size,1,none⟩=some (.slice pa pn pc):=b1.cell 1;simp only[aE,RC.zero]at hW;clear b1 b2 J hS F Q
 go_enter func29,ntmps29
 go_wp2_with fail
 refine(mapVol_any _ vs i D M K base W HL.o U.o).mono ?_;rintro e w2 ⟨⟨iv,rs,rfl,C⟩,j⟩;obtain⟨ra,rc,rfl,A⟩:=C.rats;have hl:(gV i).length=i.length:=List.length_map ..;rw[hl]at A⊢;obtain⟨H,K2,Z3⟩:=η3 A (ae HB.o j ρ) (Y.o.to j);clear C j A hl x1 hW
 go_wp2_with fail
 refine(Sum_any ra i.length rc _ 20 w2 H.o G.o (ψ U.o.1.2)).mono ?_;rintro e w3 ⟨⟨vr,rfl,E⟩,u⟩;obtain⟨r,rfl,hr⟩:=E.rcv;have R:=Z3.o.to u;obtain⟨⟨y0,y1,y2,y3⟩,y4⟩:=R.at1;obtain⟨HR,X,K3⟩:=η3 hr R (ae K2.o u ρ);clear E hr R u
 go_wp2_with fail
 exact aK results29 (w.heap.size+1) (X.o.s4 r) _ rfl underlying55 rfl bD rfl ⟨⟨_,rfl,HR.o.store4 X.o _ _ _ _⟩,aW K3.o I _ _ _ _⟩
section
def ShD.ext(n:Q3)(d:ShD):Rat×Rat:=dY d.qs n d.qs.length
theorem mH{w0 w:World}(h:Bl w0 w){g:Nat}(i:w0.heap.size<=g)(cs:Array Value):Bl w0 (w.setRow g cs):=h.grown (bq w g cs) h.size (fun k e=>by cases e;exact i)
theorem put4_row1{w:World}{g:Nat}{j:RC}{t:TypeId}(hb:Box w g (aE j) t)(r:RC):put4 w g 0 r=w.setRow g (aE r):=by
 obtain⟨X,e⟩:=me (cs:=aE j) (o:=0) hb r;rw[setRow_self w g _ t (0,0) hb]at e;have i:(put4 w g 0 r).heap[g]?=some (.cells (aE r) t (0,0)):=hb.s4 r;rw[e,setRow_heap w g _ X t (0,0) hb]at i;injection i with i
 injection i with i
 rw[e,i]
theorem new_box1(w:World)(z i:Array Value)(t e:TypeId):Box ((w.alloc (.cells z t)).alloc (.cells i e)) w.heap.size z t:=(Box.new w _ _ _ rfl).old _
theorem new_box2(w:World)(z j:Array Value)(t i:TypeId)(cs:Array Value):Box (((w.alloc (.cells z t)).alloc (.cells j i)).setRow w.heap.size cs) (w.heap.size+1) j i:=(Box.new _ _ _ _ (by simp)).grown (bq _ _ _) (fun e=>by injection e with e;omega)
theorem new_two(w:World)(z u:Array Value)(t j:TypeId)(cs i:Array Value):∃W,(((w.alloc (.cells z t)).alloc (.cells u j)).setRow w.heap.size cs).setRow (w.heap.size+1) i=W/\Box W w.heap.size cs t/\Box W (w.heap.size+1) i j/\Bl w W:=by
 have h0:Bl w ((w.alloc (.cells z t)).alloc (.cells u j)):=(β.alloc ρ _).alloc (by simp) _;exact⟨_,rfl,(cT (new_box1 w z u t j) _).grown (bq _ _ _) (fun e=>by injection e with e;omega),cT (new_box2 w z u t j cs) _,mH (mH h0 ρ _) I _⟩
structure SXI (w:World) (p0 p1 p2 lr hr:RC) (lo hi:Rat) (wr:World):Prop where
 lb:Box wr (w.heap.size+2) (aE lr) 55
 hb:Box wr (w.heap.size+3) (aE hr) 55
 nb:Box wr (w.heap.size+1) (ah p0 p1 p2) 57
 l:ak wr lr.agg lo
 h:ak wr hr.agg hi
 bel:Bl w wr
section
variable {w : World} {p0 p1 p2 : RC} {lr hr : RC} {lo hi : Rat} {wr wr' : World}
end
end
theorem volL_bd{e:List ShD}{D M K:Nat}{w:World}{base:Nat}{v:Value}{vs:List ShV}(j:ShL w base v vs e)(i:mJ e D M K):Bd 21001 (dL e):=
 (Bd.psum (o8 j i)).mono (ψ i.1.2)
theorem rU(dz:Int)(v:Value)(vs:List ShV)(C:List ShD)(D M K0 base:Nat)(w:World)(hd:0<=dz/\dz<1048577)(H:ShL w base v vs C)(hO:mJ C D M K0):
 Calls prog 30 #[.agg #[.int .i64 dz,v]] w fun e w'=>eh w' e ((dz:Rat)*dL C)/\Bl w w':=by
 obtain⟨pa,pn,pc,rfl⟩:=dV H.own;obtain⟨W,hW,b1,b2,Y,hS⟩:=bU w #[.int .i64 dz,.slice pa pn pc] (aE RC.zero) 36 55;obtain⟨HB,G,Z2,HL,HO,R,Q⟩:=η7 Y b1 b2 (H.below Y) hO hd (volL_bd H hO);simp only[aE,RC.zero]at hW;clear b1 b2 Y H hO hd
 go_enter func30,ntmps30
 go_upto_region 1 with fail
 clear hW;refine aU (rest:=1) [isV 0 (.pointer (some ⟨w.heap.size,0,none⟩)),isV 1 (.int .i64 dz),isP 2 (fun u w=>ak w u (dz:Rat)),isV 3 (.agg #[.int .i64 dz,.slice pa pn pc]),isP 4 (fun u w=>ak w u (dL C)),isP 5 (fun u w=>ak w u ((dz:Rat)*dL C))] [] ?A (τ 6 1) Z [0,1,2,3,4,5] Z Z Z Z Z Z ?st ?hA ?hop ?hend
 case hA=>exact cZ
 case st=>repeat (first|exact aq.nil|refine aq.cons isV.stab ?_|refine aq.cons (isP.stab (fun _ _ _ h E=>E.below h)) ?_)
 case hop =>
  iterate 2
   refine ai.cons rfl (fun y w' hS hD K hK=>?_) ?_
   ·try simp only[isV.get (hD 0 (by decide +kernel))]at hK⊢
    obtain⟨X,c1,-⟩:=(G.o.to hS).two;go_simp;exact hK.out _ w' hS β isV.put δ
  refine ai.cons rfl (fun y w' hS hD K hK=>?_) ?_
  ·simp only[isV.get (hD 1 Z)]at hK⊢
   go_simp;refine(dc dz w' (ψ R.o) (ψ R.o)).mono ?_
   rintro e j ⟨⟨v,rfl,E⟩,hb⟩;exact hK.out v j (ae hS hb ρ) hb (isP.put E) δ
  refine ai.cons rfl (fun y w' hS hD K hK=>?_) ?_
  ·obtain⟨X,c1,-⟩:=(G.o.to hS).two
   go_simp;exact hK.out _ w' hS β isV.put δ
  refine ai.cons rfl (fun y w' hS hD K hK=>?_) ?_
  ·simp only[isV.get (hD 3 Z)]at hK⊢
   go_simp;refine(l8 dz _ vs C D M K0 base w' (HL.o.below hS) HO.o).mono ?_
   rintro e j ⟨⟨v,rfl,E⟩,hb⟩;exact hK.out v j (ae hS hb ρ) hb (isP.put E) δ
  refine ai.cons rfl (fun y w' hS hD K hK=>?_) ?_
  ·have e2:=isP.get (p:=fun u w=>ak w u (dz:Rat)) (hD 2 Z)
   have e4:=isP.get (p:=fun u w=>ak w u (dL C)) (hD 4 Z);go_simp;refine(dE _ _ (dz:Rat) (dL C) 2 21001 w' e2 e4 (Bd.int dz (by have:=R.o;unfold B;omega)) Q.o I).mono ?_;rintro e j ⟨⟨v,rfl,E⟩,hb⟩;exact hK.out v j (ae hS hb ρ) hb (isP.put E) δ
  exact ai.nil
 case hend =>
  intro y' w' hS hR hF;have e5:=isP.get (hR 5 Z);obtain⟨r,F,hr⟩:=e5.rcv;simp only[F];have U:=Z2.o.to hS;obtain⟨⟨X,c1,c2,c3⟩,f0,f1,f2,f3⟩:=U.at1;refine aL (i:=6) (listed2:=τ 7 0) Z rfl Z (fun K hK=>?_);go_simp;refine hK.out _ _ ?_;clear hK K;refine aP Z ?_;obtain⟨BZ,HR,J⟩:=η3 U hr (HB.o.trans (hS.mono HB.o.size));clear hS hR hF e5 F U hr X c1 c2 c3 f0 f1 f2 f3
  go_wp2_with fail
  exact aK results30 (w.heap.size+1) (BZ.o.s4 r) _ rfl underlying55 rfl bD rfl ⟨⟨_,rfl,HR.o.store4 BZ.o _ _ _ _⟩,aW J.o I _ _ _ _⟩
def ShD.cen(d:ShD):Q3:=qscale (1 / (4*d.six)) (dC (aD (qAt d.qs) d.rns))
def bW(ds:List ShD):List (Rat×Q3):=ds.map fun d=>(d.six / 6,d.cen)
def qP(ds:List ShD):Q3:=qscale (((1:Int):Rat) / dL ds) (dC (bW ds))
theorem pH:∀l:List (Rat×Q3),(∀x∈l,Bd 20 x.1/\BdV 18 x.2)->BdV (l.length*39+1) (dC l):=
 iX (fun _=>⟨Bd.zero,Bd.zero,Bd.zero⟩) fun l x u h=>by
  have i:=u fun y j=>h y (List.mem_append.2 (.inl j))
  have e:=h x (List.mem_append.2 (.inr (List.mem_singleton.2 rfl)));rw[fL];exact(i.qadd (BdV.qscale e.1 e.2)).mono (by simp;omega)
def nI(q:Rat)(v:Value)(w:World):Prop:=∃r:RC,v=.tuple #[.agg #[.bool r.s,.slice r.a r.n r.c,.bool r.t,.slice r.b r.m r.d],.int .i64 0]/\ak w r.agg q
theorem nI.stab{q:Rat}:∀v w w',Bl w w'->nI q v w->nI q v w':=fun _ _ _ h ⟨r,e,hr⟩=>⟨r,e,hr.below h⟩
theorem nI.stabW{q:Rat}{n:Nat}:∀v w w',Wr Sh4 n 55 w w'->nI q v w->nI q v w':=fun _ _ _ h ⟨r,e,hr⟩=>⟨r,e,dh ν _ _ _ h hr⟩
theorem sU(s:ShV)(d:ShD)(D M K:Nat)(w:World)(u:ShM w s d)(hF:ShF d D M K)(hD:D<=16777216)(j:M<=281474976710656)(h0:d.six≠0):
 Calls prog 28 #[.agg #[s.a,s.b,s.c]] w fun e w'=>gU w' e d.cen/\Bl w w':=by
 obtain⟨i,h⟩:=u.solid hF hD j;exact centre_any s.a s.b s.c _ _ _ _ _ w h h0
theorem parts_bd{e:List ShD}{D M K:Nat}{w:World}{base:Nat}{v:Value}{vs:List ShV}(C:ShL w base v vs e)(j:mJ e D M K):∀x∈bW e,Bd 20 x.1/\BdV 18 x.2:=fun x F=>by
 obtain⟨d,u,rfl⟩:=List.mem_map.1 F;obtain⟨i,hi,rfl⟩:=List.mem_iff_getElem.1 u;obtain⟨-,-,s,-,-,-,E,-⟩:=C.at_ i e[i] (List.getElem?_eq_getElem hi);obtain⟨A,h⟩:=E.solid (j.2.1 _ u) j.2.2.1 j.2.2.2;exact⟨vol_bd h,centre_bd h⟩
theorem sCen_any(dz:Int)(v:Value)(vs:List ShV)(E:List ShD)(D M K0 base:Nat)(w:World)(hL:ShL w base v vs E)(hO:mJ E D M K0)(bm:∀d∈E,d.six≠0)(bs:dL E≠0):
 Calls prog 33 #[.agg #[.int .i64 dz,v]] w fun e w'=>gU w' e (qP E)/\Bl w w':=by
 obtain⟨n,az⟩:=χ E.length;have bl:=hO.1.1;have b0:=hO.1.2;obtain⟨sb,G,s0,ev,br,-⟩:=hL.at_ 0 (E[0]'bl) (List.getElem?_eq_getElem _);obtain⟨ap,a5⟩:=η2 (parts_bd hL hO) (volL_bd hL hO);rw[az]at ev bl b0;subst ev;obtain⟨W,hW,b1,b2,b3,hB,hS⟩:=cC w #[.int .i64 dz,.slice (some ⟨sb,0,none⟩) n G] (ah RC.zero RC.zero RC.zero) (ah RC.zero RC.zero RC.zero) 36 57 57;obtain⟨HB,B1,Z2,B3,HL,HO,bI,bc,ab⟩:=η9 hB b1 b2 b3 hL hO bm bs az;have b7:=O br;obtain⟨k1,aw⟩:∃k:Rat,((1:Int):Rat) / dL E=k:=⟨_,rfl⟩;have ao:=O aw;have x1:W.cell? ⟨w.heap.size,1,none⟩=some (.slice (some ⟨sb,0,none⟩) n G):=b1.cell 1;rw[lS]at hW;clear b1 b2 b3 hB hS hL hO bm bs az br aw
 go_enter func33,ntmps33
 go_wp2_with fail
 go_loopw [11] (fun iv wr=>∃(k:Nat) (r0 r1 r2:RC),k<=n/\iv=.int .i64 (k:Int)/\Hid (Box wr (w.heap.size+2) (ah r0 r1 r2) 57)/\Hid (am wr (.agg (ah r0 r1 r2)) (dC ((bW E).take k)))/\Hid (Box wr w.heap.size #[.int .i64 dz,.slice (some ⟨sb,0,none⟩) n G] 36)/\Hid (Box wr (w.heap.size+1) (ah RC.zero RC.zero RC.zero) 57)/\Hid (Bl w wr)) (fun iv _=>n-(intOf iv).toNat)
 case atStart=>exact⟨0,RC.zero,RC.zero,RC.zero,Nat.zero_le _,rfl,B3.o,⟨_,_,_,rfl,ak.zero _,ak.zero _,ak.zero _⟩,B1.o,Z2.o,HB.o⟩
 case round =>
  obtain⟨k,r0,r1,r2,hk,rfl,ad,ar,aa,af,R⟩:=hrel;obtain⟨Y,rfl⟩:=φ wr;have a7:=O (HL.o.below R.o);by_cases bk:k=n
  ·have aw:¬ (k:Int)<(n:Int):=I
   rw[List.take_of_length_le (by unfold bW;rw[List.length_map,ab.o];omega)]at ar;have U:=O (show BdV 39001 (dC (bW E))from(pH (bW E) ap.o).mono (by unfold bW;rw[List.length_map,ab.o];omega));clear bk
   go_upto_region 7 with fail
   refine eZ Sh4 8 55 (rest:=1) [isP 0 (fun u w=>ak w u ((1:Int):Rat)),isV 1 (.agg #[.int .i64 dz,.slice (some ⟨sb,0,none⟩) n G]),isP 2 (fun u w=>ak w u (dL E)),isP 3 (nI k1),isP 4 (nI k1),isP 5 (fun u w=>∃r:RC,u=.agg #[.bool r.s,.slice r.a r.n r.c,.bool r.t,.slice r.b r.m r.d]/\ak w r.agg k1),isV 6 (.int .i64 0),isP 7 (eY Sh4 Y.heap.size 55),isS 7 Y.heap.size 55 (fun cs w=>∃r,cs=aE r/\ak w r.agg k1)] [7] ?A8 (τ 9 1) Z [0,1,2,3,4,5,6,7,8] Z Z Z Z Z Z ?st ?st2 ?hA ?hop ?hend
   case hA=>exact cZ
   case st=>repeat (first|exact aq.nil|refine aq.cons isV.stab ?_|refine aq.cons (isP.stab nI.stab) ?_|refine aq.cons (isP.stab eY.stab) ?_|refine aq.cons (isP.stab (fun _ _ _ h ⟨r,e,hr⟩=>⟨r,e,hr.below h⟩)) ?_|refine aq.cons (isP.stab (fun _ _ _ h F=>F.below h)) ?_|refine aq.cons (isS.stab (fun _ _ _ h ⟨r,e,hr⟩=>⟨r,e,hr.below h⟩)) ?_)
   case st2=>repeat (first|exact aY.nil|refine aY.cons isV.stabW ?_|refine aY.cons (isP.stabW nI.stabW) ?_|refine aY.cons (isP.stabW eY.stabW) ?_|refine aY.cons (isP.stabW (fun _ _ _ h ⟨r,e,hr⟩=>⟨r,e,dh ν _ _ _ h hr⟩)) ?_|refine aY.cons (isP.stabW (dh ν)) ?_|refine aY.cons (isN.stabW (i:=0)) ?_)
   case hop =>
    refine ai.cons rfl (fun y w' hS hD K hK=>?_) ?_
    ·go_simp
     refine(dc 1 w' I I).mono ?_;rintro e C ⟨⟨v,rfl,F⟩,hb⟩;exact hK.out v C (ae hS hb ρ) (bB.old hb) (isP.put F) δ
    refine ai.cons rfl (fun y w' hS hD K hK=>?_) ?_
    ·obtain⟨c0,c1,-⟩:=(aa.o.to hS).two
     go_simp;exact hK.out _ w' hS (bB.old β) isV.put δ
    refine ai.cons rfl (fun y w' hS hD K hK=>?_) ?_
    ·simp only[isV.get (hD 1 Z)]at hK⊢
     go_simp;refine(l8 dz _ vs E D M K0 base w' (a7.o.below hS) HO.o).mono ?_
     rintro e C ⟨⟨v,rfl,F⟩,hb⟩;exact hK.out v C (ae hS hb ρ) (bB.old hb) (isP.put F) δ
    refine ai.cons rfl (fun y w' hS hD K hK=>?_) ?_
    ·have e0:=isP.get (p:=fun u w=>ak w u ((1:Int):Rat)) (hD 0 Z)
     have e2:=isP.get (p:=fun u w=>ak w u (dL E)) (hD 2 Z);go_simp;refine(kr _ _ ((1:Int):Rat) (dL E) 2 21001 w' e0 e2 (Bd.int 1 (by unfold B;omega)) a5.o I bc.o).mono ?_;rintro e C ⟨⟨v,rfl,F⟩,hb⟩;obtain⟨r,rfl,hr⟩:=F.rcv;rw[ao.o]at hr;exact hK.out _ C (ae hS hb ρ) (bB.old hb) (isP.put ⟨r,rfl,hr⟩) δ
    refine ai.cons rfl (fun y w' hS hD K hK=>?_) ?_
    ·obtain⟨r,eq,hr⟩:=isP.get (p:=nI k1) (hD 3 Z)
     simp only[eq]at hK⊢;go_simp;exact hK.out _ w' hS (bB.old β) (isP.put ⟨r,rfl,hr⟩) δ
    refine ai.cons rfl (fun y w' hS hD K hK=>?_) ?_
    ·obtain⟨r,eq,hr⟩:=isP.get (p:=nI k1) (hD 4 Z)
     simp only[eq]at hK⊢;go_simp;exact hK.out _ w' hS (bB.old β) (isP.put ⟨r,rfl,hr⟩) δ
    refine ai.cons rfl (fun y w' hS hD K hK=>?_) ?_
    ·obtain⟨r,eq,hr⟩:=isP.get (p:=nI k1) (hD 4 Z)
     simp only[eq]at hK⊢;go_simp;exact hK.out _ w' hS (bB.old β) isV.put δ
    refine ai.cons rfl (fun y w' hS hD K hK=>?_) ?_
    ·go_simp
     exact hK.out _ _ (hS.alloc hS.size _) (bB.old (β.alloc ρ _)) (isP.put ⟨_,_,rfl,hS.size,sh4 RC.zero,Box.new _ _ _ _ rfl⟩) (fun _ j hj b4 _=>absurd (List.mem_singleton.1 hj) b4)
    refine ai.cons rfl (fun y w' hS hD K hK=>?_) ?_
    ·obtain⟨r,er,hr⟩:=isP.get (i:=5) (p:=fun v w=>∃r:RC,v=.agg #[.bool r.s,.slice r.a r.n r.c,.bool r.t,.slice r.b r.m r.d]/\ak w r.agg k1) (hD 5 Z)
     obtain⟨ga,_,ea,av,⟨s0,rfl⟩,ag⟩:=isP.get (i:=7) (p:=eY Sh4 Y.heap.size 55) (hD 7 Z);simp only[er,ea]at hK⊢;obtain⟨⟨c0,c1,c2,c3⟩,f0,f1,f2,f3⟩:=ag.at1;go_simp;exact hK.out undef (put4 w' ga 0 r) (bj hS av _ _) (bB.new (Wr.put4 av ag _)) (isS.put ν ea av (ag.s4 _) ⟨r,rfl,hr.put4 ag.at1 r⟩) δ
    exact ai.nil
   case hend =>
    intro y w' hS hR hF;have e6:=isV.get (hR 6 Z);simp only[e6];obtain⟨go,_,bg,b9,bf,ro,rfl,bp⟩:=isS.get (i:=7) (n:=Y.heap.size) (t:=55) (p:=fun cs w=>∃r,cs=aE r/\ak w r.agg k1) (hR 8 Z);simp only[bg];refine aL (i:=9) (listed2:=τ 10 0) Z rfl Z (fun K hK=>?_);go_simp;refine hK.out _ _ ?_;clear hK K;refine aP Z ?_;obtain⟨GO,bV,SU,SV,ZZ,a4⟩:=η6 bf bp (ad.o.to hS) (ar.o.below hS) (af.o.to hS) (R.o.trans (hS.mono R.o.size));clear hS hR hF bf bp e6 bg
    go_wp2_with (first|refine aj rfl _ _ rfl (w.heap.size+2) 0 rfl (ah r0 r1 r2) _ (fun j hj=>SU.o.whole j hj) underlying57 rfl cG ?_|refine aj rfl _ _ rfl go 0 rfl (aE ro) _ (fun j hj=>GO.o.whole j hj) underlying55 rfl bD ?_)
    refine(dq _ _ (dC (bW E)) k1 21003 39001 w' SV.o bV.o (by rw[<-ao.o];exact(Bd.div (Bd.int 1 (by unfold B;omega)) a5.o bc.o).mono I) U.o I).mono ?_;rintro e w2 ⟨⟨v2,rfl,bt⟩,au⟩;obtain⟨H,J,Q,rfl,h2⟩:=bt.rcv;obtain⟨V2,Z3,bv⟩:=η3 h2 (ZZ.o.to au) (a4.o.trans (au.mono a4.o.size));clear bt h2 au
    go_wp2_with (refine wpList_store_row rfl 57 _ _ rfl (w.heap.size+1) (ah H J Q) rfl rfl 57 _ Z3.o cG rfl (bC ..) ?_)
    rw[<-fh Z3.o H J Q];exact aK results33 (w.heap.size+1) (Z3.o.s12 H J Q) _ rfl underlying57 rfl cG rfl ⟨⟨_,rfl,by unfold qP;rw[ao.o];exact V2.o.put12 Z3.o H J Q⟩,aX bv.o I _ _ _⟩
  ·have ca:(k:Int)<(n:Int):=I
   have bi:k<E.length:=by have:=ab.o;omega
   obtain⟨d,hd⟩:∃d,E[k]?=some d:=⟨_,List.getElem?_eq_getElem bi⟩;obtain⟨b',c',sk,e5,b8,b5,ay,an⟩:=a7.o.at_ k d hd;rw[ab.o]at e5;obtain⟨⟨q0,m0,z0,f0⟩,⟨q1,m1,z1,f1⟩,q2,m2,z2,f2⟩:=ay.forms;obtain⟨rfl,rfl⟩:sb=b'/\G=c':=by
    injection e5 with h1 _ h3
    injection h1 with h1
    injection h1 with h1
    exact⟨h1,h3⟩
   obtain⟨cd,ce,cg⟩:=sk;simp only at f0 f1 f2;subst f0;subst f1;subst f2;have y0:Y.cell? ⟨sb,k*3,none⟩=some (.slice q0 m0 z0):=an 0 I;have y1:Y.cell? ⟨sb,k*3+1,none⟩=some (.slice q1 m1 z1):=an 1 I;have y2:Y.cell? ⟨sb,k*3+2,none⟩=some (.slice q2 m2 z2):=an 2 I;obtain⟨w2,b6,c2,X,cc⟩:=aB Y #[.slice q0 m0 z0,.slice q1 m1 z1,.slice q2 m2 z2] 86;obtain⟨a9,a6,bF,SU,SV,C2,K2⟩:=η7 (ay.below X) (HO.o.2.1 d (List.mem_of_getElem? hd)) (bI.o d (List.mem_of_getElem? hd)) (ad.o.to X) (ar.o.below X) c2 X;have ba:=O (show(bW E)[k]?=some (d.six / 6,d.cen) by unfold bW;rw[List.getElem?_map,hd];rfl);have ac:=O (ap.o _ (List.mem_of_getElem? ba.o));have U:=O (show BdV 39001 (dC ((bW E).take k))from(pH _ (fun x hx=>ap.o x (List.mem_of_mem_take hx))).mono (by rw[List.length_take];omega));clear an ay b5 e5 bi hd bk c2 X
   go_upto_region 5 with fail
   clear b6 y0 y1 y2;refine aU (rest:=1) [isV 0 (.agg (ah r0 r1 r2)),isV 1 (.agg #[.slice q0 m0 z0,.slice q1 m1 z1,.slice q2 m2 z2]),isP 2 (fun u w=>am w u d.cen),isV 3 (.agg #[.slice q0 m0 z0,.slice q1 m1 z1,.slice q2 m2 z2]),isP 4 (fun u w=>ak w u (d.six / 6)),isP 5 (fun u w=>am w u (qscale (d.six / 6) d.cen)),isP 6 (fun u w=>am w u (qadd (dC ((bW E).take k)) (qscale (d.six / 6) d.cen)))] [] ?A (τ 7 1) Z [0,1,2,3,4,5,6] Z Z Z Z Z Z ?st ?hA ?hop ?hend
   case hA=>exact cZ
   case st=>repeat (first|exact aq.nil|refine aq.cons isV.stab ?_|refine aq.cons (isP.stab (fun _ _ _ h F=>F.below h)) ?_)
   case hop =>
    refine ai.cons rfl (fun y w' hS hD K hK=>?_) ?_
    ·refine bJ ?_
     refine aV 57 _ rfl (w.heap.size+2) 0 rfl (ah r0 r1 r2) _ (fun j hj=>(SU.o.to hS).whole j hj) underlying57 rfl cG ?_;exact hK.out _ w' hS β isV.put δ
    refine ai.cons rfl (fun y w' hS hD K hK=>?_) ?_
    ·obtain⟨c0,c1,c2,-⟩:=(C2.o.to hS).three
     go_simp;exact hK.out _ w' hS β isV.put δ
    refine ai.cons rfl (fun y w' hS hD K hK=>?_) ?_
    ·simp only[isV.get (hD 1 Z)]at hK⊢
     go_simp;refine(sU ⟨.slice q0 m0 z0,.slice q1 m1 z1,.slice q2 m2 z2⟩ d D M K0 w' (a9.o.below hS) a6.o HO.o.2.2.1 HO.o.2.2.2 bF.o).mono ?_
     rintro e C ⟨⟨v,rfl,F⟩,hb⟩;exact hK.out v C (ae hS hb ρ) hb (isP.put F) δ
    refine ai.cons rfl (fun y w' hS hD K hK=>?_) ?_
    ·obtain⟨c0,c1,c2,-⟩:=(C2.o.to hS).three
     go_simp;exact hK.out _ w' hS β isV.put δ
    refine ai.cons rfl (fun y w' hS hD K hK=>?_) ?_
    ·simp only[isV.get (hD 3 Z)]at hK⊢
     go_simp;refine(mS ⟨.slice q0 m0 z0,.slice q1 m1 z1,.slice q2 m2 z2⟩ d D M K0 w' (a9.o.below hS) a6.o HO.o.2.2.1 HO.o.2.2.2).mono ?_
     rintro e C ⟨⟨v,rfl,F⟩,hb⟩;exact hK.out v C (ae hS hb ρ) hb (isP.put F) δ
    refine ai.cons rfl (fun y w' hS hD K hK=>?_) ?_
    ·have e2:=isP.get (p:=fun u w=>am w u d.cen) (hD 2 Z)
     have e4:=isP.get (p:=fun u w=>ak w u (d.six / 6)) (hD 4 Z);go_simp;refine(dq _ _ d.cen (d.six / 6) 20 18 w' e2 e4 ac.o.1 ac.o.2 I).mono ?_;rintro e C ⟨⟨v,rfl,F⟩,hb⟩;exact hK.out v C (ae hS hb ρ) hb (isP.put F) δ
    refine ai.cons rfl (fun y w' hS hD K hK=>?_) ?_
    ·simp only[isV.get (hD 0 Z)]at hK⊢
     have e5:=isP.get (p:=fun u w=>am w u (qscale (d.six / 6) d.cen)) (hD 5 Z);go_simp;refine(iz _ _ (dC ((bW E).take k)) (qscale (d.six / 6) d.cen) 39001 38 w' (SV.o.below hS) e5 U.o (BdV.qscale ac.o.1 ac.o.2) I).mono ?_;rintro e C ⟨⟨v,rfl,F⟩,hb⟩;exact hK.out v C (ae hS hb ρ) hb (isP.put F) δ
    exact ai.nil
   case hend =>
    intro y w' hS hR hF;obtain⟨H,J,Q,e6,ha⟩:=(isP.get (i:=6) (p:=fun u w=>am w u (qadd (dC ((bW E).take k)) (qscale (d.six / 6) d.cen))) (hR 6 Z)).rcv;simp only[e6];have bz:=SU.o.to hS;refine aL (i:=7) (listed2:=τ 8 0) Z rfl Z (fun K hK=>?_);refine bJ ?_;refine wp_store_row 57 _ _ rfl (w.heap.size+2) (ah H J Q) rfl rfl 57 _ bz cG rfl (bC ..) ?_;rw[<-fh bz H J Q];have bu:w.heap.size<=Y.heap.size:=R.o.size;obtain⟨LL,BZ,HA⟩:=η3 (ae K2.o hS ρ) (bz.s12 H J Q) (ha.put12 bz H J Q);obtain⟨a3,be⟩:=η2 ((aa.o.to LL.o).o12 (g':=w.heap.size+2) I H J Q) ((af.o.to LL.o).o12 (g':=w.heap.size+2) I H J Q);have a8:=O (aX (R.o.trans (LL.o.mono bu)) (show w.heap.size<=w.heap.size+2 by omega) H J Q);generalize put12 w' (w.heap.size+2) H J Q=w9 at BZ HA a3 be a8⊢;refine hK.out _ _ ?_;clear hK K hS hR hF e6 bz ha LL bu;refine aP Z ?_
    go_wp2_with fail
    go_round
    case rel=>exact⟨k+1,H,J,Q,by omega,rfl,BZ.o,by rw[List.take_add_one,ba.o];show am _ _ (dC (_++[_]));rw[fL];exact HA.o,a3.o,be.o,a8.o⟩
    case measure=>exact μ
def RetLoc(base:Nat)(z:Int)(cs:List Nat)(w:World)(e:Ending):Prop:=∃v,e=.returned (.tuple #[.int .i64 z,v])/\bo w base v cs
theorem mN.at_{w:World}{base:Nat}{v:Value}{l:List Int}(h:mN w base v l)(h0:0<l.length):
 ∃b j,v=.slice (some ⟨b,0,none⟩) l.length j/\b<w.heap.size/\∀i z,l[i]?=some z->w.cell? ⟨b,i,none⟩=some (.int .i64 z):=by
 obtain⟨F,⟨_,C⟩|⟨g,j,u,rfl,E,A,H,G,J,Q⟩⟩:=id h
 ·omega
 ·refine⟨g,j,rfl,(Array.getElem?_eq_some_iff.1 A).1,fun i z hi=>?_⟩
  have e:=World.ownsRow.cellAt h i (by have:=(List.getElem?_eq_some_iff.1 hi).1;omega);rw[e,List.getElem?_map,hi]
  rfl
theorem sloc_any(dz:Int)(v vp:Value)(vs:List ShV)(i:List ShD)(p:Q3)(D M K base:Nat)(w:World)(hL:ShL w base v vs i)(hn:0<i.length/\i.length<=1000)(hF:∀d∈i,ShF d D M K)(hD:D<=1000000000)(hM:M<=1000000000000000000)(hK:K<=9007199254740992)(hp:am w vp p)(hl:BdV 100 p):
 Calls prog 12 #[.agg #[.int .i64 dz,v],vp] w fun e w'=>RetLoc w.heap.size (lj (jx i p) i.length) (gS (jx i p) i.length) w' e/\Bl w w':=by
 obtain⟨n0,n1,n2,rfl,aw⟩:=id hp;have ac:am w (.agg (ah n0 n1 n2)) p:=hp;obtain⟨pa,pn,pc,rfl⟩:=dV hL.own;obtain⟨W,hW,b1,b2,hB,hS⟩:=bU w #[.int .i64 dz,.slice pa pn pc] (ah n0 n1 n2) 36 57;obtain⟨HB,HS,B2,HL,HN,HF,HP,af,C⟩:=η9 hB hS b2 (hL.below hB) hn hF (ac.below hB) hl (And.intro hD (And.intro hM hK));have x1:W.cell? ⟨w.heap.size,1,none⟩=some (.slice pa pn pc):=b1.cell 1;clear b1 b2 hB hS hL hn hF hp ac aw hl hD hM hK
 go_enter func12,ntmps12
 go_upto_region 1 with fail
 go_wp2_with fail
 refine(mapLo_any _ vs i p n0 n1 n2 (w.heap.size+1) D M K base W HL.o HN.o HF.o C.o.1 C.o.2.1 C.o.2.2 B2.o HP.o af.o).mono ?_;rintro e Q ⟨⟨iv,rfl,ab⟩,F⟩;obtain⟨n,u⟩:=χ i.length;have H:(jx i p).length=n:=by unfold jx;rw[List.length_map,u]
 obtain⟨ib,ay,X,Y,aa⟩:=ab.at_ (by rw[H,<-u];exact HN.o.1);rw[H]at X;subst X;obtain⟨ar,az,an,ao,ad,R⟩:=η6 H u Y aa (ae HB.o F ρ) (show w.heap.size<=Q.heap.size from(ae HB.o F ρ).size);have a2:n<=1000:=by rw[<-u];exact HN.o.2
 clear ab F aa Y x1 hW
 go_wp2_with fail
 go_loopw [4,5,13] (fun zv cv iv wr=>∃(k:Nat),k<=n/\iv=.int .i64 (k:Int)/\zv=.int .i64 (lj (jx i p) k)/\Hid (bo wr Q.heap.size cv (gS (jx i p) k))/\Hid (Bl Q wr)) (fun _ _ iv _=>n-(intOf iv).toNat)
 case atStart=>exact⟨0,Nat.zero_le _,rfl,rfl,World.ownsRow_nil _ _ _ _,Below.refl _ _⟩
 case round =>
  obtain⟨k,hk,rfl,rfl,E,j⟩:=hrel;by_cases G:k=n
  ·have a0:¬ (k:Int)<(n:Int):=I
   have ap:=O G;clear G
   go_wp2_with fail
   exact bodyPost_ret (results_tmp2 results12 _ _ _) rfl ⟨by rw[<-ap.o];exact⟨_,rfl,bX E.o R.o⟩,ad.o.trans (j.o.mono R.o)⟩
  ·obtain⟨wk,rfl⟩:=φ wr
   have a1:(k:Int)<(n:Int):=I;obtain⟨z,J⟩:∃z,(jx i p)[k]?=some z:=⟨_,List.getElem?_eq_getElem (ψ ar.o)⟩;have y0:wk.cell? ⟨ib,k,none⟩=some (.int .i64 z):=(j.o.cell (p:=⟨ib,k,none⟩) an.o).trans (ao.o k z J);obtain⟨HZ,HW⟩:=η2 J (whereK_succ J);clear G;by_cases h1:z=-1
   ·subst h1
    have A:=O (cellsK_off J);clear J
    go_wp2_with fail
    go_round
    case rel=>exact⟨k+1,by omega,rfl,by rw[HW.o],by show bo _ _ _ _;rw[A.o];exact E.o,j.o⟩
    case measure=>exact μ
   ·have A:=O (cellsK_on J h1)
    have a3:(z == (-1:Int))=false:=by rw[beq_eq_false_iff_ne];exact h1
    have ag:=O (show(gS (jx i p) k).length<=1000000 from by
     unfold gS;refine Nat.le_trans (List.length_filter_le _ _) ?_;rw[List.length_range];omega)
    have U:=O j.o.size;clear J h1
    go_wp2_with (at_builtin;refine dG rfl _ _ rfl (v:=u5) (w0:=Q) (base:=Q.heap.size) rfl E.o k rfl rfl ag.o j.o U.o ?_;intro v' w6 av au)
    go_round
    case rel=>exact⟨k+1,by omega,rfl,by rw[HW.o],by show bo _ _ _ _;rw[A.o];exact av,au⟩
    case measure=>exact μ
def gY(P:Nat->V)(n:V)(k:Nat):List Int:=(List.range k).map fun i=>V.dot (P i) n
theorem dotsL_succ(P:Nat->V)(n:V)(k:Nat):gY P n (k+1)=gY P n k++[V.dot (P k) n]:=by unfold gY;rw[List.range_succ,List.map_append];rfl
theorem fV(P:Nat->V)(n:V)(k:Nat):(gY P n k).length=k:=by unfold gY;simp
theorem dotsL_at{P:Nat->V}{n:V}{k i:Nat}(h:i<k):(gY P n k)[i]?=some (V.dot (P i) n):=by unfold gY;simp[h]
def ry(l:List Int)(k:Nat):Int:=(l.take k).foldl min (l.headD 0)
def rz(l:List Int)(k:Nat):Int:=(l.take k).foldl max (l.headD 0)
theorem minK_succ{l:List Int}{k:Nat}{z:Int}(h:l[k]?=some z):ry l (k+1)=min (ry l k) z:=by
 unfold ry;have e:=(List.getElem?_eq_some_iff.1 h).1;rw[List.take_succ_eq_append_getElem e,List.foldl_append];rw[List.getElem?_eq_getElem e]at h;cases h
 rfl
theorem maxK_succ{l:List Int}{k:Nat}{z:Int}(h:l[k]?=some z):rz l (k+1)=max (rz l k) z:=by
 unfold rz;have e:=(List.getElem?_eq_some_iff.1 h).1;rw[List.take_succ_eq_append_getElem e,List.foldl_append];rw[List.getElem?_eq_getElem e]at h;cases h
 rfl
theorem halves1_any(p n:V)(g:Nat)(w:World)(u:Box w g #[.int .i64 n.x,.int .i64 n.y,.int .i64 n.z] 77)(i:LeV 4096 n)(j:LeV 4096 p):
 Calls prog 122 #[dP p,.pointer (some ⟨g,0,none⟩)] w fun e w'=>e=.returned (.int .i64 (V.dot p n))/\Bl w w':=by
 obtain⟨W,H,b1,F,hS⟩:=aB w #[.int .i64 p.x,.int .i64 p.y,.int .i64 p.z] 77;obtain⟨X,Y,x2,-⟩:=b1.three;obtain⟨y0,y1,y2,-⟩:=(u.to F).three;have A:=j.1.mul i.1;have C:=j.2.1.mul i.2.1;have E:=j.2.2.mul i.2.2;unfold Le at A C E;have J:wrap64 (p.x*n.x)=p.x*n.x:=ζ;have Q:wrap64 (p.y*n.y)=p.y*n.y:=ζ;have R:wrap64 (p.z*n.z)=p.z*n.z:=ζ;have U:wrap64 (p.x*n.x+p.y*n.y)=p.x*n.x+p.y*n.y:=ζ;have G:wrap64 (p.x*n.x+p.y*n.y+p.z*n.z)=p.x*n.x+p.y*n.y+p.z*n.z:=ζ;clear u i j b1 hS A C E;unfold dP V.dot
 go_enter func122,ntmps122
 go_wp2;exact bodyPost_ret (results_tmp results122 _ _ _) rfl ⟨by show _=Ending.returned (Value.int IntKind.i64 _);rw[G];rfl,F⟩
theorem enters122:∀args w,(callFunc 122 args).run prog w=.ok (.enter 122 args) w:=
 enters_of func122 Z rfl
theorem mapDot_any(a:Option Addr)(n H g:Nat)(P:Nat->V)(m:V)(w:World)(hP:Pts w a n H P)(W:0<n/\n<=1000)(hg:Box w g #[.int .i64 m.x,.int .i64 m.y,.int .i64 m.z] 77)(hm:LeV 4096 m)(hp:∀i,i<n->LeV 4096 (P i)):
 Calls prog 121 #[.slice a n H,.func (.func 122) #[] #[.pointer (some ⟨g,0,none⟩)]] w fun e w'=>RetOwnI w.heap.size (gY P m n) w' e/\Bl w w':=by
 obtain⟨b,off,rfl,hb,-,J⟩:=hP.cells W.1;obtain⟨HC,A,HG,HM,ab⟩:=η5 J hb hg hm hp;have eg:=enters122;have ar:=W.1;have au:=W.2;clear hP J hb hg hm hp W
 go_enter func121,ntmps121
 go_wp2_with fail
 go_loopw [5,10] (fun sv iv wr=>∃(k:Nat),k<=n/\iv=.int .i64 (k:Int)/\Hid (mN wr w.heap.size sv (gY P m k))/\Hid (Bl w wr)) (fun _ iv _=>n-(intOf iv).toNat)
 case atStart=>exact⟨0,Nat.zero_le _,rfl,World.ownsRow_nil _ _ _ _,Below.refl _ _⟩
 case round =>
  obtain⟨k,hk,rfl,G,j⟩:=hrel;by_cases R:k=n
  ·have ao:¬ (k:Int)<(n:Int):=I
   have Y:=O R;clear R
   go_wp2_with fail
   go_ret;rw[<-Y.o]
   exact⟨⟨_,rfl,G.o⟩,j.o⟩
  ·obtain⟨E,rfl⟩:=φ wr
   have ap:(k:Int)<(n:Int):=I;have Q:k<n:=I;obtain⟨q0,q1,q2⟩:=HC.o k Q;have y0:E.cell? ⟨b,off+k*3,none⟩=some (.int .i64 (P k).x):=(j.o.cell (p:=⟨b,off+k*3,none⟩) A.o).trans q0;have y1:E.cell? ⟨b,off+k*3+1,none⟩=some (.int .i64 (P k).y):=(j.o.cell (p:=⟨b,off+k*3+1,none⟩) A.o).trans q1;have y2:E.cell? ⟨b,off+k*3+2,none⟩=some (.int .i64 (P k).z):=(j.o.cell (p:=⟨b,off+k*3+2,none⟩) A.o).trans q2;clear q0 q1 q2;have aa:=O (ab.o k Q)
   go_wp2_with fail
   obtain⟨w2,U,c2,u,an⟩:=aB E #[.int .i64 (P k).x,.int .i64 (P k).y,.int .i64 (P k).z] 77;rw[U];have K0:=O (j.o.trans (u.mono j.o.size));refine(halves1_any (P k) m g w2 (HG.o.to K0.o) HM.o aa.o).mono ?_;rintro e w3 ⟨rfl,C⟩;obtain⟨K3,ad⟩:=η2 (j.o.trans ((ae u C ρ).mono j.o.size)) (show mN w3 w.heap.size _ _ from aC G.o (ae u C ρ));have ac:=O (show(gY P m k).length<=1000000 by rw[fV];omega);obtain⟨X,F⟩:=η2 K3.o.size (dotsL_succ P m k);obtain⟨z,hz⟩:=χ (V.dot (P k) m);rw[hz]at F⊢;clear U c2 u an C y0 y1 y2 hz
   go_wp2_with (at_builtin;refine nL rfl _ _ rfl (v:=u5) (w0:=w) (base:=w.heap.size) rfl ad.o z rfl rfl ac.o K3.o X.o ?_;intro v' w6 ag af)
   go_round
   case rel=>exact⟨k+1,by omega,rfl,(by show mN _ _ _ _;rw[F.o];exact ag),af⟩
   case measure=>exact μ
theorem sMin_any(v:Value)(l:List Int)(base:Nat)(w:World)(W:mN w base v l)(C:0<l.length/\l.length<=1000):
 Calls prog 123 #[v] w fun e w'=>e=.returned (.int .i64 (ry l l.length))/\w'=w:=by
 obtain⟨ib,X,rfl,J,i⟩:=W.at_ C.1;obtain⟨n,j⟩:=χ l.length;rw[j]at C⊢;obtain⟨E,u⟩:∃z,l[0]?=some z:=⟨_,List.getElem?_eq_getElem I⟩;have c0:=i 0 E u;obtain⟨F,H⟩:=η2 i j;have af:¬ (n:Int)<1:=I;have ad:(0:Int)<(n:Int):=I;have ag:=C.2;have e1:E=ry l 1:=by
  unfold ry
  match l,u with
  | z::t,h=>cases h;show E=min E E;omega
 have Y:=O C.1;clear W J i j C u
 go_enter func123,ntmps123
 go_wp2_with fail
 clear c0
 go_loopw [3,4] (fun mv U wr=>∃(k:Nat),1<=k/\k<=n/\U=.int .i64 (k:Int)/\mv=.int .i64 (ry l k)/\wr=w) (fun _ U _=>n-(intOf U).toNat)
 case atStart=>exact⟨1,Nat.le_refl _,Y.o,rfl,rfl,rfl⟩
 case round =>
  clear e1;obtain⟨k,aa,hk,rfl,rfl,Q⟩:=hrel;subst Q;by_cases A:k=n
  ·have ab:¬ (k:Int)<(n:Int):=I
   have G:=O A;clear A
   go_wp2_with fail
   go_ret;rw[<-G.o]
   exact⟨rfl,rfl⟩
  ·have ac:(k:Int)<(n:Int):=I
   obtain⟨z,R⟩:∃z,l[k]?=some z:=⟨_,List.getElem?_eq_getElem (ψ H.o)⟩;have y0:=F.o k z R;have HM:=O (minK_succ R);clear R
   go_wp2_with fail
   go_round
   case rel=>exact⟨k+1,by omega,by omega,rfl,by rw[HM.o],trivial⟩
   case measure=>exact μ
theorem sMax_any(v:Value)(l:List Int)(base:Nat)(w:World)(W:mN w base v l)(C:0<l.length/\l.length<=1000):
 Calls prog 124 #[v] w fun e w'=>e=.returned (.int .i64 (rz l l.length))/\w'=w:=by
 obtain⟨ib,X,rfl,J,i⟩:=W.at_ C.1;obtain⟨n,j⟩:=χ l.length;rw[j]at C⊢;obtain⟨E,u⟩:∃z,l[0]?=some z:=⟨_,List.getElem?_eq_getElem I⟩;have c0:=i 0 E u;obtain⟨F,H⟩:=η2 i j;have af:¬ (n:Int)<1:=I;have ad:(0:Int)<(n:Int):=I;have ag:=C.2;have e1:E=rz l 1:=by
  unfold rz
  match l,u with
  | z::t,h=>cases h;show E=max E E;omega
 have Y:=O C.1;clear W J i j C u
 go_enter func124,ntmps124
 go_wp2_with fail
 clear c0
 go_loopw [3,4] (fun mv U wr=>∃(k:Nat),1<=k/\k<=n/\U=.int .i64 (k:Int)/\mv=.int .i64 (rz l k)/\wr=w) (fun _ U _=>n-(intOf U).toNat)
 case atStart=>exact⟨1,Nat.le_refl _,Y.o,rfl,rfl,rfl⟩
 case round =>
  clear e1;obtain⟨k,aa,hk,rfl,rfl,Q⟩:=hrel;subst Q;by_cases A:k=n
  ·have ab:¬ (k:Int)<(n:Int):=I
   have G:=O A;clear A
   go_wp2_with fail
   go_ret;rw[<-G.o]
   exact⟨rfl,rfl⟩
  ·have ac:(k:Int)<(n:Int):=I
   obtain⟨z,R⟩:∃z,l[k]?=some z:=⟨_,List.getElem?_eq_getElem (ψ H.o)⟩;have y0:=F.o k z R;have HM:=O (maxK_succ R);clear R
   go_wp2_with fail
   go_round
   case rel=>exact⟨k+1,by omega,by omega,rfl,by rw[HM.o],trivial⟩
   case measure=>exact μ
def q4v(q:Q4):Array Value:=#[.int .i64 q.a,.int .i64 q.b,.int .i64 q.c,.int .i64 q.d]
theorem tq{w:World}{g:Nat}{q:Q4}{t:TypeId}(h:Box w g (q4v q) t){k:Nat}(e:k<4):w.cell? ⟨g,k,none⟩=some (.int .i64 (q.at k)):=by
 rw[h.cell];obtain rfl|rfl|rfl|rfl:k=0\/k=1\/k=2\/k=3:=I
 all_goals rfl
theorem gsQ_stay(q:Q4)(k:Nat)(h:(gsQ q k).2≠0):∀d,(gsQ q (k+d)).2=(gsQ q k).2
 | 0=>rfl
 | d+1=>by
  show(if(gsQ q (k+d)).2=0 then _ else(gsQ q (k+d)).2)=_;rw[gsQ_stay q k h d,if_neg h]
def divK(q:Q4)(n:Int)(k:Nat):Q4:=⟨if 0<k then q.a.tdiv n else q.a,if 1<k then q.b.tdiv n else q.b,if 2<k then q.c.tdiv n else q.c,if 3<k then q.d.tdiv n else q.d⟩
theorem divK_at(q:Q4)(n:Int){k:Nat}(e:k<4):(divK q n k).at k=q.at k:=by
 obtain rfl|rfl|rfl|rfl:k=0\/k=1\/k=2\/k=3:=I
 all_goals rfl
theorem divK_set(q:Q4)(n:Int){k:Nat}(e:k<4):(q4v (divK q n k)).setIfInBounds k (.int .i64 ((q.at k).tdiv n))=q4v (divK q n (k+1)):=by
 obtain rfl|rfl|rfl|rfl:k=0\/k=1\/k=2\/k=3:=I
 all_goals rfl
def pt3(a b c:ByteArray):Array Value:=#[.string a,.string b,.string c]
theorem pt3_one(a b c:ByteArray):((pt3 a b c).all fun x=>x.oneCell')=true:=by unfold pt3;simp[Value.oneCell']
theorem q4v_one(q:Q4):((q4v q).all fun x=>x.oneCell')=true:=by unfold q4v;simp[Value.oneCell']
theorem nh:(prog.info? 44).map (·.size)=some 4:=by kernel_rfl
theorem infoPt3:(prog.info? 47).map (·.size)=some 3:=by kernel_rfl
theorem qmag_any(n:Int)(w:World)(j:n.natAbs<=100):Calls prog 150 #[.int .i64 n] w fun e w'=>e=.returned (.int .i64 (n.natAbs:Nat))/\w'=w:=by
 have hb:-100<=n/\n<=100:=I;by_cases h:n<0
 ·have i:=O (show -n=((n.natAbs:Nat):Int) by omega)
  go_enter func150,ntmps150
  go_wp2_with fail
  go_ret;exact⟨by rw[<-i.o];rfl,rfl⟩
 ·have i:=O (show n=((n.natAbs:Nat):Int) by omega)
  go_enter func150,ntmps150
  go_wp2_with fail
  go_ret;exact⟨by rw[<-i.o];rfl,rfl⟩
theorem qgcd_any(a b:Nat)(w:World)(ha:a<=100)(hb:b<=100):Calls prog 149 #[.int .i64 (a:Nat),.int .i64 (b:Nat)] w fun e w'=>e=.returned (.int .i64 (Nat.gcd a b:Nat))/\Bl w w':=by
 obtain⟨g,A⟩:=χ (Nat.gcd a b);rw[A];have H:=O A;clear A
 go_enter func149,ntmps149
 go_wp2_with fail
 go_loopw [0,1] (fun Q u wr=>∃x y:Nat,x<=100/\y<=100/\Q=.int .i64 (x:Nat)/\u=.int .i64 (y:Nat)/\Hid (Nat.gcd x y=g)/\Hid (Bl w wr)) (fun _ u _=>(intOf u).toNat)
 case atStart=>exact⟨a,b,ha,hb,rfl,rfl,H.o,Below.refl _ _⟩
 case round =>
  obtain⟨x,y,Y,X,rfl,rfl,F,E⟩:=hrel;by_cases h0:y=0
  ·subst h0
   have W:¬ (0:Int)<((0:Nat):Int):=I;have G:=O (show x=g from by have:=F.o;rwa [Nat.gcd_zero_right]at this)
   go_wp2_with fail
   go_ret;exact⟨by rw[<-G.o];rfl,E.o⟩
  ·have R:(0:Int)<(y:Int):=I
   obtain⟨m,j⟩:=χ (x % y);have U:m<y:=by rw[<-j];exact Nat.mod_lt _ I
   have i:((x:Nat):Int) % ((y:Nat):Int)=(m:Int):=by rw[<-j];exact(Int.natCast_emod x y).symm
   have C:((x:Nat):Int).tmod ((y:Nat):Int)=(m:Int):=by rw[Int.tmod_eq_emod_of_nonneg I,i]
   have J:=O (show Nat.gcd y m=g from by rw[<-j,<-F.o,gcd_step]);clear j h0
   go_wp2_with fail
   go_quiet (fail)
   go_wp2_with fail
   go_roundw
   case rel=>exact⟨y,m,X,by omega,rfl,rfl,J.o,aF E.o _⟩
   case measure=>simp[intOf];omega
theorem qcommon_any(q:Q4)(w:World)(hq:∀i,(q.at i).natAbs<=12):Calls prog 96 #[.agg (q4v q)] w fun e w'=>e=.returned (.int .i64 ((gsQ q 4).1:Nat))/\Bl w w':=by
 obtain⟨W,hW,b1,hB,hS⟩:=aB w (q4v q) 44;obtain⟨C,u,HQ,X⟩:=η4 hB b1 hq (tH hq);clear hB b1 hS hq;unfold q4v at hW⊢
 go_enter func96,ntmps96
 go_wp2_with fail
 go_loopw [3,4] (fun nv iv wr=>∃k:Nat,k<=4/\nv=.int .i64 ((gsQ q k).1:Nat)/\iv=.int .i64 (k:Nat)/\Hid (Box wr w.heap.size (q4v q) 44)/\Hid (Bl w wr)) (fun _ iv _=>4-(intOf iv).toNat)
 case atStart=>exact⟨0,by omega,rfl,rfl,u.o,C.o⟩
 case round =>
  clear u C;obtain⟨k,hk,rfl,rfl,u,C⟩:=hrel;obtain⟨wk,rfl⟩:=φ wr;by_cases h0:k=4
  ·subst h0
   have ab:¬ ((4:Nat):Int)<4:=I
   go_wp2_with fail
   go_ret;exact⟨rfl,C.o⟩
  ·have aa:(k:Int)<4:=I
   have G:k<4:=I;have hx:=tq u.o G;have Q:(gsQ q (k+1)).1=Nat.gcd (gsQ q k).1 (q.at k).natAbs:=rfl;have F:=(X.o k).1;have j:=HQ.o k;obtain⟨x,J⟩:=χ (q.at k);obtain⟨g,E⟩:=χ ((gsQ q k).1);rw[J]at hx Q j;rw[E]at Q F⊢;obtain⟨HS,Y,U⟩:=η3 Q (qmag_any x wk I) (fun w=>qgcd_any g x.natAbs w I I);obtain⟨y,hy⟩:=χ x.natAbs;rw[hy]at Y U HS j;clear Q J E hy h0
   go_wp2_with fail
   refine Y.o.mono ?_;rintro e w1 ⟨rfl,H⟩;rw[H];clear H w1
   go_wp2_with fail
   refine(U.o _).mono ?_;rintro e w1 ⟨rfl,A⟩;obtain⟨B2,R⟩:=η2 (u.o.to A) (ae C.o A ρ);clear A u C Y U hx
   go_wp2_with fail
   go_round
   case rel=>exact⟨k+1,G,by rw[HS.o],rfl,B2.o,R.o⟩
   case measure=>simp[intOf];omega
theorem qpos_any(q:Q4)(w:World)(u:(gsQ q 4).2≠0):Calls prog 97 #[.agg (q4v q)] w fun e w'=>e=.returned (.bool (decide (0<(gsQ q 4).2)))/\Bl w w':=by
 obtain⟨W,Y,b1,J,hS⟩:=aB w (q4v q) 44;obtain⟨U,R,E⟩:=η3 J b1 u;clear J b1 hS u;unfold q4v at Y⊢
 go_enter func97,ntmps97
 go_wp2_with fail
 go_loopw [2,3] (fun Q G wr=>∃k:Nat,Q=Q/\k<=4/\G=.int .i64 (k:Nat)/\Hid ((gsQ q k).2=0)/\wr=W) (fun _ G _=>4-(intOf G).toNat)
 case atStart=>exact⟨0,rfl,by omega,rfl,rfl,rfl⟩
 case round =>
  obtain⟨k,-,hk,rfl,H,rfl⟩:=hrel;by_cases h0:k=4
  ·subst h0
   exact absurd H.o E.o
  ·have aa:(k:Int)<4:=I
   have j:k<4:=I;have hx:=tq R.o j;have C:=O (show(gsQ q (k+1)).2=q.at k from if_pos H.o);obtain⟨x,A⟩:=χ (q.at k);rw[A]at hx C;clear A h0;by_cases i:x=0
   ·subst i
    have F:((0:Int) != 0)=false:=rfl
    go_wp2_with fail
    go_round
    case rel=>exact⟨k+1,trivial,j,rfl,C.o,trivial⟩
    case measure=>simp[intOf];omega
   ·have F:(x != 0)=true:=by rw[bne_iff_ne];exact i
    have X:=O (show(gsQ q 4).2=x from by
     have h:=gsQ_stay q (k+1) (by rw[C.o];exact i) (4-(k+1));rw[show k+1+(4-(k+1))=4 by omega,C.o]at h;exact h)
    clear i
    go_wp2_with fail
    go_ret;exact⟨by rw[X.o];rfl,U.o⟩
theorem qprim_any(q:Q4)(w:World)(hq:∀i,(q.at i).natAbs<=12)(ac:(gsQ q 4).2≠0)(an:0<(gsQ q 4).1):Calls prog 50 #[.agg (q4v q)] w fun e w'=>e=.returned (.agg (q4v (bP q)))/\Bl w w':=by
 obtain⟨W,hW,b1,b2,hB,hS⟩:=bU w (q4v q) (q4v ⟨0,0,0,0⟩) 44 44;obtain⟨HB,B1,B2,HQ,HC,HP⟩:=η6 hB b1 b2 hq (fun w=>qcommon_any q w hq) (fun w=>qpos_any q w ac);have ab:=(tH hq 4).1;have hc:mE q=if(gsQ q 4).2<0 then -((gsQ q 4).1:Int)else((gsQ q 4).1:Int):=rfl
 obtain⟨g,hg⟩:=χ ((gsQ q 4).1);obtain⟨sg,C⟩:=χ ((gsQ q 4).2);rw[hg]at hc an ab HC;rw[C]at hc ac HP;have aa:=O hc;have LD:Hid (∀(wx:World) (cs:Array Value),Box wx w.heap.size cs 44->∀j,j<cs.size->wx.cell? ⟨w.heap.size,0+j,none⟩=cs[j]?):=fun wx cs h j X=>h.whole j X
 clear hB b1 b2 hS hq hg C hc;unfold q4v at hW⊢
 go_enter func50,ntmps50
 go_wp2_with (refine aj rfl _ _ rfl w.heap.size 0 rfl (q4v q) _ (fun j X=>LD.o _ _ B1.o j X) underlying44 rfl nh ?_)
 refine(HC.o _).mono ?_;rintro e w1 ⟨rfl,G⟩;obtain⟨C1,C2,L1⟩:=η3 (B1.o.to G) (B2.o.to G) (HB.o.trans (G.mono (ψ B2.o.lt)));clear G B1 B2 HB HC
 go_wp2_with (refine aj rfl _ _ rfl w.heap.size 0 rfl (q4v q) _ (fun j X=>LD.o _ _ C1.o j X) underlying44 rfl nh ?_)
 refine(HP.o _).mono ?_;rintro e w2 ⟨rfl,H⟩;obtain⟨F,R,U⟩:=η3 (C1.o.to H) (C2.o.to H) (L1.o.trans (H.mono (ψ C2.o.lt)));clear H C1 C2 L1 HP;obtain⟨n,hn⟩:=χ (mE q);have u:=aa.o;rw[hn]at u;have HN:=O hn;have ao:-12<=n/\n<=12/\n≠0:=by
  rw[u];split<;>omega
 have au:((n:Int) == 0)=false:=by rw[beq_eq_false_iff_ne];exact ao.2.2
 clear aa hn;by_cases C:sg<0
 all_goals
  first
   | (rw[if_pos C]at u
      have A:decide (0<sg)=false:=decide_eq_false I;rw[A])
   | (rw[if_neg C]at u
      have A:decide (0<sg)=true:=decide_eq_true I;rw[A])
  have HE:=O u;clear A C
  go_wp2_with fail
  rw[<-u];clear u
  go_loopw [4] (fun iv wr=>∃k:Nat,k<=4/\iv=.int .i64 (k:Nat)/\Hid (Box wr w.heap.size (q4v (divK q n k)) 44)/\Hid (Box wr (w.heap.size+1) (q4v ⟨0,0,0,0⟩) 44)/\Hid (Bl w wr)) (fun iv _=>4-(intOf iv).toNat)
  case atStart=>exact⟨0,by omega,rfl,F.o,R.o,U.o⟩
  case round =>
   clear F R U;obtain⟨k,hk,rfl,F,R,U⟩:=hrel;obtain⟨wk,rfl⟩:=φ wr;by_cases h0:k=4
   ·subst h0
    have ar:¬ ((4:Nat):Int)<4:=I;have D4:=O (show Box wk w.heap.size (q4v (bP q)) 44 from by
     have h:=F.o;rw[show divK q n 4=bP q from by rw[<-HN.o];rfl]at h;exact h)
    clear F
    go_wp2_with (first|refine aj rfl _ _ rfl w.heap.size 0 rfl (q4v (bP q)) _ (fun j X=>LD.o _ _ D4.o j X) underlying44 rfl nh ?_|refine wpList_store_row rfl 44 _ _ rfl (w.heap.size+1) (q4v (bP q)) rfl rfl 44 _ R.o nh rfl (q4v_one _) ?_)
    have BR:=O (cT R.o (q4v (bP q)));have af:=O (U.o.grown (bq wk (w.heap.size+1) (q4v (bP q))) U.o.size (fun g e=>by cases e;omega));exact aK results50 (w.heap.size+1) BR.o _ rfl underlying44 rfl nh rfl ⟨rfl,af.o⟩
   ·have ap:(k:Int)<4:=I
    have J:k<4:=I;have hx:=tq F.o J;rw[divK_at q n J]at hx;have hf:=F.o.free k;have Q:=HQ.o k;have E:=divK_set q n J;obtain⟨x,ad⟩:=χ (q.at k);rw[ad]at hx Q E;have av:-12<=x/\x<=12:=I;have ag:-12<=x.tdiv n/\x.tdiv n<=12:=by
     have h1:(x.tdiv n).natAbs<=x.natAbs:=by rw[Int.natAbs_tdiv];exact Nat.div_le_self _ _
     omega
    have DS:=O (show Box (wk.setCell ⟨w.heap.size,k,none⟩ (.int .i64 (x.tdiv n))) w.heap.size (q4v (divK q n (k+1))) 44 from by rw[<-E];exact F.o.set k _);have Y:=O (R.o.other (p:=⟨w.heap.size,k,none⟩) (show w.heap.size+1≠w.heap.size by omega) (.int .i64 (x.tdiv n)));have LS:=O (U.o.setCell (p:=⟨w.heap.size,k,none⟩) ρ (.int .i64 (x.tdiv n)));obtain⟨y,hy⟩:=χ (x.tdiv n);rw[hy]at DS Y LS ag;clear E Q F R U h0 ad
    go_wp2_with fail
    go_round
    case rel=>exact⟨k+1,J,rfl,DS.o,Y.o,LS.o⟩
    case measure=>simp[intOf];omega
theorem qpoint_any(a b c:ByteArray)(w:World):Calls prog 51 #[.agg (pt3 a b c)] w fun e w'=>e=.returned (.agg (pt3 a b c))/\Bl w w':=by
 obtain⟨W,F,b1,b2,C,hS⟩:=bU w (pt3 a b c) (pt3 ⟨#[]⟩ ⟨#[]⟩ ⟨#[]⟩) 117 47;obtain⟨u,j⟩:=η2 C b2;have A:=b1.cell 0;have c1:=b1.cell 1;have c2:=b1.cell 2;have G:W.cell? ⟨w.heap.size,0,none⟩=some (.string a):=A;have H:W.cell? ⟨w.heap.size,1,none⟩=some (.string b):=c1;have J:W.cell? ⟨w.heap.size,2,none⟩=some (.string c):=c2;clear C b1 b2 hS A c1 c2;unfold pt3 at F⊢
 go_enter func51,ntmps51
 go_wp2_with (refine wpList_store_row rfl 47 _ _ rfl (w.heap.size+1) (pt3 a b c) rfl rfl 47 _ j.o infoPt3 rfl (pt3_one _ _ _) ?_)
 have E:=O (cT j.o (pt3 a b c));have i:=O (u.o.grown (bq W (w.heap.size+1) (pt3 a b c)) u.o.size (fun g e=>by cases e;omega));exact aK results51 (w.heap.size+1) E.o _ rfl underlying47 rfl infoPt3 rfl ⟨rfl,i.o⟩
theorem home_plc:plc ⟨1,0,0,0⟩ ⟨0,0,0⟩=#[.int .i64 1,.int .i64 0,.int .i64 0,.int .i64 0,.string ⟨#[48]⟩,.string ⟨#[48]⟩,.string ⟨#[48]⟩]:=by
 have h:dU (0:Rat)=⟨#[48]⟩:=by decide +kernel
 unfold plc;rw[h]
theorem home_any(w:World):Calls prog 41 #[] w fun e w'=>e=.returned (.agg (plc ⟨1,0,0,0⟩ ⟨0,0,0⟩))/\Bl w w':=by
 rw[home_plc]
 go_enter func41,ntmps41
 go_wp2_with fail
 exact aK results41 w.heap.size (Box.new w #[.int .i64 1,.int .i64 0,.int .i64 0,.int .i64 0,.string ⟨#[48]⟩,.string ⟨#[48]⟩,.string ⟨#[48]⟩] 49 _ rfl) _ rfl underlying49 rfl my rfl ⟨rfl,β.alloc ρ _⟩
theorem bd_half:Bd 2 (((1:Int):Rat) / ((2:Int):Rat)):=by unfold Bd B;decide +kernel
theorem half11_any(P:V)(w:World)(h:LeV 9007199254740992 P):
 Calls prog 42 #[.int .i64 P.x,.int .i64 P.y,.int .i64 P.z] w fun e w'=>gU w' e (qscale (((1:Int):Rat) / ((2:Int):Rat)) (ptQ P))/\Bl w w':=by
 have u:=O bd_half;have G:=fun va vb v h1 h2=>kr va vb ((1:Int):Rat) ((2:Int):Rat) 2 2 v h1 h2 (Bd.int 1 (by unfold B;omega)) (Bd.int 2 (by unfold B;omega)) I (by decide +kernel)
 obtain⟨q,hq⟩:∃q:Rat,((1:Int):Rat) / ((2:Int):Rat)=q:=⟨_,rfl⟩;rw[hq]at u G⊢;have ap:=O G;obtain⟨W,hW,b1,hB,hS⟩:=aB w (ah RC.zero RC.zero RC.zero) 57;obtain⟨C,HB,Z1⟩:=η3 h hB b1;rw[lS]at hW;clear b1 hB hS h G hq
 go_enter func42,ntmps42
 go_upto_region 1 with fail
 go_wp2_with fail
 refine(dc 1 W I I).mono ?_;rintro e w1 ⟨⟨v1,rfl,ad⟩,ab⟩;obtain⟨H1,K1⟩:=η2 ad ab;clear ad ab hW
 go_wp2_with fail
 refine(dc 2 w1 I I).mono ?_;rintro e w2 ⟨⟨v2,rfl,af⟩,E⟩;obtain⟨H2,K2,ao⟩:=η3 af (ae K1.o E ρ) (H1.o.below E);clear af E
 go_wp2_with fail
 refine(ap.o _ _ w2 ao.o H2.o).mono ?_;rintro e w3 ⟨⟨v3,rfl,ag⟩,ac⟩;obtain⟨r,rfl,hr⟩:=ag.rcv;obtain⟨K3,H3⟩:=η2 (ae K2.o ac ρ) hr;clear ag ac hr
 go_upto_region 2 with fail
 obtain⟨w4,an,b4,F,ar⟩:=aB w3 #[.bool r.s,.slice r.a r.n r.c,.bool r.t,.slice r.b r.m r.d] 55;rw[an];have R4:Hid (Box w4 w3.heap.size (aE r) 55):=O b4;have HR:Hid (ak w4 r.agg q):=O (H3.o.below F);have K4:=ae K3.o F ρ;obtain⟨U,Z4⟩:=η2 (ae HB.o K4 ρ) (Z1.o.to K4);clear an b4 F ar K4;refine aU (rest:=1) [isV 0 (.int .i64 P.x),isV 1 (.int .i64 P.y),isV 2 (.int .i64 P.z),isV 3 (dP P),isP 4 (fun v w=>am w v (ptQ P)),isV 5 (.agg (aE r)),isP 6 (fun v w=>am w v (qscale q (ptQ P)))] [] ?A (τ 7 1) Z [0,1,2,3,4,5,6] Z Z Z Z Z Z ?st ?hA ?hop ?hend
 case hA=>exact cZ
 case st=>repeat (first|exact aq.nil|refine aq.cons isV.stab ?_|refine aq.cons (isP.stab (fun _ _ _ h hv=>hv.below h)) ?_)
 case hop =>
  iterate 3
   refine ai.cons rfl (fun y w' hS hD K hK=>?_) ?_
   ·go_simp
    exact hK.out _ w' hS β isV.put δ
  refine ai.cons rfl (fun y w' hS hD K hK=>?_) ?_
  ·simp only[isV.get (hD 0 Z),isV.get (hD 1 Z),isV.get (hD 2 Z)]at hK⊢
   go_simp;exact hK.out _ w' hS β isV.put δ
  refine ai.cons rfl (fun y w' hS hD K hK=>?_) ?_
  ·simp only[isV.get (hD 3 Z)]at hK⊢
   go_simp;refine(oY P w' C.o).mono ?_
   rintro e H ⟨⟨v,rfl,hv⟩,hb⟩;exact hK.out v H (ae hS hb ρ) hb (isP.put hv) δ
  refine ai.cons rfl (fun y w' hS hD K hK=>?_) ?_
  ·refine bJ ?_
   refine aV 55 _ rfl w3.heap.size 0 rfl (aE r) _ (fun j hj=>(R4.o.to hS).whole j hj) underlying55 rfl bD ?_;exact hK.out _ w' hS β isV.put δ
  refine ai.cons rfl (fun y w' hS hD K hK=>?_) ?_
  ·simp only[isV.get (hD 5 Z)]at hK⊢
   have e4:=isP.get (p:=fun v w=>am w v (ptQ P)) (hD 4 Z);go_simp;refine(dq _ _ (ptQ P) q 2 2 w' e4 (HR.o.below hS) u.o (jG C.o) I).mono ?_;rintro e H ⟨⟨v,rfl,hv⟩,hb⟩;exact hK.out v H (ae hS hb ρ) hb (isP.put hv) δ
  exact ai.nil
 case hend =>
  intro y' w' hS hR hF;obtain⟨J,Q,R,aa,ha⟩:=(isP.get (i:=6) (p:=fun v w=>am w v (qscale q (ptQ P))) (hR 6 Z)).rcv;simp only[aa];have Y:=Z4.o.to hS;refine aL (i:=7) (listed2:=τ 8 0) Z rfl Z (fun K hK=>?_);refine bJ ?_;refine wp_store_row 57 _ _ rfl w.heap.size (ah J Q R) rfl rfl 57 _ Y cG rfl (bC ..) ?_;rw[<-fh Y J Q R];obtain⟨BZ,HA,X⟩:=η3 (Y.s12 J Q R) (ha.put12 Y J Q R) (aX (U.o.trans (hS.mono U.o.size)) ρ J Q R);generalize put12 w' w.heap.size J Q R=w9 at BZ HA X⊢;refine hK.out _ _ ?_;clear hK K hS hR hF aa Y ha;refine aP Z ?_
  go_wp2_with fail
  exact aK results42 w.heap.size BZ.o _ rfl underlying57 rfl cG rfl ⟨⟨_,rfl,HA.o⟩,X.o⟩
end Go.Proofs.Υ
