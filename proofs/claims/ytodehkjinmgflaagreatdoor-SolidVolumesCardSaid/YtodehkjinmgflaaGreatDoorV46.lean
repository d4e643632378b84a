/- Lemmas. -/
import Derived.Test.YtodehkjinmgflaaGreatDoorV45
import Derived.Test.YtodehkjinmgflaaGreatDoorV47
set_option linter.all false
set_option maxHeartbeats 0
set_option maxRecDepth 99999
namespace Go.Proofs.Υ
open Go Go.RowKit Tryz
structure Two (w:World) (base:Nat) (u v:Value) (l m:List V):Prop where
 l:bM w base u l
 r:bM w base v m
 ne:∀ g,u.ownBlock=some g→v.ownBlock≠some g
theorem own_lt{w:World}{base e k:Nat}{v:Value}{n:Nat}{xs:List Value}(h:w.ownsRow base e k v n xs):∀g,v.ownBlock=some g->g<w.heap.size:=fun g i=>by
 obtain⟨_,⟨rfl,h0⟩|⟨g',j,u,rfl,hb,A,_⟩⟩:=h
 ·cases i
 ·cases i
  exact(Array.getElem?_eq_some_iff.1 A).1
theorem Two.nil(w:World)(base:Nat):Two w base (.slice none 0 0) (.slice none 0 0) [] []:=⟨World.ownsRow_nil _ _ _ _,World.ownsRow_nil _ _ _ _,fun g h=>by cases h⟩
theorem Two.swap{w:World}{base:Nat}{u v:Value}{l m:List V}(h:Two w base u v l m):Two w base v u m l:=⟨h.r,h.l,fun g e i=>h.ne g i e⟩
theorem Two.below{w w':World}{base:Nat}{u v:Value}{l m:List V}(h:Two w base u v l m)(hb:Bl w w'):Two w' base u v l m:=⟨bL.below h.l hb,bL.below h.r hb,h.ne⟩
theorem infoVw:(prog.info? 77).map (fun i=>(i.zero,i.size,i.bytes))=some (some (.agg #[.int .i64 0,.int .i64 0,.int .i64 0]),3,24):=by kernel_rfl
theorem iD{G:Array Oper}{rest:List Oper}{o:Oper}{a:Act}{Q:Exit->Act->World->Prop}{i:World}{c:Array Value}(U:o.guard=none)(s x:Operand)(ho:o.op=.call { callee:=.builtin .append,args:=#[s,x],argTypes:=#[100,100] }){w0:World}{base:Nat}{u v:Value}{l m:List V}(hs:a.eval s=u)(E:Two i base u v l m)(p:V)(hc:c=#[.int .i64 p.x,.int .i64 p.y,.int .i64 p.z])(hx:a.eval x=.slice (some ⟨i.heap.size,0,none⟩) 1 1)(hl:l.length<=1000000)(hB:Below base w0 i)(hb:base<=i.heap.size)(h:∀H w',Two w' base H v (l++[p]) m->Below base w0 w'->(i.alloc (.cells c 77)).grownBy w' u.ownBlock->wpList prog G Q rest (a.put o.dst H) w'):wpList prog G Q (o::rest) a (i.alloc (.cells c 77)):=by
 obtain⟨i0,F,Y,aa,ab⟩:=info_parts infoVw;subst hc;have J:Bl i (i.alloc (.cells #[.int .i64 p.x,.int .i64 p.y,.int .i64 p.z] 77)):=β.alloc ρ _;refine Go.wpList_append_own_at _ U s x 100 ho base 77 i0 (.agg #[.int .i64 0,.int .i64 0,.int .i64 0]) 3 24 underlying100 F Y aa ab rfl ν u l.length _ hs (World.ownsRow.alloc E.l _) ⟨i.heap.size,0,none⟩ 1 1 (v3 p) hx rfl (fun j u hj=>fD i _ _ j u hj) (by intro y X;unfold v3 at X;simp at X;rcases X with rfl|rfl|rfl<;>rfl) (by unfold maxLen;omega) I (by simp;omega) ?_;intro H w1 W C _ L;refine h H w1 ⟨?_,?_,?_⟩ ((hB.alloc hb _).grown C (by simp;omega) (cz E.l)) C
 ·show w1.ownsRow base _ _ H (l++[p]).length ((l++[p]).flatMap v3)
  rw[List.length_append,List.flatMap_append]
  simpa using W
 ·refine bL.kept (bL.below E.r J) C ?_
  cases e:v.ownBlock with
  | none=>exact .inl rfl
  | some g=>exact .inr (fun e2=>E.ne g e2.symm e)
 ·intro g R e
  rcases L with A|A
  ·exact E.ne g (A▸R) e
  ·rw[A]at R
   have:=own_lt E.r g e;cases R;simp at this;omega
def oE(P:Nat->V)(m:V)(o:Int)(k:Nat):List V:=((List.range k).filter fun i=>decide (V.dot (P i) m<=o)).map P
def hiK(P:Nat->V)(m:V)(o:Int)(k:Nat):List V:=((List.range k).filter fun i=>decide (o<=V.dot (P i) m)).map P
theorem lowK_on{P:Nat->V}{m:V}{o:Int}{k:Nat}(h:V.dot (P k) m<=o):oE P m o (k+1)=oE P m o k++[P k]:=by
 unfold oE;rw[List.range_succ,List.filter_append,List.map_append,List.filter_cons_of_pos (by simpa using h)];rfl
theorem lowK_off{P:Nat->V}{m:V}{o:Int}{k:Nat}(h:¬ V.dot (P k) m<=o):oE P m o (k+1)=oE P m o k:=by
 unfold oE;rw[List.range_succ,List.filter_append,List.map_append,List.filter_cons_of_neg (by simpa using h)];simp
theorem hiK_on{P:Nat->V}{m:V}{o:Int}{k:Nat}(h:o<=V.dot (P k) m):hiK P m o (k+1)=hiK P m o k++[P k]:=by
 unfold hiK;rw[List.range_succ,List.filter_append,List.map_append,List.filter_cons_of_pos (by simpa using h)];rfl
theorem hiK_off{P:Nat->V}{m:V}{o:Int}{k:Nat}(h:¬ o<=V.dot (P k) m):hiK P m o (k+1)=hiK P m o k:=by
 unfold hiK;rw[List.range_succ,List.filter_append,List.map_append,List.filter_cons_of_neg (by simpa using h)];simp
theorem lowK_len(P:Nat->V)(m:V)(o:Int)(k:Nat):(oE P m o k).length<=k:=by
 unfold oE;rw[List.length_map];exact Nat.le_trans (List.length_filter_le _ _) (by rw[List.length_range];exact Nat.le_refl _)
theorem hiK_len(P:Nat->V)(m:V)(o:Int)(k:Nat):(hiK P m o k).length<=k:=by
 unfold hiK;rw[List.length_map];exact Nat.le_trans (List.length_filter_le _ _) (by rw[List.length_range];exact Nat.le_refl _)
def loE(P:Nat->V)(m:V)(e:ED):Nat:=if V.dot (P e.b) m<V.dot (P e.a) m then e.b else e.a
def upE(P:Nat->V)(m:V)(e:ED):Nat:=if V.dot (P e.b) m<V.dot (P e.a) m then e.a else e.b
def fg(P:Nat->V)(m:V)(o:Int)(e:ED):Prop:=o<=V.dot (P (loE P m e)) m\/V.dot (P (upE P m e)) m<=o
def badE(P:Nat->V)(m:V)(o:Int)(e:ED):Prop:=(((P (upE P m e)).x-(P (loE P m e)).x)*(o-V.dot (P (loE P m e)) m)).tmod (V.dot (P (upE P m e)) m-V.dot (P (loE P m e)) m)≠0
def RetHv(P:Nat->V)(n:Nat)(m:V)(o:Int)(es:List ED)(base:Nat)(w:World)(e:Ending):Prop:=
 (∃u v,e=.returned (.tuple #[u,v,.int .i64 0])/\bM w base u (oE P m o n)/\bM w base v (hiK P m o n)/\∀x∈es,fg P m o x)\/(e=.returned (.tuple #[.slice none 0 0,.slice none 0 0,.int .i64 3])/\∃x∈es,¬ fg P m o x)
theorem eI.at_{w:World}{base:Nat}{v:Value}{es:List ED}(h:eI w base v es)(h0:0<es.length):
 ∃b u,v=.slice (some ⟨b,0,none⟩) es.length u/\b<w.heap.size/\∀i e,es[i]?=some e->∀j,j<4->w.cell? ⟨b,i*4+j,none⟩=(cx e)[j]? := by
 obtain⟨L,⟨_,H⟩|⟨g,u,A,rfl,J,E,R,Q,U,W⟩⟩:=id h
 ·omega
 ·refine⟨g,u,rfl,(Array.getElem?_eq_some_iff.1 E).1,fun i e hi j F=>?_⟩
  have G:i<es.length:=(List.getElem?_eq_some_iff.1 hi).1;have C:=World.ownsRow.cellAt h (i*4+j) I;rw[C];exact dQ cx 4 (fun _=>rfl) es i j e hi F
theorem halves_any(a:Option Addr)(n bI:Nat)(P:Nat->V)(m:V)(o:Int)(ev:Value)(es:List ED)(base:Nat)(w:World)(hP:Pts w a n bI P)(hn:0<n/\n<=64)(hm:LeV 4096 m)(hp:∀i,i<n->LeV 4096 (P i))(ho:-1000000000<=o/\o<=1000000000)(hE:eI w base ev es)(a2:0<es.length/\es.length<=4096)(a4:ry (gY P m n) n<o)(a3:o<rz (gY P m n) n)(c3:∀e∈es,e.a<n/\e.b<n)(dk:∀e∈es,fg P m o e\/badE P m o e):
 Calls prog 84 #[.slice a n bI,ev,dP m,.int .i64 o] w fun e w'=>RetHv P n m o es w.heap.size w' e/\Bl w w':=by
 obtain⟨pb,off,rfl,de,-,cD⟩:=hP.cells hn.1;obtain⟨eb,d6,rfl,ac,c0⟩:=hE.at_ a2.1;obtain⟨ne,b6⟩:=χ es.length;rw[b6]at a2⊢;obtain⟨W,hW,b1,hB,hS⟩:=aB w #[.int .i64 m.x,.int .i64 m.y,.int .i64 m.z] 77;obtain⟨HB,d9,B1,dv,bz,U,a8,a9,HM⟩:=η9 hB hS b1 (hP.below hB) cD de ac c0 hm;obtain⟨av,HO,ds,cl,cc,ci,ce⟩:=η7 hp ho c3 b6 dk a4 a3;have dd:=hn.1;have ei:=hn.2;have ed:=a2.1;have ee:=a2.2;clear b1 hB hS hP cD de ac c0 hm hp ho hE a2 a4 a3 c3 dk hn b6;show Calls _ _ #[_,_,.agg #[.int .i64 m.x,.int .i64 m.y,.int .i64 m.z],_] w _
 go_enter func84,ntmps84
 go_upto_region 1 with fail
 go_wp2_with fail
 refine(mapDot_any (some ⟨pb,off,none⟩) n bI w.heap.size P m W dv.o ⟨dd,by omega⟩ B1.o HM.o av.o).mono ?_;rintro e w2 ⟨⟨iv,rfl,b5⟩,a0⟩;obtain⟨ch,K2⟩:=η2 b5 (ae HB.o a0 ρ);obtain⟨ib,d8,cy,c1,c2⟩:=b5.at_ (by rw[fV];exact dd);rw[fV]at cy;subst cy;obtain⟨ar,au⟩:=η2 c1 (fun i (hi:i<n)=>c2 i _ (dotsL_at hi));clear b5 a0 c1 c2 hW
 go_wp2_with fail
 refine(sMin_any _ _ _ w2 ch.o (by rw[fV];omega)).mono ?_;rintro e w3 ⟨rfl,rfl⟩;rw[fV];obtain⟨lo,a4⟩:∃z,ry (gY P m n) n=z:=ξ;rw[a4]at ci⊢;have J:¬ o<=lo:=by have:=ci.o;omega
 clear a4
 go_wp2_with fail
 refine(sMax_any _ _ _ w3 ch.o (by rw[fV];omega)).mono ?_;rintro e w4 ⟨rfl,rfl⟩;rw[fV];obtain⟨hi,a3⟩:∃z,rz (gY P m n) n=z:=ξ;rw[a3]at ce⊢;have L:¬ hi<=o:=by have:=ce.o;omega
 clear a3
 go_wp2_with fail
 go_loopw [8,9,38] (fun uv vv iv wr=>∃(k:Nat),k<=n/\iv=.int .i64 (k:Int)/\Hid (Two wr w4.heap.size uv vv (oE P m o k) (hiK P m o k))/\Hid (Bl w4 wr)) (fun _ _ iv _=>n-(intOf iv).toNat)
 case atStart=>exact⟨0,Nat.zero_le _,rfl,Two.nil _ _,Below.refl _ _⟩
 case round =>
  clear J L;obtain⟨k,hk,rfl,ay,Q⟩:=hrel;by_cases c8:k=n
  ·have ef:¬ (k:Int)<(n:Int):=I
   rw[c8]at ay;clear c8
   go_wp2_with fail
   obtain⟨w6,rfl⟩:=φ wr
   go_loopw [8,9,66] (fun uv vv iv wr=>∃(j:Nat),j<=ne/\iv=.int .i64 (j:Int)/\uv=u8/\vv=u9/\Hid (∀x∈es.take j,fg P m o x)/\Hid (Bl w6 wr)) (fun _ _ iv _=>ne-(intOf iv).toNat)
   case atStart=>exact⟨0,Nat.zero_le _,rfl,rfl,rfl,(fun x F=>by simp at F),Below.refl _ _⟩
   case round =>
    obtain⟨j,hj,rfl,rfl,rfl,bc,ab⟩:=hrel;by_cases c4:j=ne
    ·have dy:¬ (j:Int)<(ne:Int):=I
     rw[List.take_of_length_le (ψ cl.o)]at bc;clear c4
     go_wp2_with fail
     have d0:w4.heap.size<=w6.heap.size:=Q.o.size;exact bodyPost_ret (results_tmp3 results84 _ _ _) rfl ⟨.inl ⟨_,_,rfl,bL.down (bL.below ay.o.l ab.o) K2.o.size,bL.down (bL.below ay.o.r ab.o) K2.o.size,bc.o⟩,K2.o.trans ((Q.o.trans (ab.o.mono d0)).mono K2.o.size)⟩
    ·obtain⟨wj,rfl⟩:=φ wr
     have dy:(j:Int)<(ne:Int):=I;obtain⟨e,he⟩:∃e,es[j]?=some e:=⟨_,List.getElem?_eq_getElem (ψ cl.o)⟩;have b4:=List.mem_of_getElem? he;obtain⟨b3,ac⟩:=ds.o e b4;have br:Bl w4 wj:=Q.o.trans (ab.o.mono Q.o.size);have A:Bl w wj:=K2.o.trans (br.mono K2.o.size);have y0:wj.cell? ⟨eb,j*4,none⟩=some (.int .i64 (e.a:Int)):=(A.cell (p:=⟨eb,j*4,none⟩) a8.o).trans (a9.o j e he 0 I);have y1:wj.cell? ⟨eb,j*4+1,none⟩=some (.int .i64 (e.b:Int)):=(A.cell (p:=⟨eb,j*4+1,none⟩) a8.o).trans (a9.o j e he 1 I);have y2:wj.cell? ⟨eb,j*4+2,none⟩=some (.int .i64 e.f):=(A.cell (p:=⟨eb,j*4+2,none⟩) a8.o).trans (a9.o j e he 2 I);have y3:wj.cell? ⟨eb,j*4+3,none⟩=some (.int .i64 e.g):=(A.cell (p:=⟨eb,j*4+3,none⟩) a8.o).trans (a9.o j e he 3 I);obtain⟨w7,ej,c7,a1,d5⟩:=aB wj #[.int .i64 (e.a:Int),.int .i64 (e.b:Int),.int .i64 e.f,.int .i64 e.g] 153;obtain⟨K7,C7,bg,cr,cn,cq⟩:=η6 a1 c7 (br.trans (a1.mono br.size)) (A.trans (a1.mono A.size)) (ab.o.trans (a1.mono ab.o.size)) (dw he);obtain⟨da,cU⟩:∃d,V.dot (P e.a) m=d:=ξ;obtain⟨db,cV⟩:∃d,V.dot (P e.b) m=d:=ξ;obtain⟨C,E⟩:=η2 cU cV;have C0:=fun x:Later w7.heap.size w7=>(show x.w.cell? ⟨wj.heap.size,0,none⟩=some (.int .i64 (e.a:Int))from(C7.o.to x.h).cell 0)
     have C1:=fun x:Later w7.heap.size w7=>(show x.w.cell? ⟨wj.heap.size,1,none⟩=some (.int .i64 (e.b:Int))from(C7.o.to x.h).cell 1)
     have IA:=fun x:Later w7.heap.size w7=>(show x.w.cell? ⟨ib,e.a,none⟩=some (.int .i64 da)from by rw[<-C.o];exact((bg.o.trans (x.h.mono bg.o.size)).cell (p:=⟨ib,e.a,none⟩) ar.o).trans (au.o _ b3))
     have IB:=fun x:Later w7.heap.size w7=>(show x.w.cell? ⟨ib,e.b,none⟩=some (.int .i64 db)from by rw[<-E.o];exact((bg.o.trans (x.h.mono bg.o.size)).cell (p:=⟨ib,e.b,none⟩) ar.o).trans (au.o _ ac))
     have ia:((e.a:Nat):Int)<(n:Int):=I;have ek:((e.b:Nat):Int)<(n:Int):=I;obtain⟨a7,Y,cd,HJ⟩:=η4 b3 ac b4 he;clear cU cV br A b3 ac b4 he c7 a1 d5 c4
     go_upto_region 15 with fail
     clear y0 y1 y2 y3;refine eR (Below.refl w7.heap.size w7) Z Z ?_
     repeat (first|go_big_quiet_skip|(go_big_quiet_want;go_big_quiet_op;go_big_quiet_on))
     refine wpQuiet_nil ?_;intro w8 X;obtain⟨x,F⟩:=X;have L8:=O x.h;rw[<-F]at L8;clear F x
     go_upto_region 16 with fail
     refine eR L8.o Z Z ?_
     repeat (first|go_big_quiet_skip|(go_big_quiet_want;go_big_quiet_op;go_big_quiet_on))
     refine wpQuiet_nil ?_;intro w9 X;obtain⟨x,F⟩:=X;have L9:=O x.h;rw[<-F]at L9;clear F x;by_cases ad:db<da
     rotate_left
     go_upto_region 18 with fail
     have ba:=O (show loE P m e=e.a from by unfold loE;rw[C.o,E.o,if_neg ad]);have be:=O (show upE P m e=e.b from by unfold upE;rw[C.o,E.o,if_neg ad]);have z0:w9.cell? ⟨ib,e.a,none⟩=some (.int .i64 da):=IA ⟨w9,L9.o⟩;have z1:w9.cell? ⟨ib,e.b,none⟩=some (.int .i64 db):=IB ⟨w9,L9.o⟩;have ag:=C;have an:=E;have R:=a7;have bf:=Y;have IL:=IA;have IU:=IB;clear ad IA IB C E a7 Y;generalize e.b=up at *;generalize e.a=lo at *;generalize da=dl at *;generalize db=du at *
     rotate_left
     go_upto_region 18 with fail
     have ba:=O (show loE P m e=e.b from by unfold loE;rw[C.o,E.o,if_pos ad]);have be:=O (show upE P m e=e.a from by unfold upE;rw[C.o,E.o,if_pos ad]);have z0:w9.cell? ⟨ib,e.b,none⟩=some (.int .i64 db):=IB ⟨w9,L9.o⟩;have z1:w9.cell? ⟨ib,e.a,none⟩=some (.int .i64 da):=IA ⟨w9,L9.o⟩;have ag:=E;have an:=C;have R:=Y;have bf:=a7;have IL:=IB;have IU:=IA;clear ad IA IB C E a7 Y;generalize e.a=up at *;generalize e.b=lo at *;generalize db=dl at *;generalize da=du at *
     all_goals
      have cp:=O (cn.o.trans (L9.o.mono cn.o.size));by_cases s1:o<=dl
      ·have aw:=O (show fg P m o e from .inl (by rw[ba.o,ag.o];exact s1))
       clear C0 C1 IL IU
       go_wp2_with fail
       go_round
       case rel=>exact⟨j+1,by omega,rfl,rfl,rfl,(fun x F=>by rw[cq.o]at F;rcases List.mem_append.1 F with h|h;exact bc.o x h;rw[List.mem_singleton.1 h];exact aw.o),cp.o⟩
       case measure=>exact μ
      ·by_cases s2:du<=o
       ·have aw:=O (show fg P m o e from .inr (by rw[be.o,an.o];exact s2))
        clear C0 C1 IL IU
        go_wp2_with fail
        go_round
        case rel=>exact⟨j+1,by omega,rfl,rfl,rfl,(fun x F=>by rw[cq.o]at F;rcases List.mem_append.1 F with h|h;exact bc.o x h;rw[List.mem_singleton.1 h];exact aw.o),cp.o⟩
        case measure=>exact μ
       ·have cm:=O (show ¬ fg P m o e from fun h=>by rcases h with h|h;rw[ba.o,ag.o]at h;exact s1 h;rw[be.o,an.o]at h;exact s2 h)
        go_upto_region 19 with fail
        have cB:=((av.o lo R.o));have a0:=((av.o up bf.o));have J:=LeV.dot cB HM.o;have L:=LeV.dot a0 HM.o;rw[ag.o]at J;rw[an.o]at L;unfold Le at J L;have ho:=HO.o;have el:wrap64 (o-dl)=o-dl:=ζ;have em:wrap64 (du-dl)=du-dl:=ζ;have az:=O (And.intro J (And.intro L ho));clear cB a0 J L ho z0 z1;refine eR L9.o Z Z ?_
        repeat (first|go_big_quiet_skip|(go_big_quiet_want;go_big_quiet_op;go_big_quiet_on))
        refine wpQuiet_nil ?_;intro a6 X;obtain⟨x,F⟩:=X;have cs:=O x.h;rw[<-F]at cs;clear F x;have G:=O (cr.o.trans (cs.o.mono cr.o.size));obtain⟨p0,p1,p2⟩:=bz.o lo R.o;obtain⟨r0,-,-⟩:=bz.o up bf.o;have y0:a6.cell? ⟨pb,off+lo*3,none⟩=some (.int .i64 (P lo).x):=(G.o.cell (p:=⟨pb,off+lo*3,none⟩) U.o).trans p0;have y1:a6.cell? ⟨pb,off+lo*3+1,none⟩=some (.int .i64 (P lo).y):=(G.o.cell (p:=⟨pb,off+lo*3+1,none⟩) U.o).trans p1;have y2:a6.cell? ⟨pb,off+lo*3+2,none⟩=some (.int .i64 (P lo).z):=(G.o.cell (p:=⟨pb,off+lo*3+2,none⟩) U.o).trans p2;obtain⟨af,d7,cv,bu,dm⟩:=aB a6 #[.int .i64 (P lo).x,.int .i64 (P lo).y,.int .i64 (P lo).z] 77;obtain⟨ca,aa,R0⟩:=η3 cv (G.o.trans (bu.mono G.o.size)) r0;clear p0 p1 p2 r0 cv bu dm C0 C1 IL IU
        go_wp2_with fail
        clear y0 y1 y2;refine aN.loop 1 ?_;refine aN.next (fun Kr ec=>?_)
        go_upto_region 24 with fail
        have VX:=fun x:Later af.heap.size af=>(show x.w.cell? ⟨pb,off+up*3,none⟩=some (.int .i64 (P up).x)from((aa.o.trans (x.h.mono aa.o.size)).cell (p:=⟨pb,off+up*3,none⟩) U.o).trans R0.o)
        have UX:=fun x:Later af.heap.size af=>(show x.w.cell? ⟨a6.heap.size,0,none⟩=some (.int .i64 (P lo).x)from(ca.o.to x.h).cell 0)
        refine eR (Below.refl af.heap.size af) Z Z ?_
        repeat (first|go_big_quiet_skip|(go_big_quiet_want;go_big_quiet_op;go_big_quiet_on))
        refine wpQuiet_nil ?_;intro ep X;obtain⟨x,F⟩:=X;have cu:=O x.h;rw[<-F]at cu;clear F x;have J:=az.o.1;have L:=az.o.2.1;have ho:=az.o.2.2;have b8:=(av.o lo R.o).1;have b9:=(av.o up bf.o).1;unfold Le at b8 b9;obtain⟨ux,bm⟩:∃z,(P lo).x=z:=ξ;obtain⟨vx,bp⟩:∃z,(P up).x=z:=ξ;have bt:((vx-ux)*(o-dl)).tmod (du-dl)≠0:=by rcases cc.o e cd.o with h|h;exact absurd h cm.o;unfold badE at h;rw[ba.o,be.o,ag.o,an.o,bm,bp]at h;exact h
        rw[bm]at b8;rw[bp]at b9;simp only[bm,bp];have c9:=(show Le 8192 (vx-ux)from⟨by omega,by omega⟩).mul (show Le 1100000000 (o-dl)from⟨by omega,by omega⟩);unfold Le at c9;have en:wrap64 (vx-ux)=vx-ux:=ζ;have eo:wrap64 ((vx-ux)*(o-dl))=(vx-ux)*(o-dl):=ζ;have hz:(du-dl == 0)=false:=by rw[beq_eq_false_iff_ne];omega
        have hr:(((vx-ux)*(o-dl)).tmod (du-dl) == 0)=false:=by rw[beq_eq_false_iff_ne];exact bt
        clear J L ho b8 b9 bm bp bt c9 VX UX
        go_wp2_with fail
        exact bodyPost_ret (results_tmp3 results84 _ _ _) rfl ⟨.inr ⟨rfl,e,cd.o,cm.o⟩,aa.o.trans (cu.o.mono aa.o.size)⟩
  ·obtain⟨wk,rfl⟩:=φ wr
   have eg:(k:Int)<(n:Int):=I;have bl:k<n:=I;obtain⟨q0,q1,q2⟩:=bz.o k bl;have bs:Bl w wk:=K2.o.trans (Q.o.mono K2.o.size);have y0:wk.cell? ⟨pb,off+k*3,none⟩=some (.int .i64 (P k).x):=(bs.cell (p:=⟨pb,off+k*3,none⟩) U.o).trans q0;have y1:wk.cell? ⟨pb,off+k*3+1,none⟩=some (.int .i64 (P k).y):=(bs.cell (p:=⟨pb,off+k*3+1,none⟩) U.o).trans q1;have y2:wk.cell? ⟨pb,off+k*3+2,none⟩=some (.int .i64 (P k).z):=(bs.cell (p:=⟨pb,off+k*3+2,none⟩) U.o).trans q2;clear q0 q1 q2;obtain⟨d,hd⟩:=χ (V.dot (P k) m);have HD:=O hd;have R:=O (show(oE P m o k).length<=1000000 from by have:=lowK_len P m o k;omega);have cg:=O (show(hiK P m o k).length<=1000000 from by have:=hiK_len P m o k;omega);obtain⟨w5,dz,c5,bi,d4⟩:=aB wk #[.int .i64 (P k).x,.int .i64 (P k).y,.int .i64 (P k).z] 77;obtain⟨K5,C5,B5,T5⟩:=η4 bi c5 (Q.o.trans (bi.mono Q.o.size)) (ay.o.below bi);have S5:=O B5.o.size;have z0:w5.cell? ⟨ib,k,none⟩=some (.int .i64 d):=by rw[<-hd];exact(B5.o.cell (p:=⟨ib,k,none⟩) ar.o).trans (au.o k bl)
   have x0:w5.cell? ⟨wk.heap.size,0,none⟩=some (.int .i64 (P k).x):=c5.cell 0;have x1:w5.cell? ⟨wk.heap.size,1,none⟩=some (.int .i64 (P k).y):=c5.cell 1;have x2:w5.cell? ⟨wk.heap.size,2,none⟩=some (.int .i64 (P k).z):=c5.cell 2;clear bs c5 bi d4 hd
   go_upto_region 7 with fail
   clear dz y0 y1 y2;by_cases b0:d<o
   ·have h1:d<=o:=I
    have h2:¬ o<=d:=I;have ap:=O (lowK_on (P:=P) (m:=m) (o:=o) (k:=k) (by rw[HD.o];exact h1));have ao:=O (hiK_off (P:=P) (m:=m) (o:=o) (k:=k) (by rw[HD.o];exact h2));clear b0
    go_upto_region 9 with(at_builtin;refine iD rfl _ _ rfl (u:=u8) (v:=u9) (w0:=w4) (base:=w4.heap.size) rfl T5.o (P k) rfl rfl R.o B5.o S5.o ?_;intro v6 w6 a5 H bk)
    have z1:w6.cell? ⟨ib,k,none⟩=some (.int .i64 d):=by rw[<-HD.o];exact(H.cell (p:=⟨ib,k,none⟩) ar.o).trans (au.o k bl)
    obtain⟨bF,bv⟩:=η2 a5 H;clear a5 H bk z0 x0 x1 x2
    go_wp2_with fail
    go_round
    case rel=>exact⟨k+1,by omega,rfl,by rw[ap.o,ao.o];exact bF.o,bv.o⟩
    case measure=>exact μ
   by_cases cF:d=o
   ·have h1:d<=o:=I
    have h2:o<=d:=I;have ap:=O (lowK_on (P:=P) (m:=m) (o:=o) (k:=k) (by rw[HD.o];exact h1));have ao:=O (hiK_on (P:=P) (m:=m) (o:=o) (k:=k) (by rw[HD.o];exact h2));clear b0 cF
    go_upto_region 9 with(at_builtin;refine iD rfl _ _ rfl (u:=u8) (v:=u9) (w0:=w4) (base:=w4.heap.size) rfl T5.o (P k) rfl rfl R.o B5.o S5.o ?_;intro v6 w6 a5 H bk)
    have z1:w6.cell? ⟨ib,k,none⟩=some (.int .i64 d):=by rw[<-HD.o];exact(H.cell (p:=⟨ib,k,none⟩) ar.o).trans (au.o k bl)
    have c6:=((C5.o.below ((Below.refl w5.heap.size w5).alloc ρ _) C5.o.lt).grown bk (fun e=>by have:=own_lt ay.o.l _ e.symm;omega));have x3:w6.cell? ⟨wk.heap.size,0,none⟩=some (.int .i64 (P k).x):=c6.cell 0;have x4:w6.cell? ⟨wk.heap.size,1,none⟩=some (.int .i64 (P k).y):=c6.cell 1;have x5:w6.cell? ⟨wk.heap.size,2,none⟩=some (.int .i64 (P k).z):=c6.cell 2;obtain⟨bF,bv,S6⟩:=η3 a5 H H.size;clear a5 H bk z0 x0 x1 x2 c6
    go_wp2_with (at_builtin;refine iD rfl _ _ rfl (u:=u9) (v:=v6) (w0:=w4) (base:=w4.heap.size) rfl bF.o.swap (P k) rfl rfl cg.o bv.o S6.o ?_;intro v7 w7 b7 bV dx)
    go_round
    case rel=>exact⟨k+1,by omega,rfl,by rw[ap.o,ao.o];exact b7.swap,bV⟩
    case measure=>exact μ
   have h1:¬ d<=o:=I;have h2:o<=d:=I;have ap:=O (lowK_off (P:=P) (m:=m) (o:=o) (k:=k) (by rw[HD.o];exact h1));have ao:=O (hiK_on (P:=P) (m:=m) (o:=o) (k:=k) (by rw[HD.o];exact h2));clear b0 cF
   go_wp2_with (at_builtin;refine iD rfl _ _ rfl (u:=u9) (v:=u8) (w0:=w4) (base:=w4.heap.size) rfl T5.o.swap (P k) rfl rfl cg.o B5.o S5.o ?_;intro v7 w7 b7 bV dx)
   go_round
   case rel=>exact⟨k+1,by omega,rfl,by rw[ap.o,ao.o];exact b7.swap,bV⟩
   case measure=>exact μ
abbrev Blk.P(b:Blk):Nat->V:=ofL b.pts
abbrev Blk.N(b:Blk):Nat:=b.pts.length
def Blk.low(b:Blk)(m:V)(o:Int):List V:=oE b.P m o b.N
def Blk.high(b:Blk)(m:V)(o:Int):List V:=hiK b.P m o b.N
structure CutF (b:Blk) (m:V) (o c:Int):Prop where
 mle:LeV 4096 m
 m0:m≠V.zero
 ob:-1000000000<=o/\o<=1000000000
 lo:ry (gY b.P m b.N) b.N<o
 hi:o<rz (gY b.P m b.N) b.N
 es:∀ d,gL b d→(0<d.es.length/\d.es.length<=4096)/\(∀ x ∈ d.es,x.a<b.N/\x.b<b.N)/\(∀ x ∈ d.es,fg b.P m o x\/badE b.P m o x)/\((∀ x ∈ d.es,fg b.P m o x)→c=0)/\((∃ x ∈ d.es,¬ fg b.P m o x)→c=3)
 hull:c=0→j8 (ofL (b.low m o)) (b.low m o).length=0/\j8 (ofL (b.high m o)) (b.high m o).length=0
def rf(b:Blk)(m:V)(o c:Int)(base:Nat)(u:Value)(w:World):Prop:=∃x y,u=.tuple #[x,y,.int .i64 c]/\(c=0->bM w base x (b.low m o))/\(c=0->bM w base y (b.high m o))
theorem rf.stab{b:Blk}{m:V}{o c:Int}{base:Nat}:∀u w w',Bl w w'->rf b m o c base u w->rf b m o c base u w':=fun _ _ _ h ⟨x,y,e,i,j⟩=>⟨x,y,e,fun h0=>(i h0).below h,fun h0=>(j h0).below h⟩
theorem RetHv.cut{b:Blk}{m:V}{o c:Int}{es:List ED}{base i:Nat}{w:World}{e:Ending}(h:RetHv b.P b.N m o es base w e)(hc:((∀x∈es,fg b.P m o x)->c=0)/\((∃x∈es,¬ fg b.P m o x)->c=3))(hb:i<=base):∃v,e=.returned v/\rf b m o c i v w:=by
 rcases h with⟨u,v,rfl,A,C,j⟩|⟨rfl,j⟩
 ·have:=hc.1 j
  subst this;exact⟨_,rfl,u,v,rfl,fun _=>A.down hb,fun _=>C.down hb⟩
 ·have:=hc.2 j
  subst this;exact⟨_,rfl,_,_,rfl,fun h=>(by cases h),fun h=>(by cases h)⟩
def RetCut(nm:ByteArray)(D:Int)(b:Blk)(m:V)(o c:Int)(w:World)(e:Ending):Prop:=
 (c=0/\∃g cp a n ca,e=.returned (.tuple #[.agg #[.string nm,.int .i64 D,.slice (some ⟨g,0,none⟩) 2 cp],.int .i64 0])/\g<w.heap.size/\w.cell? ⟨g,0,none⟩=some (.slice a n ca)/\n=(dJ (ofL (b.low m o)) (b.low m o).length).length)\/(c=3/\e=.returned (.tuple #[.agg #[.string ⟨#[]⟩,.int .i64 0,.slice none 0 0],.int .i64 3]))
theorem CelR.one{w:World}{base:Nat}{v:Value}{A:List Value}{l:List V}(h:CelR w base v A [l]):∃g i a j,v=.slice (some ⟨g,0,none⟩) 1 i/\g<w.heap.size/\w.cell? ⟨g,0,none⟩=some (.slice a l.length j)/\Pts w a l.length j (ofL l):=by
 obtain⟨g,i,e,F,hc⟩:=h.at_ (Nat.succ_pos 0);obtain⟨u,G,C⟩:=hc 0 l rfl;obtain⟨a,j,rfl,E⟩:=G.pts;exact⟨g,i,a,j,e,F,C,E⟩
theorem s9{E:Array Oper}{rest:List Oper}{o:Oper}{a:Act}{Q:Exit->Act->World->Prop}{x y:Value}(J:o.guard=none)(s z:Operand)(ho:o.op=.call { callee:=.builtin .append,args:=#[s,z],argTypes:=#[40,40] })(hs:a.eval s=.slice none 0 0)(i:World)(hz:a.eval z=.slice (some ⟨i.heap.size,0,none⟩) 2 2)(Y:([x,y].all (·.oneCell'))=true)(h:∀g W w',i.heap.size<=g->g<w'.heap.size->w'.cell? ⟨g,0,none⟩=some x->Bl i w'->wpList prog E Q rest (a.put o.dst (.slice (some ⟨g,0,none⟩) 2 W)) w'):wpList prog E Q (o::rest) a (i.alloc (.cells #[x,y] 102)):=by
 obtain⟨i0,A,L,R,U⟩:=info_parts infoCz;have hB:Bl i (i.alloc (.cells #[x,y] 102)):=β.alloc ρ _;refine Go.wpList_append_own _ J s z 40 ho i.heap.size 102 i0 (.agg #[.slice none 0 0]) 1 24 underlying40 A L R U rfl ν (.slice none 0 0) 0 [] hs (World.ownsRow_nil _ _ _ _) ⟨i.heap.size,0,none⟩ 2 2 [x,y] hz rfl (fun j u hj=>fD i _ _ j u hj) (by simpa using Y) (by unfold maxLen;omega) I (by simp) ?_;intro v' w1 C H _;have G:=hB.grown H (by simp) (fun k e=>by simp[Value.ownBlock]at e);obtain⟨hl,⟨_,h0⟩|⟨g,F,X,rfl,hg,hh,hn,hm,aa,ht⟩⟩:=id C
 ·simp at h0
 ·have hc:=World.ownsRow.cellAt C 0 I
  exact h g F w1 hg (Array.getElem?_eq_some_iff.1 hh).1 hc G
theorem cut_any(X:ByteArray)(D:Nat)(v:Value)(a0:List Value)(b:Blk)(m:V)(o c:Int)(base:Nat)(w:World)(hD:1<=D/\D<=1048576)(hC:CelR w base v a0 [b.pts])(hT:Tab w)(hF:CutF b m o c):
 Calls prog 43 #[.agg #[.string X,.int .i64 (D:Nat),v],.int .i64 0,dP m,.int .i64 o] w fun e w'=>RetCut X (D:Nat) b m o c w' e/\Bl w w':=by
 obtain⟨L,E,ca,cc,rfl,a6,a5,a7⟩:=hC.one;obtain⟨W,hW,b1,b2,b3,hB,hS⟩:=cC w #[.string X,.int .i64 (D:Nat),.slice (some ⟨L,0,none⟩) 1 E] #[.int .i64 m.x,.int .i64 m.y,.int .i64 m.z] #[.string ⟨#[]⟩,.int .i64 0,.slice none 0 0] 42 77 42;obtain⟨HB,HS,B1,B2,B3,ar,ap,bI,HC⟩:=η9 hB hS b1 b2 b3 a6 a5 a7 (hC.below hB);obtain⟨HT,HF,HD⟩:=η3 (hT.below hB hT.1) hF hD;have b7:=eq46;have i0:∀w,(Instr.index 77 (.agg #[.int .i64 m.x,.int .i64 m.y,.int .i64 m.z]) (.int .i64 0)).run prog w=.ok (.int .i64 m.x) w:=fun w=>by kernel_rfl
 have i1:∀w,(Instr.index 77 (.agg #[.int .i64 m.x,.int .i64 m.y,.int .i64 m.z]) (.int .i64 1)).run prog w=.ok (.int .i64 m.y) w:=fun w=>by kernel_rfl
 have i2:∀w,(Instr.index 77 (.agg #[.int .i64 m.x,.int .i64 m.y,.int .i64 m.z]) (.int .i64 2)).run prog w=.ok (.int .i64 m.z) w:=fun w=>by kernel_rfl
 have ci:(m.x == 0&&m.y == 0&&m.z == 0)=false:=by
  rw[<-Bool.not_eq_true];intro h;simp only[Bool.and_eq_true,beq_iff_eq]at h;exact hF.m0 (by obtain⟨x,y,z⟩:=m;obtain⟨⟨rfl,rfl⟩,rfl⟩:=h;rfl)
 have x0:W.cell? ⟨w.heap.size,0,none⟩=some (.string X):=b1.cell 0;have x1:W.cell? ⟨w.heap.size,1,none⟩=some (.int .i64 (D:Nat)):=b1.cell 1;have x2:W.cell? ⟨w.heap.size,2,none⟩=some (.slice (some ⟨L,0,none⟩) 1 E):=b1.cell 2;clear b1 b2 b3 hB a6 a5 a7 hC hT hF hD hS;show Calls _ _ #[_,_,.agg #[.int .i64 m.x,.int .i64 m.y,.int .i64 m.z],_] w _
 go_enter func43,ntmps43
 go_wp2_with fail
 refine(pI X D _ a0 [b] base W HD.o (.inl ⟨b,rfl⟩) HC.o HT.o).mono ?_;rintro e F ⟨⟨sv,vs,ds,rfl,bi,ag⟩,H⟩;have be:ds.length=1:=ag.len;obtain⟨d,rfl⟩:∃d,ds=[d]:=by
  match ds,be with
  | [d],_=>exact⟨d,rfl⟩
 have hr:=ag.at_ 0 b d rfl rfl;obtain⟨sg,bz,s,rfl,bg,-,an,bf⟩:=bi.at_ 0 d rfl;obtain⟨b8,a8⟩:=an.es;obtain⟨⟨p0,n0,c0,f0⟩,⟨p1,n1,c1,f1⟩,p2,n2,c2,f2⟩:=an.forms;obtain⟨sa,sb,sc⟩:=s;simp only at f0 f1 f2;subst f0;subst f1;subst f2;obtain⟨au,HR,SG,SC,K1,C1,C2,C3,aa⟩:=η9 a8 hr bg (bf 2 I) (ae HB.o H ρ) (B1.o.to H) (B2.o.to H) (B3.o.to H) (HT.o.below H HT.o.1);obtain⟨y0,y1,y2,-⟩:=C2.o.three;have hx:LeV 4096 m:=HF.o.mle;obtain⟨⟨cm,cn⟩,⟨cq,cr⟩,cs,cu⟩:=hx;have g1:¬ m.x < -4096:=I;have g2:¬ (4096:Int)<m.x:=I;have g3:¬ m.y < -4096:=I;have g4:¬ (4096:Int)<m.y:=I;have g5:¬ m.z < -4096:=I;have g6:¬ (4096:Int)<m.z:=I;clear bi ag H be hr bg an bf a8 x0 x1 x2 cm cn cq cr cs cu
 go_wp2_with fail
 refine aN.loop 4 ?_;refine aN.next (fun K hK=>?_)
 go_wp2_with fail
 refine aN.next (fun K hK=>?_)
 go_wp2_with fail
 refine aN.next (fun K hK=>?_)
 go_wp2_with fail
 refine aN.next (fun K hK=>?_)
 go_upto_region 16 with fail
 obtain⟨G,ac⟩:=η2 (HF.o.es d HR.o) (show 4<=b.N/\b.N<=16 from⟨(lg b).valid.four,(lg b).valid.le⟩);clear y0 y1 y2 g1 g2 g3 g4 g5 g6 ci b7 i0 i1 i2;refine aU (rest:=1) [isV 0 (.pointer (some ⟨w.heap.size,2,none⟩)),isV 1 (.slice (some ⟨L,0,none⟩) 1 E),isV 2 (.int .i64 0),isV 3 (.pointer (some ⟨L,0,none⟩)),isV 4 (.pointer (some ⟨L,0,none⟩)),isV 5 (.slice ca b.pts.length cc),isV 6 (.slice (some ⟨sg,0,none⟩) 1 bz),isV 7 (.int .i64 0),isV 8 (.pointer (some ⟨sg,0,none⟩)),isV 9 (.pointer (some ⟨sg,2,none⟩)),isV 10 (.slice p2 n2 c2),isV 11 (.agg #[.int .i64 m.x,.int .i64 m.y,.int .i64 m.z]),isV 12 (.int .i64 o),isP 13 (rf b m o c F.heap.size),isP 14 (rf b m o c F.heap.size),isP 15 (fun u w=>c=0->bM w F.heap.size u (b.low m o)),isP 16 (fun u w=>c=0->bM w F.heap.size u (b.high m o)),isV 17 (.int .i64 c),isP 18 (fun u w=>c=0->bM w F.heap.size u (b.low m o)),isP 19 (fun u w=>c=0->bM w F.heap.size u (b.high m o))] [] ?A (τ 20 1) Z [0,1,2,3,4,5,6,7,8,9,10,11,12,13,14,15,16,17,18,19] Z Z Z Z Z Z ?st ?hA ?hop ?hend
 case hA=>exact cZ
 case st=>repeat (first|exact aq.nil|refine aq.cons isV.stab ?_|refine aq.cons (isP.stab rf.stab) ?_|refine aq.cons (isP.stab (fun _ _ _ h j h0=>(j h0).below h)) ?_)
 case hop =>
  refine ai.cons rfl (fun y w' hS hD K hK=>?_) ?_
  ·go_simp
   exact hK.out _ w' hS β isV.put δ
  refine ai.cons rfl (fun y w' hS hD K hK=>?_) ?_
  ·have x2:w'.cell? ⟨w.heap.size,2,none⟩=some (.slice (some ⟨L,0,none⟩) 1 E):=(C1.o.to hS).cell 2
   simp only[isV.get (hD 0 Z)]at hK⊢;go_simp;exact hK.out _ w' hS β isV.put δ
  refine ai.cons rfl (fun y w' hS hD K hK=>?_) ?_
  ·go_simp
   exact hK.out _ w' hS β isV.put δ
  refine ai.cons rfl (fun y w' hS hD K hK=>?_) ?_
  ·simp only[isV.get (hD 1 Z),isV.get (hD 2 Z)]at hK⊢
   go_simp;exact hK.out _ w' hS β isV.put δ
  refine ai.cons rfl (fun y w' hS hD K hK=>?_) ?_
  ·simp only[isV.get (hD 3 Z)]at hK⊢
   go_simp;exact hK.out _ w' hS β isV.put δ
  refine ai.cons rfl (fun y w' hS hD K hK=>?_) ?_
  ·have x2:w'.cell? ⟨L,0,none⟩=some (.slice ca b.pts.length cc):=((ae K1.o hS ρ).cell (p:=⟨L,0,none⟩) ar.o).trans ap.o
   simp only[isV.get (hD 4 Z)]at hK⊢;go_simp;exact hK.out _ w' hS β isV.put δ
  iterate 2
   refine ai.cons rfl (fun y w' hS hD K hK=>?_) ?_
   ·go_simp
    exact hK.out _ w' hS β isV.put δ
  refine ai.cons rfl (fun y w' hS hD K hK=>?_) ?_
  ·simp only[isV.get (hD 6 Z),isV.get (hD 7 Z)]at hK⊢
   go_simp;exact hK.out _ w' hS β isV.put δ
  refine ai.cons rfl (fun y w' hS hD K hK=>?_) ?_
  ·simp only[isV.get (hD 8 Z)]at hK⊢
   go_simp;exact hK.out _ w' hS β isV.put δ
  refine ai.cons rfl (fun y w' hS hD K hK=>?_) ?_
  ·have x2:w'.cell? ⟨sg,2,none⟩=some (.slice p2 n2 c2):=(hS.cell (p:=⟨sg,2,none⟩) SG.o).trans SC.o
   simp only[isV.get (hD 9 Z)]at hK⊢;go_simp;exact hK.out _ w' hS β isV.put δ
  refine ai.cons rfl (fun y w' hS hD K hK=>?_) ?_
  ·obtain⟨x0,x1,x2,-⟩:=(C2.o.to hS).three
   go_simp;exact hK.out _ w' hS β isV.put δ
  refine ai.cons rfl (fun y w' hS hD K hK=>?_) ?_
  ·go_simp
   exact hK.out _ w' hS β isV.put δ
  refine ai.cons rfl (fun y w' hS hD K hK=>?_) ?_
  ·simp only[isV.get (hD 5 Z),isV.get (hD 10 Z),isV.get (hD 11 Z),isV.get (hD 12 Z)]at hK⊢
   go_simp;refine(halves_any ca b.N cc b.P m o (.slice p2 n2 c2) d.es b8 w' (bI.o.below (ae K1.o hS ρ)) ⟨by have:=ac.o;omega,by have:=ac.o;omega⟩ HF.o.mle (fun i hi=>(kP b i hi).mono' I) HF.o.ob (aC au.o hS) G.o.1 HF.o.lo HF.o.hi G.o.2.1 G.o.2.2.1).mono ?_
   rintro e cF ⟨hv,hb⟩;obtain⟨v,rfl,cl⟩:=hv.cut G.o.2.2.2 hS.size;exact hK.out _ cF (ae hS hb ρ) hb (isP.put cl) δ
  refine ai.cons rfl (fun y w' hS hD K hK=>?_) ?_
  ·obtain⟨x,y2,eq,j,h2⟩:=isP.get (p:=rf b m o c F.heap.size) (hD 13 Z)
   simp only[eq]at hK⊢;go_simp;exact hK.out _ w' hS β (isP.put ⟨x,y2,rfl,j,h2⟩) δ
  refine ai.cons rfl (fun y w' hS hD K hK=>?_) ?_
  ·obtain⟨x,y2,eq,j,h2⟩:=isP.get (p:=rf b m o c F.heap.size) (hD 14 Z)
   simp only[eq]at hK⊢;go_simp;exact hK.out _ w' hS β (isP.put j) δ
  refine ai.cons rfl (fun y w' hS hD K hK=>?_) ?_
  ·obtain⟨x,y2,eq,j,h2⟩:=isP.get (p:=rf b m o c F.heap.size) (hD 14 Z)
   simp only[eq]at hK⊢;go_simp;exact hK.out _ w' hS β (isP.put h2) δ
  refine ai.cons rfl (fun y w' hS hD K hK=>?_) ?_
  ·obtain⟨x,y2,eq,j,h2⟩:=isP.get (p:=rf b m o c F.heap.size) (hD 14 Z)
   simp only[eq]at hK⊢;go_simp;exact hK.out _ w' hS β isV.put δ
  refine ai.cons rfl (fun y w' hS hD K hK=>?_) ?_
  ·have j:=isP.get (p:=fun u w=>c=0->bM w F.heap.size u (b.low m o)) (hD 15 Z)
   go_simp;exact hK.out _ w' hS β (isP.put j) δ
  refine ai.cons rfl (fun y w' hS hD K hK=>?_) ?_
  ·have j:=isP.get (p:=fun u w=>c=0->bM w F.heap.size u (b.high m o)) (hD 16 Z)
   go_simp;exact hK.out _ w' hS β (isP.put j) δ
  exact ai.nil
 case hend =>
  intro y w' hS hR hF;have a1:=isV.get (hR 17 Z);obtain⟨u,eu⟩:∃v,y 18=v:=ξ;obtain⟨v,ev⟩:=χ (y 19);have hu:=isP.get (i:=18) (p:=fun u w=>c=0->bM w F.heap.size u (b.low m o)) (hR 18 Z);have hv:=isP.get (i:=19) (p:=fun u w=>c=0->bM w F.heap.size u (b.high m o)) (hR 19 Z);rw[eu]at hu;rw[ev]at hv;simp only[a1,eu,ev];refine aL (i:=20) (listed2:=τ 21 0) Z rfl Z (fun K hK=>?_);go_simp;refine hK.out _ _ ?_;clear hK K;refine aP Z ?_;obtain⟨HU,ay⟩:=η2 hu hv;obtain⟨w2,rfl⟩:=φ w';obtain⟨K2,E1,E3,ab⟩:=η4 (ae K1.o hS ρ) (C1.o.to hS) (C3.o.to hS) (aa.o.below hS aa.o.1);clear hS hR hF hu hv a1 eu ev C1 C2 C3 aa au HR SG SC;by_cases hc:c=0
  ·subst hc
   obtain⟨ba,bc⟩:=HF.o.hull rfl;obtain⟨ua,uc,rfl,bk⟩:=(HU.o rfl).pts;obtain⟨va,vc,rfl,bl⟩:=(ay.o rfl).pts;obtain⟨b4,b5,av,aw⟩:=η4 bk bl ba bc;have ce:=lowK_len b.P m o b.N;have cd:=hiK_len b.P m o b.N;have ch:=ac.o.2;have bV:=O (show(b.low m o).length<=4611686018427387904 by unfold Blk.low;omega);have b0:=O (show(b.high m o).length<=4611686018427387904 by unfold Blk.high;omega);clear bk bl ba bc ce cd ch HU ay
   go_wp2_with fail
   refine(sS ua _ uc (ofL (b.low m o)) w2 ab.o b4.o bV.o).mono ?_;rintro e w3 ⟨⟨j,rfl,-,C⟩,a2⟩;obtain⟨xa,xc,rfl,-⟩:=(C av.o).pts;rw[av.o];have L3:=O a2;clear a2 C
   go_upto_region 22 with fail
   obtain⟨w4,bp,c4,a3,cv⟩:=aB w3 #[.slice xa (dJ (ofL (b.low m o)) (b.low m o).length).length xc] 102;rw[bp];obtain⟨L4,G4⟩:=η2 (ae L3.o a3 ρ) c4;clear bp c4 a3 cv
   go_wp2_with fail
   refine(sS va _ vc (ofL (b.high m o)) w4 (ab.o.below L4.o ab.o.1) (b5.o.below L4.o) b0.o).mono ?_;rintro e w5 ⟨⟨j,rfl,-,C⟩,ad⟩;obtain⟨ya,yc,rfl,-⟩:=(C aw.o).pts;rw[aw.o];obtain⟨L5,G5⟩:=η2 (ae L4.o ad ρ) (G4.o.to ad);clear ad C
   go_upto_region 25 with fail
   obtain⟨Y,br,c6,af,cy⟩:=aB w5 #[.slice ya (dJ (ofL (b.high m o)) (b.high m o).length).length yc] 102;rw[br];obtain⟨L6,G6,I6⟩:=η3 (ae L5.o af ρ) (G5.o.to af) c6;obtain⟨x0,x1,x2,-⟩:=(E1.o.to L6.o).three;clear br c6 af cy
   go_upto_region 26 with fail
   obtain⟨w7,bt,c7,R,cB⟩:=aB Y #[.string X,.int .i64 (D:Nat),.slice none 0 0] 42;rw[bt];obtain⟨L7,G7,I7,P7⟩:=η4 (ae L6.o R ρ) (G6.o.to R) (I6.o.to R) c7;obtain⟨x0,x1,x2,-⟩:=(E1.o.to L7.o).three;have y0:w7.cell? ⟨L,0,none⟩=some (.slice ca b.pts.length cc):=((ae K2.o L7.o ρ).cell (p:=⟨L,0,none⟩) ar.o).trans ap.o;clear bt c7 R cB
   go_wp2_with fail
   refine aN.loop 2 ?_;refine aN.next (fun K hK=>?_)
   go_upto_region 29 with fail
   obtain⟨w8,bu,c8,J,cD⟩:=aB w7 #[.slice ca b.pts.length cc] 102;rw[bu];obtain⟨L8,P8⟩:=η2 (ae L7.o J ρ) (P7.o.to J);obtain⟨z0,-⟩:=(G7.o.to J).one;obtain⟨z1,-⟩:=(I7.o.to J).one;obtain⟨t0,t1,t2,f0,f1,f2⟩:=P8.o.three;clear bu c8 J cD x0 x1 x2 y0
   go_wp2_with (at_builtin;refine s9 rfl _ _ rfl rfl w8 rfl rfl ?_;intro g U w9 c5 a9 a4 Q;obtain⟨s0,s1,s2,q0,q1,q2⟩:=(P8.o.to Q).three)
   have Q9:=P8.o.to Q;have bv:w2.heap.size<=Y.heap.size:=L6.o.size;have bm:w2.heap.size+1<=w8.heap.size:=by have:=L7.o.size;have:=P8.o.lt;have:=L6.o.size;omega
   have bs:Y.heap.size<w8.heap.size:=P8.o.lt;obtain⟨b6,az⟩:=η2 (Q9.set 2 (.slice (some ⟨g,0,none⟩) 2 U)) ((ae L8.o Q ρ).setCell (p:=⟨Y.heap.size,2,none⟩) bv (.slice (some ⟨g,0,none⟩) 2 U));have bF:=O ((World.cell?_setCell_other w9 ⟨Y.heap.size,2,none⟩ ⟨g,0,none⟩ (.slice (some ⟨g,0,none⟩) 2 U) (fun e=>by injection e with j;omega)).trans a4);have HG:=O (show g<(w9.setCell ⟨Y.heap.size,2,none⟩ (.slice (some ⟨g,0,none⟩) 2 U)).heap.size by simpa[World.setCell]using a9);have c3:w.heap.size+2<g:=by have:=E3.o.lt;omega
   have cV:=hK;clear a4 Q a9 s0 s1 s2 q0 q1 q2 Q9 bm bs bv t0 t1 t2 f0 f1 f2 z0 z1;generalize w9.setCell ⟨Y.heap.size,2,none⟩ (.slice (some ⟨g,0,none⟩) 2 U)=cU at *;have ao:=O (E3.o.to az.o);obtain⟨s0,s1,s2,-⟩:=(show Box cU Y.heap.size #[.string X,.int .i64 (D:Nat),.slice (some ⟨g,0,none⟩) 2 U] 42 from b6.o).three;obtain⟨z0,z1,z2,f0,f1,f2⟩:=ao.o.three;refine aN.next (fun K hK=>?_)
   go_wp2_with fail
   exact bS results43 (w.heap.size+2) (ao.o.set3 (.string X) (.int .i64 (D:Nat)) (.slice (some ⟨g,0,none⟩) 2 U)) _ rfl underlying42 rfl fA rfl ⟨.inl ⟨rfl,g,U,xa,_,xc,rfl,by simpa[World.setCell]using HG.o,by
    rw[World.cell?_setCell_other _ _ _ _ (fun e=>by injection e with j;omega),World.cell?_setCell_other _ _ _ _ (fun e=>by injection e with j;omega),World.cell?_setCell_other _ _ _ _ (fun e=>by injection e with j;omega)];exact bF.o,rfl⟩,gg (ae K2.o az.o ρ) I _ _ _⟩
  ·have b9:c=3:=G.o.2.2.2.2 (Classical.byContradiction fun h=>hc (G.o.2.2.2.1 fun x hx=>Classical.byContradiction fun h'=>h ⟨x,hx,h'⟩))
   subst b9;obtain⟨z0,z1,z2,f0,f1,f2⟩:=E3.o.three
   go_wp2_with fail
   exact bS results43 (w.heap.size+2) (E3.o.set3 (.string ⟨#[]⟩) (.int .i64 0) (.slice none 0 0)) _ rfl underlying42 rfl fA rfl ⟨.inr ⟨rfl,rfl⟩,gg K2.o I _ _ _⟩
section
open V
def idM:Mo:=cS ⟨1,0,0,0⟩ ⟨0,0,0⟩
theorem np(v:Q3):aQ idM v=v:=by
 have ha:idM.a=⟨1,0,0⟩:=lH (by decide +kernel);have hb:idM.b=⟨0,1,0⟩:=lH (by decide +kernel);have hc:idM.c=⟨0,0,1⟩:=lH (by decide +kernel);have e:idM.s=⟨0,0,0⟩:=rfl;obtain⟨x,y,z⟩:=v;unfold aQ bH;rw[ha,hb,hc,e];unfold aT qadd;simp only[Q3.mk.injEq];refine⟨?_,?_,?_⟩<;>grind
theorem jA:Rot idM:=l9 _ _ ν
section
variable {m : Mo} {d : ShD} {D M K : Nat}
theorem iY(h:Rot m)(hF:ShF d D M K):(d.move m).six=d.six:=by
 show cK (aD (qAt (d.qs.map (aQ m))) d.rns)=_;rw[n9 h hF.nq.1 (fun r e=>(hF.ring r e).2.2),sumD_move]
 rfl
theorem cen_move(h:Rot m)(hF:ShF d D M K)(h0:d.six≠0):(d.move m).cen=aQ m d.cen:=by
 unfold ShD.cen;rw[iY h hF];show qscale _ (dC (aD (qAt (d.qs.map (aQ m))) d.rns))=_;rw[n9 h hF.nq.1 (fun r e=>(hF.ring r e).2.2),sumC_move];exact centre_move _ h0
end
theorem gL.eqs{b:Blk}{d:ShD}(h:gL b d)(u:b.pts.length=8):d.qs=cR (ofL b.pts) 8/\d.rns=il b.pts/\d.fqs=tJ b.pts/\EdgesOk (il b.pts) d.es:=by
 obtain⟨fs,E,es,rfl,hR,A⟩:=h;have i:=(lg b).valid;have e:=hR.facesR i.sorted i.full i.top;rw[u]at hR i e;have j:il b.pts=fs.map RF.r:=by
  unfold il;rw[e,List.map_map]
  rfl
 refine⟨by show cR _ _=_;rw[u],j.symm,?_,by rw[j];exact A⟩;show fs.map (fj (ofL b.pts))=_;unfold tJ;rw[e,List.map_map];exact List.map_congr_left fun f C=>(hR.face i.sorted C).1
def jN:Blk:=⟨0,fun _=>0,fun i=>if i=0 then 1 else 0⟩
def jM:Blk:=⟨0,fun i=>if i=1 then 1 else 0,fun _=>0⟩
def gT:Blk:=⟨0,fun _=>0,fun _=>1⟩
theorem jg:jN.pts=boxA:=rfl
theorem jf:jM.pts=boxB:=rfl
theorem blkC_pts:gT.pts=qQ:=rfl
theorem len8:boxA.length=8/\boxB.length=8/\qQ.length=8:=by decide +kernel
def knD(dA dB:ShD):List ShD:=[dA.move idM,dB.move idM]
section
variable {dA dB : ShD} (hA : gL jN dA) (hB : gL jM dB)
include hA hB
theorem kn_six:(dA.move idM).six=12/\(dB.move idM).six=6:=by
 rw[iY jA (hA.shf 1 ν),iY jA (hB.shf 1 ν)];obtain⟨e,i,-,-⟩:=hA.eqs (by rw[jg];exact len8.1);obtain⟨j,u,-,-⟩:=hB.eqs (by rw[jf];exact len8.2.1);unfold ShD.six;rw[e,i,j,u,jg,jf];exact⟨boxA_sum,boxB_sum⟩
theorem kn_vol:dL (knD dA dB)=3:=by
 obtain⟨e,j⟩:=kn_six hA hB;show psum (fun i=>(gV [dA.move idM,dB.move idM]).getD i 0) 2=3;unfold gV;simp only[List.map_cons,List.map_nil,e,j,psum,List.getD_cons_zero,List.getD_cons_succ]
 decide +kernel
theorem kn_cen:qP (knD dA dB)=⟨5 / 6,5 / 6,1 / 2⟩:=by
 have E:=kn_vol hA hB;obtain⟨e,i⟩:=kn_six hA hB;obtain⟨j,u,-,-⟩:=hA.eqs (by rw[jg];exact len8.1);obtain⟨A,C,-,-⟩:=hB.eqs (by rw[jf];exact len8.2.1);have s1:dA.six=12:=by rw[<-iY jA (hA.shf 1 ν)];exact e
 have s2:dB.six=6:=by rw[<-iY jA (hB.shf 1 ν)];exact i
 have c1:(dA.move idM).cen=qscale (1 / (4*12)) ⟨48,24,24⟩:=by
  rw[cen_move jA (hA.shf 1 ν) (by rw[s1];decide),np];unfold ShD.cen;rw[s1,j,u,jg,boxA_cen]
 have c2:(dB.move idM).cen=qscale (1 / (4*6)) ⟨12,36,12⟩:=by
  rw[cen_move jA (hB.shf 1 ν) (by rw[s2];decide),np];unfold ShD.cen;rw[s2,A,C,jf,boxB_cen]
 unfold qP;rw[E];show qscale _ (dC [((dA.move idM).six / 6,(dA.move idM).cen),((dB.move idM).six / 6,(dB.move idM).cen)])=_;rw[e,i,c1,c2];exact lH (by decide +kernel)
theorem kn_locs:jx (knD dA dB) (qscale (((1:Int):Rat) / ((2:Int):Rat)) (ptQ ⟨1,2,1⟩))=[0,0]:=by
 have j:qscale (((1:Int):Rat) / ((2:Int):Rat)) (ptQ ⟨1,2,1⟩)=⟨1 / 2,1,1 / 2⟩:=lH (by decide +kernel);rw[j];have A:∀d∈[dA,dB],oA d.qs d.fqs d.rns:=fun d e=>by
  simp only[List.mem_cons,List.not_mem_nil,or_false]at e
  rcases e with rfl|rfl
  ·exact(hA.shf 1 ν).off
  ·exact(hB.shf 1 ν).off
 have h:=locs_move jA A ⟨1 / 2,1,1 / 2⟩;rw[np]at h;show jx ([dA,dB].map (ShD.move idM)) _=_;rw[h];obtain⟨-,-,i,-⟩:=hA.eqs (by rw[jg];exact len8.1);obtain⟨-,-,u,-⟩:=hB.eqs (by rw[jf];exact len8.2.1);unfold jx;simp only[List.map_cons,List.map_nil,i,u,jg,jf];rw[boxA_loc,boxB_loc]
end
theorem kn_where:lj [0,0] 2=0/\gS [0,0] 2=[0,1]:=by decide
theorem EdgesOk.all{rs:List (List Nat)}{es:List ED}(h:EdgesOk rs es){p:Nat->Nat->Prop}(i:∀r∈rs,∀s∈cX r,p (dN s).1 (dN s).2):∀x∈es,p x.a x.b:=fun x A=>by
 obtain⟨r,j,s,u,e⟩:=(h.mem x.key).1 (List.mem_map.2 ⟨x,A,rfl⟩);have:=i r j s u;rw[<-e]at this;exact this
theorem EdgesOk.some{rs:List (List Nat)}{es:List ED}(h:EdgesOk rs es){r:List Nat}(i:r∈rs){s:Nat×Nat}(j:s∈cX r):∃x∈es,(x.a,x.b)=dN s:=by
 obtain⟨x,u,e⟩:=List.mem_map.1 ((h.mem (dN s)).2 ⟨r,i,s,j,rfl⟩);exact⟨x,u,e⟩
theorem cubeE{d:ShD}(h:gL gT d):EdgesOk (il qQ) d.es:=by
 have:=(h.eqs (by rw[blkC_pts];exact len8.2.2)).2.2.2
 rwa [blkC_pts]at this
theorem oX{d:ShD}(h:gL gT d):(0<d.es.length/\d.es.length<=4096)/\∀x∈d.es,x.a<gT.N/\x.b<gT.N:=by
 have e:=cubeE h;refine⟨⟨?_,?_⟩,fun x i=>?_⟩
 ·obtain⟨r,j,s,u,-⟩:=boxC_odd.1
  obtain⟨x,i,-⟩:=e.some j u;exact List.length_pos_of_mem i
 ·have:=kA e.small e.nodup
  simpa using this
 ·show x.a<qQ.length/\x.b<qQ.length
  rw[len8.2.2];exact e.all (p:=fun a b=>a<8/\b<8) (by decide +kernel) x i
def hullB(l:List V):Bool:=decide (l.length<=16)&&l.all (fun v=>!far v)&&((List.range l.length).any fun i=>(List.range l.length).any fun j=>(List.range l.length).any fun k=>(List.range l.length).any fun m=>decide (V.dot (tri (ofL l) i j k) (ofL l m-ofL l i)≠0))&&decide ((dJ (ofL l) l.length).length<=16)
theorem sG{l:List V}(h:hullB l=true):j8 (ofL l) l.length=0:=by
 simp only[hullB,Bool.and_eq_true,decide_eq_true_eq,List.all_eq_true,List.any_eq_true,List.mem_range,Bool.not_eq_true']at h;obtain⟨⟨⟨F,e⟩,i,hi,j,A,k,C,m,E,u⟩,G⟩:=h;unfold j8;rw[if_neg I,if_neg (by
  rintro⟨i,hi,h⟩;rw[e _ (oR.2 ⟨i,hi,rfl⟩)]at h;cases h),if_neg (by
  rintro(h|h)
  ·omega
  ·exact h ⟨i,j,k,m,hi,A,C,E,u⟩),if_neg I]
theorem cutC0:CutF gT ⟨1,1,0⟩ 2 0:=by
 refine⟨⟨by unfold Le;decide,by unfold Le;decide,by unfold Le;decide⟩,by decide,by omega,by decide +kernel,by decide +kernel,fun d h=>?_,fun _=>?_⟩
 ·have j:=cubeE h
  have i:∀x∈d.es,fg gT.P ⟨1,1,0⟩ 2 x:=fun x e=>j.all (p:=fun a b=>fg gT.P ⟨1,1,0⟩ 2 ⟨a,b,0,0⟩) (by unfold fg loE upE;decide +kernel) x e
  exact⟨(oX h).1,(oX h).2,fun x e=>.inl (i x e),fun _=>rfl,fun⟨x,e,u⟩=>absurd (i x e) u⟩
 ·exact⟨sG (by decide +kernel),sG (by decide +kernel)⟩
theorem cutC3:CutF gT ⟨2,0,0⟩ 1 3:=by
 refine⟨⟨by unfold Le;decide,by unfold Le;decide,by unfold Le;decide⟩,by decide,by omega,by decide +kernel,by decide +kernel,fun d h=>?_,fun h=>by cases h⟩;have A:=cubeE h;have J:∀x∈d.es,fg gT.P ⟨2,0,0⟩ 1 x\/badE gT.P ⟨2,0,0⟩ 1 x:=fun x u=>A.all (p:=fun a b=>fg gT.P ⟨2,0,0⟩ 1 ⟨a,b,0,0⟩\/badE gT.P ⟨2,0,0⟩ 1 ⟨a,b,0,0⟩) (by unfold fg badE loE upE;decide +kernel) x u
 refine⟨(oX h).1,(oX h).2,J,fun ha=>?_,fun _=>rfl⟩;have G:∃r∈il qQ,∃s∈cX r,¬ fg gT.P ⟨2,0,0⟩ 1 ⟨(dN s).1,(dN s).2,0,0⟩:=by unfold fg loE upE;decide +kernel
 obtain⟨r,H,s,j,i⟩:=G;obtain⟨x,u,e⟩:=A.some H j;refine absurd (ha x u) ?_;have C:x.a=(dN s).1:=congrArg Prod.fst e;have E:x.b=(dN s).2:=congrArg Prod.snd e;intro F;apply i;rw[<-C,<-E];exact F
end
theorem CelR.lit{w:World}{base:Nat}{us:List Value}{j:List (List V)}(hb:base<=w.heap.size)(E:us.length=j.length)(F:us.length<=64)(h:∀(i:Nat) (u:Value) (l:List V),us[i]?=some u->j[i]?=some l->bM w base u l):
 CelR (w.alloc (.cells us.toArray 102)) base (.slice (some ⟨w.heap.size,0,none⟩) us.length us.length) us j:=
 ⟨by have:=World.ownsRow_lit (base:=base) (e:=102) (size:=1) w us.toArray us.length hb (by unfold maxLen;omega) (by simp);simpa using this,E,fun i u l A C=>(h i u l A C).below (β.alloc ρ _)⟩
theorem home_half:oB ⟨0,0,0⟩:=by
 have h:li 0:=by have:=rR (n:=0) (d:=1) ν ν ν;rwa [show iB 0 1=0 by decide +kernel]at this
 exact⟨h,h,h⟩
theorem okQ1:OkQ ⟨1,0,0,0⟩:=OkQ.of ν
theorem RawL.two{a b:Blk}{j:List ShD}(h:RawL [a,b] j):∃e i,j=[e,i]/\gL a e/\gL b i:=by
 match j,h with
 | [e,i],h=>exact⟨e,i,rfl,h.at_ 0 a e rfl rfl,h.at_ 1 b i rfl rfl⟩
 | [],h=>have:=h.len;simp at this
 | [_],h=>have:=h.len;simp at this
 | _::_::_::_,h=>have:=h.len;simp at this
theorem kn_shf{b:Blk}{d:ShD}(h:gL b d):ShF (d.move idM) 1 20000 231928233984:=
 ((h.shf 1 ν).move (D:=1) (S:=0) okQ1 (jC 1 0)).mono ν ν
theorem tF:(dS 3).toArray=#[51]/\(dS 6).toArray=#[54]/\(dS (5 / 6)).toArray=#[53,47,54]/\(dS (1 / 2)).toArray=#[49,47,50]:=by decide +kernel
theorem ql:nG (5 / 6)/\nG (1 / 2):=by unfold nG;decide +kernel
theorem known11_any(w:World)(hT:Tab w)(hV:jh w):Calls prog 7 #[] w fun e w'=>e=.returned (.bool true)/\Bl w w':=by
 have ag:=fun(b:Blk) (v:World) (hb:b.ok)=>nD b v hb
 have HA:=O (fun v=>ag jN v ⟨by decide,fun i=>⟨by show(0:Nat)<256;omega,by show(if i=0 then 1 else 0)<256;split<;>omega⟩⟩);have b7:=O (fun v=>ag jM v ⟨by decide,fun i=>⟨by show(if i=1 then 1 else 0)<256;split<;>omega,by show(0:Nat)<256;omega⟩⟩);have a7:=O (fun v=>ag gT v ⟨by decide,fun i=>⟨by show(0:Nat)<256;omega,by show(1:Nat)<256;omega⟩⟩);obtain⟨HT,HV⟩:=η2 hT hV;clear ag hT hV
 go_enter func7,ntmps7
 go_wp2_with fail
 refine(HA.o _).mono ?_;rintro e w1 ⟨⟨ek,rfl,br⟩,cq⟩;obtain⟨a1,k1,rfl,-⟩:=br.pts;obtain⟨K1,CA⟩:=η2 cq br;clear cq br
 go_wp2_with fail
 refine(b7.o _).mono ?_;rintro e w2 ⟨⟨el,rfl,bs⟩,bm⟩;obtain⟨a2,k2,rfl,-⟩:=bs.pts;obtain⟨K2,b3,b4⟩:=η3 (ae K1.o bm ρ) (CA.o.below bm) bs;clear bm bs CA
 go_upto_region 2 with fail
 obtain⟨A,bI,c1,c2,cr,d5⟩:=bU w2 #[.slice a1 jN.pts.length k1,.slice a2 jM.pts.length k2] #[.string ⟨#[108]⟩,.int .i64 2,.slice (some ⟨w2.heap.size,0,none⟩) 2 2] 102 42;rw[bI];have C:CelR A w.heap.size (.slice (some ⟨w2.heap.size,0,none⟩) 2 2) [.slice a1 jN.pts.length k1,.slice a2 jM.pts.length k2] ([jN,jM].map Blk.pts):=by
  rw[<-bI];refine CelR.below (CelR.lit (us:=[.slice a1 jN.pts.length k1,.slice a2 jM.pts.length k2]) K2.o.size rfl (by simp) (fun i u l L e2=>?_)) (β.alloc ρ _)
  match i with
  | 0=>cases L;cases e2;exact bL.down b3.o ρ
  | 1=>cases L;cases e2;exact bL.down b4.o K1.o.size
  | _+2=>simp at L
 obtain⟨CR,PB,K3⟩:=η3 C c2 (ae K2.o cr ρ);obtain⟨J,b9⟩:=η2 (HT.o.below K3.o HT.o.1) (HV.o.below K3.o);clear bI c1 c2 cr d5 C b3 b4;refine eZ Sh2 7 36 (rest:=1) [isV 0 (.agg #[.string ⟨#[108]⟩,.int .i64 2,.slice (some ⟨w2.heap.size,0,none⟩) 2 2]),isV 1 (.agg (plc ⟨1,0,0,0⟩ ⟨0,0,0⟩)),isP 2 (jl 2 A.heap.size idM [jN,jM]),isP 3 (jl 2 A.heap.size idM [jN,jM]),isP 4 (mM 2 A.heap.size idM [jN,jM]),isV 5 (.int .i64 0),isP 6 (eY Sh2 A.heap.size 36),isS 6 A.heap.size 36 (tY 2 A.heap.size idM [jN,jM])] [6] ?A1 (τ 8 1) Z [0,1,2,3,4,5,6,7] Z Z Z Z Z Z ?st ?st2 ?hA ?hop ?hend
 case hA=>exact cZ
 case st=>repeat (first|exact aq.nil|refine aq.cons isV.stab ?_|refine aq.cons (isP.stab eY.stab) ?_|refine aq.cons (isP.stab jl.stab) ?_|refine aq.cons (isP.stab mM.stab) ?_|refine aq.cons (isP.stab oJ.stab) ?_|refine aq.cons (isS.stab tY.stab) ?_)
 case st2=>repeat (first|exact aY.nil|refine aY.cons isV.stabW ?_|refine aY.cons (isN.stabW (i:=0)) ?_|refine aY.cons (isP.stabW eY.stabW) ?_|refine aY.cons (isP.stabW (jl.stabW ns)) ?_|refine aY.cons (isP.stabW (mM.stabW ns)) ?_|refine aY.cons (isP.stabW (oJ.stabW ν ν)) ?_)
 case hop =>
  refine ai.cons rfl (fun y w' hS hD K hK=>?_) ?_
  ·obtain⟨c0,c1,c2,-⟩:=(PB.o.to hS).three
   go_simp;exact hK.out _ w' hS (bB.old β) isV.put δ
  refine ai.cons rfl (fun y w' hS hD K hK=>?_) ?_
  ·go_simp
   refine(home_any w').mono ?_;rintro e E ⟨rfl,hb⟩;exact hK.out _ E (ae hS hb ρ) (bB.old hb) isV.put δ
  refine ai.cons rfl (fun y w' hS hD K hK=>?_) ?_
  ·simp only[isV.get (hD 0 Z),isV.get (hD 1 Z)]at hK⊢
   go_simp;refine(sof_any ⟨#[108]⟩ 2 _ _ [jN,jM] ⟨1,0,0,0⟩ ⟨0,0,0⟩ 1 0 w.heap.size w' ⟨by omega,by omega⟩ (.inr ⟨jN,jM,rfl,by decide⟩) (CR.o.below hS) (J.o.below hS J.o.1) (b9.o.below hS) okQ1 home_half ⟨by omega,by omega⟩ (jC 1 0) I).mono ?_
   rintro e E ⟨⟨v,vs,ds,rfl,hl,F⟩,hb⟩;exact hK.out _ E (ae hS hb ρ) (bB.old hb) (isP.put ⟨_,rfl,vs,ds,hl.down hS.size,F⟩) δ
  refine ai.cons rfl (fun y w' hS hD K hK=>?_) ?_
  ·obtain⟨v,H,F⟩:=isP.get (p:=jl 2 A.heap.size idM [jN,jM]) (hD 2 Z)
   simp only[H]at hK⊢;go_simp;exact hK.out _ w' hS (bB.old β) (isP.put ⟨v,rfl,F⟩) δ
  refine ai.cons rfl (fun y w' hS hD K hK=>?_) ?_
  ·obtain⟨v,H,F⟩:=isP.get (p:=jl 2 A.heap.size idM [jN,jM]) (hD 3 Z)
   simp only[H]at hK⊢;go_simp;exact hK.out _ w' hS (bB.old β) (isP.put ⟨v,rfl,F⟩) δ
  refine ai.cons rfl (fun y w' hS hD K hK=>?_) ?_
  ·obtain⟨v,H,F⟩:=isP.get (p:=jl 2 A.heap.size idM [jN,jM]) (hD 3 Z)
   simp only[H]at hK⊢;go_simp;exact hK.out _ w' hS (bB.old β) isV.put δ
  refine ai.cons rfl (fun y w' hS hD K hK=>?_) ?_
  ·go_simp
   exact hK.out _ _ (hS.alloc hS.size _) (bB.old (β.alloc ρ _)) (isP.put ⟨_,_,rfl,hS.size,⟨_,_,rfl⟩,Box.new _ _ _ _ rfl⟩) (fun _ j hj d0 _=>absurd (List.mem_singleton.1 hj) d0)
  refine ai.cons rfl (fun y w' hS hD K hK=>?_) ?_
  ·obtain⟨v,H,F⟩:=isP.get (p:=mM 2 A.heap.size idM [jN,jM]) (hD 4 Z)
   obtain⟨ga,_,ea,ap,⟨_,_,rfl⟩,af⟩:=isP.get (i:=6) (p:=eY Sh2 A.heap.size 36) (hD 6 Z);simp only[H,ea]at hK⊢;obtain⟨a,n,k,rfl⟩:=F.sl;refine bJ ?_;refine wp_store_row 36 _ _ rfl ga #[.int .i64 2,.slice a n k] rfl rfl 36 _ af mx rfl (by simp[Value.oneCell']) ?_;exact hK.out undef _ (hS.grown (bq w' ga _) hS.size (fun g e=>by cases e;exact ap)) (bB.new (Wr.row ap af ⟨_,_,rfl⟩)) (isS.put ν ea ap (cT af _) ⟨_,rfl,F.wr ns (Wr.row (Sh:=Sh2) ap af ⟨_,_,rfl⟩)⟩) δ
  exact ai.nil
 case hend =>
  intro y w' hS hR hF;have e5:=isV.get (hR 5 Z);simp only[e5];obtain⟨gs,_,cm,dz,bk,vs,rfl,d4⟩:=isS.get (i:=6) (n:=A.heap.size) (t:=36) (p:=tY 2 A.heap.size idM [jN,jM]) (hR 7 Z);simp only[cm];refine aL (i:=8) (listed2:=τ 9 0) Z rfl Z (fun K hK=>?_);go_simp;refine hK.out _ _ ?_;clear hK K;refine aP Z ?_;obtain⟨vs,ds,bF,az⟩:=d4;obtain⟨dA,dB,rfl,an,ao⟩:=az.two;obtain⟨sg,cV,-,rfl,-⟩:=bF.at_ 0 (dA.move idM) rfl;obtain⟨w4,rfl⟩:=φ w';obtain⟨SB,SL,RA,RB,K4,a9⟩:=η6 bk (show ShL w4 A.heap.size _ vs (knD dA dB)from bF) an ao (ae K3.o hS ρ) (J.o.below hS J.o.1);have HF:=O (show ∀d∈knD dA dB,ShF d 1 20000 231928233984 from fun d hd=>by
   unfold knD at hd;simp only[List.mem_cons,List.not_mem_nil,or_false]at hd
   rcases hd with rfl|rfl
   ·exact kn_shf an
   ·exact kn_shf ao)
  have bz:=kn_locs an ao;have bu:=fun v=>half11_any ⟨1,2,1⟩ v ⟨by unfold Le;decide,by unfold Le;decide,by unfold Le;decide⟩
  have bt:BdV 100 (qscale (((1:Int):Rat) / ((2:Int):Rat)) (ptQ ⟨1,2,1⟩)):=(BdV.qscale bd_half (jG (p:=⟨1,2,1⟩) ⟨by unfold Le;decide,by unfold Le;decide,by unfold Le;decide⟩)).mono I;obtain⟨hp,bv⟩:∃p,qscale (((1:Int):Rat) / ((2:Int):Rat)) (ptQ ⟨1,2,1⟩)=p:=ξ;rw[bv]at bz bt;simp only[bv]at bu;obtain⟨b8,c7,c6⟩:=η3 bz bu bt;obtain⟨x0,x1,-⟩:=bk.two;clear hS hR hF e5 cm bk bF az dz an ao bz bu bt bv PB CR J b9 HA b7
  go_upto_region 5 with fail
  clear x0 x1;refine aU (rest:=1) [isV 0 (.agg #[.int .i64 2,.slice (some ⟨sg,0,none⟩) 2 cV]),isP 1 (fun u w=>am w u hp),isP 2 (ug 0 w4.heap.size [0,1]),isP 3 (ug 0 w4.heap.size [0,1]),isV 4 (.int .i64 0),isP 5 (fun u w=>bo w w4.heap.size u [0,1]),isV 6 (.int .i64 0)] [] ?A2 (τ 7 1) Z [0,1,2,3,4,5,6] Z Z Z Z Z Z ?st ?hA ?hop ?hend
  case hA=>exact cZ
  case st=>repeat (first|exact aq.nil|refine aq.cons isV.stab ?_|refine aq.cons (isP.stab ug.stab) ?_|refine aq.cons (isP.stab own_stab) ?_|refine aq.cons (isP.stab (fun _ _ _ h hv=>hv.below h)) ?_)
  case hop =>
   refine ai.cons rfl (fun y w' hS hD K hK=>?_) ?_
   ·obtain⟨c0,c1,-⟩:=(SB.o.to hS).two
    go_simp;exact hK.out _ w' hS β isV.put δ
   refine ai.cons rfl (fun y w' hS hD K hK=>?_) ?_
   ·go_simp
    refine(c7.o w').mono ?_;rintro e E ⟨⟨v,rfl,hv⟩,hb⟩;exact hK.out v E (ae hS hb ρ) hb (isP.put hv) δ
   refine ai.cons rfl (fun y w' hS hD K hK=>?_) ?_
   ·have L:=isP.get (p:=fun u w=>am w u hp) (hD 1 Z)
    simp only[isV.get (hD 0 Z)]at hK⊢;go_simp;refine(sloc_any 2 _ _ vs (knD dA dB) hp 1 20000 231928233984 A.heap.size w' (SL.o.below hS) ⟨Nat.succ_pos 1,by show 2<=1000;omega⟩ HF.o I I I L c6.o).mono ?_;rintro e E ⟨⟨v,rfl,hv⟩,hb⟩;rw[b8.o]at hv⊢;have cB:bo E _ v (gS [0,0] 2):=hv;rw[kn_where.2]at cB;rw[show lj [0,0] (knD dA dB).length=0 from kn_where.1];exact hK.out _ E (ae hS hb ρ) hb (isP.put ⟨v,rfl,bX cB hS.size⟩) δ
   refine ai.cons rfl (fun y w' hS hD K hK=>?_) ?_
   ·obtain⟨v,H,F⟩:=isP.get (p:=ug 0 w4.heap.size [0,1]) (hD 2 Z)
    simp only[H]at hK⊢;go_simp;exact hK.out _ w' hS β (isP.put ⟨v,rfl,F⟩) δ
   refine ai.cons rfl (fun y w' hS hD K hK=>?_) ?_
   ·obtain⟨v,H,F⟩:=isP.get (p:=ug 0 w4.heap.size [0,1]) (hD 3 Z)
    simp only[H]at hK⊢;go_simp;exact hK.out _ w' hS β isV.put δ
   refine ai.cons rfl (fun y w' hS hD K hK=>?_) ?_
   ·obtain⟨v,H,F⟩:=isP.get (p:=ug 0 w4.heap.size [0,1]) (hD 3 Z)
    simp only[H]at hK⊢;go_simp;exact hK.out _ w' hS β (isP.put F) δ
   refine ai.cons rfl (fun y w' hS hD K hK=>?_) ?_
   ·simp only[isV.get (hD 4 Z)]at hK⊢
    go_simp;exact hK.out _ w' hS β isV.put δ
   exact ai.nil
  case hend =>
   intro y w' hS hR hF;have e4:=isV.get (hR 4 Z);obtain⟨vo,bl⟩:∃v,y 5=v:=ξ;have ho:=isP.get (i:=5) (p:=fun u w=>bo w w4.heap.size u [0,1]) (hR 5 Z);rw[bl]at ho;have e6:=isV.get (hR 6 Z);obtain⟨la,lc,rfl,-⟩:=ho.ints;simp only[e4,bl,e6];refine aL (i:=7) (listed2:=τ 8 0) Z rfl Z (fun K hK=>?_);go_simp;refine hK.out _ _ ?_;clear hK K;refine aP Z ?_;obtain⟨w5,rfl⟩:=φ w';obtain⟨K5,L5,ad,G,bg⟩:=η5 (ae K4.o hS ρ) (Below.refl w5.heap.size w5) (a9.o.below hS a9.o.1) (SB.o.to hS) (SL.o.below hS);have ba:=O (show mJ (knD dA dB) 1 20000 231928233984 from⟨⟨Nat.succ_pos 1,by show 2<=1000;omega⟩,HF.o,by omega,by omega⟩);obtain⟨a8,c8⟩:=η2 (kn_vol RA.o RB.o) (kn_cen RA.o RB.o);have da:=O (show ∀d∈knD dA dB,d.six≠0 from fun d hd=>by
    obtain⟨h1,h2⟩:=kn_six RA.o RB.o;unfold knD at hd;simp only[List.mem_cons,List.not_mem_nil,or_false]at hd
    rcases hd with rfl|rfl
    ·rw[h1];decide
    ·rw[h2];decide)
   clear hS hR hF ho e4 e6 bl SB SL b8 HT a9 HV K1 K2 K3 K4
   go_wp2_with fail
   refine(a7.o _).mono ?_;rintro e w6 ⟨⟨ej,rfl,hc⟩,hb⟩;obtain⟨a6,k6,rfl,-⟩:=hc.pts;obtain⟨L6,b5⟩:=η2 (ae L5.o hb ρ) hc;clear hb hc
   go_wp2_with fail
   obtain⟨w7,bV,c1,cs,d6⟩:=aB w6 #[.slice a6 gT.pts.length k6] 102;rw[bV];have C:CelR w7 w5.heap.size (.slice (some ⟨w6.heap.size,0,none⟩) 1 1) [.slice a6 gT.pts.length k6] [gT.pts]:=by
    rw[<-bV];refine CelR.lit (us:=[.slice a6 gT.pts.length k6]) L6.o.size rfl (by simp) (fun i u l L e2=>?_)
    match i with
    | 0=>cases L;cases e2;exact bL.down b5.o L5.o.size
    | _+1=>simp at L
   obtain⟨L7,b6⟩:=η2 (ae L6.o cs ρ) C;clear bV c1 cs d6 C;refine(cut_any ⟨#[]⟩ 1 _ _ gT ⟨1,1,0⟩ 2 0 w5.heap.size w7 ⟨by omega,by omega⟩ b6.o (ad.o.below L7.o ad.o.1) cutC0).mono ?_;rintro e w8 ⟨(⟨-,cg,cp,ca,cn,cc,rfl,cv,cu,cy⟩|⟨h,-⟩),hb8⟩
   case inr=>cases h
   have e6:cn=6:=cy.trans (by decide +kernel);subst e6;obtain⟨L8,CG,CC⟩:=η3 (ae L7.o hb8 ρ) cv cu;clear hb8 cv cu cy
   go_upto_region 7 with fail
   obtain⟨w9,cD,c9,bp,d7⟩:=aB w8 #[.string ⟨#[]⟩,.int .i64 1,.slice (some ⟨cg,0,none⟩) 2 cp] 42;obtain⟨L9,c5,M9⟩:=η3 (ae L8.o bp ρ) (show ∀v,Bl w9 v->Box v w8.heap.size #[.string ⟨#[]⟩,.int .i64 1,.slice (some ⟨cg,0,none⟩) 2 cp] 42/\v.cell? ⟨cg,0,none⟩=some (.slice ca 6 cc)from fun v h=>⟨c9.to h,((ae bp h ρ).cell (p:=⟨cg,0,none⟩) CG.o).trans CC.o⟩) (Below.refl w9.heap.size w9);rw[cD];clear cD c9 bp d7 CG CC
   go_wp2_with fail
   refine(a7.o _).mono ?_;rintro e c3 ⟨⟨ei,rfl,hc⟩,hb⟩;obtain⟨bi,b0,rfl,-⟩:=hc.pts;obtain⟨cd,ar,de⟩:=η3 (ae L9.o hb ρ) hc (ae M9.o hb ρ);clear hb hc
   go_wp2_with fail
   obtain⟨c4,ac,c1,Q,cF⟩:=aB c3 #[.slice bi gT.pts.length b0] 102;rw[ac];have C:CelR c4 w5.heap.size (.slice (some ⟨c3.heap.size,0,none⟩) 1 1) [.slice bi gT.pts.length b0] [gT.pts]:=by
    rw[<-ac];refine CelR.lit (us:=[.slice bi gT.pts.length b0]) cd.o.size rfl (by simp) (fun i u l L e2=>?_)
    match i with
    | 0=>cases L;cases e2;exact bL.down ar.o L9.o.size
    | _+1=>simp at L
   obtain⟨ce,au,dk⟩:=η3 (ae cd.o Q ρ) C (ae de.o Q ρ);clear ac c1 Q cF C;refine(cut_any ⟨#[]⟩ 1 _ _ gT ⟨2,0,0⟩ 1 3 w5.heap.size c4 ⟨by omega,by omega⟩ au.o (ad.o.below ce.o ad.o.1) cutC3).mono ?_;rintro e d8 ⟨(⟨h,-⟩|⟨-,rfl⟩),hb12⟩
   case inl=>cases h
   obtain⟨db,dl⟩:=η2 (ae ce.o hb12 ρ) (ae dk.o hb12 ρ);clear hb12
   go_upto_region 8 with fail
   obtain⟨d9,a0,dy,R,cU⟩:=aB d8 #[.string ⟨#[]⟩,.int .i64 0,.slice none 0 0] 42;rw[a0];obtain⟨bc,dm⟩:=η2 (ae db.o R ρ) (ae dl.o R ρ);have em:=eqPoint ⟨#[53,47,54]⟩ ⟨#[53,47,54]⟩ ⟨#[49,47,50]⟩;obtain⟨x0,x1,-⟩:=(G.o.to bc.o).two;clear a0 dy R cU b6 au b5 ar a7
   go_wp2_with fail
   refine(l8 2 _ vs (knD dA dB) 1 20000 231928233984 A.heap.size d9 (bg.o.below bc.o) ba.o).mono ?_;rintro e eb ⟨⟨en,rfl,Y⟩,av⟩;rw[a8.o]at Y;obtain⟨ch,a3⟩:=η2 Y av;clear Y av x0 x1
   go_wp2_with fail
   refine(ip _ 3 eb ch.o ν ν ν).mono ?_;rintro e ec ⟨rfl,U⟩;rw[tF.1];obtain⟨be,du⟩:=η2 (ae bc.o (ae a3.o U ρ) ρ) (ae dm.o (ae a3.o U ρ) ρ);obtain⟨x0,x1,-⟩:=(G.o.to be.o).two;clear U a3 ch
   go_wp2_with fail
   refine(rU 2 _ vs (knD dA dB) 1 20000 231928233984 A.heap.size ec ⟨by omega,by omega⟩ (bg.o.below be.o) ba.o).mono ?_;rintro e ed ⟨⟨eo,rfl,aa⟩,aw⟩;rw[a8.o,show((2:Int):Rat)*3=6 by decide +kernel]at aa;obtain⟨ci,a4⟩:=η2 aa aw;clear aa aw x0 x1
   go_wp2_with fail
   refine(ip _ 6 ed ci.o ν ν ν).mono ?_;rintro e ee ⟨rfl,W⟩;rw[tF.2.1];obtain⟨bf,dv⟩:=η2 (ae be.o (ae a4.o W ρ) ρ) (ae du.o (ae a4.o W ρ) ρ);obtain⟨x0,x1,-⟩:=(G.o.to bf.o).two;clear W a4 ci
   go_wp2_with fail
   refine(sCen_any 2 _ vs (knD dA dB) 1 20000 231928233984 A.heap.size ee (bg.o.below bf.o) ba.o da.o (by rw[a8.o];decide)).mono ?_;rintro e ef ⟨⟨ep,rfl,ab⟩,ay⟩;rw[c8.o]at ab;obtain⟨cl,a5⟩:=η2 ab ay;clear ab ay x0 x1
   go_wp2_with fail
   refine(point_any _ ⟨5 / 6,5 / 6,1 / 2⟩ ef cl.o ql.1 ql.1 ql.2).mono ?_;rintro e eg ⟨rfl,X⟩;rw[tF.2.2.1,tF.2.2.2];obtain⟨dd,dx⟩:=η2 (ae bf.o (ae a5.o X ρ) ρ) (ae dv.o (ae a5.o X ρ) ρ);obtain⟨cb,x6⟩:=c5.o _ dx.o;have x5:eg.cell? ⟨w8.heap.size,2,none⟩=some (.slice (some ⟨cg,0,none⟩) 2 cp):=cb.cell 2;clear X a5 cl cb
   go_wp2_with fail
   exact bodyPost_ret (results_tmp results7 _ _ _) rfl ⟨rfl,ae K5.o dd.o ρ⟩
end Go.Proofs.Υ
