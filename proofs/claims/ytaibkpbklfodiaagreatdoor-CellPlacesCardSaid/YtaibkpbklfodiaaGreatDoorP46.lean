/- Package motion: Of. Printed by gen/mof.py. The law's moved: a rotation and a shift. Printed by gen/moved.py. The law CellPlaces, but for the first example. Printed by gen/places.py. -/
import Derived.Test.YtaibkpbklfodiaaGreatDoorP44
import Derived.Test.YtaibkpbklfodiaaGreatDoorP45
import Derived.Test.YtaibkpbklfodiaaGreatDoorP37
import Derived.Test.YtaibkpbklfodiaaGreatDoorP35
import Derived.Test.YtaibkpbklfodiaaGreatDoorP32
set_option linter.all false
set_option maxHeartbeats 100000000
section
namespace Dowel
open Go Go.RowKit Go.Proofs.Υ
def setL (cs:Array Value):Nat→List Value→Array Value
 | _,[]=>cs
 | o,v :: l=>setL (cs.setIfInBounds o v) (o+1) l
theorem Box.setL {g:Nat} {t:TypeId}:∀ (l:List Value) {w:World} {cs:Array Value} (o:Nat),Box w g cs t→Box (w.setCells g o l) g (Dowel.setL cs o l) t
 | [],_,_,_,h=>h
 | _ :: l,_,_,o,h=>Box.setL l (o+1) (h.set o _)
theorem gg {g:Nat}:∀ (l:List Value) {w:World} (o:Nat),w.grownBy (w.setCells g o l) (some g)
 | [],_,_=>World.grownBy.refl _ _
 | v :: l,w,o=>(bS w g o v).trans (gg l (o+1))
theorem zero48:aC (RC.zero,RC.zero,RC.zero) (RC.zero,RC.zero,RC.zero) (RC.zero,RC.zero,RC.zero) (RC.zero,RC.zero,RC.zero)=#[.bool false,.slice none 0 0,.bool false,.slice none 0 0,.bool false,.slice none 0 0,.bool false,.slice none 0 0,.bool false,.slice none 0 0,.bool false,.slice none 0 0,.bool false,.slice none 0 0,.bool false,.slice none 0 0,.bool false,.slice none 0 0,.bool false,.slice none 0 0,.bool false,.slice none 0 0,.bool false,.slice none 0 0,.bool false,.slice none 0 0,.bool false,.slice none 0 0,.bool false,.slice none 0 0,.bool false,.slice none 0 0,.bool false,.slice none 0 0,.bool false,.slice none 0 0,.bool false,.slice none 0 0,.bool false,.slice none 0 0,.bool false,.slice none 0 0,.bool false,.slice none 0 0,.bool false,.slice none 0 0,.bool false,.slice none 0 0]:=rfl
def z3:RC × RC × RC:=(RC.zero,RC.zero,RC.zero)
def nO (w:World) (g k:Nat) (m:Mo):Prop:=∃ a b c s,Box w g (aC a b c s) 89∧(0<k→aA w (rc3 a) m.a)∧(1<k→aA w (rc3 b) m.b)∧(2<k→aA w (rc3 c) m.c)∧aA w (rc3 s) m.s
theorem nO.below {w w':World} {g k:Nat} {m:Mo} (h:nO w g k m) (hb:Below w.heap.size w w'):nO w' g k m:=by
 obtain ⟨a,b,c,s,h0,h1,h2,h3,h4⟩:=h;exact ⟨a,b,c,s,h0.below hb h0.lt,fun h=>(h1 h).below hb,fun h=>(h2 h).below hb,fun h=>(h3 h).below hb,h4.below hb⟩
theorem Box.there48 {w:World} {g:Nat} {a b c s:RC × RC × RC} {t:TypeId} (h:Box w g (aC a b c s) t) {k:Nat} (hk:k<3):w.there g (k*12) 12:=fun j hj=>by
 rw [h.cell];refine ⟨?_,h.free _⟩;rw [Array.getElem?_eq_getElem (by rw [qh];omega)];rfl
theorem setL_row (a b c s r:RC × RC × RC):setL (aC a b c s) 0 (bO r)=aC r b c s∧setL (aC a b c s) 12 (bO r)=aC a r c s∧setL (aC a b c s) 24 (bO r)=aC a b r s:=by
 have h0:setL (aC a b c s) 0 (bO r)=aC r b c s:=by kernel_rfl
 have h1:setL (aC a b c s) 12 (bO r)=aC a r c s:=by kernel_rfl
 have h2:setL (aC a b c s) 24 (bO r)=aC a b r s:=by kernel_rfl
 exact ⟨h0,h1,h2⟩
theorem nO.put {w:World} {g k:Nat} {m:Mo} (h:nO w g k m) (hk:k<3) {r:RC × RC × RC} (hr:aA w (rc3 r) (m.row k)):nO (w.setCells g (k*12) (bO r)) g (k+1) m:=by
 obtain ⟨a,b,c,s,h0,h1,h2,h3,h4⟩:=h;have hb:=h0.setL (bO r) (k*12);have hg:=gg (g:=g) (bO r) (w:=w) (k*12);have hl:=dR h0 ν;have h5:=hk;obtain ⟨e0,e1,e2⟩:=setL_row a b c s r;obtain rfl | rfl | rfl:k=0∨k=1∨k=2:=ω
 ·rw [Nat.zero_mul,e0] at hb
  exact ⟨r,b,c,s,hb,fun _=>hr.grown hg hl,fun h=>absurd h ω,fun h=>absurd h ω,h4.grown hg hl⟩
 ·rw [Nat.one_mul,e1] at hb
  exact ⟨a,r,c,s,hb,fun _=>(h1 ω).grown hg hl,fun _=>hr.grown hg hl,fun h=>absurd h ω,h4.grown hg hl⟩
 ·rw [show 2*12=24 from rfl,e2] at hb
  exact ⟨a,b,r,s,hb,fun _=>(h1 ω).grown hg hl,fun _=>(h2 ω).grown hg hl,fun _=>hr.grown hg hl,h4.grown hg hl⟩
def RetMotE (w:World) (e:Ending) (m:Mo):Prop:=∃ v,e=.returned (.tuple #[v,.int .i64 0])∧IsMot w v m
def row9 (q:Q4):Array Value:=#[.int .i64 (q.row 0).x,.int .i64 (q.row 0).y,.int .i64 (q.row 0).z,.int .i64 (q.row 1).x,.int .i64 (q.row 1).y,.int .i64 (q.row 1).z,.int .i64 (q.row 2).x,.int .i64 (q.row 2).y,.int .i64 (q.row 2).z]
theorem row_le {q:Q4} (h:∀ i,(q.at i).natAbs≤3) (i:Nat):LeV 36 (q.row i):=by
 have p:∀ x y,-9≤q.at x*q.at y∧q.at x*q.at y≤9:=fun x y=>sq_le (h x) (h y)
 have aa:=p 0 0;have bb:=p 1 1;have cc:=p 2 2;have dd:=p 3 3;have ab:=p 0 1;have ac:=p 0 2;have ad:=p 0 3;have bc:=p 1 2;have bd:=p 1 3;have cd:=p 2 3;simp only [Q4.at] at aa bb cc dd ab ac ad bc bd cd;clear p;unfold LeV Le
 match i with
 | 0=>simp only [Q4.row];omega
 | 1=>simp only [Q4.row];omega
 | _+2=>simp only [Q4.row];omega
theorem fE (a b c s:RC × RC × RC):(aC a b c s).all (·.oneCell')=true:=by kernel_rfl
theorem cR (w:World) (g:Nat) (cs:Array Value):w.grownBy (w.setRow g cs) (some g):=by
 refine ⟨rfl,rfl,rfl,by unfold World.setRow;simp,fun i hi hn=>?_⟩;unfold World.setRow;rw [Array.getElem?_modify,if_neg (fun e=>hn (by rw [e]))]
theorem en {w:World} {g:Nat} {cs:Array Value} {t:TypeId} (h:Box w g cs t) (cs':Array Value):Box (w.setRow g cs') g cs' t:=setRow_heap w g cs cs' t (0,0) h
theorem MotR.grown {w w':World} {a b c s:RC × RC × RC} {m:Mo} (h:MotR w a b c s m) {row:Option Nat} (hg:w.grownBy w' row) (hr:nP w row):MotR w' a b c s m:=⟨h.a.grown hg hr,h.b.grown hg hr,h.c.grown hg hr,h.s.grown hg hr⟩
theorem motQ_row (q:Q4) (s:Q3) (k:Nat):(fz q s).row k=qscale (1 / (q.sq:Rat)) (ptQ (q.row k)):=by
 match k with
 | 0=>rfl
 | 1=>rfl
 | _+2=>rfl
end Dowel
namespace Go.Proofs.Υ
open Go.RowKit Dowel
theorem pT:(Tryz.prog.info? 153).map (·.size)=some 7:=by kernel_rfl
theorem info9:(Tryz.prog.info? 200).map (·.size)=some 9:=by kernel_rfl
theorem build_mot (s0 s1 s2:RC) (w:World):(Instr.build 89 #[(1,.agg (ah s0 s1 s2))]).run Tryz.prog w=.ok (.agg (aC z3 z3 z3 (s0,s1,s2))) w:=by kernel_rfl
theorem kG {ops:Array Oper} {rest:List Oper} {o:Oper} {a:Act} {w:World} {Q:Exit→Act→World→Prop} (hgd:o.guard=none) (x:Operand) (s0 s1 s2:RC) (ho:o.op=.build 89 #[(1,x)]) (hx:a.eval x=.agg (ah s0 s1 s2))
  (h:wpList Tryz.prog ops Q rest (a.put o.dst (.agg (aC z3 z3 z3 (s0,s1,s2)))) w):wpList Tryz.prog ops Q (o :: rest) a w:=
 wpList_plain hgd fun K hK=>by
  unfold Oper.wp execOp;simp only [ho,Sem.run_bind,Sem.run_pure,Result.andThen_ok,List.map_toArray,List.map_cons,List.map_nil,hx,build_mot];exact hK _ _ h
theorem info45:(Tryz.prog.info? 45).map (·.size)=some 3:=by kernel_rfl
theorem index_m3 (q:Q4) (k:Nat) (hk:k<3) (w:World):(Instr.index 200 (.agg (row9 q)) (.int .i64 (k:Nat))).run Tryz.prog w=.ok (bX (q.row k)) w:=by
 have h0:∀ w,(Instr.index 200 (.agg (row9 q)) (.int .i64 0)).run Tryz.prog w=.ok (bX (q.row 0)) w:=fun _=>by kernel_rfl
 have h1:∀ w,(Instr.index 200 (.agg (row9 q)) (.int .i64 1)).run Tryz.prog w=.ok (bX (q.row 1)) w:=fun _=>by kernel_rfl
 have h2:∀ w,(Instr.index 200 (.agg (row9 q)) (.int .i64 2)).run Tryz.prog w=.ok (bX (q.row 2)) w:=fun _=>by kernel_rfl
 obtain rfl | rfl | rfl:k=0∨k=1∨k=2:=ω
 ·exact h0 w
 ·exact h1 w
 ·exact h2 w
set_option maxRecDepth 20000
theorem mof_any (q:Q4) (sh:Q3) (w:World) (hV:ic w) (hq:OkQ q) (hs:lT sh) :
  Calls Tryz.prog 86 #[.agg (plc q sh)] w fun e w'=>RetMotE w' e (fz q sh)∧Below w.heap.size w w':=by
 obtain ⟨W,hW,b1,b2,hB,hS⟩:=da w (plc q sh) (aC z3 z3 z3 z3) 153 89;have HB:=η hB;have HSZ:=η hS;have B1:=η b1;have B2:=η b2;have hbb:0<W.heap.size:=ω;have HCH:=η (mX q sh W (hV.below hB) hq.le hs);have HVP:=η (fun w' (h:Below W.heap.size W w')=>mq sh w' ((hV.below hB).below h) hs);have HQ:=η hq;have HCK:=η hq.chk;clear hB b1 b2 hS hV hs;unfold z3 at hW;rw [zero48] at hW
 go_enter Tryz.func86,Tryz.ntmps86
 unfold plc at hW ⊢
 go_wp2_with (refine aq rfl _ _ rfl w.heap.size 0 rfl (plc q sh) _ (fun j hj=>B1.out.whole j hj) Tryz.underlying153 rfl pT ?_)
 refine HCH.out.mono ?_;rintro e w1 ⟨rfl,hb1⟩;rw [HCK.out];have C1:=η (B1.out.below hb1 B1.out.lt);have C2:=η (B2.out.below hb1 B2.out.lt);have HL1:=η hb1;have HB1:=η (ae HB.out hb1 (ψ HSZ.out));clear hb1
 go_wp2_with (refine aq rfl _ _ rfl w.heap.size 4 rfl (ptS sh) _ (fun j hj=>C1.out.shift3 j hj) Tryz.underlying107 rfl g9 ?_)
 refine (HVP.out _ HL1.out).mono ?_;rintro e w2 ⟨⟨v,rfl,hv⟩,hb2⟩;obtain ⟨s0,s1,s2,rfl,hsv⟩:=hv.rcv;have C3:=η (C1.out.below hb2 C1.out.lt);have C4:=η (C2.out.below hb2 C2.out.lt);have HB2:=η (ae HB1.out hb2 (by have:=HSZ.out;have:=HB1.out.size;omega));have SV:=η hsv;clear hb2 hv hsv
 go_upto_region 5 with (refine aB rfl _ _ _ rfl _ (ah s0 s1 s2) rfl rfl aK rfl (bU s0 s1 s2) ?_)
 obtain ⟨w3,hw3,b3,hb3,hs3⟩:=aG w2 (ah s0 s1 s2) 58;rw [hw3];have C5:=η (C3.out.below hb3 C3.out.lt);have C6:=η (C4.out.below hb3 C4.out.lt);have S3:=η b3;have SV3:=η (SV.out.below hb3);have HB3:=η (ae HB2.out hb3 ρ);obtain ⟨x0,x1,x2,x3⟩:w3.cell? ⟨w.heap.size,0,none⟩=some (.int .i64 q.a)∧w3.cell? ⟨w.heap.size,1,none⟩=some (.int .i64 q.b)∧w3.cell? ⟨w.heap.size,2,none⟩=some (.int .i64 q.c)∧w3.cell? ⟨w.heap.size,3,none⟩=some (.int .i64 q.d):=⟨C5.out.cell 0,C5.out.cell 1,C5.out.cell 2,C5.out.cell 3⟩;clear hw3 b3 hb3 hs3
 go_quiet (fail)
 have hd:Below w3.heap.size w3 (w3.drewN nq):=aJ β nq;generalize w3.drewN nq=w4 at *;have HB4:=η (ae HB3.out hd ρ);have D2:=η (C6.out.below hd C6.out.lt);have S4:=η (S3.out.below hd S3.out.lt);have SV4:=η (SV3.out.below hd);clear hd x0 x1 x2 x3;have p:∀ x y,-9≤q.at x*q.at y∧q.at x*q.at y≤9:=HQ.out.prods;have aa:=p 0 0;have bb:=p 1 1;have cc:=p 2 2;have dd:=p 3 3;have ab:=p 0 1;have ac:=p 0 2;have ad:=p 0 3;have bc:=p 1 2;have bd:=p 1 3;have cd:=p 2 3;simp only [Q4.at] at aa bb cc dd ab ac ad bc bd cd;have k0:wrap64 (q.a*q.a)=q.a*q.a:=IntWalk.wrap64_in _ ⟨by omega,by omega⟩;have k1:wrap64 (q.b*q.b)=q.b*q.b:=IntWalk.wrap64_in _ ⟨by omega,by omega⟩;have k2:wrap64 (q.c*q.c)=q.c*q.c:=IntWalk.wrap64_in _ ⟨by omega,by omega⟩;have k3:wrap64 (q.d*q.d)=q.d*q.d:=IntWalk.wrap64_in _ ⟨by omega,by omega⟩;have k4:wrap64 (q.b*q.c)=q.b*q.c:=IntWalk.wrap64_in _ ⟨by omega,by omega⟩;have k5:wrap64 (q.a*q.d)=q.a*q.d:=IntWalk.wrap64_in _ ⟨by omega,by omega⟩;have k6:wrap64 (q.b*q.d)=q.b*q.d:=IntWalk.wrap64_in _ ⟨by omega,by omega⟩;have k7:wrap64 (q.a*q.c)=q.a*q.c:=IntWalk.wrap64_in _ ⟨by omega,by omega⟩;have k8:wrap64 (q.c*q.d)=q.c*q.d:=IntWalk.wrap64_in _ ⟨by omega,by omega⟩;have k9:wrap64 (q.a*q.b)=q.a*q.b:=IntWalk.wrap64_in _ ⟨by omega,by omega⟩;have k10:wrap64 (q.a*q.a+q.b*q.b)=q.a*q.a+q.b*q.b:=IntWalk.wrap64_in _ ⟨by omega,by omega⟩;have k11:wrap64 (q.a*q.a+q.b*q.b - q.c*q.c)=q.a*q.a+q.b*q.b - q.c*q.c:=IntWalk.wrap64_in _ ⟨by omega,by omega⟩;have k12:wrap64 (q.a*q.a+q.b*q.b - q.c*q.c - q.d*q.d)=q.a*q.a+q.b*q.b - q.c*q.c - q.d*q.d:=IntWalk.wrap64_in _ ⟨by omega,by omega⟩;have k13:wrap64 (q.b*q.c - q.a*q.d)=q.b*q.c - q.a*q.d:=IntWalk.wrap64_in _ ⟨by omega,by omega⟩;have k14:wrap64 (q.b*q.d+q.a*q.c)=q.b*q.d+q.a*q.c:=IntWalk.wrap64_in _ ⟨by omega,by omega⟩;have k15:wrap64 (q.b*q.c+q.a*q.d)=q.b*q.c+q.a*q.d:=IntWalk.wrap64_in _ ⟨by omega,by omega⟩;have k16:wrap64 (q.a*q.a - q.b*q.b)=q.a*q.a - q.b*q.b:=IntWalk.wrap64_in _ ⟨by omega,by omega⟩;have k17:wrap64 (q.a*q.a - q.b*q.b+q.c*q.c)=q.a*q.a - q.b*q.b+q.c*q.c:=IntWalk.wrap64_in _ ⟨by omega,by omega⟩;have k18:wrap64 (q.a*q.a - q.b*q.b+q.c*q.c - q.d*q.d)=q.a*q.a - q.b*q.b+q.c*q.c - q.d*q.d:=IntWalk.wrap64_in _ ⟨by omega,by omega⟩;have k19:wrap64 (q.c*q.d - q.a*q.b)=q.c*q.d - q.a*q.b:=IntWalk.wrap64_in _ ⟨by omega,by omega⟩;have k20:wrap64 (q.b*q.d - q.a*q.c)=q.b*q.d - q.a*q.c:=IntWalk.wrap64_in _ ⟨by omega,by omega⟩;have k21:wrap64 (q.c*q.d+q.a*q.b)=q.c*q.d+q.a*q.b:=IntWalk.wrap64_in _ ⟨by omega,by omega⟩;have k22:wrap64 (q.a*q.a - q.b*q.b - q.c*q.c)=q.a*q.a - q.b*q.b - q.c*q.c:=IntWalk.wrap64_in _ ⟨by omega,by omega⟩;have k23:wrap64 (q.a*q.a - q.b*q.b - q.c*q.c+q.d*q.d)=q.a*q.a - q.b*q.b - q.c*q.c+q.d*q.d:=IntWalk.wrap64_in _ ⟨by omega,by omega⟩;have k24:wrap64 (q.a*q.a+q.b*q.b+q.c*q.c)=q.a*q.a+q.b*q.b+q.c*q.c:=IntWalk.wrap64_in _ ⟨by omega,by omega⟩;have k25:wrap64 (q.a*q.a+q.b*q.b+q.c*q.c+q.d*q.d)=q.a*q.a+q.b*q.b+q.c*q.c+q.d*q.d:=IntWalk.wrap64_in _ ⟨by omega,by omega⟩;have k26:wrap64 (2*(q.b*q.c - q.a*q.d))=2*(q.b*q.c - q.a*q.d):=IntWalk.wrap64_in _ ⟨by omega,by omega⟩
 have k27:wrap64 (2*(q.b*q.d+q.a*q.c))=2*(q.b*q.d+q.a*q.c):=IntWalk.wrap64_in _ ⟨by omega,by omega⟩;have k28:wrap64 (2*(q.b*q.c+q.a*q.d))=2*(q.b*q.c+q.a*q.d):=IntWalk.wrap64_in _ ⟨by omega,by omega⟩;have k29:wrap64 (2*(q.c*q.d - q.a*q.b))=2*(q.c*q.d - q.a*q.b):=IntWalk.wrap64_in _ ⟨by omega,by omega⟩;have k30:wrap64 (2*(q.b*q.d - q.a*q.c))=2*(q.b*q.d - q.a*q.c):=IntWalk.wrap64_in _ ⟨by omega,by omega⟩;have k31:wrap64 (2*(q.c*q.d+q.a*q.b))=2*(q.c*q.d+q.a*q.b):=IntWalk.wrap64_in _ ⟨by omega,by omega⟩;clear p aa bb cc dd ab ac ad bc bd cd
 go_upto_region 7 with (refine aB rfl _ _ _ rfl _ (row9 q) rfl rfl info9 rfl rfl ?_)
 obtain ⟨w5,hw5,b5,hb5,hs5⟩:=aG w4 (row9 q) 200;change Code.wp _ _ _ _ (w4.alloc (Obj.cells (row9 q) 200));rw [hw5];have HB5:=η (ae HB4.out hb5 ρ);have D3:=η (D2.out.below hb5 D2.out.lt);have S5:=η (S4.out.below hb5 S4.out.lt);have SV5:=η (SV4.out.below hb5);have M5:=η b5;have hpt:Bd 2 (q.sq:Rat):=Bd.int _ (by have:=HQ.out.prods 0 0;have:=HQ.out.prods 1 1;have:=HQ.out.prods 2 2;have:=HQ.out.prods 3 3;simp only [Q4.at] at *;unfold Q4.sq;unfold B;omega);have hsqb:-36≤q.a*q.a+q.b*q.b+q.c*q.c+q.d*q.d∧q.a*q.a+q.b*q.b+q.c*q.c+q.d*q.d≤36:=by have:=HQ.out.prods 0 0;have:=HQ.out.prods 1 1;have:=HQ.out.prods 2 2;have:=HQ.out.prods 3 3;simp only [Q4.at] at *;omega
 have HPT:=η hpt;have HSB:=η hsqb;have HSQ0:=η (show (q.sq:Rat)≠0 from fun e=>by
  have h:=HQ.out.pos;have e2:q.sq=0:=by exact_mod_cast e
  omega)
 clear hw5 b5 hb5 hs5 hpt hsqb
 go_wp2_with fail
 refine (eI 1 w5 ω ω).mono ?_;rintro e w6 ⟨⟨v6,rfl,hv6⟩,hb6⟩;have V6:=η hv6;have HB6:=η (ae HB5.out hb6 ρ);have D4:=η (D3.out.below hb6 D3.out.lt);have S6:=η (S5.out.below hb6 S5.out.lt);have SV6:=η (SV5.out.below hb6);have M6:=η (M5.out.below hb6 M5.out.lt);clear hv6 hb6
 go_wp2_with fail
 refine (eI (q.a*q.a+q.b*q.b+q.c*q.c+q.d*q.d) w6 (ψ HSB.out) (ψ HSB.out)).mono ?_;rintro e w7 ⟨⟨v7,rfl,hv7⟩,hb7⟩;have V7:=η hv7;have V67:=η (V6.out.below hb7);have HB7:=η (ae HB6.out hb7 ρ);have D5:=η (D4.out.below hb7 D4.out.lt);have S7:=η (S6.out.below hb7 S6.out.lt);have SV7:=η (SV6.out.below hb7);have M7:=η (M6.out.below hb7 M6.out.lt);clear hv7 hb7
 go_wp2_with fail
 refine (kC v6 v7 1 (q.sq:Rat) 2 2 w7 V67.out V7.out (Bd.int 1 (by unfold B;omega)) HPT.out ω HSQ0.out).mono ?_;rintro e w8 ⟨⟨v8,rfl,hv8⟩,hb8⟩;obtain ⟨pr,rfl,hpr⟩:=hv8.rcv;have PR8:=η hpr;have HB8:=η (ae HB7.out hb8 ρ);have D6:=η (D5.out.below hb8 D5.out.lt);have S8:=η (S7.out.below hb8 S7.out.lt);have SV8:=η (SV7.out.below hb8);have M8:=η (M7.out.below hb8 M7.out.lt);clear hv8 hpr hb8
 go_upto_region 8 with (refine aB rfl _ _ _ rfl _ (#[.bool pr.s,.slice pr.a pr.n pr.c,.bool pr.t,.slice pr.b pr.m pr.d]) rfl rfl bL rfl rfl ?_)
 obtain ⟨w9,hw9,b9,hb9,hs9⟩:=aG w8 #[.bool pr.s,.slice pr.a pr.n pr.c,.bool pr.t,.slice pr.b pr.m pr.d] 56;rw [hw9];have P9:=η b9;have PR9:=η (PR8.out.below hb9);have HB9:=η (ae HB8.out hb9 ρ);have D7:=η (D6.out.below hb9 D6.out.lt);have S9:=η (S8.out.below hb9 S8.out.lt);have SV9:=η (SV8.out.below hb9);have M9:=η (M8.out.below hb9 M8.out.lt);clear hw9 b9 hb9 hs9
 go_upto_region 9 with (first | refine aq rfl _ _ rfl w2.heap.size 0 rfl (ah s0 s1 s2) _ (fun j hj=>S9.out.whole j hj) Tryz.underlying58 rfl aK ?_ | refine kG rfl _ s0 s1 s2 rfl rfl ?_ | refine aB rfl _ _ _ rfl _ (aC z3 z3 z3 (s0,s1,s2)) rfl rfl dc rfl (fE _ _ _ _) ?_)
 obtain ⟨g8,hg8⟩:∃ g8,w9.heap.size=g8:=⟨_,rfl⟩;obtain ⟨wa,hwa,ba,hba,hsa⟩:=aG w9 (aC z3 z3 z3 (s0,s1,s2)) 89;rw [hwa,hg8];rw [hg8] at ba;have HG8:=η (show w.heap.size+2≤g8 from by have:=HB9.out.size;have:=D7.out.lt;omega);have HMK:=η (show nO wa g8 0 (fz q sh) from ⟨z3,z3,z3,(s0,s1,s2),ba,fun h=>absurd h ω,fun h=>absurd h ω,fun h=>absurd h ω,SV9.out.below hba⟩);have HBa:=η (ae HB9.out hba ρ);have Da:=η (D7.out.below hba D7.out.lt);have Pa:=η (P9.out.below hba P9.out.lt);have PRa:=η (PR9.out.below hba);have Ma:=η (M9.out.below hba M9.out.lt);have HGS:=η (show w8.heap.size<g8 from by rw [← hg8];exact P9.out.lt);clear hwa ba hba hsa hg8
 go_wp2_with (refine aq rfl _ _ rfl w4.heap.size 0 rfl (row9 q) _ (fun j hj=>Ma.out.whole j hj) Tryz.underlying200 rfl info9 ?_)
 go_loopw [162] (fun kv wr=>∃ k:Nat,k≤3∧kv=.int .i64 (k:Nat)∧Hid (nO wr g8 k (fz q sh))∧Hid (Box wr (w.heap.size+1) (aC z3 z3 z3 z3) 89)∧Hid (Box wr w8.heap.size #[.bool pr.s,.slice pr.a pr.n pr.c,.bool pr.t,.slice pr.b pr.m pr.d] 56)∧Hid (am wr pr.agg (1 / (q.sq:Rat)))∧Hid (Below w.heap.size w wr)) (fun kv _=>3 - (intOf kv).toNat)
 case atStart=>exact ⟨0,by omega,rfl,HMK.out,Da.out,Pa.out,PRa.out,HBa.out⟩
 case round =>
  obtain ⟨k,hk,rfl,HM,HZ,HPB,HPR,HL⟩:=hrel;obtain ⟨wk,rfl⟩:∃ wk,wk=wr:=⟨_,rfl⟩;by_cases h0:k=3
  ·have hnl:¬ (k:Int)<3:=ω
   obtain ⟨a,b,c,s,hbx,h1,h2,h3,h4⟩:=HM.out;have BX:=η hbx;have MR:=η (show MotR wk a b c s (fz q sh) from ⟨h1 ω,h2 ω,h3 ω,h4⟩);clear h0 hbx h1 h2 h3 h4
   go_wp2_with (first | refine aq rfl _ _ rfl g8 0 rfl (aC a b c s) _ (fun j hj=>BX.out.whole j hj) Tryz.underlying89 rfl dc ?_ | refine wpList_store_row rfl 89 _ _ rfl (w.heap.size+1) (aC a b c s) rfl rfl 89 _ HZ.out dc rfl (fE a b c s) ?_)
   have BR:=η (en HZ.out (aC a b c s));have MRF:=η (MR.out.grown (cR wk (w.heap.size+1) (aC a b c s)) (dR HZ.out ν));have HBR:=η (HL.out.grown (cR wk (w.heap.size+1) (aC a b c s)) HL.out.size (fun g e=>by cases e;omega));exact bP Tryz.results86 (w.heap.size+1) BR.out _ rfl Tryz.underlying89 rfl dc rfl ⟨⟨_,rfl,a,b,c,s,rfl,MRF.out⟩,HBR.out⟩
  ·have hlt:(k:Int)<3:=ω
   have hk3:k<3:=ω;have HK3:=η hk3;have hix:=fun w=>index_m3 q k hk3 w
   unfold bX at hix;clear h0
   go_upto_region 12 with (refine aB rfl _ _ _ rfl _ (#[.int .i64 (q.row k).x,.int .i64 (q.row k).y,.int .i64 (q.row k).z]) rfl rfl info45 rfl rfl ?_)
   obtain ⟨wm,hwm,bm,hbm,hsm⟩:=aG wk #[.int .i64 (q.row k).x,.int .i64 (q.row k).y,.int .i64 (q.row k).z] 45;rw [hwm];have RB:=η bm;have PB:=η (HPB.out.below hbm HPB.out.lt);have PR:=η (HPR.out.below hbm);have ZB:=η (HZ.out.below hbm HZ.out.lt);have HM3:=η (HM.out.below hbm);have L3:=η (ae HL.out hbm ρ);have HRL:=η (show LeV 9007199254740992 (q.row k) from (row_le HQ.out.le k).mono ω);have HBR:=η (lg HRL.out);have HBP:=η HPT.out.inv;have HMR:=η (motQ_row q sh k);clear hwm bm hbm hsm HM HZ HPB HPR HL hix hlt;refine bK (rest:=1) [isV 0 (.int .i64 (k:Nat)),isV 1 (.agg #[.int .i64 (q.row k).x,.int .i64 (q.row k).y,.int .i64 (q.row k).z]),isP 2 (fun u w=>aA w u (ptQ (q.row k))),isV 3 (.agg #[.bool pr.s,.slice pr.a pr.n pr.c,.bool pr.t,.slice pr.b pr.m pr.d]),isP 4 (fun u w=>aA w u (qscale (1 / (q.sq:Rat)) (ptQ (q.row k)))),isV 5 (.pointer (some ⟨g8,0,none⟩)),isV 6 (.pointer (some ⟨g8,k*12,none⟩))] [] ?A1 #[true,true,true,true,true,true,true,false] κ [0,1,2,3,4,5,6] κ κ κ κ κ κ ?st ?hA ?hop ?hend
   case hA =>
    intro y;simp only [bj,cU,List.getElem?_toArray,List.getElem?_cons_zero,List.getElem?_cons_succ,Option.bind_some,Act.put,List.setIfInBounds_toArray,List.set_cons_zero,List.set_cons_succ];exact rfl
   case st=>exact aj.cons isV.stab (aj.cons isV.stab (aj.cons (isP.stab (fun _ _ _ h hv=>hv.below h)) (aj.cons isV.stab (aj.cons (isP.stab (fun _ _ _ h hv=>hv.below h)) (aj.cons isV.stab (aj.cons isV.stab (aj.nil)))))))
   case hop =>
    refine ai.cons (i:=0) rfl (fun y w' hS hD K hK=>?_) ?_
    ·as_aux_lemma =>
     go_simp;exact hK.out _ w' hS β isV.put δ
    refine ai.cons (i:=1) rfl (fun y w' hS hD K hK=>?_) ?_
    ·as_aux_lemma =>
     have bx:=RB.out.below hS RB.out.lt;obtain ⟨c0,c1,c2,-⟩:=bx.three;go_simp;exact hK.out _ w' hS β isV.put δ
    refine ai.cons (i:=2) rfl (fun y w' hS hD K hK=>?_) ?_
    ·as_aux_lemma =>
     have e1:=isV.get (i:=1) (c:=.agg #[.int .i64 (q.row k).x,.int .i64 (q.row k).y,.int .i64 (q.row k).z]) (hD 1 κ);simp only [e1] at hK ⊢;go_simp;refine (kr (q.row k) w' HRL.out).mono ?_;rintro e w'' ⟨⟨v,rfl,hv⟩,hb⟩;exact hK.out v w'' (ae hS hb ρ) hb (isP.put hv) δ
    refine ai.cons (i:=3) rfl (fun y w' hS hD K hK=>?_) ?_
    ·as_aux_lemma =>
     have bx:=PB.out.below hS PB.out.lt;obtain ⟨c0,c1,c2,c3⟩:=bx.at1.1;go_simp;exact hK.out _ w' hS β isV.put δ
    refine ai.cons (i:=4) rfl (fun y w' hS hD K hK=>?_) ?_
    ·as_aux_lemma =>
     have e2:=isP.get (i:=2) (p:=fun u w=>aA w u (ptQ (q.row k))) (hD 2 κ);have e3:=isV.get (i:=3) (c:=.agg #[.bool pr.s,.slice pr.a pr.n pr.c,.bool pr.t,.slice pr.b pr.m pr.d]) (hD 3 κ);simp only [e3] at hK ⊢;go_simp;refine (gk _ _ (ptQ (q.row k)) (1 / (q.sq:Rat)) 2 2 w' e2 (PR.out.below hS) HBP.out HBR.out ω).mono ?_;rintro e w'' ⟨⟨v,rfl,hv⟩,hb⟩;exact hK.out v w'' (ae hS hb ρ) hb (isP.put hv) δ
    refine ai.cons (i:=5) rfl (fun y w' hS hD K hK=>?_) ?_
    ·as_aux_lemma =>
     go_simp;exact hK.out _ w' hS β isV.put δ
    refine ai.cons (i:=6) rfl (fun y w' hS hD K hK=>?_) ?_
    ·as_aux_lemma =>
     have e5:=isV.get (i:=5) (c:=.pointer (some ⟨g8,0,none⟩)) (hD 5 κ);have e0:=isV.get (i:=0) (c:=.int .i64 (k:Nat)) (hD 0 κ);have hk3:=HK3.out;have hlt:(k:Int)<3:=ω;simp only [e5,e0] at hK ⊢;go_simp;exact hK.out _ w' hS β isV.put δ
    exact ai.nil
   case hend =>
    intro y w' hS hR hF;obtain ⟨n0,n1,n2,e4,hn⟩:=(isP.get (i:=4) (p:=fun u w=>aA w u (qscale (1 / (q.sq:Rat)) (ptQ (q.row k)))) (hR 4 κ)).rcv;have e6:=isV.get (i:=6) (c:=.pointer (some ⟨g8,k*12,none⟩)) (hR 6 κ);simp only [e4,e6];obtain ⟨a,b,c,s,bx,hA⟩:=HM3.out.below hS;refine bM (i:=7) (listed2:=#[true,true,true,true,true,true,true,true]) κ rfl κ (fun K hK=>?_);refine iteInduction (motive:=fun p=>p) (fun _=>?_) (fun h=>absurd κ h);refine wp_store_mid 58 _ _ rfl g8 (k*12) (ah n0 n1 n2) rfl rfl (bx.there48 HK3.out) aK (bU n0 n1 n2) ?_;refine hK.out _ _ ?_;clear hK K;have HFIN:=η (show nO (w'.setCells g8 (k*12) (ah n0 n1 n2).toList) g8 (k+1) (fz q sh) from nO.put (show nO w' g8 k _ from ⟨a,b,c,s,bx,hA⟩) HK3.out (r:=(n0,n1,n2)) (by rw [HMR.out];exact hn));have hgr:=gg (g:=g8) (ah n0 n1 n2).toList (w:=w') (k*12);have HBF:=η ((ae L3.out hS ρ).grown hgr (by have:=L3.out.size;have:=hS.size;omega) (fun g e=>by cases e;have:=HG8.out;omega));have HZF:=η ((ZB.out.below hS ZB.out.lt).grown hgr (fun e=>by cases e;have:=HG8.out;omega));have HPF:=η ((PB.out.below hS PB.out.lt).grown hgr (fun e=>by cases e;have:=HGS.out;omega));have HRF:=η ((PR.out.below hS).grown hgr (dR bx ν));clear hgr;generalize w'.setCells g8 (k*12) (ah n0 n1 n2).toList=w9 at *;clear hS hR hF e4 e6 bx hA hn;refine bq κ ?_
    go_wp2_with fail
    go_round
    case rel=>exact ⟨k+1,HK3.out,rfl,HFIN.out,HZF.out,HPF.out,HRF.out,HBF.out⟩
    case measure=>show 3 - ((k:Int)+1).toNat<3 - (k:Int).toNat;have:=HK3.out;omega
end Go.Proofs.Υ
end

section
namespace Dowel
open Go Go.RowKit Go.Proofs.Υ
theorem mg (a:Int) (h:a.natAbs<256) (d:Nat) (hd:d=1∨d=2):jA ((a:Rat) / ((d:Int):Rat)):=by
 rcases hd with rfl | rfl
 ·rw [show (a:Rat) / (((1:Nat):Int):Rat)=(a:Rat) from by show (a:Rat) / 1=a;grind]
  exact ⟨.inl rfl,h⟩
 ·have e:(a:Rat) / (((2:Nat):Int):Rat)=Rat.divInt a 2:=by rw [Rat.divInt_eq_div];rfl
  rw [e];by_cases h2:a % 2=0
  ·obtain ⟨b,rfl⟩:∃ b,a=b*2:=⟨a / 2,by omega⟩
   rw [show Rat.divInt (b*2) 2=(b:Rat) from by rw [Rat.divInt_eq_div,Rat.intCast_mul];exact Rat.mul_div_cancel ν];exact ⟨.inl rfl,by show b.natAbs<256;omega⟩
  ·have hc:Nat.Coprime a.natAbs 2:=by
    rw [Nat.coprime_comm,Nat.Coprime,Nat.gcd_rec,show a.natAbs % 2=1 by omega];rfl
   rw [show Rat.divInt a 2=Rat.mk' a 2 ν hc from (Rat.mk_eq_divInt ..).symm];exact ⟨.inr rfl,h⟩
theorem kX (a:Int) (h:a.natAbs<256) (d:Nat) (hd:d=1∨d=2):cO 60 100000 ((a:Rat) / ((d:Int):Rat)):=by
 rcases hd with rfl | rfl
 ·refine ⟨a*60,?_,by omega⟩
  rw [Rat.intCast_mul];show (a:Rat) / 1*60=(a:Rat)*60
  grind
 ·refine ⟨a*30,?_,by omega⟩
  rw [Rat.intCast_mul];show (a:Rat) / 2*60=(a:Rat)*30
  grind
def plcK (q:Q4) (x:Nat→Rat) (k:Nat):Array Value:=#[.int .i64 q.a,.int .i64 q.b,.int .i64 q.c,.int .i64 q.d,.string (if 0<k then fV (x 0) else ⟨#[]⟩),.string (if 1<k then fV (x 1) else ⟨#[]⟩),.string (if 2<k then fV (x 2) else ⟨#[]⟩)]
theorem plcK_set (q:Q4) (x:Nat→Rat) {k:Nat} (hk:k<3):(plcK q x k).setIfInBounds (4+k) (.string (fV (x k)))=plcK q x (k+1):=by
 obtain rfl | rfl | rfl:k=0∨k=1∨k=2:=ω
 all_goals rfl
theorem Box.some {w:World} {g:Nat} {cs:Array Value} {t:TypeId} (h:Box w g cs t) (i:Nat) (hi:i<cs.size):∃ u,w.cell? ⟨g,i,none⟩=some u:=⟨_,(h.cell i).trans (Array.getElem?_eq_getElem hi)⟩
def RetMoved (w:World) (e:Ending):Prop:=∃ v q sh,e=.returned (.tuple #[v,.bool true])∧IsMot w v (fz q sh)∧OkQ q∧bN 60 100000 sh
theorem lZ.at_ {w:World} {base:Nat} {v:Value} {l:List Q4} (h:lZ w base v l) {i:Nat} (hi:i<l.length):∃ g c q,v=.slice (some ⟨g,0,none⟩) l.length c∧q ∈ l∧g<w.heap.size∧∀ j,j<4→w.cell? ⟨g,i*4+j,none⟩=(q4c q)[j]? := by
 obtain ⟨g,c,e,hg,-,-,hc⟩:=dE.at_ (enc:=q4c) (k:=4) (t:=151) (fun _=>rfl) h i l[i] (List.getElem?_eq_getElem hi);exact ⟨g,c,l[i],e,List.getElem_mem hi,hg,hc⟩
def extraQ:List Q4:=[⟨2,1,0,0⟩,⟨1,1,1,0⟩,⟨1,0,2,0⟩,⟨3,1,1,1⟩]
theorem src_extra (w:World) (t:TypeId):iA (w.alloc (.cells #[.int .i64 2,.int .i64 1,.int .i64 0,.int .i64 0,.int .i64 1,.int .i64 1,.int .i64 1,.int .i64 0,.int .i64 1,.int .i64 0,.int .i64 2,.int .i64 0,.int .i64 3,.int .i64 1,.int .i64 1,.int .i64 1] t)) 4 (some ⟨w.heap.size,0,none⟩) 4 (extraQ.flatMap q4c):=
 ⟨rfl,.inr ⟨_,rfl,fun j u hu=>by rw [lk,Nat.zero_add,(Box.new w _ t _ rfl).cell,List.getElem?_toArray];exact hu⟩⟩
theorem q4s_one (l:List Q4):∀ u ∈ l.flatMap q4c,u.oneCell'=true:=fun u hu=>by
 obtain ⟨q,-,hu⟩:=List.mem_flatMap.mp hu;exact q4c_one q u hu
end Dowel
namespace Go.Proofs.Υ
open Go.RowKit Dowel
set_option maxRecDepth 20000
theorem moved_any (X:Nat→Nat) (w:World) (hV:ic w) (hP:Pow w) (hX:∀ i,X i<256) :
  Calls Tryz.prog 39 #[.agg #[.int .u8 (X 0:Nat),.int .u8 (X 1:Nat),.int .u8 (X 2:Nat),.int .u8 (X 3:Nat),.int .u8 (X 4:Nat)]] w fun e w'=>RetMoved w' e∧Below w.heap.size w w':=by
 obtain ⟨i0,hinf,hz0,hz1,hz2⟩:=info_parts info4;obtain ⟨W,hW,b1,b2,hB,hS⟩:=da w #[.int .u8 (X 0:Nat),.int .u8 (X 1:Nat),.int .u8 (X 2:Nat),.int .u8 (X 3:Nat),.int .u8 (X 4:Nat)] (aC z3 z3 z3 z3) 86 89;have HB:=η hB;have HSZ:=η hS;have B1:=η b1;have B2:=η b2;have HX:=η hX;have HQS:=η (pE W (hV.below hB));have HVW:=η (fun w' (h:Below w.heap.size w w')=>hV.below h);have HPW0:=η (fun w' (h:Below w.heap.size w w')=>hP.below h);clear hB b1 b2 hS hV hP hX;unfold z3 at hW;rw [zero48] at hW
 go_enter Tryz.func39,Tryz.ntmps39
 go_wp2_with fail
 refine HQS.out.mono ?_;rintro e w1 ⟨⟨v,rfl,hq⟩,hb1⟩;have h24:=quarts24;have htl:pg=fI 81 ++ extraQ:=rfl;obtain ⟨L,hL⟩:∃ L,fI 81=L:=⟨_,rfl⟩;rw [hL] at hq h24 htl;have HTL:=η htl;obtain ⟨qa,qc,rfl,hsrc⟩:=dB hq;rw [h24] at hsrc ⊢;have H24:=η h24;have HSR:=η hsrc;have C1:=η (B1.out.below hb1 B1.out.lt);have C2:=η (B2.out.below hb1 B2.out.lt);have HB1:=η (ae HB.out hb1 (ψ HSZ.out));clear hb1 hq hsrc htl h24 hL
 go_wp2_with (at_builtin;refine bR _ rfl _ _ 149 rfl w1.heap.size 151 i0 (.agg #[.int .i64 0,.int .i64 0,.int .i64 0,.int .i64 0]) 4 32 Tryz.underlying149 hinf hz0 hz1 hz2 rfl ν _ _ _ rfl (World.ownsRow_made w1 #[] 0 ρ (Nat.zero_le _) rfl) _ _ _ _ rfl (HSR.out.below (β.alloc ρ _)) (q4s_one _) (by unfold maxLen;omega) ω (by simp) ?_)
 intro v1 w2 ho1 hg1;have HB2:=η (show Below w1.heap.size w1 w2 from (β.alloc ρ _).grown hg1 (by simp) (fun g e=>by cases e;exact Nat.le_refl _));have HO2:=η (show w2.ownsRow w1.heap.size 151 4 v1 24 (L.flatMap q4c) from by simpa using ho1);clear ho1 hg1
 go_wp2_with (at_builtin;refine bR _ rfl _ _ 149 rfl w1.heap.size 151 i0 (.agg #[.int .i64 0,.int .i64 0,.int .i64 0,.int .i64 0]) 4 32 Tryz.underlying149 hinf hz0 hz1 hz2 rfl ν _ _ _ rfl (World.ownsRow.alloc HO2.out _) (some ⟨w2.heap.size,0,none⟩) 4 4 (extraQ.flatMap q4c) rfl (src_extra w2 _) (q4s_one _) (by unfold maxLen;omega) ω (by have:=HB2.out.size;simp;omega) ?_)
 intro v3 w3 ho3 hg3;have HB3:=η (show Below w1.heap.size w1 w3 from (HB2.out.alloc HB2.out.size _).grown hg3 (by have:=HB2.out.size;simp;omega) (fun g e=>cJ HO2.out g e));have HO3:=η (show lZ w3 w1.heap.size v3 pg from by
  unfold lZ;rw [HTL.out,List.length_append,H24.out,List.flatMap_append];exact ho3)
 clear ho3 hg3;obtain ⟨r,hr⟩:∃ r:Nat,X 0 % 28=r:=⟨_,rfl⟩;have hr28:r<28:=ω;have hlen:pg.length=28:=by decide +kernel
 obtain ⟨gt,ct,q,ev,hqm,hgt,hct⟩:=HO3.out.at_ (i:=r) ω;rw [hlen] at ev;subst ev;have hrI:((X 0:Nat):Int) % 28=((r:Nat):Int):=ω;have hrl:(r:Int)<28:=ω;have hx0:=HX.out 0;have HQ:=η (OkQ.of (turns_ok q hqm));have HCT:=η (fun j (hj:j<(#[.int .i64 q.a,.int .i64 q.b,.int .i64 q.c,.int .i64 q.d]:Array Value).size)=>show w3.cell? ⟨gt,r*4+j,none⟩=(#[.int .i64 q.a,.int .i64 q.b,.int .i64 q.c,.int .i64 q.d]:Array Value)[j]? from by rw [List.getElem?_toArray];exact hct j hj);have C3:=η (C1.out.below HB3.out (ψ C1.out.lt));have C4:=η (C2.out.below HB3.out (ψ C2.out.lt));have HB4:=η (ae HB1.out HB3.out (by have:=HSZ.out;have:=HB1.out.size;omega));have n0:=C3.out.cell 0;obtain ⟨d,hd⟩:∃ d,1+X 4 % 2=d:=⟨_,rfl⟩;obtain ⟨x,hx⟩:∃ x:Nat→Rat,x=fun i=>(((X (1+i):Nat) - 100:Int):Rat) / ((d:Int):Rat):=⟨_,rfl⟩
 have HXF:=η hx;have HD:=η hd;clear hr hqm hct hx hd
 go_upto_region 6 with (first | refine aq rfl _ _ rfl gt (r*4) rfl (#[.int .i64 q.a,.int .i64 q.b,.int .i64 q.c,.int .i64 q.d]) _ (fun j hj=>HCT.out j hj) Tryz.underlying151 rfl info4s ?_ | refine aB rfl _ _ _ rfl _ (plcK q x 0) rfl rfl pT rfl rfl ?_)
 obtain ⟨g6,hg6⟩:∃ g6,w3.heap.size=g6:=⟨_,rfl⟩;obtain ⟨w4,hw4,b4,hb4,hs4⟩:=aG w3 (plcK q x 0) 153;change Code.wp _ _ _ _ (w3.alloc (Obj.cells (plcK q x 0) 153));rw [hw4,hg6];rw [hg6] at b4;have G4:=η b4;have C5:=η (C3.out.below hb4 C3.out.lt);have C6:=η (C4.out.below hb4 C4.out.lt);have HB5:=η (ae HB4.out hb4 ρ);have HG6:=η (show w.heap.size+2≤g6 from by have:=HB4.out.size;have:=C4.out.lt;omega);clear hw4 b4 hb4 hs4 hg6 n0 hrI hrl hx0 hinf hz0 hz1 hz2 i0
 go_wp2_with fail
 go_loopw [7] (fun kv wr=>∃ k:Nat,k≤3∧kv=.int .i64 (k:Nat)∧Hid (Box wr g6 (plcK q x k) 153)∧Hid (Box wr w.heap.size #[.int .u8 (X 0:Nat),.int .u8 (X 1:Nat),.int .u8 (X 2:Nat),.int .u8 (X 3:Nat),.int .u8 (X 4:Nat)] 86)∧Hid (Box wr (w.heap.size+1) (aC z3 z3 z3 z3) 89)∧Hid (Below w.heap.size w wr)) (fun kv _=>3 - (intOf kv).toNat)
 case atStart=>exact ⟨0,by omega,rfl,G4.out,C5.out,C6.out,HB5.out⟩
 case round =>
  clear G4 C5 C6 HB5;obtain ⟨k,hk,rfl,PB,NB,ZB,HL⟩:=hrel;obtain ⟨wk,rfl⟩:∃ wk,wk=wr:=⟨_,rfl⟩;by_cases h0:k=3
  ·have hnl:¬ (k:Int)<3:=ω
   obtain ⟨sh,hsh⟩:∃ sh:Q3,sh=⟨x 0,x 1,x 2⟩:=⟨_,rfl⟩;have PF:=η (show Box wk g6 (plc q sh) 153 from by have h:=PB.out;rw [h0] at h;rw [hsh];exact h);have HSH:=η hsh;clear h0 hsh PB;have hd12:d=1∨d=2:=by have:=HD.out;omega
   have hhf:lT sh:=by rw [HSH.out,HXF.out];exact ⟨mg _ (by have:=HX.out (1+0);show (((X (1+0):Nat):Int) - 100).natAbs<256;omega) d hd12,mg _ (by have:=HX.out (1+1);show (((X (1+1):Nat):Int) - 100).natAbs<256;omega) d hd12,mg _ (by have:=HX.out (1+2);show (((X (1+2):Nat):Int) - 100).natAbs<256;omega) d hd12⟩
   have HFR:=η (show bN 60 100000 sh from by rw [HSH.out,HXF.out];exact ⟨kX _ (by have:=HX.out (1+0);show (((X (1+0):Nat):Int) - 100).natAbs<256;omega) d hd12,kX _ (by have:=HX.out (1+1);show (((X (1+1):Nat):Int) - 100).natAbs<256;omega) d hd12,kX _ (by have:=HX.out (1+2);show (((X (1+2):Nat):Int) - 100).natAbs<256;omega) d hd12⟩);have HOF:=η (mof_any q sh wk (HVW.out wk HL.out) HQ.out hhf);clear hd12 hhf
   go_wp2_with (refine aq rfl _ _ rfl g6 0 rfl (plc q sh) _ (fun j hj=>PF.out.whole j hj) Tryz.underlying153 rfl pT ?_)
   refine HOF.out.mono ?_;rintro e w5 ⟨⟨v,rfl,a,b,c,s,rfl,hmr⟩,hb5⟩;have MR:=η hmr;have ZB5:=η (ZB.out.below hb5 ZB.out.lt);have HL5:=η (ae HL.out hb5 ρ);clear hmr hb5
   go_upto_region 11 with (refine aB rfl _ _ _ rfl _ (aC a b c s) rfl rfl dc rfl (fE _ _ _ _) ?_)
   obtain ⟨w6,hw6,b6,hb6,hs6⟩:=aG w5 (aC a b c s) 89;rw [hw6];have M6:=η b6;have MR6:=η (MR.out.below hb6);have ZB6:=η (ZB5.out.below hb6 ZB5.out.lt);have HL6:=η (ae HL5.out hb6 ρ);clear hw6 b6 hb6 hs6
   go_wp2_with (first | refine aq rfl _ _ rfl w5.heap.size 0 rfl (aC a b c s) _ (fun j hj=>M6.out.whole j hj) Tryz.underlying89 rfl dc ?_ | refine wpList_store_row rfl 89 _ _ rfl (w.heap.size+1) (aC a b c s) rfl rfl 89 _ ZB6.out dc rfl (fE a b c s) ?_)
   have BR:=η (en ZB6.out (aC a b c s));have MRF:=η (MR6.out.grown (cR w6 (w.heap.size+1) (aC a b c s)) (dR ZB6.out ν));have HBR:=η (HL6.out.grown (cR w6 (w.heap.size+1) (aC a b c s)) HL6.out.size (fun g e=>by cases e;omega));exact bP Tryz.results39 (w.heap.size+1) BR.out _ rfl Tryz.underlying89 rfl dc rfl ⟨⟨_,q,sh,rfl,⟨a,b,c,s,rfl,MRF.out⟩,HQ.out,HFR.out⟩,HBR.out⟩
  ·have hlt:(k:Int)<3:=ω
   have hk3:k<3:=ω;have HK3:=η hk3;have HKI:=η hlt;obtain ⟨xk,hxk⟩:∃ xk,x k=xk:=⟨_,rfl⟩;have HXE:=η hxk;have NC:=η (fun w' (h:Below wk.heap.size wk w')=>show w'.cell? ⟨w.heap.size,1+k,none⟩=some (.int .u8 (X (1+k):Nat)) from by
    rw [(NB.out.below h NB.out.lt).cell];have h3:=HK3.out;obtain rfl | rfl | rfl:k=0∨k=1∨k=2:=ω
    all_goals rfl)
   have NC4:=η (fun w' (h:Below wk.heap.size wk w')=>show w'.cell? ⟨w.heap.size,4,none⟩=some (.int .u8 (X 4:Nat)) from (NB.out.below h NB.out.lt).cell 4);have hd2:((1+(X 4:Nat) % 2:Int))=((d:Nat):Int):=by have:=HD.out;omega
   have HQT:=η (fun w' (_:Below wk.heap.size wk w')=>show Calls Tryz.prog 21 #[.int .i64 ((X (1+k):Nat) - 100),.int .i64 (1+(X 4:Nat) % 2:Int)] w' fun e w''=>dJ w'' e xk∧Below w'.heap.size w' w'' from by
    have h:=pD ((X (1+k):Nat) - 100) (1+(X 4:Nat) % 2) w' (by have:=HX.out (1+k);omega) ω ω;rw [← HXE.out,HXF.out];rw [hd2] at h;rw [hd2];exact h)
   have HXK:=η (show jA xk from by rw [← HXE.out,HXF.out];exact mg _ (by have:=HX.out (1+k);omega) d (ψ HD.out));have HPW:=η (HPW0.out wk HL.out);clear h0 hxk hd2
   go_wp2_with fail
   refine bK (rest:=1) [isV 0 (.int .i64 (k:Nat)),isV 1 (.int .i64 (k:Nat)),isV 2 (.int .i64 ((1+k:Nat):Int)),isV 3 (.pointer (some ⟨w.heap.size,(1+k),none⟩)),isV 4 (.int .u8 (X (1+k):Nat)),isV 5 (.int .i64 (X (1+k):Nat)),isV 6 (.int .i64 ((X (1+k):Nat) - 100)),isV 7 (.pointer (some ⟨w.heap.size,4,none⟩)),isV 8 (.int .u8 (X 4:Nat)),isV 9 (.int .u8 ((X 4:Nat) % 2:Int)),isV 10 (.int .i64 ((X 4:Nat) % 2:Int)),isV 11 (.int .i64 (1+(X 4:Nat) % 2:Int)),isP 12 (fun u w=>am w u xk),isV 13 (.string (fV xk)),isV 14 (.pointer (some ⟨g6,4,none⟩)),isV 15 (.pointer (some ⟨g6,4+k,none⟩))] [] ?A1 #[true,true,true,true,true,true,true,true,true,true,true,true,true,true,true,true,false] κ [0,1,2,3,4,5,6,7,8,9,10,11,12,13,14,15] κ κ κ κ κ κ ?st ?hA ?hop ?hend
   case hA =>
    intro y;simp only [bj,cU,List.getElem?_toArray,List.getElem?_cons_zero,List.getElem?_cons_succ,Option.bind_some,Act.put,List.setIfInBounds_toArray,List.set_cons_zero,List.set_cons_succ];exact rfl
   case st=>exact aj.cons isV.stab (aj.cons isV.stab (aj.cons isV.stab (aj.cons isV.stab (aj.cons isV.stab (aj.cons isV.stab (aj.cons isV.stab (aj.cons isV.stab (aj.cons isV.stab (aj.cons isV.stab (aj.cons isV.stab (aj.cons isV.stab (aj.cons (isP.stab (fun _ _ _ h hv=>hv.below h)) (aj.cons isV.stab (aj.cons isV.stab (aj.cons isV.stab (aj.nil))))))))))))))))
   case hop =>
    refine ai.cons (i:=0) rfl (fun y w' hS hD K hK=>?_) ?_
    ·as_aux_lemma =>
     go_simp;exact hK.out _ w' hS β isV.put δ
    refine ai.cons (i:=1) rfl (fun y w' hS hD K hK=>?_) ?_
    ·as_aux_lemma =>
     go_simp;exact hK.out _ w' hS β isV.put δ
    refine ai.cons (i:=2) rfl (fun y w' hS hD K hK=>?_) ?_
    ·as_aux_lemma =>
     have e1:=isV.get (i:=1) (c:=.int .i64 (k:Nat)) (hD 1 κ);have kw:IntKind.i64.wrap (1+(k:Int))=((1+k:Nat):Int):=by rw [IntWalk.i64_in _ (ψ HK3.out)];omega
     simp only [e1] at hK ⊢;go_simp;exact hK.out _ w' hS β isV.put δ
    refine ai.cons (i:=3) rfl (fun y w' hS hD K hK=>?_) ?_
    ·as_aux_lemma =>
     have e2:=isV.get (i:=2) (c:=.int .i64 ((1+k:Nat):Int)) (hD 2 κ);have hk3:1+k<5:=by have:=HK3.out;omega
     have hk4:((1+k:Nat):Int)<5:=ω;generalize hkk:1+k=k1 at *;simp only [e2] at hK ⊢;go_simp;exact hK.out _ w' hS β isV.put δ
    refine ai.cons (i:=4) rfl (fun y w' hS hD K hK=>?_) ?_
    ·as_aux_lemma =>
     have e3:=isV.get (i:=3) (c:=.pointer (some ⟨w.heap.size,(1+k),none⟩)) (hD 3 κ);have c0:=(NC.out w' hS);simp only [e3] at hK ⊢;go_simp;exact hK.out _ w' hS β isV.put δ
    refine ai.cons (i:=5) rfl (fun y w' hS hD K hK=>?_) ?_
    ·as_aux_lemma =>
     have e4:=isV.get (i:=4) (c:=.int .u8 (X (1+k):Nat)) (hD 4 κ);have kw:IntKind.i64.wrap (((X (1+k):Nat):Int))=((X (1+k):Nat):Int):=IntWalk.i64_in _ (by have:=HX.out (1+k);omega);simp only [e4] at hK ⊢;go_simp;exact hK.out _ w' hS β isV.put δ
    refine ai.cons (i:=6) rfl (fun y w' hS hD K hK=>?_) ?_
    ·as_aux_lemma =>
     have e5:=isV.get (i:=5) (c:=.int .i64 (X (1+k):Nat)) (hD 5 κ);have kw:IntKind.i64.wrap (((X (1+k):Nat):Int) - 100)=((X (1+k):Nat):Int) - 100:=IntWalk.i64_in _ (by have:=HX.out (1+k);omega);simp only [e5] at hK ⊢;go_simp;exact hK.out _ w' hS β isV.put δ
    refine ai.cons (i:=7) rfl (fun y w' hS hD K hK=>?_) ?_
    ·as_aux_lemma =>
     go_simp;exact hK.out _ w' hS β isV.put δ
    refine ai.cons (i:=8) rfl (fun y w' hS hD K hK=>?_) ?_
    ·as_aux_lemma =>
     have e7:=isV.get (i:=7) (c:=.pointer (some ⟨w.heap.size,4,none⟩)) (hD 7 κ);have c0:=(NC4.out w' hS);simp only [e7] at hK ⊢;go_simp;exact hK.out _ w' hS β isV.put δ
    refine ai.cons (i:=9) rfl (fun y w' hS hD K hK=>?_) ?_
    ·as_aux_lemma =>
     have e8:=isV.get (i:=8) (c:=.int .u8 (X 4:Nat)) (hD 8 κ);have hx:=HX.out 4;simp only [e8] at hK ⊢;go_simp;exact hK.out _ w' hS β isV.put δ
    refine ai.cons (i:=10) rfl (fun y w' hS hD K hK=>?_) ?_
    ·as_aux_lemma =>
     have e9:=isV.get (i:=9) (c:=.int .u8 ((X 4:Nat) % 2:Int)) (hD 9 κ);have kw:IntKind.i64.wrap (((X 4:Nat):Int) % 2)=((X 4:Nat):Int) % 2:=IntWalk.i64_in _ (by have:=HX.out 4;omega);simp only [e9] at hK ⊢;go_simp;exact hK.out _ w' hS β isV.put δ
    refine ai.cons (i:=11) rfl (fun y w' hS hD K hK=>?_) ?_
    ·as_aux_lemma =>
     have e10:=isV.get (i:=10) (c:=.int .i64 ((X 4:Nat) % 2:Int)) (hD 10 κ);have kw:IntKind.i64.wrap (1+((X 4:Nat):Int) % 2)=1+((X 4:Nat):Int) % 2:=IntWalk.i64_in _ (by have:=HX.out 4;omega);simp only [e10] at hK ⊢;go_simp;exact hK.out _ w' hS β isV.put δ
    refine ai.cons (i:=12) rfl (fun y w' hS hD K hK=>?_) ?_
    ·as_aux_lemma =>
     have e6:=isV.get (i:=6) (c:=.int .i64 ((X (1+k):Nat) - 100)) (hD 6 κ);have e11:=isV.get (i:=11) (c:=.int .i64 (1+(X 4:Nat) % 2:Int)) (hD 11 κ);simp only [e6,e11] at hK ⊢;go_simp;refine (HQT.out w' hS).mono ?_;rintro e w'' ⟨⟨v,rfl,hv⟩,hb⟩;exact hK.out v w'' (ae hS hb ρ) hb (isP.put hv) δ
    refine ai.cons (i:=13) rfl (fun y w' hS hD K hK=>?_) ?_
    ·as_aux_lemma =>
     have e12:=isP.get (i:=12) (p:=fun u w=>am w u xk) (hD 12 κ);go_simp;refine (numberZ_any _ xk w' e12 (HPW.out.below hS) HXK.out).mono ?_;rintro e w'' ⟨rfl,hb⟩;exact hK.out _ w'' (ae hS hb ρ) hb isV.put δ
    refine ai.cons (i:=14) rfl (fun y w' hS hD K hK=>?_) ?_
    ·as_aux_lemma =>
     go_simp;exact hK.out _ w' hS β isV.put δ
    refine ai.cons (i:=15) rfl (fun y w' hS hD K hK=>?_) ?_
    ·as_aux_lemma =>
     have e14:=isV.get (i:=14) (c:=.pointer (some ⟨g6,4,none⟩)) (hD 14 κ);have e0:=isV.get (i:=0) (c:=.int .i64 (k:Nat)) (hD 0 κ);have hk3:=HK3.out;have hlt:=HKI.out;simp only [e14,e0] at hK ⊢;go_simp;exact hK.out _ w' hS β isV.put δ
    exact ai.nil
   case hend =>
    intro y w' hS hR hF;have e13:=isV.get (i:=13) (c:=.string (fV xk)) (hR 13 κ);have e15:=isV.get (i:=15) (c:=.pointer (some ⟨g6,4+k,none⟩)) (hR 15 κ);simp only [e13,e15];have bp:=PB.out.below hS PB.out.lt;obtain ⟨u0,hc0⟩:=bp.some (4+k) (by show 4+k<7;have:=HK3.out;omega);have hf0:=bp.free (4+k);refine bM (i:=16) (listed2:=#[true,true,true,true,true,true,true,true,true,true,true,true,true,true,true,true,true]) κ rfl κ (fun K hK=>?_);go_simp;refine hK.out _ _ ?_;clear hK K;have BF:=η (show Box (w'.setCell ⟨g6,4+k,none⟩ (.string (fV xk))) g6 (plcK q x (k+1)) 153 from by have h:=bp.set (4+k) (.string (fV xk));rw [← HXE.out,plcK_set q x HK3.out] at h;rw [← HXE.out];exact h);have HBF:=η ((ae HL.out hS ρ).setCell (p:=⟨g6,4+k,none⟩) (show w.heap.size≤g6 from by have:=HG6.out;omega) (.string (fV xk)));have NF:=η ((NB.out.below hS NB.out.lt).other (p:=⟨g6,4+k,none⟩) (show w.heap.size≠g6 from by have:=HG6.out;omega) (.string (fV xk)));have ZF:=η ((ZB.out.below hS ZB.out.lt).other (p:=⟨g6,4+k,none⟩) (show w.heap.size+1≠g6 from by have:=HG6.out;omega) (.string (fV xk)));generalize w'.setCell ⟨g6,4+k,none⟩ (.string (fV xk))=w9 at *;clear hS hR hF e13 e15 bp hc0 hf0;refine bq κ ?_;have hk3:=HK3.out
    go_wp2_with fail
    go_round
    case rel=>exact ⟨k+1,HK3.out,rfl,BF.out,NF.out,ZF.out,HBF.out⟩
    case measure=>show 3 - ((k:Int)+1).toNat<3 - (k:Int).toNat;have:=HK3.out;omega
end Go.Proofs.Υ
end

section
namespace Dowel
open V Go Go.RowKit Go.Proofs.Υ
section
variable {W W' : World} {gs gp gm : Nat} {v0 v1 v2 u0 u1 u2 : Value} {a b c s : RC × RC × RC} {m : Mo} {qs : List Q3} {fqs : List (Q3 × Rat)} {rns : List (List Nat)} {es : List ED} {vrs prs : List (RC × RC × RC)} {frs grs : List FR}
structure PlW (W:World) (gs gp gm:Nat) (v0 v1 v2 u0 u1 u2:Value) (a b c s:RC × RC × RC) (m:Mo) (qs:List Q3) (fqs:List (Q3 × Rat)) (rns:List (List Nat)) (es:List ED) (vrs prs:List (RC × RC × RC)) (frs grs:List FR):Prop where
 sb:Box W gs #[v0,v1,v2] 32
 pb:Box W gp #[u0,u1,u2] 32
 mb:Box W gm (aC a b c s) 89
 mr:MotR W a b c s m
 sv:VRow W 0 v0 qs vrs
 pv:VRow W 0 u0 (qs.map (aE m)) prs
 sf:FRow W 0 v1 fqs frs
 pf:FRow W 0 u1 (fd m qs fqs rns fqs.length) grs
 si:eJ W 0 frs rns
 pi:eJ W 0 grs rns
 se:eV W 0 v2 es
 pe:eV W 0 u2 es
theorem PlW.below (h:PlW W gs gp gm v0 v1 v2 u0 u1 u2 a b c s m qs fqs rns es vrs prs frs grs) (hb:Below W.heap.size W W'):PlW W' gs gp gm v0 v1 v2 u0 u1 u2 a b c s m qs fqs rns es vrs prs frs grs:=
 ⟨h.sb.below hb h.sb.lt,h.pb.below hb h.pb.lt,h.mb.below hb h.mb.lt,h.mr.below hb,h.sv.below hb,h.pv.below hb,h.sf.below hb,h.pf.below hb,h.si.below hb,h.pi.below hb,aF h.se hb,aF h.pe hb⟩
end
def oh (cs:Array Value):Prop:=∃ n0 n1 n2 ro fa fl fc,cs=aL n0 n1 n2 ro fa fl fc
theorem sh17z:oh (aL RC.zero RC.zero RC.zero RC.zero none 0 0):=⟨_,_,_,_,_,_,_,rfl⟩
theorem Wr.row {w:World} {n g:Nat} {cs:Array Value} {t:TypeId} (hg:n≤g) (hb:Box w g cs t) {cs':Array Value} (h:oh cs'):Wr oh n t w (w.setRow g cs'):=⟨g,cs,cs',hg,hb,h,en hb cs',cR w g cs'⟩
theorem fQ {w0 w:World} (h:Below w0.heap.size w0 w) {g:Nat} (hg:w0.heap.size≤g) (cs:Array Value):Below w0.heap.size w0 (w.setRow g cs):=h.grown (cR w g cs) h.size (fun k e=>by cases e;exact hg)
theorem FRow.open18 {w:World} {base:Nat} {pa:Option Addr} {N cap:Nat} {qs:List (Q3 × Rat)} {rs:List FR} {rns:List (List Nat)} (h:FRow w base (.slice pa N cap) qs rs) (hi:eJ w base rs rns) {i:Nat} {f:Q3 × Rat} {r:List Nat} (hf:qs[i]?=some f) (hr:rns[i]?=some r) :
  ∃ (b:Nat) (n0 n1 n2 ro:RC) (fa:Option Addr) (fc:Nat),pa=some ⟨b,0,none⟩∧b<w.heap.size∧aA w (.agg (ah n0 n1 n2)) f.1∧am w ro.agg f.2∧dr w base (.slice fa r.length fc) r∧∀ j,j<(aL n0 n1 n2 ro fa r.length fc).size→w.cell? ⟨b,i*17+j,none⟩=(aL n0 n1 n2 ro fa r.length fc)[j]? := by
 have hl:i<rs.length:=by rw [h.len];exact (List.getElem?_eq_some_iff.1 hf).1
 obtain ⟨b,cap',x,e,hb,hx,hc⟩:=h.at_ i hl;obtain ⟨h1,h2⟩:=h.vec i x f hx hf;have ho:=hi i x r hx hr;obtain ⟨⟨n0,n1,n2⟩,ro,fv⟩:=x;obtain ⟨fa,fc,ev,-⟩:=dB ho;simp only at ev h1 h2 ho;subst ev;cases e;exact ⟨b,n0,n1,n2,ro,fa,fc,rfl,hb,h1,h2,ho,fun j hj=>(hc j hj).trans (Array.getElem?_toList (xs:=aL n0 n1 n2 ro _ _ _))⟩
theorem mO (w:World):Box ((w.alloc (.cells #[.bool false,.slice none 0 0,.bool false,.slice none 0 0] 56)).alloc (.cells #[.bool false,.slice none 0 0,.bool false,.slice none 0 0] 56)) w.heap.size #[.bool false,.slice none 0 0,.bool false,.slice none 0 0] 56:=(Box.new w _ _ _ rfl).old _
theorem mN (w:World) (r:RC):Box (((w.alloc (.cells #[.bool false,.slice none 0 0,.bool false,.slice none 0 0] 56)).alloc (.cells #[.bool false,.slice none 0 0,.bool false,.slice none 0 0] 56)).setRow w.heap.size (aT r)) (w.heap.size+1) #[.bool false,.slice none 0 0,.bool false,.slice none 0 0] 56:=(Box.new _ _ _ _ (by simp)).grown (cR _ _ _) (fun e=>by injection e with e;omega)
theorem two4 (w:World) (r r':RC):∃ W,(((w.alloc (.cells #[.bool false,.slice none 0 0,.bool false,.slice none 0 0] 56)).alloc (.cells #[.bool false,.slice none 0 0,.bool false,.slice none 0 0] 56)).setRow w.heap.size (aT r)).setRow (w.heap.size+1) (aT r')=W∧Box W w.heap.size (aT r) 56∧Box W (w.heap.size+1) (aT r') 56∧Below w.heap.size w W:=by
 have h0:Below w.heap.size w ((w.alloc (.cells #[.bool false,.slice none 0 0,.bool false,.slice none 0 0] 56)).alloc (.cells #[.bool false,.slice none 0 0,.bool false,.slice none 0 0] 56)):=(β.alloc ρ _).alloc (by simp) _;exact ⟨_,rfl,(en (mO w) _).grown (cR _ _ _) (fun e=>by injection e with e;omega),en (mN w r) _,fQ (fQ h0 ρ _) ω _⟩
theorem mot_bd {q:Q4} (hq:OkQ q) (s:Q3) (i:Nat):BdV 2 ((fz q s).row i):=(m8 hq s i).bd ν ν ν
theorem nI {m:Mo} {v:Q3} (h:∀ i,BdV 2 (m.row i)) (hs:BdV 2 m.s) (hv:BdV 2 v):BdV 19 (aE m v):=by
 have h1:=(BdV.turn h hv).qadd hs;exact h1.mono ν
theorem jq (x:Rat):dY x x=0:=by
 unfold dY;rw [if_neg (Rat.lt_irrefl (a:=x)),if_neg (Rat.lt_irrefl (a:=x))]
theorem vol_bd {w:World} {v0 v1:Value} {qs:List Q3} {frs:List FR} {rs:List (List Nat)} {d M:Nat} (hS:SolidF w v0 v1 qs frs rs d M):Bd 20 (bB (ak (qAt qs) rs) / 6):=by
 obtain ⟨h1,-,-⟩:=pA hS.dpos hS.dmax hS.mmax hS.frac (by rw [hS.sol.len];exact hS.sol.max) (fun r hr=>(hS.sol.ring r hr).1) (ak (qAt qs) rs) ρ (fun x hx=>hx);exact (Bd.div (show Bd 8 _ from h1) bd6 ν).mono ν
theorem frac_bd2 {s:Q3} (h:bN 60 100000 s):BdV 2 s:=h.bd ν ν ν
end Dowel
namespace Go.Proofs.Υ
open Go.RowKit Dowel
theorem infoE4:(Tryz.prog.info? 96).map (·.size)=some 4:=by kernel_rfl
theorem eqTwo (k:Nat) (a b:Int) (w:World):(Op.equalIn (k+2) 94 (.agg #[.int .i64 a,.int .i64 b]) (.agg #[.int .i64 a,.int .i64 b])).run Tryz.prog w=.ok true w:=by
 have u3:=Tryz.underlying3;have a3:=Tryz.isAgg3;have z3:=Tryz.sizeOf3;rw [Op.equalIn];simp only [Sem.run_bind,run_underlying Tryz.underlying94,Result.andThen_ok];simp only [Std.Legacy.Range.forIn_eq_forIn_range',Std.Legacy.Range.size,Nat.sub_zero,Nat.add_sub_cancel,Nat.div_one,List.range'_succ,List.range'_zero,List.forIn_cons,List.forIn_nil];go_simp
theorem eqEdge (a b c d:Int) (w:World):(Op.equalIn 10000 96 (.agg #[.int .i64 a,.int .i64 b,.int .i64 c,.int .i64 d]) (.agg #[.int .i64 a,.int .i64 b,.int .i64 c,.int .i64 d])).run Tryz.prog w=.ok true w:=by
 have u3:=Tryz.underlying3;have a3:=Tryz.isAgg3;have z3:=Tryz.sizeOf3;have z94:=Tryz.sizeOf94;have a94:=Tryz.isAgg94;have hv:=eqTwo 9997;rw [show (10000:Nat)=9999+1 from rfl,Op.equalIn];simp only [Sem.run_bind,run_underlying Tryz.underlying96,Result.andThen_ok];go_simp
set_option maxRecDepth 100000 in
theorem nH (hkn:∀ v,Tab v→Calls Tryz.prog 10 #[] v fun e w'=>e=.returned (.bool true)∧Below v.heap.size v w') (a:Option Addr) (al cap:Nat) (T:Nat→V) (n:V) (X:Nat→Nat) (w:World) (hT:Tab w) (hV:ic w) (hPw:Pow w) (hP:Pts8 w a al cap T) (hn:LeV 128 n) (hX:∀ i,X i<256) :
  Calls Tryz.prog 9 #[.slice a al cap,.agg #[.int .i8 n.x,.int .i8 n.y,.int .i8 n.z],.agg #[.int .u8 (X 0:Nat),.int .u8 (X 1:Nat),.int .u8 (X 2:Nat),.int .u8 (X 3:Nat),.int .u8 (X 4:Nat)]] w fun e w'=>e=.returned (.bool true)∧Below w.heap.size w w':=by
 obtain ⟨W,hW,b1,b2,hB,hS⟩:=da w #[.int .i8 n.x,.int .i8 n.y,.int .i8 n.z] #[.int .u8 (X 0:Nat),.int .u8 (X 1:Nat),.int .u8 (X 2:Nat),.int .u8 (X 3:Nat),.int .u8 (X 4:Nat)] 38 86;have HKN:=η hkn;have HT:=η hT;have HB:=η hB;have HS:=η hS;have B1:=η b1;have B2:=η b2;have HN:=η hn;have HPT:=η (hP.below hB ρ);have KT:Hid (∀ w',Below w.heap.size w w'→Tab w'):=fun w' h=>HT.out.below h HT.out.1
 have HMV:=η (fun w' (h:Below w.heap.size w w')=>moved_any X w' (hV.below h) (hPw.below h) hX);clear hkn hT hB hS b1 b2 hn hP hV hPw
 go_enter Tryz.func9,Tryz.ntmps9
 go_wp2_with fail
 refine (solid_any a al cap T W HPT.out).mono ?_;rintro e w1 ⟨⟨pp,len,pc,ok,rfl,hok⟩,hb1⟩;have HOK:=η hok;have L1:=η (ae HB.out hb1 (ψ HS.out));have C1:=η (B1.out.below hb1 B1.out.lt);have E1:=η (B2.out.below hb1 B2.out.lt);clear hok hb1
 go_upto_region 2 with fail
 obtain ⟨w2,hw2,b2,hb2,hs2⟩:=aG w1 #[.slice pp len pc] 24;rw [hw2];have H12:=η hb2;have L2:=η (ae L1.out hb2 ρ);have C2:=η (C1.out.below hb2 C1.out.lt);have D2:=η b2;obtain ⟨y0,y1,y2,y3,y4⟩:w2.cell? ⟨w.heap.size+1,0,none⟩=some (.int .u8 (X 0:Nat))∧w2.cell? ⟨w.heap.size+1,1,none⟩=some (.int .u8 (X 1:Nat))∧w2.cell? ⟨w.heap.size+1,2,none⟩=some (.int .u8 (X 2:Nat))∧w2.cell? ⟨w.heap.size+1,3,none⟩=some (.int .u8 (X 3:Nat))∧w2.cell? ⟨w.heap.size+1,4,none⟩=some (.int .u8 (X 4:Nat)):=
  have h:=E1.out.below hb2 E1.out.lt
  ⟨h.cell 0,h.cell 1,h.cell 2,h.cell 3,h.cell 4⟩
 clear hw2 b2 hb2 hs2 B1 B2 E1
 go_wp2_with fail
 refine (HMV.out w2 L2.out).mono ?_;rintro e w3 ⟨⟨vm,q,sh,rfl,⟨ma,mb,mc,ms,rfl,hmr⟩,hq,hsh⟩,hb3⟩;have H23:=η hb3;have L3:=η (ae L2.out hb3 ρ);have C3:=η (C2.out.below hb3 C2.out.lt);have D3:=η (D2.out.below hb3 D2.out.lt);have MR3:=η hmr;have HQ:=η hq;have HSH:=η hsh;clear hb3 hmr hq hsh y0 y1 y2 y3 y4
 go_upto_region 3 with (refine aB rfl _ _ _ rfl _ (aC ma mb mc ms) rfl rfl dc rfl (fE _ _ _ _) ?_)
 obtain ⟨w4,hw4,b4,hb4,hs4⟩:=aG w3 (aC ma mb mc ms) 89;rw [hw4];have H34:=η hb4;have L4:=η (ae L3.out hb4 ρ);have C4:=η (C3.out.below hb4 C3.out.lt);have D4:=η (D3.out.below hb4 D3.out.lt);have MR4:=η (MR3.out.below hb4);have M4:=η b4;clear hw4 b4 hb4 hs4
 go_wp2_with fail
 refine (HKN.out w4 (KT.out w4 L4.out)).mono ?_;rintro e w5 ⟨rfl,hb5⟩;have H45:=η hb5;have L5:=η (ae L4.out hb5 ρ);have C5:=η (C4.out.below hb5 C4.out.lt);have D5:=η (D4.out.below hb5 D4.out.lt);have MR5:=η (MR4.out.below hb5);have M5:=η (M4.out.below hb5 M4.out.lt);clear hb5;cases ok
 case false =>
  go_wp2_with fail
  refine (HKN.out w5 (KT.out w5 L5.out)).mono ?_;rintro e w6 ⟨rfl,hb6⟩;have L6:=η (ae L5.out hb6 ρ)
  go_wp2_with fail
  go_ret;exact ⟨rfl,L6.out⟩
 case true =>
  obtain ⟨hH,hO,hN⟩:=HOK.out rfl;have hn8:∀ x ∈ cN (pH T al) (min al 10),LeV 128 x:=fun x hx=>by
   obtain ⟨j,hj,rfl,-⟩:=eG.mp hx;rw [ptsT_at T al j hj];exact HPT.out.near j ω
  have HO5:=η ((((hO.below H12.out).below H23.out).below H34.out).below H45.out);have HH:=η hH;obtain ⟨Q,hQ⟩:∃ Q,pH T al=Q:=⟨_,rfl⟩;obtain ⟨M,hM⟩:∃ M,min al 10=M:=⟨_,rfl⟩;rw [hQ,hM] at HO5 HH hN hn8;clear hH hO HOK hQ hM H12 H23 H34 H45;have HSH5:=η (hull_shape Q M _ (.slice pp len pc) w5 (KT.out w5 L5.out) HH.out HO5.out hN);have hV:=HH.out.valid ω;obtain ⟨L,hL⟩:∃ L,cN Q M=L:=⟨_,rfl⟩;rw [hL] at HO5 HSH5 hN hV hn8;have hn8':∀ i,i<L.length→LeV 4096 (ofL L i):=fun i hi=>(hn8 _ (by
   unfold ofL;rw [show L.getD i V.zero=L[i] by simp [hi]];exact List.getElem_mem hi)).mono ω
  obtain ⟨P,hP'⟩:∃ P,ofL L=P:=⟨_,rfl⟩;obtain ⟨pa,pcc,e,hpts⟩:=jU.pts HO5.out;rw [hP'] at HSH5 hpts hV hn8';obtain ⟨len',hlen⟩:∃ len',L.length=len':=⟨_,rfl⟩;rw [hlen] at HSH5 hpts hN hV hn8' e;cases e;have HVV:=η hV;have HNR:=η hn8';have h4:=hV.four;have HLN:=η (show 4≤len∧len≤10 from ⟨h4,hN⟩);clear hV hpts hL hP' HO5 HH hn8 hn8' hlen;obtain ⟨s0,-⟩:=D5.out.one
  go_wp2_with fail
  refine HSH5.out.mono ?_;rintro e w6 ⟨⟨v0,v1,v2,fs,E,vrs,frs,es,rfl,hsh⟩,hb6⟩;obtain ⟨⟨pv,cv,rfl⟩,⟨pf,cf,rfl⟩,⟨pe,ce,rfl⟩⟩:=hsh.forms;obtain ⟨nf,hnf⟩:∃ nf,frs.length=nf:=⟨_,rfl⟩;obtain ⟨ne,hne⟩:∃ ne,es.length=ne:=⟨_,rfl⟩;rw [hnf,hne] at hsh ⊢;have HSP:=η hsh;have HNF:=η hnf;have HNE:=η hne;have L6:=η (ae L5.out hb6 ρ);have C6:=η (C5.out.below hb6 C5.out.lt);have MR6:=η (MR5.out.below hb6);have M6:=η (M5.out.below hb6 M5.out.lt);clear hsh hb6 hnf hne HSH5 s0 D2 D3 D4 D5
  go_upto_region 6 with fail
  obtain ⟨w7,hw7,b7,hb7,hs7⟩:=aG w6 #[.slice pv len cv,.slice pf nf cf,.slice pe ne ce] 32;rw [hw7];have L7:=η (ae L6.out hb7 ρ);have C7:=η (C6.out.below hb7 C6.out.lt);have MR7:=η (MR6.out.below hb7);have M7:=η (M6.out.below hb7 M6.out.lt);have S7:=η b7;have SP7:=η (HSP.out.below hb7);clear hw7 b7 hb7 hs7 HSP;have hok:=SP7.out.ok;have hS0:=HVV.out.sorted;have hrw:=hok.rows hS0;have hfew:=hok.few (show len≤16 by omega);have hlf:frs.length=fs.length:=by have:=congrArg List.length SP7.out.val;simpa using this
  have HSOL:=η (SP7.out.solid ω ω ω HNR.out hrw);have HSNE:=η (hok.sum_ne HVV.out (fun f hf=>(hrw f hf).2));have HTN:=η (hok.turned hS0 HNR.out HQ.out sh);have HIF:=η (show eJ w7 0 frs (fs.map RF.r) from fun i f r h1 h2=>by
   rw [List.getElem?_map,Option.map_eq_some_iff] at h2;obtain ⟨g,hg,rfl⟩:=h2;have h3:=congrArg (fun l:List Value=>l[i]?) SP7.out.val;simp only [List.getElem?_map,h1,hg,Option.map_some] at h3;have h4:=SP7.out.rows.own g (List.mem_of_getElem? hg);rw [Option.some.inj h3];exact cj h4 (Nat.zero_le _))
  have HSML:=η (show es.length≤262144 from by
   have:=kL SP7.out.edg.small SP7.out.edg.nodup;have:es.length≤4096:=by simpa using this
   omega)
  have HQL:=η (show (dU P len).length=len from by unfold dU;simp);obtain ⟨qs,hqs⟩:∃ qs,dU P len=qs:=⟨_,rfl⟩;obtain ⟨rns,hrns⟩:∃ rns,fs.map RF.r=rns:=⟨_,rfl⟩;obtain ⟨fqs,hfqs⟩:∃ fqs,fs.map (gM P)=fqs:=⟨_,rfl⟩;obtain ⟨m,hm⟩:∃ m,fz q sh=m:=⟨_,rfl⟩;have hrng:∀ r ∈ rns,r.length≤262144∧r≠[]∧∀ i ∈ r,i<len:=fun r hr=>by
   rw [← hrns] at hr;obtain ⟨f,hf,rfl⟩:=List.mem_map.mp hr;exact ⟨by have:=SP7.out.rows.short f hf;omega,(hrw f hf).1,(hrw f hf).2⟩
  have hlr:rns.length=nf:=by rw [← hrns,List.length_map,← hlf];exact HNF.out
  have hlq:fqs.length=nf:=by rw [← hfqs,List.length_map,← hlf];exact HNF.out
  have hsv:=SP7.out.vs;have hsf:=SP7.out.fcs;have hse:=SP7.out.eds;rw [hqs] at hsv HQL;rw [hfqs] at hsf;rw [hqs,hrns] at HSOL HSNE;rw [hrns] at HIF;rw [hfqs,hm] at HTN;rw [hm] at MR7 MR6 MR5 MR4 MR3;have HMB:=η (show ∀ i,BdV 2 (m.row i) from by rw [← hm];exact mot_bd HQ.out sh);have HMS:=η (show BdV 2 m.s from by rw [← hm];exact frac_bd2 HSH.out);have HRT:=η (show Rot m from by rw [← hm];exact rot_mot q sh (ψ HQ.out.pos));have HKQ:=η (show ∀ i,BdV 2 (qAt qs i) from fun i=>(HSOL.out.frac i).bd ν ν ν);have HSV7:=η hsv;have HSF7:=η hsf;have HSE7:=η hse;have HRNG:=η hrng;have HLR:=η hlr;have HLQ:=η hlq;have HMM:=η hm;have HPLF:=η (show PlaF w7 _ _ fqs frs rns qs.length m 2 18 from ⟨hsf,fun i f r h1 h2=>⟨_,HIF.out i f r h1 h2⟩,by rw [hlr];exact HNF.out.symm,by omega,by rw [HQL.out];exact hrng,by omega,by omega,HTN.out⟩);have HNF2:=η (show nf≤65536 from by have:=HNF.out;omega);have HPLC:=η (place_any (.agg (aC ma mb mc ms)) m 2 2 (.slice pv len cv) (.slice pf nf cf) (.slice pe ne ce) qs _ vrs es w7 ⟨ma,mb,mc,ms,rfl,MR7.out⟩ HMB.out HMS.out hsv HKQ.out ω (by rw [HQL.out];omega) hse HSML.out fqs frs rns 18 HPLF.out);clear hok hS0 hrw hfew hlf hqs hrns hfqs hm hrng hlr hlq hsv hsf hse HPLF SP7 MR3 MR4 MR5 MR6 M4 M5 M6;obtain ⟨s0,s1,s2,-⟩:=S7.out.three
  go_wp2_with (refine aq rfl _ _ rfl w3.heap.size 0 rfl (aC ma mb mc ms) _ (fun j hj=>M7.out.whole j hj) Tryz.underlying89 rfl dc ?_)
  refine HPLC.out.mono ?_;rintro e w8 ⟨⟨u0,u1,u2,prs,grs,rfl,hv8,hf8,hi8,he8⟩,hb8⟩;obtain ⟨qv,dv,e0,-⟩:=dB hv8.own;obtain ⟨qf,df,e1,-⟩:=dB hf8.own;obtain ⟨qe,de,e2,-⟩:=dB he8;have hpl:prs.length=len:=by rw [hv8.len,List.length_map,HQL.out]
  have hgl:grs.length=nf:=by rw [hf8.len];unfold fd;rw [List.length_map,List.length_take,List.length_zip,HLR.out,HLQ.out];omega
  rw [hpl] at e0;rw [hgl] at e1;rw [HNE.out] at e2;subst e0;subst e1;subst e2;have HGL:=η hgl;have L8:=η (ae L7.out hb8 ρ);have C8:=η (C7.out.below hb8 C7.out.lt);have V8:=η hv8;have F8:=η hf8;have I8:=η hi8;have E8:=η he8;have H78:=η hb8;clear hv8 hf8 hi8 he8 hb8 hpl hgl s0 s1 s2 HPLC
  go_upto_region 7 with fail
  obtain ⟨w9,hw9,b9,hb9,hs9⟩:=aG w8 #[.slice qv len dv,.slice qf nf df,.slice qe ne de] 32;rw [hw9];have H89:=η hb9;have HP9:=η (show PlW w9 w6.heap.size w8.heap.size w3.heap.size (.slice pv len cv) (.slice pf nf cf) (.slice pe ne ce) (.slice qv len dv) (.slice qf nf df) (.slice qe ne de) ma mb mc ms m qs fqs rns es vrs prs frs grs from
   have hb:=fun {n:Nat} {cs:Array Value} {t:TypeId} (h:Box w7 n cs t)=>(h.below H78.out h.lt).below hb9 (h.below H78.out h.lt).lt
   ⟨hb S7.out,b9,hb M7.out,(MR7.out.below H78.out).below hb9,((HSV7.out.base (Nat.zero_le _)).below H78.out).below hb9,(V8.out.base (Nat.zero_le _)).below hb9,((HSF7.out.base (Nat.zero_le _)).below H78.out).below hb9,(F8.out.base (Nat.zero_le _)).below hb9,(HIF.out.below H78.out).below hb9,eJ.below (show eJ w8 0 grs rns from fun i f r h1 h2=>cj (I8.out i f r h1 h2) (Nat.zero_le _)) hb9,aF (aF (cj HSE7.out (Nat.zero_le _)) H78.out) hb9,aF (cj E8.out (Nat.zero_le _)) hb9⟩)
  have L9:=η (ae L8.out hb9 ρ);have C9:=η (C8.out.below hb9 C8.out.lt);have HSOL9:=η (HSOL.out.below H78.out |>.below hb9);clear hw9 b9 hb9 hs9 V8 F8 I8 E8 HSV7 HSF7 HSE7 HIF S7 M7 MR7 H78 H89 HSOL;obtain ⟨s0,s1,s2,-⟩:=HP9.out.sb.three;obtain ⟨p0,p1,p2,-⟩:=HP9.out.pb.three
  go_wp2_with fail
  clear s0 s1 s2 p0 p1 p2;have HLI:=η (show (len:Int)≤10 from by omega)
  go_loopw [14] (fun iv wr=>∃ i:Nat,i≤len∧iv=.int .i64 (i:Nat)∧Hid (Below w9.heap.size w9 wr)) (fun iv _=>len - (intOf iv).toNat)
  case atStart=>exact ⟨0,Nat.zero_le _,rfl,Below.refl _ _⟩
  case round =>
   obtain ⟨i,hi,rfl,HR⟩:=hrel;obtain ⟨wk,rfl⟩:∃ wk,wk=wr:=⟨_,rfl⟩;have HS:=η (HP9.out.below HR.out);have hli:=HLI.out;obtain ⟨s0,s1,s2,-⟩:=HS.out.sb.three;by_cases h0:i=len
   ·have hnl:¬ (i:Int)<(len:Int):=ω
    clear h0
    go_wp2_with fail
    clear s0 s1 s2
    go_loopw [15] (fun iv wr=>∃ i:Nat,i≤ne∧iv=.int .i64 (i:Nat)∧Hid (Below w9.heap.size w9 wr)) (fun iv _=>ne - (intOf iv).toNat)
    case atStart=>exact ⟨0,Nat.zero_le _,rfl,HR.out⟩
    case round =>
     clear hi hnl HS HR;obtain ⟨i,hi,rfl,HR⟩:=hrel;obtain ⟨wk,rfl⟩:∃ wk,wk=wr:=⟨_,rfl⟩;have HS:=η (HP9.out.below HR.out);have hne2:ne≤262144:=by have:=HSML.out;have:=HNE.out;omega
     obtain ⟨s0,s1,s2,-⟩:=HS.out.sb.three;by_cases h0:i=ne
     ·have hnl:¬ (i:Int)<(ne:Int):=ω
      clear h0
      go_wp2_with fail
      clear s0 s1 s2
      go_loopw [16] (fun iv wr=>∃ i:Nat,i≤nf∧iv=.int .i64 (i:Nat)∧Hid (Below w9.heap.size w9 wr)) (fun iv _=>nf - (intOf iv).toNat)
      case atStart=>exact ⟨0,Nat.zero_le _,rfl,HR.out⟩
      case round =>
       clear hi hnl HS HR;obtain ⟨i,hi,rfl,HR⟩:=hrel;obtain ⟨wk,rfl⟩:∃ wk,wk=wr:=⟨_,rfl⟩;have HS:=η (HP9.out.below HR.out);have hnf2:=HNF2.out;obtain ⟨s0,s1,s2,-⟩:=HS.out.sb.three;by_cases h0:i=nf
       ·have hnl:¬ (i:Int)<(nf:Int):=ω
        clear h0;have CB:=η (C9.out.below HR.out C9.out.lt);have LK:=η (ae L9.out HR.out ρ);have hn1:=HN.out.1;have hn2:=HN.out.2.1;have hn3:=HN.out.2.2;unfold Le at hn1 hn2 hn3;have kw1:IntKind.i64.wrap n.x=n.x:=IntWalk.i64_in _ ω;have kw2:IntKind.i64.wrap n.y=n.y:=IntWalk.i64_in _ ω;have kw3:IntKind.i64.wrap n.z=n.z:=IntWalk.i64_in _ ω;obtain ⟨c0,c1,c2,-⟩:=CB.out.three;have HNL:=η (show LeV 9007199254740992 n from HN.out.mono ω);have HBN:=η (lg HNL.out);clear hn1 hn2 hn3
        go_wp2_with fail
        clear hi hnl hnf2 s0 s1 s2;refine (kr n _ HNL.out).mono ?_;rintro e wa ⟨⟨v,rfl,hv⟩,hba⟩;obtain ⟨t0,t1,t2,rfl,hnv⟩:=hv.rcv;have NV:=η (show aA wa (.agg (ah t0 t1 t2)) (ptQ n) from hnv);have Sa:=η (HS.out.below hba);have La:=η (ae LK.out hba ρ);have HRa:=η (ae HR.out hba ρ);clear hv hnv hba c0 c1 c2 kw1 kw2 kw3 CB
        go_upto_region 27 with (refine aB rfl _ _ _ rfl _ (ah t0 t1 t2) rfl rfl aK rfl (bU t0 t1 t2) ?_)
        obtain ⟨wb,hwb,bb,hbb,hsb⟩:=aG wa (ah t0 t1 t2) 58;rw [hwb];have NB:=η bb;have NVb:=η (NV.out.below hbb);have Sb:=η (Sa.out.below hbb);have Lb:=η (ae La.out hbb ρ);have HRb:=η (ae HRa.out hbb ρ);have HEX:=η (np (.slice pv len cv) (.slice pf nf cf) (.slice pe ne ce) (.agg (ah t0 t1 t2)) qs vrs (ptQ n) 0 2 2 wb Sb.out.sv (fun i _=>HKQ.out i) NVb.out HBN.out ω (by rw [HQL.out];omega));obtain ⟨s0,s1,s2,-⟩:=Sb.out.sb.three;clear hwb bb hbb hsb
        go_wp2_with (refine aq rfl _ _ rfl wa.heap.size 0 rfl (ah t0 t1 t2) _ (fun j hj=>NB.out.whole j hj) Tryz.underlying58 rfl aK ?_)
        refine HEX.out.mono ?_;rintro e wc ⟨⟨lr,hr,rfl,hlo,hhi⟩,hbc⟩;rw [HQL.out] at hlo hhi;have LOc:=η hlo;have HIc:=η hhi;have NBc:=η (NB.out.below hbc NB.out.lt);have NVc:=η (NVb.out.below hbc);have Sc:=η (Sb.out.below hbc);have Lc:=η (ae Lb.out hbc ρ);have HRc:=η (ae HRb.out hbc ρ);clear hlo hhi hbc s0 s1 s2
        go_upto_region 28 with (first | refine wpList_store_row rfl 56 _ _ rfl wc.heap.size (aT lr) rfl rfl 56 _ (mO wc) bL rfl (gj lr) ?_ | refine wpList_store_row rfl 56 _ _ rfl (wc.heap.size+1) (aT hr) rfl rfl 56 _ (mN wc lr) bL rfl (gj hr) ?_)
        obtain ⟨wd,hwd,bl,bh,hbd⟩:=two4 wc lr hr;rw [hwd];have LBd:=η bl;have HBd:=η bh;have LOd:=η (LOc.out.below hbd);have HId:=η (HIc.out.below hbd);have NBd:=η (NBc.out.below hbd NBc.out.lt);have NVd:=η (NVc.out.below hbd);have Sd:=η (Sc.out.below hbd);have Ld:=η (ae Lc.out hbd ρ);have HRd:=η (ae HRc.out hbd ρ);clear hwd bl bh hbd;have HTU:=η (jY (.agg (aC ma mb mc ms)) (.agg (ah t0 t1 t2)) m (ptQ n) 2 2 wd ⟨ma,mb,mc,ms,rfl,Sd.out.mr⟩ NVd.out HMB.out HBN.out ω)
        go_wp2_with (first | refine aq rfl _ _ rfl w3.heap.size 0 rfl (aC ma mb mc ms) _ (fun j hj=>Sd.out.mb.whole j hj) Tryz.underlying89 rfl dc ?_ | refine aq rfl _ _ rfl wa.heap.size 0 rfl (ah t0 t1 t2) _ (fun j hj=>NBd.out.whole j hj) Tryz.underlying58 rfl aK ?_)
        refine HTU.out.mono ?_;rintro e we ⟨⟨v,rfl,hv⟩,hbe⟩;obtain ⟨y0,y1,y2,rfl,htv⟩:=hv.rcv;have TVe:=η htv;have LBe:=η (LBd.out.below hbe LBd.out.lt);have HBe:=η (HBd.out.below hbe HBd.out.lt);have LOe:=η (LOd.out.below hbe);have HIe:=η (HId.out.below hbe);have Se:=η (Sd.out.below hbe);have Le':=η (ae Ld.out hbe ρ);have HRe:=η (ae HRd.out hbe ρ);clear hv htv hbe
        go_upto_region 29 with (refine aB rfl _ _ _ rfl _ (ah y0 y1 y2) rfl rfl aK rfl (bU y0 y1 y2) ?_)
        obtain ⟨wf,hwf,bf,hbf,hsf⟩:=aG we (ah y0 y1 y2) 58;rw [hwf];have TBf:=η bf;have TVf:=η (TVe.out.below hbf);have LBf:=η (LBe.out.below hbf LBe.out.lt);have HBf:=η (HBe.out.below hbf HBe.out.lt);have LOf:=η (LOe.out.below hbf);have HIf:=η (HIe.out.below hbf);have Sf:=η (Se.out.below hbf);have Lf:=η (ae Le'.out hbf ρ);have HRf:=η (ae HRe.out hbf ρ);clear hwf bf hbf hsf;have HBT:=η (show BdV 16 (aM m (ptQ n)) from (BdV.turn HMB.out HBN.out).mono ν);have HDO:=η (gF (.agg (ah y0 y1 y2)) (.agg (ah ms.1 ms.2.1 ms.2.2)) (aM m (ptQ n)) m.s 16 2 wf TVf.out Sf.out.mr.s HBT.out HMS.out ω)
        go_wp2_with (first | refine aq rfl _ _ rfl we.heap.size 0 rfl (ah y0 y1 y2) _ (fun j hj=>TBf.out.whole j hj) Tryz.underlying58 rfl aK ?_ | refine aq rfl _ _ rfl w3.heap.size 36 rfl (ah ms.1 ms.2.1 ms.2.2) _ (fun j hj=>Sf.out.mb.shift j hj) Tryz.underlying58 rfl aK ?_)
        refine HDO.out.mono ?_;rintro e wg ⟨⟨v,rfl,hv⟩,hbg⟩;obtain ⟨sr,rfl,hsv⟩:=hv.rcv;have SVg:=η hsv;have TBg:=η (TBf.out.below hbg TBf.out.lt);have TVg:=η (TVf.out.below hbg);have LBg:=η (LBf.out.below hbg LBf.out.lt);have HBg:=η (HBf.out.below hbg HBf.out.lt);have LOg:=η (LOf.out.below hbg);have HIg:=η (HIf.out.below hbg);have Sg:=η (Sf.out.below hbg);have Lg:=η (ae Lf.out hbg ρ);have HRg:=η (ae HRf.out hbg ρ);clear hv hsv hbg
        go_upto_region 30 with (refine aB rfl _ _ _ rfl _ (#[.bool sr.s,.slice sr.a sr.n sr.c,.bool sr.t,.slice sr.b sr.m sr.d]) rfl rfl bL rfl rfl ?_)
        obtain ⟨wh,hwh,bh,hbh,hsh⟩:=aG wg #[.bool sr.s,.slice sr.a sr.n sr.c,.bool sr.t,.slice sr.b sr.m sr.d] 56;rw [hwh];have SBh:=η (show Box wh wg.heap.size (aT sr) 56 from bh);have SVh:=η (SVg.out.below hbh);have TBh:=η (TBg.out.below hbh TBg.out.lt);have TVh:=η (TVg.out.below hbh);have LBh:=η (LBg.out.below hbh LBg.out.lt);have HBh:=η (HBg.out.below hbh HBg.out.lt);have LOh:=η (LOg.out.below hbh);have HIh:=η (HIg.out.below hbh);have Sh:=η (Sg.out.below hbh);have Lh:=η (ae Lg.out hbh ρ);have HRh:=η (ae HRg.out hbh ρ);clear hwh bh hbh hsh;have HEP:=η (np (.slice qv len dv) (.slice qf nf df) (.slice qe ne de) (.agg (ah y0 y1 y2)) (qs.map (aE m)) prs (aM m (ptQ n)) 0 19 16 wh Sh.out.pv (fun i hi=>by
         rw [List.length_map] at hi;rw [eM hi];exact nI HMB.out HMS.out (HKQ.out i)) TVh.out HBT.out ω (by rw [List.length_map,HQL.out];omega))
        obtain ⟨p0,p1,p2,-⟩:=Sh.out.pb.three
        go_wp2_with (refine aq rfl _ _ rfl we.heap.size 0 rfl (ah y0 y1 y2) _ (fun j hj=>TBh.out.whole j hj) Tryz.underlying58 rfl aK ?_)
        refine HEP.out.mono ?_;rintro e wi ⟨⟨ar,br,rfl,hlo,hhi⟩,hbi⟩;rw [List.length_map,ext_move HRT.out qs.length (by rw [HQL.out];omega) ρ,HQL.out] at hlo hhi;have AOi:=η hlo;have BOi:=η hhi;have SBi:=η (SBh.out.below hbi SBh.out.lt);have SVi:=η (SVh.out.below hbi);have LBi:=η (LBh.out.below hbi LBh.out.lt);have HBi:=η (HBh.out.below hbi HBh.out.lt);have LOi:=η (LOh.out.below hbi);have HIi:=η (HIh.out.below hbi);have Si:=η (Sh.out.below hbi);have Li:=η (ae Lh.out hbi ρ);have HRi:=η (ae HRh.out hbi ρ);clear hlo hhi hbi p0 p1 p2
        go_upto_region 31 with (first | refine wpList_store_row rfl 56 _ _ rfl wi.heap.size (aT ar) rfl rfl 56 _ (mO wi) bL rfl (gj ar) ?_ | refine wpList_store_row rfl 56 _ _ rfl (wi.heap.size+1) (aT br) rfl rfl 56 _ (mN wi ar) bL rfl (gj br) ?_)
        obtain ⟨wj,hwj,bl,bh,hbj⟩:=two4 wi ar br;rw [hwj];have AB:=η bl;have BB:=η bh;have A31:=η (AOi.out.below hbj);have B31:=η (BOi.out.below hbj);have SB:=η (SBi.out.below hbj SBi.out.lt);have SH31:=η (SVi.out.below hbj);have LB:=η (LBi.out.below hbj LBi.out.lt);have HB4:=η (HBi.out.below hbj HBi.out.lt);have LO31:=η (LOi.out.below hbj);have H31:=η (HIi.out.below hbj);have S31:=η (Si.out.below hbj);have L31:=η (ae Li.out hbj ρ);have HR31:=η (ae HRi.out hbj ρ);clear hwj bl bh hbj;have SBx:=η S31.out.sb;have PBx:=η S31.out.pb;have MBx:=η S31.out.mb;have MR31:=η S31.out.mr;have SOS:=η (HSOL9.out.below HR31.out);have SOP:=η (show SolidF wj (.slice qv len dv) (.slice qf nf df) (qs.map (aE m)) grs rns 60 100000000 from by
         have h1:=S31.out.pv;rw [← HMM.out] at h1 ⊢;exact SolidF.moved SOS.out HQ.out HSH.out h1 S31.out.pf S31.out.pi (by rw [HGL.out];exact HNF.out.symm))
        have hsl:=fun i (_:i<qs.length)=>(Bd.dot HBN.out (HKQ.out i):Bd _ (bt (ptQ n) (qAt qs i)))
        have hxb:=pW (K:=16) (fun i hi=>(hsl i hi).mono ν) ω len (by rw [HQL.out];exact Nat.le_refl _);have HBL:=η hxb.1;have HBH2:=η hxb.2;have HBS:=η (show Bd 58 (bt (aM m (ptQ n)) m.s) from (Bd.dot HBT.out HMS.out).mono ν);have HBA1:=η (HBL.out.add HBS.out);have HBB1:=η (HBH2.out.add HBS.out);have hpm:=pieces_move HRT.out (qs:=qs) (rs:=rns) (by rw [HQL.out];omega) (fun r hr=>by rw [HQL.out];exact (HRNG.out r hr).2.2);have HVE:=η (show bB (ak (qAt (qs.map (aE m))) rns) / 6=bB (ak (qAt qs) rns) / 6 from by rw [hpm,kJ]);have HVN:=η (show bB (ak (qAt (qs.map (aE m))) rns)≠0 from by rw [hpm,kJ];exact HSNE.out);have hce:qscale (1 / (4*bB (ak (qAt (qs.map (aE m))) rns))) (dW (ak (qAt (qs.map (aE m))) rns))=aE m (qscale (1 / (4*bB (ak (qAt qs) rns))) (dW (ak (qAt qs) rns))):=by
         rw [hpm,kJ,sumC_move,centre_move _ HSNE.out]
        have HCE:=η hce;have HBM:=η (show BdV 18 (aE m (qscale (1 / (4*bB (ak (qAt qs) rns))) (dW (ak (qAt qs) rns)))) from by rw [← hce];exact o4 SOP.out);have HBC:=η (o4 SOS.out);have HBV:=η (vol_bd SOS.out);clear hsl hxb hpm hce;refine bK (rest:=1) [isV 0 (.agg #[.bool ar.s,.slice ar.a ar.n ar.c,.bool ar.t,.slice ar.b ar.m ar.d]),isV 1 (.agg #[.bool lr.s,.slice lr.a lr.n lr.c,.bool lr.t,.slice lr.b lr.m lr.d]),isV 2 (.agg #[.bool sr.s,.slice sr.a sr.n sr.c,.bool sr.t,.slice sr.b sr.m sr.d]),isP 3 (fun u w=>am w u ((dD qs (ptQ n) len).1+bt (aM m (ptQ n)) m.s)),isV 4 (.int .i64 0),isV 5 (.bool true),isV 6 (.bool true),isV 7 (.agg #[.bool br.s,.slice br.a br.n br.c,.bool br.t,.slice br.b br.m br.d]),isV 8 (.agg #[.bool hr.s,.slice hr.a hr.n hr.c,.bool hr.t,.slice hr.b hr.m hr.d]),isV 9 (.agg #[.bool sr.s,.slice sr.a sr.n sr.c,.bool sr.t,.slice sr.b sr.m sr.d]),isP 10 (fun u w=>am w u ((dD qs (ptQ n) len).2+bt (aM m (ptQ n)) m.s)),isV 11 (.int .i64 0),isV 12 (.bool true),isV 13 (.bool true),isV 14 (.bool true),isV 15 (.agg #[.slice qv len dv,.slice qf nf df,.slice qe ne de]),isP 16 (fun u w=>am w u (bB (ak (qAt qs) rns) / 6)),isV 17 (.agg #[.slice pv len cv,.slice pf nf cf,.slice pe ne ce]),isP 18 (fun u w=>am w u (bB (ak (qAt qs) rns) / 6)),isV 19 (.int .i64 0),isV 20 (.bool true),isV 21 (.bool true),isV 22 (.bool true),isV 23 (.agg #[.slice qv len dv,.slice qf nf df,.slice qe ne de]),isP 24 (fun u w=>aA w u (aE m (qscale (1 / (4*bB (ak (qAt qs) rns))) (dW (ak (qAt qs) rns))))),isV 25 (.agg (aC ma mb mc ms)),isV 26 (.agg #[.slice pv len cv,.slice pf nf cf,.slice pe ne ce]),isP 27 (fun u w=>aA w u (qscale (1 / (4*bB (ak (qAt qs) rns))) (dW (ak (qAt qs) rns)))),isP 28 (fun u w=>aA w u (aE m (qscale (1 / (4*bB (ak (qAt qs) rns))) (dW (ak (qAt qs) rns))))),isV 29 (.bool true),isV 30 (.bool true)] [] ?A31 #[true,true,true,true,true,true,true,true,true,true,true,true,true,true,true,true,true,true,true,true,true,true,true,true,true,true,true,true,true,true,true,false] κ [0,1,2,3,4,5,6,7,8,9,10,11,12,13,14,15,16,17,18,19,20,21,22,23,24,25,26,27,28,29,30] κ κ κ κ κ κ ?st ?hA ?hop ?hend
        case hA =>
         intro y;simp only [bj,cU,List.getElem?_toArray,List.getElem?_cons_zero,List.getElem?_cons_succ,Option.bind_some,Act.put,List.setIfInBounds_toArray,List.set_cons_zero,List.set_cons_succ];exact rfl
        case st=>exact aj.cons isV.stab (aj.cons isV.stab (aj.cons isV.stab (aj.cons (isP.stab (fun _ _ _ h hv=>hv.below h)) (aj.cons isV.stab (aj.cons isV.stab (aj.cons isV.stab (aj.cons isV.stab (aj.cons isV.stab (aj.cons isV.stab (aj.cons (isP.stab (fun _ _ _ h hv=>hv.below h)) (aj.cons isV.stab (aj.cons isV.stab (aj.cons isV.stab (aj.cons isV.stab (aj.cons isV.stab (aj.cons (isP.stab (fun _ _ _ h hv=>hv.below h)) (aj.cons isV.stab (aj.cons (isP.stab (fun _ _ _ h hv=>hv.below h)) (aj.cons isV.stab (aj.cons isV.stab (aj.cons isV.stab (aj.cons isV.stab (aj.cons isV.stab (aj.cons (isP.stab (fun _ _ _ h hv=>hv.below h)) (aj.cons isV.stab (aj.cons isV.stab (aj.cons (isP.stab (fun _ _ _ h hv=>hv.below h)) (aj.cons (isP.stab (fun _ _ _ h hv=>hv.below h)) (aj.cons isV.stab (aj.cons isV.stab (aj.nil)))))))))))))))))))))))))))))))
        case hop =>
         refine ai.cons (i:=0) rfl (fun y w' hS hD K hK=>?_) ?_
         ·as_aux_lemma =>
          have bx:=AB.out.below hS AB.out.lt;obtain ⟨c0,c1,c2,c3⟩:=bx.at1.1;go_simp;exact hK.out _ w' hS β isV.put δ
         refine ai.cons (i:=1) rfl (fun y w' hS hD K hK=>?_) ?_
         ·as_aux_lemma =>
          have bx:=LB.out.below hS LB.out.lt;obtain ⟨c0,c1,c2,c3⟩:=bx.at1.1;go_simp;exact hK.out _ w' hS β isV.put δ
         refine ai.cons (i:=2) rfl (fun y w' hS hD K hK=>?_) ?_
         ·as_aux_lemma =>
          have bx:=SB.out.below hS SB.out.lt;obtain ⟨c0,c1,c2,c3⟩:=bx.at1.1;go_simp;exact hK.out _ w' hS β isV.put δ
         refine ai.cons (i:=3) rfl (fun y w' hS hD K hK=>?_) ?_
         ·as_aux_lemma =>
          have e1:=isV.get (i:=1) (c:=.agg #[.bool lr.s,.slice lr.a lr.n lr.c,.bool lr.t,.slice lr.b lr.m lr.d]) (hD 1 κ);have e2:=isV.get (i:=2) (c:=.agg #[.bool sr.s,.slice sr.a sr.n sr.c,.bool sr.t,.slice sr.b sr.m sr.d]) (hD 2 κ);simp only [e1,e2] at hK ⊢;go_simp;refine (eU _ _ ((dD qs (ptQ n) len).1) (bt (aM m (ptQ n)) m.s) 16 58 w' (LO31.out.below hS) (SH31.out.below hS) HBL.out HBS.out ω).mono ?_;rintro e w'' ⟨⟨v,rfl,hv⟩,hb⟩;exact hK.out v w'' (ae hS hb ρ) hb (isP.put hv) δ
         refine ai.cons (i:=4) rfl (fun y w' hS hD K hK=>?_) ?_
         ·as_aux_lemma =>
          have e0:=isV.get (i:=0) (c:=.agg #[.bool ar.s,.slice ar.a ar.n ar.c,.bool ar.t,.slice ar.b ar.m ar.d]) (hD 0 κ);have e3:=isP.get (i:=3) (p:=fun u w=>am w u ((dD qs (ptQ n) len).1+bt (aM m (ptQ n)) m.s)) (hD 3 κ);simp only [e0] at hK ⊢;go_simp;refine (cS _ _ ((dD qs (ptQ n) len).1+bt (aM m (ptQ n)) m.s) ((dD qs (ptQ n) len).1+bt (aM m (ptQ n)) m.s) 75 75 w' (A31.out.below hS) e3 HBA1.out HBA1.out ω).mono ?_;rintro e w'' ⟨rfl,hb⟩;rw [jq];exact hK.out _ w'' (ae hS hb ρ) hb isV.put δ
         refine ai.cons (i:=5) rfl (fun y w' hS hD K hK=>?_) ?_
         ·as_aux_lemma =>
          have e4:=isV.get (i:=4) (c:=.int .i64 0) (hD 4 κ);simp only [e4] at hK ⊢;go_simp;exact hK.out _ w' hS β isV.put δ
         refine ai.cons (i:=6) rfl (fun y w' hS hD K hK=>?_) ?_
         ·as_aux_lemma =>
          have e5:=isV.get (i:=5) (c:=.bool true) (hD 5 κ);simp only [e5] at hK ⊢;go_simp;exact hK.out _ w' hS β isV.put δ
         refine ai.cons (i:=7) rfl (fun y w' hS hD K hK=>?_) ?_
         ·as_aux_lemma =>
          have e6:=isV.get (i:=6) (c:=.bool true) (hD 6 κ);have bx:=BB.out.below hS BB.out.lt;obtain ⟨c0,c1,c2,c3⟩:=bx.at1.1;simp only [e6] at hK ⊢;go_simp;exact hK.out _ w' hS β isV.put δ
         refine ai.cons (i:=8) rfl (fun y w' hS hD K hK=>?_) ?_
         ·as_aux_lemma =>
          have e6:=isV.get (i:=6) (c:=.bool true) (hD 6 κ);have bx:=HB4.out.below hS HB4.out.lt;obtain ⟨c0,c1,c2,c3⟩:=bx.at1.1;simp only [e6] at hK ⊢;go_simp;exact hK.out _ w' hS β isV.put δ
         refine ai.cons (i:=9) rfl (fun y w' hS hD K hK=>?_) ?_
         ·as_aux_lemma =>
          have e6:=isV.get (i:=6) (c:=.bool true) (hD 6 κ);have bx:=SB.out.below hS SB.out.lt;obtain ⟨c0,c1,c2,c3⟩:=bx.at1.1;simp only [e6] at hK ⊢;go_simp;exact hK.out _ w' hS β isV.put δ
         refine ai.cons (i:=10) rfl (fun y w' hS hD K hK=>?_) ?_
         ·as_aux_lemma =>
          have e6:=isV.get (i:=6) (c:=.bool true) (hD 6 κ);have e8:=isV.get (i:=8) (c:=.agg #[.bool hr.s,.slice hr.a hr.n hr.c,.bool hr.t,.slice hr.b hr.m hr.d]) (hD 8 κ);have e9:=isV.get (i:=9) (c:=.agg #[.bool sr.s,.slice sr.a sr.n sr.c,.bool sr.t,.slice sr.b sr.m sr.d]) (hD 9 κ);simp only [e6,e8,e9] at hK ⊢;go_simp;refine (eU _ _ ((dD qs (ptQ n) len).2) (bt (aM m (ptQ n)) m.s) 16 58 w' (H31.out.below hS) (SH31.out.below hS) HBH2.out HBS.out ω).mono ?_;rintro e w'' ⟨⟨v,rfl,hv⟩,hb⟩;exact hK.out v w'' (ae hS hb ρ) hb (isP.put hv) δ
         refine ai.cons (i:=11) rfl (fun y w' hS hD K hK=>?_) ?_
         ·as_aux_lemma =>
          have e6:=isV.get (i:=6) (c:=.bool true) (hD 6 κ);have e7:=isV.get (i:=7) (c:=.agg #[.bool br.s,.slice br.a br.n br.c,.bool br.t,.slice br.b br.m br.d]) (hD 7 κ);have e10:=isP.get (i:=10) (p:=fun u w=>am w u ((dD qs (ptQ n) len).2+bt (aM m (ptQ n)) m.s)) (hD 10 κ);simp only [e6,e7] at hK ⊢;go_simp;refine (cS _ _ ((dD qs (ptQ n) len).2+bt (aM m (ptQ n)) m.s) ((dD qs (ptQ n) len).2+bt (aM m (ptQ n)) m.s) 75 75 w' (B31.out.below hS) e10 HBB1.out HBB1.out ω).mono ?_;rintro e w'' ⟨rfl,hb⟩;rw [jq];exact hK.out _ w'' (ae hS hb ρ) hb isV.put δ
         refine ai.cons (i:=12) rfl (fun y w' hS hD K hK=>?_) ?_
         ·as_aux_lemma =>
          have e6:=isV.get (i:=6) (c:=.bool true) (hD 6 κ);have e11:=isV.get (i:=11) (c:=.int .i64 0) (hD 11 κ);simp only [e6,e11] at hK ⊢;go_simp;exact hK.out _ w' hS β isV.put δ
         refine ai.cons (i:=13) rfl (fun y w' hS hD K hK=>?_) ?_
         ·as_aux_lemma =>
          have e6:=isV.get (i:=6) (c:=.bool true) (hD 6 κ);have e12:=isV.get (i:=12) (c:=.bool true) (hD 12 κ);simp only [e6,e12] at hK ⊢;go_simp;exact hK.out _ w' hS β isV.put δ
         refine ai.cons (i:=14) rfl (fun y w' hS hD K hK=>?_) ?_
         ·as_aux_lemma =>
          have e13:=isV.get (i:=13) (c:=.bool true) (hD 13 κ);simp only [e13] at hK ⊢;go_simp;exact hK.out _ w' hS β isV.put δ
         refine ai.cons (i:=15) rfl (fun y w' hS hD K hK=>?_) ?_
         ·as_aux_lemma =>
          have e14:=isV.get (i:=14) (c:=.bool true) (hD 14 κ);have bx:=PBx.out.below hS PBx.out.lt;obtain ⟨c0,c1,c2,-⟩:=bx.three;simp only [e14] at hK ⊢;go_simp;exact hK.out _ w' hS β isV.put δ
         refine ai.cons (i:=16) rfl (fun y w' hS hD K hK=>?_) ?_
         ·as_aux_lemma =>
          have e14:=isV.get (i:=14) (c:=.bool true) (hD 14 κ);have e15:=isV.get (i:=15) (c:=.agg #[.slice qv len dv,.slice qf nf df,.slice qe ne de]) (hD 15 κ);simp only [e14,e15] at hK ⊢;go_simp;refine (jB _ _ _ (qs.map (aE m)) grs rns 60 100000000 w' (SOP.out.below hS)).mono ?_;rintro e w'' ⟨⟨v,rfl,hv⟩,hb⟩;exact hK.out v w'' (ae hS hb ρ) hb (isP.put (HVE.out ▸ hv)) δ
         refine ai.cons (i:=17) rfl (fun y w' hS hD K hK=>?_) ?_
         ·as_aux_lemma =>
          have e14:=isV.get (i:=14) (c:=.bool true) (hD 14 κ);have bx:=SBx.out.below hS SBx.out.lt;obtain ⟨c0,c1,c2,-⟩:=bx.three;simp only [e14] at hK ⊢;go_simp;exact hK.out _ w' hS β isV.put δ
         refine ai.cons (i:=18) rfl (fun y w' hS hD K hK=>?_) ?_
         ·as_aux_lemma =>
          have e14:=isV.get (i:=14) (c:=.bool true) (hD 14 κ);have e17:=isV.get (i:=17) (c:=.agg #[.slice pv len cv,.slice pf nf cf,.slice pe ne ce]) (hD 17 κ);simp only [e14,e17] at hK ⊢;go_simp;refine (jB _ _ _ qs frs rns 1 4096 w' (SOS.out.below hS)).mono ?_;rintro e w'' ⟨⟨v,rfl,hv⟩,hb⟩;exact hK.out v w'' (ae hS hb ρ) hb (isP.put hv) δ
         refine ai.cons (i:=19) rfl (fun y w' hS hD K hK=>?_) ?_
         ·as_aux_lemma =>
          have e14:=isV.get (i:=14) (c:=.bool true) (hD 14 κ);have e16:=isP.get (i:=16) (p:=fun u w=>am w u (bB (ak (qAt qs) rns) / 6)) (hD 16 κ);have e18:=isP.get (i:=18) (p:=fun u w=>am w u (bB (ak (qAt qs) rns) / 6)) (hD 18 κ);simp only [e14] at hK ⊢;go_simp;refine (cS _ _ (bB (ak (qAt qs) rns) / 6) (bB (ak (qAt qs) rns) / 6) 20 20 w' e16 e18 HBV.out HBV.out ω).mono ?_;rintro e w'' ⟨rfl,hb⟩;rw [jq];exact hK.out _ w'' (ae hS hb ρ) hb isV.put δ
         refine ai.cons (i:=20) rfl (fun y w' hS hD K hK=>?_) ?_
         ·as_aux_lemma =>
          have e14:=isV.get (i:=14) (c:=.bool true) (hD 14 κ);have e19:=isV.get (i:=19) (c:=.int .i64 0) (hD 19 κ);simp only [e14,e19] at hK ⊢;go_simp;exact hK.out _ w' hS β isV.put δ
         refine ai.cons (i:=21) rfl (fun y w' hS hD K hK=>?_) ?_
         ·as_aux_lemma =>
          have e14:=isV.get (i:=14) (c:=.bool true) (hD 14 κ);have e20:=isV.get (i:=20) (c:=.bool true) (hD 20 κ);simp only [e14,e20] at hK ⊢;go_simp;exact hK.out _ w' hS β isV.put δ
         refine ai.cons (i:=22) rfl (fun y w' hS hD K hK=>?_) ?_
         ·as_aux_lemma =>
          have e21:=isV.get (i:=21) (c:=.bool true) (hD 21 κ);simp only [e21] at hK ⊢;go_simp;exact hK.out _ w' hS β isV.put δ
         refine ai.cons (i:=23) rfl (fun y w' hS hD K hK=>?_) ?_
         ·as_aux_lemma =>
          have e22:=isV.get (i:=22) (c:=.bool true) (hD 22 κ);have bx:=PBx.out.below hS PBx.out.lt;obtain ⟨c0,c1,c2,-⟩:=bx.three;simp only [e22] at hK ⊢;go_simp;exact hK.out _ w' hS β isV.put δ
         refine ai.cons (i:=24) rfl (fun y w' hS hD K hK=>?_) ?_
         ·as_aux_lemma =>
          have e22:=isV.get (i:=22) (c:=.bool true) (hD 22 κ);have e23:=isV.get (i:=23) (c:=.agg #[.slice qv len dv,.slice qf nf df,.slice qe ne de]) (hD 23 κ);simp only [e22,e23] at hK ⊢;go_simp;refine (jN _ _ _ (qs.map (aE m)) grs rns 60 100000000 w' (SOP.out.below hS) HVN.out).mono ?_;rintro e w'' ⟨⟨v,rfl,hv⟩,hb⟩;exact hK.out v w'' (ae hS hb ρ) hb (isP.put (HCE.out ▸ hv)) δ
         refine ai.cons (i:=25) rfl (fun y w' hS hD K hK=>?_) ?_
         ·as_aux_lemma =>
          have e22:=isV.get (i:=22) (c:=.bool true) (hD 22 κ);simp only [e22] at hK ⊢;refine iteInduction (motive:=fun p=>p) (fun _=>?_) (fun h=>absurd κ h);refine aZ 89 _ rfl w3.heap.size 0 rfl (aC ma mb mc ms) _ (fun j hj=>(MBx.out.below hS MBx.out.lt).whole j hj) Tryz.underlying89 rfl dc ?_;exact hK.out _ w' hS β isV.put δ
         refine ai.cons (i:=26) rfl (fun y w' hS hD K hK=>?_) ?_
         ·as_aux_lemma =>
          have e22:=isV.get (i:=22) (c:=.bool true) (hD 22 κ);have bx:=SBx.out.below hS SBx.out.lt;obtain ⟨c0,c1,c2,-⟩:=bx.three;simp only [e22] at hK ⊢;go_simp;exact hK.out _ w' hS β isV.put δ
         refine ai.cons (i:=27) rfl (fun y w' hS hD K hK=>?_) ?_
         ·as_aux_lemma =>
          have e22:=isV.get (i:=22) (c:=.bool true) (hD 22 κ);have e26:=isV.get (i:=26) (c:=.agg #[.slice pv len cv,.slice pf nf cf,.slice pe ne ce]) (hD 26 κ);simp only [e22,e26] at hK ⊢;go_simp;refine (jN _ _ _ qs frs rns 1 4096 w' (SOS.out.below hS) HSNE.out).mono ?_;rintro e w'' ⟨⟨v,rfl,hv⟩,hb⟩;exact hK.out v w'' (ae hS hb ρ) hb (isP.put hv) δ
         refine ai.cons (i:=28) rfl (fun y w' hS hD K hK=>?_) ?_
         ·as_aux_lemma =>
          have e22:=isV.get (i:=22) (c:=.bool true) (hD 22 κ);have e25:=isV.get (i:=25) (c:=.agg (aC ma mb mc ms)) (hD 25 κ);have e27:=isP.get (i:=27) (p:=fun u w=>aA w u (qscale (1 / (4*bB (ak (qAt qs) rns))) (dW (ak (qAt qs) rns)))) (hD 27 κ);simp only [e22,e25] at hK ⊢;go_simp;refine (li (.agg (aC ma mb mc ms)) _ m (qscale (1 / (4*bB (ak (qAt qs) rns))) (dW (ak (qAt qs) rns))) 2 18 w' ⟨ma,mb,mc,ms,rfl,MR31.out.below hS⟩ e27 HMB.out HMS.out HBC.out ω).mono ?_;rintro e w'' ⟨⟨v,rfl,hv⟩,hb⟩;exact hK.out v w'' (ae hS hb ρ) hb (isP.put hv) δ
         refine ai.cons (i:=29) rfl (fun y w' hS hD K hK=>?_) ?_
         ·as_aux_lemma =>
          have e22:=isV.get (i:=22) (c:=.bool true) (hD 22 κ);have e24:=isP.get (i:=24) (p:=fun u w=>aA w u (aE m (qscale (1 / (4*bB (ak (qAt qs) rns))) (dW (ak (qAt qs) rns))))) (hD 24 κ);have e28:=isP.get (i:=28) (p:=fun u w=>aA w u (aE m (qscale (1 / (4*bB (ak (qAt qs) rns))) (dW (ak (qAt qs) rns))))) (hD 28 κ);simp only [e22] at hK ⊢;go_simp;refine (iz _ _ (aE m (qscale (1 / (4*bB (ak (qAt qs) rns))) (dW (ak (qAt qs) rns)))) (aE m (qscale (1 / (4*bB (ak (qAt qs) rns))) (dW (ak (qAt qs) rns)))) 18 18 w' e24 e28 HBM.out HBM.out ω).mono ?_;rintro e w'' ⟨⟨r,rfl,hr⟩,hb⟩;obtain rfl:r=true:=hr.mpr rfl;exact hK.out _ w'' (ae hS hb ρ) hb isV.put δ
         refine ai.cons (i:=30) rfl (fun y w' hS hD K hK=>?_) ?_
         ·as_aux_lemma =>
          have e22:=isV.get (i:=22) (c:=.bool true) (hD 22 κ);have e29:=isV.get (i:=29) (c:=.bool true) (hD 29 κ);simp only [e22,e29] at hK ⊢;go_simp;exact hK.out _ w' hS β isV.put δ
         exact ai.nil
        case hend =>
         intro y w' hS hR hF;have e30:=isV.get (i:=30) (c:=.bool true) (hR 30 κ);simp only [e30];refine bM (i:=31) (listed2:=#[true,true,true,true,true,true,true,true,true,true,true,true,true,true,true,true,true,true,true,true,true,true,true,true,true,true,true,true,true,true,true,true]) κ rfl κ (fun K hK=>?_);go_simp;refine hK.out _ _ ?_;clear hK K;refine bq κ ?_;have HLF:=η (ae L31.out hS ρ);clear hS hR hF e30
         go_wp2_with fail
         go_ret;exact ⟨rfl,HLF.out⟩
       ·have hlt:(i:Int)<(nf:Int):=ω
        have HIT:=η hlt;have HIN:=η (show i<nf from by omega);obtain ⟨f,hf⟩:∃ f,fqs[i]?=some f:=⟨_,List.getElem?_eq_getElem (by rw [HLQ.out];exact HIN.out)⟩;obtain ⟨r,hr⟩:∃ r,rns[i]?=some r:=⟨_,List.getElem?_eq_getElem (by rw [HLR.out];exact HIN.out)⟩;have hmf:(fd m qs fqs rns fqs.length)[i]?=some (oI m qs f r):=by
         unfold fd;have e:(fqs.zip rns)[i]?=some (f,r):=List.getElem?_zip_eq_some.2 ⟨hf,hr⟩;rw [List.getElem?_map,List.getElem?_take_of_lt (by rw [HLQ.out];exact HIN.out),e];rfl
        obtain ⟨bF,n0,n1,n2,ro,fa,fc,e,hbF,hfv,-,hfo,hfcc⟩:=HS.out.sf.open18 HS.out.si hf hr;subst e;obtain ⟨bH,k0,k1,k2,ko,ga,gc,e,hbH,hgv,hgo,hgoo,hgc⟩:=HS.out.pf.open18 HS.out.pi hmf hr;subst e;obtain ⟨hrl,hrne,hrlt⟩:=HRNG.out r (List.mem_of_getElem? hr);obtain ⟨hd,tl,ehd⟩:∃ hd tl,r=hd :: tl:=by
         cases r with
         | nil=>exact absurd rfl hrne
         | cons x y=>exact ⟨x,y,rfl⟩
        obtain ⟨gi,egi,hgi⟩:∃ gi,ga=some ⟨gi,0,none⟩∧wk.cell? ⟨gi,0,none⟩=some (.int .i64 (hd:Nat))∧gi<wk.heap.size:=by
         obtain ⟨-,⟨_,h0'⟩ | ⟨gb,cap',cur,e,-,hh,-,-,-,-⟩⟩:=id hgoo
         ·rw [ehd] at h0';simp at h0'
         ·injection e with e1 e2 e3
          subst e1;have ec:=World.ownsRow.cellAt hgoo 0 (by rw [ehd];simp);rw [ehd] at ec;exact ⟨gb,rfl,ec,(Array.getElem?_eq_some_iff.1 hh).1⟩
        subst egi;have hhd:hd<len:=hrlt hd (by rw [ehd];exact List.mem_cons_self ..);have hmv:oI m qs f r=(cI (aM m f.1),bt (cI (aM m f.1)) (aE m (qAt qs hd))):=by unfold oI;rw [ehd];rfl
        rw [hmv] at hgv hgo;obtain ⟨bQ,V0,V1,V2,e,hbQ,hpv,hpc⟩:=HS.out.pv.open12 hd (by rw [List.length_map,HQL.out];exact hhd);subst e;rw [eM (by rw [HQL.out];exact hhd)] at hpv;have HFC:=η (fun w' (h:Below wk.heap.size wk w') j (hj:j<(aL n0 n1 n2 ro fa r.length fc).size)=>(h.cell (p:=⟨bF,i*17+j,none⟩) hbF).trans (hfcc j hj));have HHC:=η (fun w' (h:Below wk.heap.size wk w') j (hj:j<(aL k0 k1 k2 ko (some ⟨gi,0,none⟩) r.length gc).size)=>(h.cell (p:=⟨bH,i*17+j,none⟩) hbH).trans (hgc j hj));have HNFV:=η hfv;have HFO:=η hfo;have HGO:=η hgoo;have HKV:=η hgv;have HKO:=η hgo;have HHD:=η hgi;have HDL:=η hhd;have HRL:=η hrl;have HRP:=η (show 0<r.length from by rw [ehd];exact Nat.succ_pos _);have HR0:=η (show ((r.length:Nat) == (0:Int))=false from by rw [beq_eq_false_iff_ne];rw [ehd];simp;omega);have HPV:=η hpv;have HVCC:=η (fun j (hj:j<(ah V0 V1 V2).size)=>hpc j hj);have HBQ:=η hbQ;obtain ⟨hb2,hne0,hb18⟩:=HTN.out f (List.mem_of_getElem? hf);have HB2:=η hb2;have HNE0:=η hne0;have HB18:=η hb18;have SBx:=η HS.out.sb;have PBx:=η HS.out.pb;clear h0 hf hr hmf hbF hfv hfo hfcc hbH hgv hgo hgoo hgc hrl hrne hrlt hgi hhd hmv hbQ hpv hpc hb2 hne0 hb18 ehd tl
        go_wp2_with fail
        clear s0 s1 s2;refine gH oh 12 98 (rest:=1) [isV 0 (.pointer (some ⟨w6.heap.size,1,none⟩)),isV 1 (.slice (some ⟨bF,0,none⟩) nf cf),isV 2 (.int .i64 (i:Nat)),isV 3 (.pointer (some ⟨bF,i*17,none⟩)),isV 4 (.agg (aL n0 n1 n2 ro fa r.length fc)),isV 5 (.pointer (some ⟨w8.heap.size,1,none⟩)),isV 6 (.slice (some ⟨bH,0,none⟩) nf df),isV 7 (.int .i64 (i:Nat)),isV 8 (.pointer (some ⟨bH,i*17,none⟩)),isV 9 (.agg (aL k0 k1 k2 ko (some ⟨gi,0,none⟩) r.length gc)),isP 10 (dS oh wk.heap.size 98),isP 11 (dS oh wk.heap.size 98),isS 10 wk.heap.size 98 (fun cs _=>cs=aL n0 n1 n2 ro fa r.length fc)] [10,11] ?A22 #[true,true,true,true,true,true,true,true,true,true,true,true,true,false] κ [0,1,2,3,4,5,6,7,8,9,10,11,12] κ κ κ κ κ κ ?st ?st2 ?hA ?hop ?hend
        case hA =>
         intro y;simp only [bj,cU,List.getElem?_toArray,List.getElem?_cons_zero,List.getElem?_cons_succ,Option.bind_some,Act.put,List.setIfInBounds_toArray,List.set_cons_zero,List.set_cons_succ];exact rfl
        case st=>exact aj.cons isV.stab (aj.cons isV.stab (aj.cons isV.stab (aj.cons isV.stab (aj.cons isV.stab (aj.cons isV.stab (aj.cons isV.stab (aj.cons isV.stab (aj.cons isV.stab (aj.cons isV.stab (aj.cons (isP.stab dS.stab) (aj.cons (isP.stab dS.stab) (aj.cons (isS.stab (fun _ _ _ _ h=>h)) (aj.nil)))))))))))))
        case st2=>exact aI.cons isV.stabW (aI.cons isV.stabW (aI.cons isV.stabW (aI.cons isV.stabW (aI.cons isV.stabW (aI.cons isV.stabW (aI.cons isV.stabW (aI.cons isV.stabW (aI.cons isV.stabW (aI.cons isV.stabW (aI.cons (isP.stabW dS.stabW) (aI.cons (isP.stabW dS.stabW) (aI.cons (isN.stabW (i:=0)) (aI.nil)))))))))))))
        case hop =>
         refine ai.cons (i:=0) rfl (fun y w' hS hD K hK=>?_) ?_
         ·as_aux_lemma =>
          go_simp;exact hK.out _ w' hS (bn.old β) isV.put δ
         refine ai.cons (i:=1) rfl (fun y w' hS hD K hK=>?_) ?_
         ·as_aux_lemma =>
          have e0:=isV.get (i:=0) (c:=.pointer (some ⟨w6.heap.size,1,none⟩)) (hD 0 κ);have bx:=SBx.out.below hS SBx.out.lt;obtain ⟨c0,c1,c2,-⟩:=bx.three;simp only [e0] at hK ⊢;go_simp;exact hK.out _ w' hS (bn.old β) isV.put δ
         refine ai.cons (i:=2) rfl (fun y w' hS hD K hK=>?_) ?_
         ·as_aux_lemma =>
          go_simp;exact hK.out _ w' hS (bn.old β) isV.put δ
         refine ai.cons (i:=3) rfl (fun y w' hS hD K hK=>?_) ?_
         ·as_aux_lemma =>
          have e1:=isV.get (i:=1) (c:=.slice (some ⟨bF,0,none⟩) nf cf) (hD 1 κ);have e2:=isV.get (i:=2) (c:=.int .i64 (i:Nat)) (hD 2 κ);have hvl:=HIT.out;have hvn:=HIN.out;simp only [e1,e2] at hK ⊢;go_simp;exact hK.out _ w' hS (bn.old β) isV.put δ
         refine ai.cons (i:=4) rfl (fun y w' hS hD K hK=>?_) ?_
         ·as_aux_lemma =>
          have e3:=isV.get (i:=3) (c:=.pointer (some ⟨bF,i*17,none⟩)) (hD 3 κ);simp only [e3] at hK ⊢;refine iteInduction (motive:=fun p=>p) (fun _=>?_) (fun h=>absurd κ h);refine aZ 98 _ rfl bF (i*17) rfl (aL n0 n1 n2 ro fa r.length fc) _ (fun j hj=>HFC.out w' hS j hj) Tryz.underlying98 rfl fu ?_;exact hK.out _ w' hS (bn.old β) isV.put δ
         refine ai.cons (i:=5) rfl (fun y w' hS hD K hK=>?_) ?_
         ·as_aux_lemma =>
          go_simp;exact hK.out _ w' hS (bn.old β) isV.put δ
         refine ai.cons (i:=6) rfl (fun y w' hS hD K hK=>?_) ?_
         ·as_aux_lemma =>
          have e5:=isV.get (i:=5) (c:=.pointer (some ⟨w8.heap.size,1,none⟩)) (hD 5 κ);have bx:=PBx.out.below hS PBx.out.lt;obtain ⟨c0,c1,c2,-⟩:=bx.three;simp only [e5] at hK ⊢;go_simp;exact hK.out _ w' hS (bn.old β) isV.put δ
         refine ai.cons (i:=7) rfl (fun y w' hS hD K hK=>?_) ?_
         ·as_aux_lemma =>
          go_simp;exact hK.out _ w' hS (bn.old β) isV.put δ
         refine ai.cons (i:=8) rfl (fun y w' hS hD K hK=>?_) ?_
         ·as_aux_lemma =>
          have e6:=isV.get (i:=6) (c:=.slice (some ⟨bH,0,none⟩) nf df) (hD 6 κ);have e7:=isV.get (i:=7) (c:=.int .i64 (i:Nat)) (hD 7 κ);have hvl:=HIT.out;have hvn:=HIN.out;simp only [e6,e7] at hK ⊢;go_simp;exact hK.out _ w' hS (bn.old β) isV.put δ
         refine ai.cons (i:=9) rfl (fun y w' hS hD K hK=>?_) ?_
         ·as_aux_lemma =>
          have e8:=isV.get (i:=8) (c:=.pointer (some ⟨bH,i*17,none⟩)) (hD 8 κ);simp only [e8] at hK ⊢;refine iteInduction (motive:=fun p=>p) (fun _=>?_) (fun h=>absurd κ h);refine aZ 98 _ rfl bH (i*17) rfl (aL k0 k1 k2 ko (some ⟨gi,0,none⟩) r.length gc) _ (fun j hj=>HHC.out w' hS j hj) Tryz.underlying98 rfl fu ?_;exact hK.out _ w' hS (bn.old β) isV.put δ
         refine ai.cons (i:=10) rfl (fun y w' hS hD K hK=>?_) ?_
         ·as_aux_lemma =>
          go_simp;exact hK.out _ _ (hS.alloc hS.size _) (bn.old (β.alloc ρ _)) (isP.put ⟨_,_,rfl,hS.size,sh17z,Box.new _ _ _ _ rfl⟩) (fun _ j hj hne hr=>by
    have hj':j=10∨j=11:=by simpa using hj
    rcases hj' with rfl | rfl
    ·exact absurd rfl hne
    ·obtain ⟨g,_,e,h1,_,h2⟩:=isP.get (i:=11) (p:=dS oh wk.heap.size 98) hr
     rw [e];intro h;cases h;exact absurd h2.lt (Nat.lt_irrefl _))
         refine ai.cons (i:=11) rfl (fun y w' hS hD K hK=>?_) ?_
         ·as_aux_lemma =>
          go_simp;exact hK.out _ _ (hS.alloc hS.size _) (bn.old (β.alloc ρ _)) (isP.put ⟨_,_,rfl,hS.size,sh17z,Box.new _ _ _ _ rfl⟩) (fun _ j hj hne hr=>by
    have hj':j=10∨j=11:=by simpa using hj
    rcases hj' with rfl | rfl
    ·obtain ⟨g,_,e,h1,_,h2⟩:=isP.get (i:=10) (p:=dS oh wk.heap.size 98) hr
     rw [e];intro h;cases h;exact absurd h2.lt (Nat.lt_irrefl _)
    ·exact absurd rfl hne)
         refine ai.cons (i:=12) rfl (fun y w' hS hD K hK=>?_) ?_
         ·as_aux_lemma =>
          have e4:=isV.get (i:=4) (c:=.agg (aL n0 n1 n2 ro fa r.length fc)) (hD 4 κ);have eb:=isP.get (i:=10) (p:=dS oh wk.heap.size 98) (hD 10 κ);obtain ⟨ga,_,ea,hga,⟨_,_,_,_,_,_,_,rfl⟩,bga⟩:=eb;simp only [e4,ea] at hK ⊢;refine iteInduction (motive:=fun p=>p) (fun _=>?_) (fun h=>absurd κ h);refine wp_store_row 98 _ _ rfl ga (aL n0 n1 n2 ro fa r.length fc) rfl rfl 98 _ bga fu rfl (eH _ _ _ _ _ _ _) ?_;exact hK.out undef (w'.setRow ga (aL n0 n1 n2 ro fa r.length fc)) (fQ hS hga _) (bn.new (Wr.row hga bga ⟨_,_,_,_,_,_,_,rfl⟩)) (isS.put ν ea hga (en bga _) rfl) δ
         exact ai.nil
        case hend =>
         intro y w' hS hR hF;obtain ⟨g17,_,e10,hg17,b17,rfl⟩:=isS.get (i:=10) (n:=wk.heap.size) (t:=98) (p:=fun cs _=>cs=aL n0 n1 n2 ro fa r.length fc) (hR 12 κ);obtain ⟨g18,_,e11,hg18,⟨_,_,_,_,_,_,_,rfl⟩,b18⟩:=isP.get (i:=11) (p:=dS oh wk.heap.size 98) (hR 11 κ);have e9:=isV.get (i:=9) (c:=.agg (aL k0 k1 k2 ko (some ⟨gi,0,none⟩) r.length gc)) (hR 9 κ);have hne:g17≠g18:=fun h=>hF 10 (by simp) 11 (by simp) κ κ ν (by rw [e10,e11,h])
         simp only [e9,e10,e11];refine bM (i:=13) (listed2:=#[true,true,true,true,true,true,true,true,true,true,true,true,true,true]) κ rfl κ (fun K hK=>?_);refine iteInduction (motive:=fun p=>p) (fun _=>?_) (fun h=>absurd κ h);refine wp_store_row 98 _ _ rfl g18 (aL k0 k1 k2 ko (some ⟨gi,0,none⟩) r.length gc) rfl rfl 98 _ b18 fu rfl (eH _ _ _ _ _ _ _) ?_;refine hK.out _ _ ?_;clear hK K;have FB:=η (b17.grown (cR w' g18 (aL k0 k1 k2 ko (some ⟨gi,0,none⟩) r.length gc)) (fun e=>hne (Option.some.inj e)));have GB:=η (en b18 (aL k0 k1 k2 ko (some ⟨gi,0,none⟩) r.length gc));have HKB:=η (fQ hS hg18 (aL k0 k1 k2 ko (some ⟨gi,0,none⟩) r.length gc));generalize w'.setRow g18 (aL k0 k1 k2 ko (some ⟨gi,0,none⟩) r.length gc)=wf at *;clear hS hR hF e9 e10 e11 b17 b18 hne;refine bq κ ?_;have HSf:=η (HS.out.below HKB.out);have HRf:=η (ae HR.out HKB.out ρ);have HBT:=η (show BdV 16 (aM m f.1) from (BdV.turn HMB.out HB2.out).mono ν);have HTU:=η (jY (.agg (aC ma mb mc ms)) (.agg (ah n0 n1 n2)) m f.1 2 2 wf ⟨ma,mb,mc,ms,rfl,HSf.out.mr⟩ (HNFV.out.below HKB.out) HMB.out HB2.out ω);have HGI:=η (show gi<wk.heap.size from HHD.out.2);have HRK:=η HKB.out;clear hg17 hg18 SBx PBx hlt
         go_wp2_with (first | refine aq rfl _ _ rfl w3.heap.size 0 rfl (aC ma mb mc ms) _ (fun j hj=>HSf.out.mb.whole j hj) Tryz.underlying89 rfl dc ?_ | refine aq rfl _ _ rfl g17 0 rfl (ah n0 n1 n2) _ (fun j hj=>FB.out.nor17 j hj) Tryz.underlying58 rfl aK ?_)
         refine HTU.out.mono ?_;rintro e wt ⟨⟨v,rfl,hv⟩,hbt⟩;have TV:=η hv;have HKt:=η (ae HRK.out hbt ρ);have FBt:=η (FB.out.below hbt FB.out.lt);have GBt:=η (GB.out.below hbt GB.out.lt);clear hv hbt
         go_wp2_with fail
         refine (lm v (aM m f.1) 16 wt TV.out HBT.out ω HNE0.out).mono ?_;rintro e wp ⟨⟨v',rfl,hv⟩,hbp⟩;obtain ⟨d0,d1,d2,rfl,hdv⟩:=hv.rcv;have DVp:=η hdv;have HKp:=η (ae HKt.out hbp ρ);have FBp:=η (FBt.out.below hbp FBt.out.lt);have GBp:=η (GBt.out.below hbp GBt.out.lt);clear hv hdv hbp
         go_upto_region 24 with (refine aB rfl _ _ _ rfl _ (ah d0 d1 d2) rfl rfl aK rfl (bU d0 d1 d2) ?_)
         obtain ⟨wz,hwz,bz,hbz,hsz⟩:=aG wp (ah d0 d1 d2) 58;rw [hwz];have DB2:=η bz;have DV2:=η (DVp.out.below hbz);have FB2:=η (FBp.out.below hbz FBp.out.lt);have GB2:=η (GBp.out.below hbz GBp.out.lt);have HKz:=η (ae HKp.out hbz ρ);have HRP2:=η (ae HR.out HKz.out ρ);have PBy:=η (HS.out.pb.below HKz.out HS.out.pb.lt);have KV:=η (HKV.out.below HKz.out);have KO:=η (HKO.out.below HKz.out);have FO:=η (aF HFO.out HKz.out);have GO:=η (aF HGO.out HKz.out);have VV:=η (HPV.out.below HKz.out);have HDC:=η (fun w' (h:Below wz.heap.size wz w')=>(h.cell (p:=⟨gi,0,none⟩) (Nat.lt_of_lt_of_le HGI.out HKz.out.size)).trans ((HKz.out.cell (p:=⟨gi,0,none⟩) HGI.out).trans HHD.out.1));have HVC:=η (fun w' (h:Below wz.heap.size wz w') j (hj:j<(ah V0 V1 V2).size)=>(h.cell (p:=⟨bQ,hd*12+j,none⟩) (Nat.lt_of_lt_of_le HBQ.out HKz.out.size)).trans ((HKz.out.cell (p:=⟨bQ,hd*12+j,none⟩) HBQ.out).trans (HVCC.out j hj)));have HBH:=η (nI HMB.out HMS.out (HKQ.out hd));have HBD:=η (show Bd 200 (bt (cI (aM m f.1)) (aE m (qAt qs hd))) from (Bd.dot HB18.out HBH.out).mono ν);clear hwz bz hbz hsz
         go_wp2_with fail
         refine bK (rest:=0) [isV 0 (.int .i64 0),isV 1 (.bool false),isV 2 (.bool false),isV 3 (.pointer (some ⟨g17,16,none⟩)),isV 4 (.slice fa r.length fc),isV 5 (.pointer (some ⟨g18,16,none⟩)),isV 6 (.slice (some ⟨gi,0,none⟩) r.length gc),isV 7 (.bool true),isV 8 (.bool false),isV 9 (.bool false),isV 10 (.bool false),isV 11 (.pointer (some ⟨g18,0,none⟩)),isV 12 (.agg (ah k0 k1 k2)),isV 13 (.agg (ah d0 d1 d2)),isV 14 (.bool true),isV 15 (.bool false),isV 16 (.bool false),isV 17 (.bool false),isV 18 (.pointer (some ⟨g18,16,none⟩)),isV 19 (.slice (some ⟨gi,0,none⟩) r.length gc),isV 20 (.int .i64 (r.length:Nat)),isV 21 (.bool false),isV 22 (.bool false),isV 23 (.bool false),isV 24 (.pointer (some ⟨g18,12,none⟩)),isV 25 (.agg #[.bool ko.s,.slice ko.a ko.n ko.c,.bool ko.t,.slice ko.b ko.m ko.d]),isV 26 (.agg (ah d0 d1 d2)),isV 27 (.pointer (some ⟨w8.heap.size,0,none⟩)),isV 28 (.slice (some ⟨bQ,0,none⟩) len dv),isV 29 (.pointer (some ⟨g18,16,none⟩)),isV 30 (.slice (some ⟨gi,0,none⟩) r.length gc),isV 31 (.pointer (some ⟨gi,0,none⟩)),isV 32 (.int .i64 (hd:Nat)),isV 33 (.pointer (some ⟨bQ,hd*12,none⟩)),isV 34 (.agg (ah V0 V1 V2)),isP 35 (fun u w=>am w u (bt (cI (aM m f.1)) (aE m (qAt qs hd)))),isV 36 (.int .i64 0),isV 37 (.bool false),isV 38 (.bool false)] [] ?A24 #[true,true,true,true,true,true,true,true,true,true,true,true,true,true,true,true,true,true,true,true,true,true,true,true,true,true,true,true,true,true,true,true,true,true,true,true,true,true,true] κ [0,1,2,3,4,5,6,7,8,9,10,11,12,13,14,15,16,17,18,19,20,21,22,23,24,25,26,27,28,29,30,31,32,33,34,35,36,37,38] κ κ κ κ κ κ ?st ?hA ?hop ?hend
         case hA =>
          intro y;simp only [bj,cU,List.getElem?_toArray,List.getElem?_cons_zero,List.getElem?_cons_succ,Option.bind_some,Act.put,List.setIfInBounds_toArray,List.set_cons_zero,List.set_cons_succ];exact rfl
         case st=>exact aj.cons isV.stab (aj.cons isV.stab (aj.cons isV.stab (aj.cons isV.stab (aj.cons isV.stab (aj.cons isV.stab (aj.cons isV.stab (aj.cons isV.stab (aj.cons isV.stab (aj.cons isV.stab (aj.cons isV.stab (aj.cons isV.stab (aj.cons isV.stab (aj.cons isV.stab (aj.cons isV.stab (aj.cons isV.stab (aj.cons isV.stab (aj.cons isV.stab (aj.cons isV.stab (aj.cons isV.stab (aj.cons isV.stab (aj.cons isV.stab (aj.cons isV.stab (aj.cons isV.stab (aj.cons isV.stab (aj.cons isV.stab (aj.cons isV.stab (aj.cons isV.stab (aj.cons isV.stab (aj.cons isV.stab (aj.cons isV.stab (aj.cons isV.stab (aj.cons isV.stab (aj.cons isV.stab (aj.cons isV.stab (aj.cons (isP.stab (fun _ _ _ h hv=>hv.below h)) (aj.cons isV.stab (aj.cons isV.stab (aj.cons isV.stab (aj.nil)))))))))))))))))))))))))))))))))))))))
         case hop =>
          refine ai.cons (i:=0) rfl (fun y w' hS hD K hK=>?_) ?_
          ·as_aux_lemma =>
           go_simp;exact hK.out _ w' hS β isV.put δ
          refine ai.cons (i:=1) rfl (fun y w' hS hD K hK=>?_) ?_
          ·as_aux_lemma =>
           have e0:=isV.get (i:=0) (c:=.int .i64 0) (hD 0 κ);simp only [e0] at hK ⊢;go_simp;exact hK.out _ w' hS β isV.put δ
          refine ai.cons (i:=2) rfl (fun y w' hS hD K hK=>?_) ?_
          ·as_aux_lemma =>
           have e1:=isV.get (i:=1) (c:=.bool false) (hD 1 κ);simp only [e1] at hK ⊢;go_simp;exact hK.out _ w' hS β isV.put δ
          refine ai.cons (i:=3) rfl (fun y w' hS hD K hK=>?_) ?_
          ·as_aux_lemma =>
           have e2:=isV.get (i:=2) (c:=.bool false) (hD 2 κ);simp only [e2] at hK ⊢;go_simp;exact hK.out _ w' hS β isV.put δ
          refine ai.cons (i:=4) rfl (fun y w' hS hD K hK=>?_) ?_
          ·as_aux_lemma =>
           have e2:=isV.get (i:=2) (c:=.bool false) (hD 2 κ);have e3:=isV.get (i:=3) (c:=.pointer (some ⟨g17,16,none⟩)) (hD 3 κ);have bx:=FB2.out.below hS FB2.out.lt;have c0:w'.cell? ⟨g17,16,none⟩=some (.slice fa r.length fc):=bx.cell 16;simp only [e2,e3] at hK ⊢;go_simp;exact hK.out _ w' hS β isV.put δ
          refine ai.cons (i:=5) rfl (fun y w' hS hD K hK=>?_) ?_
          ·as_aux_lemma =>
           have e2:=isV.get (i:=2) (c:=.bool false) (hD 2 κ);simp only [e2] at hK ⊢;go_simp;exact hK.out _ w' hS β isV.put δ
          refine ai.cons (i:=6) rfl (fun y w' hS hD K hK=>?_) ?_
          ·as_aux_lemma =>
           have e2:=isV.get (i:=2) (c:=.bool false) (hD 2 κ);have e5:=isV.get (i:=5) (c:=.pointer (some ⟨g18,16,none⟩)) (hD 5 κ);have bx:=GB2.out.below hS GB2.out.lt;have c0:w'.cell? ⟨g18,16,none⟩=some (.slice (some ⟨gi,0,none⟩) r.length gc):=bx.cell 16;simp only [e2,e5] at hK ⊢;go_simp;exact hK.out _ w' hS β isV.put δ
          refine ai.cons (i:=7) rfl (fun y w' hS hD K hK=>?_) ?_
          ·as_aux_lemma =>
           have e2:=isV.get (i:=2) (c:=.bool false) (hD 2 κ);have e4:=isV.get (i:=4) (c:=.slice fa r.length fc) (hD 4 κ);have e6:=isV.get (i:=6) (c:=.slice (some ⟨gi,0,none⟩) r.length gc) (hD 6 κ);simp only [e2,e4,e6] at hK ⊢;go_simp;refine (ints_own _ _ r _ _ w' (aF FO.out hS) (aF GO.out hS) (ψ HRL.out)).mono ?_;rintro e w'' ⟨rfl,hb⟩;exact hK.out _ w'' (ae hS hb ρ) hb isV.put δ
          refine ai.cons (i:=8) rfl (fun y w' hS hD K hK=>?_) ?_
          ·as_aux_lemma =>
           have e2:=isV.get (i:=2) (c:=.bool false) (hD 2 κ);have e7:=isV.get (i:=7) (c:=.bool true) (hD 7 κ);simp only [e2,e7] at hK ⊢;go_simp;exact hK.out _ w' hS β isV.put δ
          refine ai.cons (i:=9) rfl (fun y w' hS hD K hK=>?_) ?_
          ·as_aux_lemma =>
           have e2:=isV.get (i:=2) (c:=.bool false) (hD 2 κ);have e8:=isV.get (i:=8) (c:=.bool false) (hD 8 κ);simp only [e2,e8] at hK ⊢;go_simp;exact hK.out _ w' hS β isV.put δ
          refine ai.cons (i:=10) rfl (fun y w' hS hD K hK=>?_) ?_
          ·as_aux_lemma =>
           have e9:=isV.get (i:=9) (c:=.bool false) (hD 9 κ);simp only [e9] at hK ⊢;go_simp;exact hK.out _ w' hS β isV.put δ
          refine ai.cons (i:=11) rfl (fun y w' hS hD K hK=>?_) ?_
          ·as_aux_lemma =>
           have e10:=isV.get (i:=10) (c:=.bool false) (hD 10 κ);simp only [e10] at hK ⊢;go_simp;exact hK.out _ w' hS β isV.put δ
          refine ai.cons (i:=12) rfl (fun y w' hS hD K hK=>?_) ?_
          ·as_aux_lemma =>
           have e10:=isV.get (i:=10) (c:=.bool false) (hD 10 κ);have e11:=isV.get (i:=11) (c:=.pointer (some ⟨g18,0,none⟩)) (hD 11 κ);simp only [e10,e11] at hK ⊢;refine iteInduction (motive:=fun p=>p) (fun _=>?_) (fun h=>absurd κ h);refine aZ 58 _ rfl g18 0 rfl (ah k0 k1 k2) _ (fun j hj=>(GB2.out.below hS GB2.out.lt).nor17 j hj) Tryz.underlying58 rfl aK ?_;exact hK.out _ w' hS β isV.put δ
          refine ai.cons (i:=13) rfl (fun y w' hS hD K hK=>?_) ?_
          ·as_aux_lemma =>
           have e10:=isV.get (i:=10) (c:=.bool false) (hD 10 κ);simp only [e10] at hK ⊢;refine iteInduction (motive:=fun p=>p) (fun _=>?_) (fun h=>absurd κ h);refine aZ 58 _ rfl wp.heap.size 0 rfl (ah d0 d1 d2) _ (fun j hj=>(DB2.out.below hS DB2.out.lt).whole j hj) Tryz.underlying58 rfl aK ?_;exact hK.out _ w' hS β isV.put δ
          refine ai.cons (i:=14) rfl (fun y w' hS hD K hK=>?_) ?_
          ·as_aux_lemma =>
           have e10:=isV.get (i:=10) (c:=.bool false) (hD 10 κ);have e12:=isV.get (i:=12) (c:=.agg (ah k0 k1 k2)) (hD 12 κ);have e13:=isV.get (i:=13) (c:=.agg (ah d0 d1 d2)) (hD 13 κ);simp only [e10,e12,e13] at hK ⊢;go_simp;refine (iz _ _ (cI (aM m f.1)) (cI (aM m f.1)) 18 18 w' (KV.out.below hS) (DV2.out.below hS) HB18.out HB18.out ω).mono ?_;rintro e w'' ⟨⟨r,rfl,hr⟩,hb⟩;obtain rfl:r=true:=hr.mpr rfl;exact hK.out _ w'' (ae hS hb ρ) hb isV.put δ
          refine ai.cons (i:=15) rfl (fun y w' hS hD K hK=>?_) ?_
          ·as_aux_lemma =>
           have e10:=isV.get (i:=10) (c:=.bool false) (hD 10 κ);have e14:=isV.get (i:=14) (c:=.bool true) (hD 14 κ);simp only [e10,e14] at hK ⊢;go_simp;exact hK.out _ w' hS β isV.put δ
          refine ai.cons (i:=16) rfl (fun y w' hS hD K hK=>?_) ?_
          ·as_aux_lemma =>
           have e10:=isV.get (i:=10) (c:=.bool false) (hD 10 κ);have e15:=isV.get (i:=15) (c:=.bool false) (hD 15 κ);simp only [e10,e15] at hK ⊢;go_simp;exact hK.out _ w' hS β isV.put δ
          refine ai.cons (i:=17) rfl (fun y w' hS hD K hK=>?_) ?_
          ·as_aux_lemma =>
           have e16:=isV.get (i:=16) (c:=.bool false) (hD 16 κ);simp only [e16] at hK ⊢;go_simp;exact hK.out _ w' hS β isV.put δ
          refine ai.cons (i:=18) rfl (fun y w' hS hD K hK=>?_) ?_
          ·as_aux_lemma =>
           have e17:=isV.get (i:=17) (c:=.bool false) (hD 17 κ);simp only [e17] at hK ⊢;go_simp;exact hK.out _ w' hS β isV.put δ
          refine ai.cons (i:=19) rfl (fun y w' hS hD K hK=>?_) ?_
          ·as_aux_lemma =>
           have e17:=isV.get (i:=17) (c:=.bool false) (hD 17 κ);have e18:=isV.get (i:=18) (c:=.pointer (some ⟨g18,16,none⟩)) (hD 18 κ);have bx:=GB2.out.below hS GB2.out.lt;have c0:w'.cell? ⟨g18,16,none⟩=some (.slice (some ⟨gi,0,none⟩) r.length gc):=bx.cell 16;simp only [e17,e18] at hK ⊢;go_simp;exact hK.out _ w' hS β isV.put δ
          refine ai.cons (i:=20) rfl (fun y w' hS hD K hK=>?_) ?_
          ·as_aux_lemma =>
           have e17:=isV.get (i:=17) (c:=.bool false) (hD 17 κ);have e19:=isV.get (i:=19) (c:=.slice (some ⟨gi,0,none⟩) r.length gc) (hD 19 κ);simp only [e17,e19] at hK ⊢;go_simp;exact hK.out _ w' hS β isV.put δ
          refine ai.cons (i:=21) rfl (fun y w' hS hD K hK=>?_) ?_
          ·as_aux_lemma =>
           have e17:=isV.get (i:=17) (c:=.bool false) (hD 17 κ);have e20:=isV.get (i:=20) (c:=.int .i64 (r.length:Nat)) (hD 20 κ);have hr0:((r.length:Nat) == (0:Int))=false:=HR0.out;simp only [e17,e20] at hK ⊢;go_simp;exact hK.out _ w' hS β isV.put δ
          refine ai.cons (i:=22) rfl (fun y w' hS hD K hK=>?_) ?_
          ·as_aux_lemma =>
           have e17:=isV.get (i:=17) (c:=.bool false) (hD 17 κ);have e21:=isV.get (i:=21) (c:=.bool false) (hD 21 κ);simp only [e17,e21] at hK ⊢;go_simp;exact hK.out _ w' hS β isV.put δ
          refine ai.cons (i:=23) rfl (fun y w' hS hD K hK=>?_) ?_
          ·as_aux_lemma =>
           have e22:=isV.get (i:=22) (c:=.bool false) (hD 22 κ);simp only [e22] at hK ⊢;go_simp;exact hK.out _ w' hS β isV.put δ
          refine ai.cons (i:=24) rfl (fun y w' hS hD K hK=>?_) ?_
          ·as_aux_lemma =>
           have e23:=isV.get (i:=23) (c:=.bool false) (hD 23 κ);simp only [e23] at hK ⊢;go_simp;exact hK.out _ w' hS β isV.put δ
          refine ai.cons (i:=25) rfl (fun y w' hS hD K hK=>?_) ?_
          ·as_aux_lemma =>
           have e23:=isV.get (i:=23) (c:=.bool false) (hD 23 κ);have e24:=isV.get (i:=24) (c:=.pointer (some ⟨g18,12,none⟩)) (hD 24 κ);have bx:=GB2.out.below hS GB2.out.lt;have c0:w'.cell? ⟨g18,12,none⟩=some (.bool ko.s):=bx.cell 12;have c1:w'.cell? ⟨g18,13,none⟩=some (.slice ko.a ko.n ko.c):=bx.cell 13;have c2:w'.cell? ⟨g18,14,none⟩=some (.bool ko.t):=bx.cell 14;have c3:w'.cell? ⟨g18,15,none⟩=some (.slice ko.b ko.m ko.d):=bx.cell 15;simp only [e23,e24] at hK ⊢;go_simp;exact hK.out _ w' hS β isV.put δ
          refine ai.cons (i:=26) rfl (fun y w' hS hD K hK=>?_) ?_
          ·as_aux_lemma =>
           have e23:=isV.get (i:=23) (c:=.bool false) (hD 23 κ);simp only [e23] at hK ⊢;refine iteInduction (motive:=fun p=>p) (fun _=>?_) (fun h=>absurd κ h);refine aZ 58 _ rfl wp.heap.size 0 rfl (ah d0 d1 d2) _ (fun j hj=>(DB2.out.below hS DB2.out.lt).whole j hj) Tryz.underlying58 rfl aK ?_;exact hK.out _ w' hS β isV.put δ
          refine ai.cons (i:=27) rfl (fun y w' hS hD K hK=>?_) ?_
          ·as_aux_lemma =>
           have e23:=isV.get (i:=23) (c:=.bool false) (hD 23 κ);simp only [e23] at hK ⊢;go_simp;exact hK.out _ w' hS β isV.put δ
          refine ai.cons (i:=28) rfl (fun y w' hS hD K hK=>?_) ?_
          ·as_aux_lemma =>
           have e23:=isV.get (i:=23) (c:=.bool false) (hD 23 κ);have e27:=isV.get (i:=27) (c:=.pointer (some ⟨w8.heap.size,0,none⟩)) (hD 27 κ);have bx:=PBy.out.below hS PBy.out.lt;obtain ⟨c0,c1,c2,-⟩:=bx.three;simp only [e23,e27] at hK ⊢;go_simp;exact hK.out _ w' hS β isV.put δ
          refine ai.cons (i:=29) rfl (fun y w' hS hD K hK=>?_) ?_
          ·as_aux_lemma =>
           have e23:=isV.get (i:=23) (c:=.bool false) (hD 23 κ);simp only [e23] at hK ⊢;go_simp;exact hK.out _ w' hS β isV.put δ
          refine ai.cons (i:=30) rfl (fun y w' hS hD K hK=>?_) ?_
          ·as_aux_lemma =>
           have e23:=isV.get (i:=23) (c:=.bool false) (hD 23 κ);have e29:=isV.get (i:=29) (c:=.pointer (some ⟨g18,16,none⟩)) (hD 29 κ);have bx:=GB2.out.below hS GB2.out.lt;have c0:w'.cell? ⟨g18,16,none⟩=some (.slice (some ⟨gi,0,none⟩) r.length gc):=bx.cell 16;simp only [e23,e29] at hK ⊢;go_simp;exact hK.out _ w' hS β isV.put δ
          refine ai.cons (i:=31) rfl (fun y w' hS hD K hK=>?_) ?_
          ·as_aux_lemma =>
           have e23:=isV.get (i:=23) (c:=.bool false) (hD 23 κ);have e30:=isV.get (i:=30) (c:=.slice (some ⟨gi,0,none⟩) r.length gc) (hD 30 κ);have hl0:=HRP.out;simp only [e23,e30] at hK ⊢;go_simp;exact hK.out _ w' hS β isV.put δ
          refine ai.cons (i:=32) rfl (fun y w' hS hD K hK=>?_) ?_
          ·as_aux_lemma =>
           have e23:=isV.get (i:=23) (c:=.bool false) (hD 23 κ);have e31:=isV.get (i:=31) (c:=.pointer (some ⟨gi,0,none⟩)) (hD 31 κ);have c0:=HDC.out w' hS;simp only [e23,e31] at hK ⊢;go_simp;exact hK.out _ w' hS β isV.put δ
          refine ai.cons (i:=33) rfl (fun y w' hS hD K hK=>?_) ?_
          ·as_aux_lemma =>
           have e23:=isV.get (i:=23) (c:=.bool false) (hD 23 κ);have e28:=isV.get (i:=28) (c:=.slice (some ⟨bQ,0,none⟩) len dv) (hD 28 κ);have e32:=isV.get (i:=32) (c:=.int .i64 (hd:Nat)) (hD 32 κ);have hlt:=HDL.out;have hlti:(hd:Int)<(len:Int):=ω;simp only [e23,e28,e32] at hK ⊢;go_simp;exact hK.out _ w' hS β isV.put δ
          refine ai.cons (i:=34) rfl (fun y w' hS hD K hK=>?_) ?_
          ·as_aux_lemma =>
           have e23:=isV.get (i:=23) (c:=.bool false) (hD 23 κ);have e33:=isV.get (i:=33) (c:=.pointer (some ⟨bQ,hd*12,none⟩)) (hD 33 κ);simp only [e23,e33] at hK ⊢;refine iteInduction (motive:=fun p=>p) (fun _=>?_) (fun h=>absurd κ h);refine aZ 58 _ rfl bQ (hd*12) rfl (ah V0 V1 V2) _ (fun j hj=>HVC.out w' hS j hj) Tryz.underlying58 rfl aK ?_;exact hK.out _ w' hS β isV.put δ
          refine ai.cons (i:=35) rfl (fun y w' hS hD K hK=>?_) ?_
          ·as_aux_lemma =>
           have e23:=isV.get (i:=23) (c:=.bool false) (hD 23 κ);have e26:=isV.get (i:=26) (c:=.agg (ah d0 d1 d2)) (hD 26 κ);have e34:=isV.get (i:=34) (c:=.agg (ah V0 V1 V2)) (hD 34 κ);simp only [e23,e26,e34] at hK ⊢;go_simp;refine (gF _ _ (cI (aM m f.1)) (aE m (qAt qs hd)) 18 19 w' (DV2.out.below hS) (VV.out.below hS) HB18.out HBH.out ω).mono ?_;rintro e w'' ⟨⟨v,rfl,hv⟩,hb⟩;exact hK.out v w'' (ae hS hb ρ) hb (isP.put hv) δ
          refine ai.cons (i:=36) rfl (fun y w' hS hD K hK=>?_) ?_
          ·as_aux_lemma =>
           have e23:=isV.get (i:=23) (c:=.bool false) (hD 23 κ);have e25:=isV.get (i:=25) (c:=.agg #[.bool ko.s,.slice ko.a ko.n ko.c,.bool ko.t,.slice ko.b ko.m ko.d]) (hD 25 κ);have e35:=isP.get (i:=35) (p:=fun u w=>am w u (bt (cI (aM m f.1)) (aE m (qAt qs hd)))) (hD 35 κ);simp only [e23,e25] at hK ⊢;go_simp;refine (cS _ _ (bt (cI (aM m f.1)) (aE m (qAt qs hd))) (bt (cI (aM m f.1)) (aE m (qAt qs hd))) 200 200 w' (KO.out.below hS) e35 HBD.out HBD.out ω).mono ?_;rintro e w'' ⟨rfl,hb⟩;rw [jq];exact hK.out _ w'' (ae hS hb ρ) hb isV.put δ
          refine ai.cons (i:=37) rfl (fun y w' hS hD K hK=>?_) ?_
          ·as_aux_lemma =>
           have e23:=isV.get (i:=23) (c:=.bool false) (hD 23 κ);have e36:=isV.get (i:=36) (c:=.int .i64 0) (hD 36 κ);simp only [e23,e36] at hK ⊢;go_simp;exact hK.out _ w' hS β isV.put δ
          refine ai.cons (i:=38) rfl (fun y w' hS hD K hK=>?_) ?_
          ·as_aux_lemma =>
           have e23:=isV.get (i:=23) (c:=.bool false) (hD 23 κ);have e37:=isV.get (i:=37) (c:=.bool false) (hD 37 κ);simp only [e23,e37] at hK ⊢;go_simp;exact hK.out _ w' hS β isV.put δ
          exact ai.nil
         case hend =>
          intro y w' hS hR hF;have e38:=isV.get (i:=38) (c:=.bool false) (hR 38 κ);simp only [e38];refine bq κ ?_;have HR2:=η (ae HRP2.out hS ρ);have hvl:=HIT.out;have hvn:=HIN.out;clear hS hR hF
          go_wp2_with fail
          go_round
          case rel=>exact ⟨i+1,HIN.out,rfl,HR2.out⟩
          case measure=>show nf - ((i:Int)+1).toNat<nf - (i:Int).toNat;have:=HIN.out;omega
     ·have hlt:(i:Int)<(ne:Int):=ω
      have HIT:=η hlt;have HIN:=η (show i<ne from by omega);obtain ⟨ed,hed⟩:∃ ed,es[i]?=some ed:=⟨_,List.getElem?_eq_getElem (by rw [HNE.out];exact HIN.out)⟩;obtain ⟨bE,cE,e,hbE,-,-,hce⟩:=dE.at_ (t:=96) (enc:=cL) (k:=4) (fun _=>rfl) HS.out.se i ed hed;injection e with e1 e2 e3
      subst e1;clear e2 e3;obtain ⟨bG,cG,e,hbG,-,-,hcg⟩:=dE.at_ (t:=96) (enc:=cL) (k:=4) (fun _=>rfl) HS.out.pe i ed hed;injection e with e1 e2 e3
      subst e1;clear e2 e3;have HEC:=η (fun w' (h:Below wk.heap.size wk w') j (hj:j<(#[.int .i64 (ed.a:Nat),.int .i64 (ed.b:Nat),.int .i64 ed.f,.int .i64 ed.g]:Array Value).size)=>((h.cell (p:=⟨bE,i*4+j,none⟩) hbE).trans (hce j hj)).trans (by rw [List.getElem?_toArray];rfl:(cL ed)[j]?=(#[.int .i64 (ed.a:Nat),.int .i64 (ed.b:Nat),.int .i64 ed.f,.int .i64 ed.g]:Array Value)[j]?));have HGC:=η (fun w' (h:Below wk.heap.size wk w') j (hj:j<(#[.int .i64 (ed.a:Nat),.int .i64 (ed.b:Nat),.int .i64 ed.f,.int .i64 ed.g]:Array Value).size)=>((h.cell (p:=⟨bG,i*4+j,none⟩) hbG).trans (hcg j hj)).trans (by rw [List.getElem?_toArray];rfl:(cL ed)[j]?=(#[.int .i64 (ed.a:Nat),.int .i64 (ed.b:Nat),.int .i64 ed.f,.int .i64 ed.g]:Array Value)[j]?));have SBx:=η HS.out.sb;have PBx:=η HS.out.pb;clear h0 hed hbE hbG hce hcg
      go_wp2_with fail
      clear s0 s1 s2;refine bK (rest:=0) [isV 0 (.pointer (some ⟨w8.heap.size,2,none⟩)),isV 1 (.slice (some ⟨bG,0,none⟩) ne de),isV 2 (.int .i64 (i:Nat)),isV 3 (.pointer (some ⟨bG,i*4,none⟩)),isV 4 (.agg #[.int .i64 (ed.a:Nat),.int .i64 (ed.b:Nat),.int .i64 ed.f,.int .i64 ed.g]),isV 5 (.pointer (some ⟨w6.heap.size,2,none⟩)),isV 6 (.slice (some ⟨bE,0,none⟩) ne ce),isV 7 (.int .i64 (i:Nat)),isV 8 (.pointer (some ⟨bE,i*4,none⟩)),isV 9 (.agg #[.int .i64 (ed.a:Nat),.int .i64 (ed.b:Nat),.int .i64 ed.f,.int .i64 ed.g]),isV 10 (.bool false)] [] ?A17 #[true,true,true,true,true,true,true,true,true,true,true] κ [0,1,2,3,4,5,6,7,8,9,10] κ κ κ κ κ κ ?st ?hA ?hop ?hend
      case hA =>
       intro y;simp only [bj,cU,List.getElem?_toArray,List.getElem?_cons_zero,List.getElem?_cons_succ,Option.bind_some,Act.put,List.setIfInBounds_toArray,List.set_cons_zero,List.set_cons_succ];exact rfl
      case st=>exact aj.cons isV.stab (aj.cons isV.stab (aj.cons isV.stab (aj.cons isV.stab (aj.cons isV.stab (aj.cons isV.stab (aj.cons isV.stab (aj.cons isV.stab (aj.cons isV.stab (aj.cons isV.stab (aj.cons isV.stab (aj.nil)))))))))))
      case hop =>
       refine ai.cons (i:=0) rfl (fun y w' hS hD K hK=>?_) ?_
       ·as_aux_lemma =>
        go_simp;exact hK.out _ w' hS β isV.put δ
       refine ai.cons (i:=1) rfl (fun y w' hS hD K hK=>?_) ?_
       ·as_aux_lemma =>
        have e0:=isV.get (i:=0) (c:=.pointer (some ⟨w8.heap.size,2,none⟩)) (hD 0 κ);have bx:=PBx.out.below hS PBx.out.lt;obtain ⟨c0,c1,c2,-⟩:=bx.three;simp only [e0] at hK ⊢;go_simp;exact hK.out _ w' hS β isV.put δ
       refine ai.cons (i:=2) rfl (fun y w' hS hD K hK=>?_) ?_
       ·as_aux_lemma =>
        go_simp;exact hK.out _ w' hS β isV.put δ
       refine ai.cons (i:=3) rfl (fun y w' hS hD K hK=>?_) ?_
       ·as_aux_lemma =>
        have e1:=isV.get (i:=1) (c:=.slice (some ⟨bG,0,none⟩) ne de) (hD 1 κ);have e2:=isV.get (i:=2) (c:=.int .i64 (i:Nat)) (hD 2 κ);have hvl:=HIT.out;have hvn:=HIN.out;simp only [e1,e2] at hK ⊢;go_simp;exact hK.out _ w' hS β isV.put δ
       refine ai.cons (i:=4) rfl (fun y w' hS hD K hK=>?_) ?_
       ·as_aux_lemma =>
        have e3:=isV.get (i:=3) (c:=.pointer (some ⟨bG,i*4,none⟩)) (hD 3 κ);simp only [e3] at hK ⊢;refine iteInduction (motive:=fun p=>p) (fun _=>?_) (fun h=>absurd κ h);refine aZ 96 _ rfl bG (i*4) rfl (#[.int .i64 (ed.a:Nat),.int .i64 (ed.b:Nat),.int .i64 ed.f,.int .i64 ed.g]) _ (fun j hj=>HGC.out w' hS j hj) Tryz.underlying96 rfl infoE4 ?_;exact hK.out _ w' hS β isV.put δ
       refine ai.cons (i:=5) rfl (fun y w' hS hD K hK=>?_) ?_
       ·as_aux_lemma =>
        go_simp;exact hK.out _ w' hS β isV.put δ
       refine ai.cons (i:=6) rfl (fun y w' hS hD K hK=>?_) ?_
       ·as_aux_lemma =>
        have e5:=isV.get (i:=5) (c:=.pointer (some ⟨w6.heap.size,2,none⟩)) (hD 5 κ);have bx:=SBx.out.below hS SBx.out.lt;obtain ⟨c0,c1,c2,-⟩:=bx.three;simp only [e5] at hK ⊢;go_simp;exact hK.out _ w' hS β isV.put δ
       refine ai.cons (i:=7) rfl (fun y w' hS hD K hK=>?_) ?_
       ·as_aux_lemma =>
        go_simp;exact hK.out _ w' hS β isV.put δ
       refine ai.cons (i:=8) rfl (fun y w' hS hD K hK=>?_) ?_
       ·as_aux_lemma =>
        have e6:=isV.get (i:=6) (c:=.slice (some ⟨bE,0,none⟩) ne ce) (hD 6 κ);have e7:=isV.get (i:=7) (c:=.int .i64 (i:Nat)) (hD 7 κ);have hvl:=HIT.out;have hvn:=HIN.out;simp only [e6,e7] at hK ⊢;go_simp;exact hK.out _ w' hS β isV.put δ
       refine ai.cons (i:=9) rfl (fun y w' hS hD K hK=>?_) ?_
       ·as_aux_lemma =>
        have e8:=isV.get (i:=8) (c:=.pointer (some ⟨bE,i*4,none⟩)) (hD 8 κ);simp only [e8] at hK ⊢;refine iteInduction (motive:=fun p=>p) (fun _=>?_) (fun h=>absurd κ h);refine aZ 96 _ rfl bE (i*4) rfl (#[.int .i64 (ed.a:Nat),.int .i64 (ed.b:Nat),.int .i64 ed.f,.int .i64 ed.g]) _ (fun j hj=>HEC.out w' hS j hj) Tryz.underlying96 rfl infoE4 ?_;exact hK.out _ w' hS β isV.put δ
       refine ai.cons (i:=10) rfl (fun y w' hS hD K hK=>?_) ?_
       ·as_aux_lemma =>
        have e4:=isV.get (i:=4) (c:=.agg #[.int .i64 (ed.a:Nat),.int .i64 (ed.b:Nat),.int .i64 ed.f,.int .i64 ed.g]) (hD 4 κ);have e9:=isV.get (i:=9) (c:=.agg #[.int .i64 (ed.a:Nat),.int .i64 (ed.b:Nat),.int .i64 ed.f,.int .i64 ed.g]) (hD 9 κ);have eE:=eqEdge;simp only [e4,e9] at hK ⊢;go_simp;exact hK.out _ w' hS β isV.put δ
       exact ai.nil
      case hend =>
       intro y w' hS hR hF;have e10:=isV.get (i:=10) (c:=.bool false) (hR 10 κ);simp only [e10];refine bq κ ?_;have HR2:=η (ae HR.out hS ρ);have hvl:=HIT.out;have hvn:=HIN.out;clear hS hR hF
       go_wp2_with fail
       go_round
       case rel=>exact ⟨i+1,HIN.out,rfl,HR2.out⟩
       case measure=>show ne - ((i:Int)+1).toNat<ne - (i:Int).toNat;have:=HIN.out;omega
   ·have hlt:(i:Int)<(len:Int):=ω
    have HIT:=η hlt;have HIN:=η (show i<len from by omega);obtain ⟨bV,R0,R1,R2,e,hbV,hrv,hrc⟩:=HS.out.sv.open12 i (by rw [HQL.out];exact HIN.out);subst e;obtain ⟨bQ,P0,P1,P2,e,hbQ,hpv,hpc⟩:=HS.out.pv.open12 i (by rw [List.length_map,HQL.out];exact HIN.out);subst e;rw [eM (by rw [HQL.out];exact HIN.out)] at hpv;have HPC:=η (fun w' (h:Below wk.heap.size wk w') j (hj:j<(ah P0 P1 P2).size)=>(h.cell (p:=⟨bQ,i*12+j,none⟩) hbQ).trans (hpc j hj));have HRC:=η (fun w' (h:Below wk.heap.size wk w') j (hj:j<(ah R0 R1 R2).size)=>(h.cell (p:=⟨bV,i*12+j,none⟩) hbV).trans (hrc j hj));have HAP:=η (fun w' (h:Below wk.heap.size wk w')=>li (.agg (aC ma mb mc ms)) (.agg (ah R0 R1 R2)) m (qAt qs i) 2 2 w' ⟨ma,mb,mc,ms,rfl,HS.out.mr.below h⟩ (hrv.below h) HMB.out HMS.out (HKQ.out i) ω);have HBA:=η (nI HMB.out HMS.out (HKQ.out i));have SBx:=η HS.out.sb;have PBx:=η HS.out.pb;have MBx:=η HS.out.mb;have PVK:=η hpv;clear h0 hbV hrv hrc hbQ hpv hpc
    go_wp2_with fail
    clear s0 s1 s2;refine bK (rest:=0) [isV 0 (.pointer (some ⟨w8.heap.size,0,none⟩)),isV 1 (.slice (some ⟨bQ,0,none⟩) len dv),isV 2 (.int .i64 (i:Nat)),isV 3 (.pointer (some ⟨bQ,i*12,none⟩)),isV 4 (.agg (ah P0 P1 P2)),isV 5 (.agg (aC ma mb mc ms)),isV 6 (.pointer (some ⟨w6.heap.size,0,none⟩)),isV 7 (.slice (some ⟨bV,0,none⟩) len cv),isV 8 (.int .i64 (i:Nat)),isV 9 (.pointer (some ⟨bV,i*12,none⟩)),isV 10 (.agg (ah R0 R1 R2)),isP 11 (fun u w=>aA w u (aE m (qAt qs i))),isV 12 (.bool true),isV 13 (.bool false)] [] ?A12 #[true,true,true,true,true,true,true,true,true,true,true,true,true,true] κ [0,1,2,3,4,5,6,7,8,9,10,11,12,13] κ κ κ κ κ κ ?st ?hA ?hop ?hend
    case hA =>
     intro y;simp only [bj,cU,List.getElem?_toArray,List.getElem?_cons_zero,List.getElem?_cons_succ,Option.bind_some,Act.put,List.setIfInBounds_toArray,List.set_cons_zero,List.set_cons_succ];exact rfl
    case st=>exact aj.cons isV.stab (aj.cons isV.stab (aj.cons isV.stab (aj.cons isV.stab (aj.cons isV.stab (aj.cons isV.stab (aj.cons isV.stab (aj.cons isV.stab (aj.cons isV.stab (aj.cons isV.stab (aj.cons isV.stab (aj.cons (isP.stab (fun _ _ _ h hv=>hv.below h)) (aj.cons isV.stab (aj.cons isV.stab (aj.nil))))))))))))))
    case hop =>
     refine ai.cons (i:=0) rfl (fun y w' hS hD K hK=>?_) ?_
     ·as_aux_lemma =>
      go_simp;exact hK.out _ w' hS β isV.put δ
     refine ai.cons (i:=1) rfl (fun y w' hS hD K hK=>?_) ?_
     ·as_aux_lemma =>
      have e0:=isV.get (i:=0) (c:=.pointer (some ⟨w8.heap.size,0,none⟩)) (hD 0 κ);have bx:=PBx.out.below hS PBx.out.lt;obtain ⟨c0,c1,c2,-⟩:=bx.three;simp only [e0] at hK ⊢;go_simp;exact hK.out _ w' hS β isV.put δ
     refine ai.cons (i:=2) rfl (fun y w' hS hD K hK=>?_) ?_
     ·as_aux_lemma =>
      go_simp;exact hK.out _ w' hS β isV.put δ
     refine ai.cons (i:=3) rfl (fun y w' hS hD K hK=>?_) ?_
     ·as_aux_lemma =>
      have e1:=isV.get (i:=1) (c:=.slice (some ⟨bQ,0,none⟩) len dv) (hD 1 κ);have e2:=isV.get (i:=2) (c:=.int .i64 (i:Nat)) (hD 2 κ);have hvl:=HIT.out;have hvn:=HIN.out;simp only [e1,e2] at hK ⊢;go_simp;exact hK.out _ w' hS β isV.put δ
     refine ai.cons (i:=4) rfl (fun y w' hS hD K hK=>?_) ?_
     ·as_aux_lemma =>
      have e3:=isV.get (i:=3) (c:=.pointer (some ⟨bQ,i*12,none⟩)) (hD 3 κ);simp only [e3] at hK ⊢;refine iteInduction (motive:=fun p=>p) (fun _=>?_) (fun h=>absurd κ h);refine aZ 58 _ rfl bQ (i*12) rfl (ah P0 P1 P2) _ (fun j hj=>HPC.out w' hS j hj) Tryz.underlying58 rfl aK ?_;exact hK.out _ w' hS β isV.put δ
     refine ai.cons (i:=5) rfl (fun y w' hS hD K hK=>?_) ?_
     ·as_aux_lemma =>
      refine iteInduction (motive:=fun p=>p) (fun _=>?_) (fun h=>absurd κ h);refine aZ 89 _ rfl w3.heap.size 0 rfl (aC ma mb mc ms) _ (fun j hj=>(MBx.out.below hS MBx.out.lt).whole j hj) Tryz.underlying89 rfl dc ?_;exact hK.out _ w' hS β isV.put δ
     refine ai.cons (i:=6) rfl (fun y w' hS hD K hK=>?_) ?_
     ·as_aux_lemma =>
      go_simp;exact hK.out _ w' hS β isV.put δ
     refine ai.cons (i:=7) rfl (fun y w' hS hD K hK=>?_) ?_
     ·as_aux_lemma =>
      have e6:=isV.get (i:=6) (c:=.pointer (some ⟨w6.heap.size,0,none⟩)) (hD 6 κ);have bx:=SBx.out.below hS SBx.out.lt;obtain ⟨c0,c1,c2,-⟩:=bx.three;simp only [e6] at hK ⊢;go_simp;exact hK.out _ w' hS β isV.put δ
     refine ai.cons (i:=8) rfl (fun y w' hS hD K hK=>?_) ?_
     ·as_aux_lemma =>
      go_simp;exact hK.out _ w' hS β isV.put δ
     refine ai.cons (i:=9) rfl (fun y w' hS hD K hK=>?_) ?_
     ·as_aux_lemma =>
      have e7:=isV.get (i:=7) (c:=.slice (some ⟨bV,0,none⟩) len cv) (hD 7 κ);have e8:=isV.get (i:=8) (c:=.int .i64 (i:Nat)) (hD 8 κ);have hvl:=HIT.out;have hvn:=HIN.out;simp only [e7,e8] at hK ⊢;go_simp;exact hK.out _ w' hS β isV.put δ
     refine ai.cons (i:=10) rfl (fun y w' hS hD K hK=>?_) ?_
     ·as_aux_lemma =>
      have e9:=isV.get (i:=9) (c:=.pointer (some ⟨bV,i*12,none⟩)) (hD 9 κ);simp only [e9] at hK ⊢;refine iteInduction (motive:=fun p=>p) (fun _=>?_) (fun h=>absurd κ h);refine aZ 58 _ rfl bV (i*12) rfl (ah R0 R1 R2) _ (fun j hj=>HRC.out w' hS j hj) Tryz.underlying58 rfl aK ?_;exact hK.out _ w' hS β isV.put δ
     refine ai.cons (i:=11) rfl (fun y w' hS hD K hK=>?_) ?_
     ·as_aux_lemma =>
      have e5:=isV.get (i:=5) (c:=.agg (aC ma mb mc ms)) (hD 5 κ);have e10:=isV.get (i:=10) (c:=.agg (ah R0 R1 R2)) (hD 10 κ);simp only [e5,e10] at hK ⊢;go_simp;refine (HAP.out w' hS).mono ?_;rintro e w'' ⟨⟨v,rfl,hv⟩,hb⟩;exact hK.out v w'' (ae hS hb ρ) hb (isP.put hv) δ
     refine ai.cons (i:=12) rfl (fun y w' hS hD K hK=>?_) ?_
     ·as_aux_lemma =>
      have e4:=isV.get (i:=4) (c:=.agg (ah P0 P1 P2)) (hD 4 κ);have e11:=isP.get (i:=11) (p:=fun u w=>aA w u (aE m (qAt qs i))) (hD 11 κ);simp only [e4] at hK ⊢;go_simp;refine (iz _ _ (aE m (qAt qs i)) (aE m (qAt qs i)) 19 19 w' (PVK.out.below hS) e11 HBA.out HBA.out ω).mono ?_;rintro e w'' ⟨⟨r,rfl,hr⟩,hb⟩;obtain rfl:r=true:=hr.mpr rfl;exact hK.out _ w'' (ae hS hb ρ) hb isV.put δ
     refine ai.cons (i:=13) rfl (fun y w' hS hD K hK=>?_) ?_
     ·as_aux_lemma =>
      have e12:=isV.get (i:=12) (c:=.bool true) (hD 12 κ);simp only [e12] at hK ⊢;go_simp;exact hK.out _ w' hS β isV.put δ
     exact ai.nil
    case hend =>
     intro y w' hS hR hF;have e13:=isV.get (i:=13) (c:=.bool false) (hR 13 κ);simp only [e13];refine bq κ ?_;have HR2:=η (ae HR.out hS ρ);have hvl:=HIT.out;have hvn:=HIN.out;clear hS hR hF
     go_wp2_with fail
     go_round
     case rel=>exact ⟨i+1,HIN.out,rfl,HR2.out⟩
     case measure=>show len - ((i:Int)+1).toNat<len - (i:Int).toNat;have:=HIN.out;omega
end Go.Proofs.Υ
end
