/- Lemmas. -/
import Derived.Test.YtodehkjinmgflaaGreatDoorV13
import Derived.Deep.AppendLies
set_option linter.all false
set_option maxHeartbeats 0
set_option maxRecDepth 99999
namespace Go.Proofs.Υ
open Go Go.RowKit Tryz
section
theorem Box.kept{w w':World}{g:Nat}{cs:Array Value}{t:TypeId}{row:Option Nat}(h:Box w g cs t)(j:w.grownBy w' row)(i:row≠some g):Box w' g cs t:=by
 unfold Box;rw[j.block g h.lt (fun e=>i e.symm)];exact h
theorem jE{w:World}{g base e k:Nat}{cs:Array Value}{t:TypeId}{v:Value}{n:Nat}{xs:List Value}(h:Box w g cs t)(C:w.ownsRow base e k v n xs)(i:e≠t):v.ownBlock≠some g:=by
 obtain⟨_,⟨rfl,_⟩|⟨g',u,A,rfl,_,j,_⟩⟩:=C
 ·intro e;cases e
 ·intro e
  have:g'=g:=by simpa[Value.ownBlock]using e
  subst this;unfold Box at h;rw[h]at j;have:=Option.some.inj j;injection this with _ e2 _
  exact i e2.symm
theorem Box.five{w:World}{g:Nat}{a b c d e:Value}{t:TypeId}(h:Box w g #[a,b,c,d,e] t):
 w.cell? ⟨g,0,.none⟩=.some a/\w.cell? ⟨g,1,.none⟩=.some b/\w.cell? ⟨g,2,.none⟩=.some c/\w.cell? ⟨g,3,.none⟩=.some d/\w.cell? ⟨g,4,.none⟩=.some e:=
 ⟨h.cell 0,h.cell 1,h.cell 2,h.cell 3,h.cell 4⟩
theorem Box.news{w:World}{g:Nat}{cs:List Value}{t:TypeId}(h:Box w g cs.toArray t)(j:Nat)(u:Value)(e:cs[j]?=some u):w.cell? ((⟨g,0,none⟩:Addr).add j)=some u:=by
 rw[show((⟨g,0,none⟩:Addr).add j)=⟨g,j,none⟩ by simp[Addr.add];exact fun h=>h.symm,h.cell j,List.getElem?_toArray];exact e
theorem Box.new1(w:World)(cs:Array Value)(t:TypeId):Box (w.alloc (.cells cs t)) w.heap.size cs t:=Box.new _ _ _ _ rfl
theorem Box.new2(w:World)(o:Obj)(cs:Array Value)(t:TypeId):Box ((w.alloc o).alloc (.cells cs t)) (w.heap.size+1) cs t:=Box.new _ _ _ _ (by simp)
theorem tyPR:(212:TypeId)≠63:=by decide
theorem tyRP:(63:TypeId)≠212:=by decide
def OwnS(w:World)(base:Nat)(v:Value)(l:List Value):Prop:=w.ownsRow base 63 1 v l.length l
structure St (w5:World) (B gb:Nat) (fc:Array Value) (w:World) (pv rv:Value) (ps:List (V × Nat)) (rs:List Value):Prop where
 ps:gN w B pv ps
 rs:OwnS w B rv rs
 bx:Box w gb fc 240
 lo:Below B w5 w
 le:B<=w.heap.size
variable {w5 : World} {B gb : Nat} {fc : Array Value} {w w' : World} {pv rv : Value} {ps : List (V × Nat)} {rs : List Value}
theorem St.alloc(h:St w5 B gb fc w pv rv ps rs)(o:Obj):St w5 B gb fc (w.alloc o) pv rv ps rs:=
 ⟨World.ownsRow.alloc h.ps o,World.ownsRow.alloc h.rs o,h.bx.old o,h.lo.alloc h.le o,by simp;have:=h.le;omega⟩
theorem St.drew(h:St w5 B gb fc w pv rv ps rs):St w5 B gb fc w.drew pv rv ps rs:=⟨h.ps,h.rs,h.bx,h.lo.drew,h.le⟩
theorem St.appP(h:St w5 B gb fc w pv rv ps rs){j:Value}{p:V×Nat}(u:w'.ownsRow B 212 4 j (ps.length+1) (cM ps++[.int .i64 p.1.x,.int .i64 p.1.y,.int .i64 p.1.z,.int .u64 (p.2:Int)]))(i:w.grownBy w' pv.ownBlock):
 St w5 B gb fc w' j rv (ps++[p]) rs:=
 ⟨by
  have e:cM (ps++[p])=cM ps++[.int .i64 p.1.x,.int .i64 p.1.y,.int .i64 p.1.z,.int .u64 (p.2:Int)]:=by simp[cM]
  unfold gN;rw[List.length_append,e];exact u,
  World.ownsRow.kept h.rs i (iO h.rs h.ps ν),h.bx.kept i (jE h.bx h.ps ν),h.lo.grown i h.le (cz h.ps),Nat.le_trans h.le i.size⟩
theorem St.appR(h:St w5 B gb fc w pv rv ps rs){i r:Value}(j:w'.ownsRow B 63 1 i (rs.length+1) (rs++[r]))(e:w.grownBy w' rv.ownBlock):
 St w5 B gb fc w' pv i ps (rs++[r]):=
 ⟨World.ownsRow.kept h.ps e (iO h.ps h.rs ν),
  by unfold OwnS;rw[List.length_append];exact j,h.bx.kept e (jE h.bx h.rs ν),h.lo.grown e h.le (cz h.rs),Nat.le_trans h.le e.size⟩
theorem St.ps'(h:St w5 B gb fc w pv rv ps rs):w.ownsRow B 212 4 pv ps.length (cM ps):=h.ps
theorem St.rs'(h:St w5 B gb fc w pv rv ps rs):w.ownsRow B 63 1 rv rs.length rs:=h.rs
theorem St.keepP{g:Nat}{cs:Array Value}(e:w.grownBy w' pv.ownBlock)(h:St w5 B gb fc w pv rv ps rs)(hb:Box w g cs 63):Box w' g cs 63:=hb.kept e (jE hb h.ps' tyPR)
theorem St.keepR{g:Nat}{cs:Array Value}(e:w.grownBy w' rv.ownBlock)(h:St w5 B gb fc w pv rv ps rs)(hb:Box w g cs 212):Box w' g cs 212:=hb.kept e (jE hb h.rs' tyRP)
theorem nV:∀(l:List RF) (k:Nat) (f:RF),l[k]?=some f ->
 (l.flatMap ct)[k*5]?=some (.int .i64 f.n.x)/\(l.flatMap ct)[k*5+1]?=some (.int .i64 f.n.y)/\(l.flatMap ct)[k*5+2]?=some (.int .i64 f.n.z)/\(l.flatMap ct)[k*5+3]?=some (.int .u64 (f.o:Int))/\(l.flatMap ct)[k*5+4]?=some f.v
 | [],k,p,h=>by simp at h
 | q::l,0,p,h=>by
  have:q=p:=by simpa using h
  subst this;simp[ct]
 | q::l,k+1,p,h=>by
  have:=nV l k p (by simpa using h);have e:(q::l).flatMap ct=.int .i64 q.n.x::.int .i64 q.n.y::.int .i64 q.n.z::.int .u64 (q.o:Int)::q.v::l.flatMap ct:=rfl;rw[e,show(k+1)*5=k*5+5 by omega];exact this
theorem ue.at_{w:World}{base:Nat}{v:Value}{l:List RF}(h:ue w base v l)(J:0<l.length):
 ∃g e,v=.slice (some ⟨g,0,none⟩) l.length e/\g<w.heap.size/\∀k f,l[k]?=some f ->
  Γ5 w g (k*5) (.int .i64 f.n.x) g (k*5+1) (.int .i64 f.n.y) g (k*5+2) (.int .i64 f.n.z) g (k*5+3) (.int .u64 (f.o:Int)) g (k*5+4) f.v:=by
 have i:=h;obtain⟨A,⟨rfl,h0⟩|⟨g,e,C,rfl,H,j,r⟩⟩:=h
 ·omega
 ·refine⟨g,e,rfl,(Array.getElem?_eq_some_iff.1 j).1,fun k p u=>?_⟩
  have E:k<l.length:=by
   rcases Nat.lt_or_ge k l.length with h|h
   ·exact h
   ·rw[List.getElem?_eq_none h]at u;cases u
  obtain⟨p0,p1,p2,F,G⟩:=nV l k p u;exact⟨(World.ownsRow.cellAt i _ I).trans p0,(World.ownsRow.cellAt i _ I).trans p1,(World.ownsRow.cellAt i _ I).trans p2,(World.ownsRow.cellAt i _ I).trans F,(World.ownsRow.cellAt i _ I).trans G⟩
end
theorem iJ.nil:iJ 0 []:=⟨by omega,fun v=>by simp⟩
def gG(E0 E:Nat)(r:List Nat)(i:Nat):Prop:=E<18446744073709551616/\∀v,E.testBit v=(E0.testBit v || decide (v∈r.take i))
theorem gG.start{e:Nat}{r:List Nat}(h:e<18446744073709551616):gG e e r 0:=⟨h,fun v=>by simp⟩
theorem gG.step{A E i q:Nat}{r:List Nat}(h:gG A E r i)(hi:r[i]?=some q)(C:q<64):gG A (E ||| 2 ^ q) r (i+1):=by
 refine⟨Nat.or_lt_two_pow (n:=64) h.1 (Nat.pow_lt_pow_right I C),fun v=>?_⟩;rw[Nat.testBit_or,h.2 v,Nat.testBit_two_pow];have j:i<r.length:=by
  rcases Nat.lt_or_ge i r.length with h|h
  ·exact h
  ·rw[List.getElem?_eq_none h]at hi;cases hi
 have e:r.take (i+1)=r.take i++[q]:=by
  rw[List.take_succ_eq_append_getElem j];rw[List.getElem?_eq_getElem j]at hi;rw[Option.some.inj hi]
 rw[e];by_cases u:v=q
 ·subst u;simp
 ·have:decide (q=v)=false:=decide_eq_false (fun e=>u e.symm)
  simp[u,this]
theorem gG.done{u E:Nat}{f:RF}{l:List RF}(h:gG u E f.r f.r.length)(h0:iJ u l):iJ E (l++[f]):=by
 refine⟨h.1,fun v=>?_⟩;rw[h.2 v,h0.2 v,List.take_length];by_cases j:∃g∈l,v∈g.r
 ·obtain⟨g,e,i⟩:=j
  rw[decide_eq_true (⟨g,e,i⟩:∃g∈l,v∈g.r),decide_eq_true (⟨g,List.mem_append_left _ e,i⟩:∃g∈l++[f],v∈g.r)];rfl
 ·rw[decide_eq_false j,Bool.false_or]
  refine decide_eq_decide.mpr ⟨fun i=>⟨f,by simp,i⟩,?_⟩;rintro⟨g,e,i⟩
  rcases List.mem_append.mp e with e|e
  ·exact absurd ⟨g,e,i⟩ j
  ·rw[List.mem_singleton.mp e]at i;exact i
structure RingsOk (P:Nat→V) (N:Nat) (fs:List RF) (E:Nat):Prop where
 ok:∀ f ∈ fs,FaceOk P N f
 all:∀ n b,Face P N n b→∃ f ∈ fs,f.o=cA P N n b
 nodup:(fs.map RF.o).Nodup
 sorted:fs.Pairwise (fun f g=>bK (f.r.map fun (i:Nat)=>(i:Int)) (g.r.map fun (i:Nat)=>(i:Int))<=0)
 bits:iJ E fs
def RetRings(P:Nat->V)(N base:Nat)(w:World)(e:Ending):Prop:=
 ∃pv rv fs E,e=.returned (.tuple #[pv,rv,.int .u64 (E:Nat)])/\gN w base pv (fs.map fun f=>(f.n,f.o))/\OwnS w base rv (fs.map RF.v)/\Faces w base fs/\RingsOk P N fs E
theorem dw{i:Type}{l:List i}{j:Nat}{x:i}(h:l[j]?=some x):l.take (j+1)=l.take j++[x]:=by
 have e:=(List.getElem?_eq_some_iff.1 h).1;rw[List.take_succ_eq_append_getElem e];rw[List.getElem?_eq_getElem e]at h;rw[Option.some.inj h]
theorem pO{P:Nat->V}{N:Nat}{n:V}{b:Nat}(hF:Face P N n b)(hS:Sorted P N)(j:N<=64):(ring P (aI P N n b) n).length<=64:=by
 unfold ring;obtain⟨u,e,_,i,_⟩:=mY (hF.flat hS.inj) hF.two (hF.head hS);rw[<-e,List.length_map,List.length_range];have:(aI P N n b).length<=N:=by unfold aI;exact Nat.le_trans (List.length_filter_le _ _) (by simp)
 omega
theorem infoSl:(prog.info? 63).map (fun i=>(i.zero,i.size,i.bytes))=some (some (.slice none 0 0),1,24):=by kernel_rfl
theorem mV(a:Option Addr)(len a6:Nat)(P:Nat->V)(w:World)(hT:Tab w)(hP:Pts w a len a6 P)(az:len<=64)(a0:∀i,i<len->LeV 4096 (P i))(hS:Sorted P len)(aw:iC P len):
 Calls prog 131 #[.slice a len a6] w fun e w'=>RetRings P len w.heap.size w' e/\Bl w w':=by
 obtain⟨HP,HN,HT,ag,ei⟩:=η5 hP a0 hT hS aw;obtain⟨i0,db,e4,e5,e6⟩:=info_parts infoFc;clear hP a0 hT hS aw
 go_enter func131,ntmps131
 go_wp2_with fail
 refine(planes_any a len a6 P _ HP.o az HN.o).mono ?_;rintro e w1 ⟨⟨pv,l,rfl,a9,dx,eT⟩,da⟩;obtain⟨bl,eo,bs⟩:=η3 da a9 dx;obtain⟨ap,cp,e0⟩:∃ap cp,pv=.slice ap l.length cp:=by
  obtain⟨_,⟨rfl,h0⟩|⟨g,c,_,rfl,_⟩⟩:=a9
  ·exact⟨_,_,by rw[h0]⟩
  ·exact⟨_,_,rfl⟩
 subst e0;clear da a9 dx
 go_wp2_with fail
 go_loopw [5,6,19] (fun Q ev iv wr=>∃k fs E,k<=l.length/\iv=.int .i64 (k:Nat)/\ev=.int .u64 (E:Nat)/\Hid (fs.map (fun f=>(f.n,f.o))=l.take k)/\Hid (∀f∈fs,FaceOk P len f)/\Hid (∀f∈fs,bo wr w1.heap.size f.v f.r)/\Hid (ue wr w1.heap.size Q fs)/\Hid (iJ E fs)/\Hid (Bl w1 wr)) (fun _ _ iv _=>l.length-(intOf iv).toNat)
 case atStart=>exact⟨0,[],0,Nat.zero_le _,rfl,rfl,by exact rfl,(fun f J=>by cases J),(fun f J=>by cases J),World.ownsRow_nil _ _ _ _,iJ.nil,Below.refl _ _⟩
 case round =>
  obtain⟨k,fs,E,hk,rfl,rfl,HM,bp,cc,HO,HE,HR⟩:=hrel;by_cases h0:k=l.length
  ·have hn:¬ (k:Int)<(l.length:Int):=I
   have hM:fs.map (fun f=>(f.n,f.o))=l:=by have:=HM.o;rwa [h0,List.take_length]at this
   have ao:fs.length<=262144:=by have:=congrArg List.length hM;rw[List.length_map]at this;omega
   have eb:Faces wr w1.heap.size fs:=⟨cc.o,fun f J=>by
    obtain⟨b,hF,_,hr⟩:=bp.o f J;rw[hr];exact pO hF ag.o az⟩
   have ec:=rk u5 fs w1.heap.size wr HO.o eb ao;obtain⟨cy,ek⟩:=η2 ec hM;clear h0 hM eb ec
   go_wp2_with fail
   refine cy.o.mono ?_;rintro e w5 ⟨rfl,⟨F,ac,a3,bu,c5⟩,bz⟩;have an:Bl w1 w5:=HR.o.trans bz;obtain⟨af,ex,em,bm,a5⟩:=η5 ac a3 bu c5 an;have e7:F.length<=262144:=by rw[ac.length_eq];exact ao
   obtain⟨au,cu,eB⟩:∃au cu,u5=.slice au F.length cu:=by
    obtain⟨_,⟨rfl,h0⟩|⟨g,c,_,rfl,_⟩⟩:=bu
    ·exact⟨_,_,by rw[h0]⟩
    ·exact⟨_,_,rfl⟩
   obtain⟨i1,dv,dl,dm,ds⟩:=info_parts infoPl;obtain⟨i2,d9,d6,d7,d8⟩:=info_parts infoSl;subst eB;clear ac a3 bu c5 an bz hn cy
   go_wp2_with fail
   go_loopw [12,13,48] (fun pv rv iv wr=>∃k,k<=F.length/\iv=.int .i64 (k:Nat)/\Hid (gN wr w5.heap.size pv ((F.take k).map fun f=>(f.n,f.o)))/\Hid (OwnS wr w5.heap.size rv ((F.take k).map RF.v))/\Hid (Bl w5 wr)) (fun _ _ iv _=>F.length-(intOf iv).toNat)
   case atStart=>exact⟨0,Nat.zero_le _,rfl,World.ownsRow_nil _ _ _ _,World.ownsRow_nil _ _ _ _,Below.refl _ _⟩
   case round =>
    obtain⟨j,hj,rfl,ce,cq,L⟩:=hrel;by_cases h0:j=F.length
    ·have hn:¬ (j:Int)<(F.length:Int):=I
     have H0:=O h0;clear h0;go_wp2;have hb:=bl.o.size;have bz:=a5.o.size;have e3:F.take j=F:=by rw[H0.o,List.take_length]
     have bf:=ce.o;have bi:=cq.o;rw[e3]at bf bi;refine bodyPost_ret (results_tmp3 results131 _ _ _) rfl ⟨⟨u12,u13,F,E,rfl,bX bf I,bX bi I,⟨fun f J=>bX (aC (bm.o.own f J) L.o) I,bm.o.short⟩,?_⟩,?_⟩
     ·have be:l.map Prod.snd=fs.map RF.o:=by rw[<-ek.o,List.map_map];rfl
      refine⟨fun f J=>bp.o f (af.o.mem_iff.mp J),fun n b hF=>?_,?_,ex.o,?_⟩
      ·have:=bs.o.done (fun _ _ _ _ _ _=>trivial) ei.o n b hF
       rw[be]at this;obtain⟨f,J,he⟩:=List.mem_map.mp this;exact⟨f,af.o.mem_iff.mpr J,he⟩
      ·have dk:=bs.o.nodup
       rw[be]at dk;exact(af.o.map RF.o).nodup_iff.mpr dk
      ·refine⟨HE.o.1,fun v=>?_⟩
       rw[HE.o.2 v];exact decide_eq_decide.mpr ⟨fun⟨f,J,hv⟩=>⟨f,af.o.mem_iff.mpr J,hv⟩,fun⟨f,J,hv⟩=>⟨f,af.o.mem_iff.mp J,hv⟩⟩
     ·exact(bl.o.trans (a5.o.mono hb)).trans (L.o.mono I)
    ·have dd:j<F.length:=I
     obtain⟨g,cg,eg,R,ay⟩:=ue.at_ em.o I;cases eg;obtain⟨f,J⟩:∃f,F[j]?=some f:=⟨F[j],List.getElem?_eq_getElem dd⟩;obtain⟨c0,c1,c2,c3,c4⟩:=ay j f J;have d0:=keepC c0 L.o R;have d1:=keepC c1 L.o R;have d2:=keepC c2 L.o R;have d3:=keepC c3 L.o R;have d4:=keepC c4 L.o R;have bF:f∈F:=List.mem_of_getElem? J;obtain⟨Q,X,hv,-⟩:=(bm.o.own f bF).ints;obtain⟨H,Y,fv,fr⟩:=f;simp only at hv c0 c1 c2 c3 c4 d0 d1 d2 d3 d4;subst hv;obtain⟨ps,ba⟩:=χ (((F.take j).map fun f=>(f.n,f.o)));obtain⟨rs,bc⟩:=χ (((F.take j).map RF.v));have a9:ps.length<=262144:=by rw[<-ba,List.length_map,List.length_take];omega
     have e2:rs.length<=262144:=by rw[<-bc,List.length_map,List.length_take];omega
     have bk:St w5 w5.heap.size wr.heap.size #[.int .i64 H.x,.int .i64 H.y,.int .i64 H.z,.int .u64 (Y:Int),.slice Q fr.length X] (wr.alloc (.cells #[.int .i64 H.x,.int .i64 H.y,.int .i64 H.z,.int .u64 (Y:Int),.slice Q fr.length X] 240)) u12 u13 ps rs:=by
      rw[<-ba,<-bc];exact⟨World.ownsRow.alloc ce.o _,World.ownsRow.alloc cq.o _,Box.new _ _ _ _ rfl,L.o.alloc L.o.size _,by simp;have:=L.o.size;omega⟩
     have e9:(j:Int)<(F.length:Int):=I;obtain⟨b9,b6,ch,cs,eu⟩:=η5 dd J ba bc bk;clear ay c0 c1 c2 c3 c4 J bF ba bc bk h0
     go_upto_region 20 with fail
     obtain⟨Wk,bv⟩:=χ (wr.alloc (.cells #[.int .i64 H.x,.int .i64 H.y,.int .i64 H.z,.int .u64 (Y:Int),.slice Q fr.length X] 240));rw[bv];have G:=eu.o;rw[bv]at G;have f6:=G.bx.five;have G:=O G;clear bv d0 d1 d2 d3 d4
     go_wp2_with fail
     go_region_held3 (fun w'=>w'.cell? ⟨wr.heap.size,0,none⟩=some (.int .i64 H.x)/\w'.cell? ⟨wr.heap.size,1,none⟩=some (.int .i64 H.y)/\w'.cell? ⟨wr.heap.size,2,none⟩=some (.int .i64 H.z)/\w'.cell? ⟨wr.heap.size,3,none⟩=some (.int .u64 (Y:Int))/\w'.cell? ⟨wr.heap.size,4,none⟩=some (.slice Q fr.length X))
      (with_reducible first|exact(U.o.bx.five)|exact((U.o.alloc _).bx.five)|exact(W.o.bx.five)|exact((W.o.alloc _).bx.five)|exact(G.o.bx.five)|exact(G.o.drew.bx.five)|exact((G.o.alloc _).drew.bx.five)|exact(((G.o.alloc _).alloc _).drew.bx.five))
      (first
       | (have _g:=U.o;clear _g;refine step_append_lies _ rfl (.tmp 57) (.tmp 60) 200 rfl w5.heap.size 63 i2 (.slice none 0 0) 1 24 underlying200 d9 d6 d7 d8 rfl ν u13 (rs.length) rs (by simp[Act.eval,Act.put]) (by with_reducible first|exact(U.o.alloc _).rs'|exact U.o.rs'|exact(G.o.alloc _).drew.rs'|exact((G.o.alloc _).alloc _).drew.rs') _ 1 1 [.slice Q fr.length X] (by simp[Act.eval,Act.put];rfl) rfl (fun j u hj=>Box.news (by with_reducible first|exact(Box.new1 _ _ _)|exact(Box.new1 _ _ _).drew|exact(Box.new2 _ _ _ _).drew|exact((Box.new1 _ _ _).old _).drew|exact ND.o) j u hj) (by intro u hu;simp at hu;subst hu;rfl) I (by unfold maxLen;omega) I (by with_reducible first|exact(U.o.alloc _).le|exact U.o.le|exact(G.o.alloc _).drew.le|exact((G.o.alloc _).alloc _).drew.le) _ rfl ?_;intro gD cD vD C A aa ab
          have W:=O (show St _ _ _ _ vD _ _ _ _ from by with_reducible first|exact(U.o.alloc _).appR (r:=.slice Q fr.length X) C A|exact U.o.appR (r:=.slice Q fr.length X) C A|exact(G.o.alloc _).drew.appR (r:=.slice Q fr.length X) C A|exact((G.o.alloc _).alloc _).drew.appR (r:=.slice Q fr.length X) C A)
          first
           | (have NB:=O (show Box vD (Wk.heap.size+1) #[.int .i64 H.x,.int .i64 H.y,.int .i64 H.z,.int .u64 (Y:Int)] 212 from by with_reducible exact(St.keepR A (((G.o.alloc _).alloc _).drew) (Box.new2 Wk _ _ _).drew)))
           | (have NB:=O (show Box vD Wk.heap.size #[.int .i64 H.x,.int .i64 H.y,.int .i64 H.z,.int .u64 (Y:Int)] 212 from by with_reducible exact(St.keepR A (((G.o.alloc _).alloc _).drew) ((Box.new1 Wk _ _).old _).drew)))
           | skip
          clear C A aa ab)
       | (have _g:=W.o;clear _g;refine step_append_lies _ rfl (.tmp 52) (.tmp 55) 199 rfl w5.heap.size 212 i1 (.agg #[.int .i64 0,.int .i64 0,.int .i64 0,.int .u64 0]) 4 32 underlying199 dv dl dm ds rfl ν u12 (ps.length) (cM ps) (by simp[Act.eval,Act.put]) (by with_reducible first|exact(W.o.alloc _).ps'|exact W.o.ps'|exact(G.o.alloc _).drew.ps'|exact((G.o.alloc _).alloc _).drew.ps') _ 1 1 [.int .i64 H.x,.int .i64 H.y,.int .i64 H.z,.int .u64 (Y:Int)] (by simp[Act.eval,Act.put];rfl) rfl (fun j u hj=>Box.news (by with_reducible first|exact(Box.new1 _ _ _)|exact(Box.new1 _ _ _).drew|exact(Box.new2 _ _ _ _).drew|exact((Box.new1 _ _ _).old _).drew|exact NB.o) j u hj) (by intro u hu;simp at hu;rcases hu with rfl|rfl|rfl|rfl<;>rfl) I (by unfold maxLen;omega) I (by with_reducible first|exact(W.o.alloc _).le|exact W.o.le|exact(G.o.alloc _).drew.le|exact((G.o.alloc _).alloc _).drew.le) _ rfl ?_;intro gB cB vB C A aa ab
          have U:=O (show St _ _ _ _ vB _ _ _ _ from by with_reducible first|exact(W.o.alloc _).appP (p:=(H,Y)) C A|exact W.o.appP (p:=(H,Y)) C A|exact(G.o.alloc _).drew.appP (p:=(H,Y)) C A|exact((G.o.alloc _).alloc _).drew.appP (p:=(H,Y)) C A)
          first
           | (have ND:=O (show Box vB (Wk.heap.size+1) #[.slice Q fr.length X] 63 from by with_reducible exact(St.keepP A (((G.o.alloc _).alloc _).drew) (Box.new2 Wk _ _ _).drew)))
           | (have ND:=O (show Box vB Wk.heap.size #[.slice Q fr.length X] 63 from by with_reducible exact(St.keepP A (((G.o.alloc _).alloc _).drew) ((Box.new1 Wk _ _).old _).drew)))
           | skip
          clear C A aa ab)
       | (refine step_append_lies _ rfl (.tmp 52) (.tmp 55) 199 rfl w5.heap.size 212 i1 (.agg #[.int .i64 0,.int .i64 0,.int .i64 0,.int .u64 0]) 4 32 underlying199 dv dl dm ds rfl ν u12 (ps.length) (cM ps) (by simp[Act.eval,Act.put]) (by with_reducible first|exact(W.o.alloc _).ps'|exact W.o.ps'|exact(G.o.alloc _).drew.ps'|exact((G.o.alloc _).alloc _).drew.ps') _ 1 1 [.int .i64 H.x,.int .i64 H.y,.int .i64 H.z,.int .u64 (Y:Int)] (by simp[Act.eval,Act.put];rfl) rfl (fun j u hj=>Box.news (by with_reducible first|exact(Box.new1 _ _ _)|exact(Box.new1 _ _ _).drew|exact(Box.new2 _ _ _ _).drew|exact((Box.new1 _ _ _).old _).drew|exact NB.o) j u hj) (by intro u hu;simp at hu;rcases hu with rfl|rfl|rfl|rfl<;>rfl) I (by unfold maxLen;omega) I (by with_reducible first|exact(W.o.alloc _).le|exact W.o.le|exact(G.o.alloc _).drew.le|exact((G.o.alloc _).alloc _).drew.le) _ rfl ?_;intro gB cB vB C A aa ab
          have U:=O (show St _ _ _ _ vB _ _ _ _ from by with_reducible first|exact(W.o.alloc _).appP (p:=(H,Y)) C A|exact W.o.appP (p:=(H,Y)) C A|exact(G.o.alloc _).drew.appP (p:=(H,Y)) C A|exact((G.o.alloc _).alloc _).drew.appP (p:=(H,Y)) C A)
          first
           | (have ND:=O (show Box vB (Wk.heap.size+1) #[.slice Q fr.length X] 63 from by with_reducible exact(St.keepP A (((G.o.alloc _).alloc _).drew) (Box.new2 Wk _ _ _).drew)))
           | (have ND:=O (show Box vB Wk.heap.size #[.slice Q fr.length X] 63 from by with_reducible exact(St.keepP A (((G.o.alloc _).alloc _).drew) ((Box.new1 Wk _ _).old _).drew)))
           | skip
          clear C A aa ab)
       | (refine step_append_lies _ rfl (.tmp 57) (.tmp 60) 200 rfl w5.heap.size 63 i2 (.slice none 0 0) 1 24 underlying200 d9 d6 d7 d8 rfl ν u13 (rs.length) rs (by simp[Act.eval,Act.put]) (by with_reducible first|exact(U.o.alloc _).rs'|exact U.o.rs'|exact(G.o.alloc _).drew.rs'|exact((G.o.alloc _).alloc _).drew.rs') _ 1 1 [.slice Q fr.length X] (by simp[Act.eval,Act.put];rfl) rfl (fun j u hj=>Box.news (by with_reducible first|exact(Box.new1 _ _ _)|exact(Box.new1 _ _ _).drew|exact(Box.new2 _ _ _ _).drew|exact((Box.new1 _ _ _).old _).drew|exact ND.o) j u hj) (by intro u hu;simp at hu;subst hu;rfl) I (by unfold maxLen;omega) I (by with_reducible first|exact(U.o.alloc _).le|exact U.o.le|exact(G.o.alloc _).drew.le|exact((G.o.alloc _).alloc _).drew.le) _ rfl ?_;intro gD cD vD C A aa ab
          have W:=O (show St _ _ _ _ vD _ _ _ _ from by with_reducible first|exact(U.o.alloc _).appR (r:=.slice Q fr.length X) C A|exact U.o.appR (r:=.slice Q fr.length X) C A|exact(G.o.alloc _).drew.appR (r:=.slice Q fr.length X) C A|exact((G.o.alloc _).alloc _).drew.appR (r:=.slice Q fr.length X) C A)
          first
           | (have NB:=O (show Box vD (Wk.heap.size+1) #[.int .i64 H.x,.int .i64 H.y,.int .i64 H.z,.int .u64 (Y:Int)] 212 from by with_reducible exact(St.keepR A (((G.o.alloc _).alloc _).drew) (Box.new2 Wk _ _ _).drew)))
           | (have NB:=O (show Box vD Wk.heap.size #[.int .i64 H.x,.int .i64 H.y,.int .i64 H.z,.int .u64 (Y:Int)] 212 from by with_reducible exact(St.keepR A (((G.o.alloc _).alloc _).drew) ((Box.new1 Wk _ _).old _).drew)))
           | skip
          clear C A aa ab))
     all_goals
      have du:((F.take (j+1)).map fun f=>(f.n,f.o))=ps++[(H,Y)]:=by
       rw[<-ch.o,dw b6.o,List.map_append];rfl
      have dA:((F.take (j+1)).map RF.v)=rs++[.slice Q fr.length X]:=by
       rw[<-cs.o,dw b6.o,List.map_append];rfl
      obtain⟨cd,cm⟩:=η2 du dA;clear du dA;go_wp2;go_round
      case rel =>
       refine⟨j+1,by have:=b9.o;omega,rfl,?_⟩;unfold Hid;rw[cd.o,cm.o]
       first
        | exact⟨U.o.ps,U.o.rs,U.o.lo⟩
        | exact⟨W.o.ps,W.o.rs,W.o.lo⟩
      case measure=>exact μ (ψ b9.o)
  ·have de:k<l.length:=I
   obtain⟨g,cg,ev,f2,R,ay⟩:=gN.at_ eo.o I;cases ev;obtain⟨p,hp⟩:∃p,l[k]?=some p:=⟨l[k],List.getElem?_eq_getElem de⟩;obtain⟨c0,c1,c2,c3⟩:=ay k p hp;have d0:=keepC c0 HR.o R;have d1:=keepC c1 HR.o R;have d2:=keepC c2 HR.o R;have d3:=keepC c3 HR.o R;have dy:p∈l:=List.mem_of_getElem? hp;obtain⟨b0,hF,bt⟩:=bs.o.face p dy;obtain⟨pn,po⟩:=p;simp only at hF bt c0 c1 c2 c3 d0 d1 d2 d3;have fa:(k:Int)<(l.length:Int):=I;obtain⟨ad,en,HF,ca⟩:=η4 de hp hF bt;clear ay c0 c1 c2 c3 hp dy hF bt h0
   go_wp2_with fail
   obtain⟨w2,ed,b2,a7,ez⟩:=aB wr #[.int .i64 pn.x,.int .i64 pn.y,.int .i64 pn.z,.int .u64 (po:Int)] 212;have a4:Bl w w2:=ae (ae bl.o HR.o ρ) a7 ρ;have dB:=ring_any a len a6 b0 po pn P w2 (HT.o.below a4 HT.o.1) (HP.o.below a4) az HN.o (HF.o.small HN.o) ca.o HF.o ag.o;rw[ed];refine dB.mono ?_;clear dB ed;obtain⟨r,hr⟩:=χ (ring P (aI P len pn b0) pn);rw[hr];rintro e w4 ⟨⟨rv,rfl,bV⟩,a8⟩;have bg:∀v,v∈r->v<len:=fun v hv=>by
    rw[<-hr]at hv;exact(aG.mp ((HF.o.ring_mem ag.o v).mp hv).1).1
   have e2:r.length<=64:=by
    rw[<-hr];unfold ring;obtain⟨kp,eD,_,h2,_⟩:=mY (HF.o.flat ag.o.inj) HF.o.two (HF.o.head ag.o);rw[<-eD,List.length_map,List.length_range];have:(aI P len pn b0).length<=len:=by unfold aI;exact Nat.le_trans (List.length_filter_le _ _) (by simp)
    omega
   obtain⟨ar,cr,rfl,d5⟩:=bV.ints;have et:=O (bX bV (show w1.heap.size<=w2.heap.size by have:=HR.o.size;omega));obtain⟨ep,cl,eq⟩:=η3 d5 bg hr;have c9:Bl w1 w4:=ae (ae HR.o a7 ρ) a8 ρ;have cU:Bl wr w4:=ae a7 a8 ρ;have b4:=b2.below a8 I;obtain⟨ci,b5,ee⟩:=η3 c9 cU b4;clear bV d5 bg hr c9 cU b4 b2 a7 ez a4 a8 d0 d1 d2 d3
   go_wp2_with fail
   go_loopw [6,28] (fun ev iv wi=>∃i E',i<=r.length/\iv=.int .i64 (i:Nat)/\ev=.int .u64 (E':Nat)/\Hid (gG E E' r i)/\w4=wi) (fun _ iv _=>r.length-(intOf iv).toNat)
   case atStart=>exact⟨0,E,Nat.zero_le _,rfl,rfl,gG.start HE.o.1,rfl⟩
   case round =>
    obtain⟨i,E',hi,rfl,rfl,HX,rfl⟩:=hrel;by_cases h0:i=r.length
    ·have hn:¬ (i:Int)<(r.length:Int):=I
     have H0:=O h0;obtain⟨x0,x1,x2,x3,-⟩:=ee.o.four;clear h0;have C:w4.ownsRow w1.heap.size 240 5 u5 fs.length (fs.flatMap ct):=aC HO.o b5.o;obtain⟨xs,b3⟩:=χ (fs.flatMap ct);rw[b3]at C;have ey:=O b3;have ao:fs.length=k:=by
      have:=congrArg List.length HM.o;rw[List.length_map,List.length_take]at this;have:=ad.o;omega
     have fl:=ci.o.size;have fq:=O ao;have bF:fs.length<=262144:=I;clear b3 ao
     go_wp2_with (at_builtin;refine wpList_append_own _ rfl _ _ 236 rfl w1.heap.size 240 i0 (.agg #[.int .i64 0,.int .i64 0,.int .i64 0,.int .u64 0,.slice none 0 0]) 5 56 underlying236 db e4 e5 e6 rfl ν _ _ _ rfl (C.alloc _) ⟨w4.heap.size,0,none⟩ 1 1 [.int .i64 pn.x,.int .i64 pn.y,.int .i64 pn.z,.int .u64 (po:Int),.slice ar r.length cr] rfl rfl (fun j u hj=>fD w4 _ _ j u hj) (by intro u hu;simp at hu;rcases hu with rfl|rfl|rfl|rfl|rfl<;>rfl) (by unfold maxLen;omega) I (by simp;omega) ?_;intro v' w5 a1 A _)
     ·
       obtain⟨f,J⟩:∃f:RF,f=⟨pn,po,.slice ar r.length cr,r⟩:=⟨_,rfl⟩;have c8:ue w5 w1.heap.size v' (fs++[f]):=by
        have e:(fs++[f]).flatMap ct=xs++[.int .i64 pn.x,.int .i64 pn.y,.int .i64 pn.z,.int .u64 (po:Int),.slice ar r.length cr]:=by rw[List.flatMap_append,ey.o,J];simp[ct]
        unfold ue;rw[List.length_append,e];exact a1
       have an:Bl w1 w5:=(ci.o.alloc I _).grown A (by simp;omega) (cz C);have a2:∀g∈fs++[f],bo w5 w1.heap.size g.v g.r:=by
        intro g hg;have h4:w4.ownsRow w1.heap.size 3 1 g.v g.r.length (g.r.map fun(i:Nat)=>Value.int .i64 (i:Int)):=by
         rcases List.mem_append.mp hg with hg|hg
         ·exact aC (cc.o g hg) b5.o
         ·rw[List.mem_singleton.mp hg,J];exact et.o
        exact World.ownsRow.kept (h4.alloc _) A (iO (h4.alloc (.cells #[] 0)) (C.alloc (.cells #[] 0)) ν)
       have c6:∀g∈fs++[f],FaceOk P len g:=by
        intro g hg
        rcases List.mem_append.mp hg with hg|hg
        ·exact bp.o g hg
        ·rw[List.mem_singleton.mp hg,J];exact⟨b0,HF.o,ca.o,eq.o.symm⟩
       have cV:iJ E' (fs++[f]):=by
        have hx:gG E E' f.r f.r.length:=by rw[J];have:=HX.o;rw[H0.o]at this;exact this
        exact hx.done HE.o
       have c7:(fs++[f]).map (fun f=>(f.n,f.o))=l.take (k+1):=by
        rw[List.map_append,HM.o,List.take_succ_eq_append_getElem ad.o,J];have e:=en.o;rw[List.getElem?_eq_getElem ad.o]at e;rw[Option.some.inj e];rfl
       obtain⟨el,a5,cn,b7,ef,ej⟩:=η6 c8 an a2 c6 cV c7;clear a1 A C c8 an a2 c6 cV c7 J x0 x1 x2 x3;go_wp2;go_round
       case rel=>exact⟨k+1,fs++[f],E',by have:=ad.o;omega,rfl,rfl,ej.o,b7.o,cn.o,el.o,ef.o,a5.o⟩
       case measure=>exact μ (ψ ad.o)
    ·have bI:i<r.length:=I
     obtain⟨br,f7,er,f0,f1,dz⟩:=ep.o.cells I;cases er;obtain⟨q,hq⟩:∃q,r[i]?=some q:=⟨r[i],List.getElem?_eq_getElem bI⟩;have e1:=dz i bI;have cF:(r.map fun(i:Nat)=>(i:Int)).getD i 0=(q:Int):=by
      rw[List.getD_eq_getElem?_getD,List.getElem?_map,hq];rfl
     rw[cF]at e1;have f5:=cl.o q (List.mem_of_getElem? hq);have fb:(q:Int)<64:=I;have f4:(0:Int)<=(q:Int):=I;have f3:=shl_or E' q HX.o.1 I;have e8:(i:Int)<(r.length:Int):=I;obtain⟨HQ,b8⟩:=η2 hq bI;clear dz cF hq h0;go_wp2;go_round
     case rel=>exact⟨i+1,E' ||| 2 ^ q,by have:=b8.o;omega,rfl,rfl,HX.o.step HQ.o I,trivial⟩
     case measure=>exact μ (ψ b8.o)
end Go.Proofs.Υ
