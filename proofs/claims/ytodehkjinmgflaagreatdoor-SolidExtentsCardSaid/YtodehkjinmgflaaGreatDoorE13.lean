/- Lemmas. -/
import Derived.Test.YtodehkjinmgflaaGreatDoorE12
import Derived.Test.YtodehkjinmgflaaGreatDoorESort
import Derived.Shelf.SlSortCmp.NoneTotal
set_option linter.all false
set_option maxHeartbeats 0
set_option maxRecDepth 99999
namespace Go.Proofs.Υ
open Go Go.RowKit Tryz
theorem oB:∀(l:List (V×Nat)) (k:Nat) (p:V×Nat),l[k]?=some p ->
 (cI l)[k*4]?=some (.int .i64 p.1.x)/\(cI l)[k*4+1]?=some (.int .i64 p.1.y)/\(cI l)[k*4+2]?=some (.int .i64 p.1.z)/\(cI l)[k*4+3]?=some (.int .u64 (p.2:Int))
 | [],k,p,h=>by simp at h
 | q::l,0,p,h=>by
  have:q=p:=by simpa using h
  subst this;simp[cI]
 | q::l,k+1,p,h=>by
  have:=oB l k p (by simpa using h);have e:cI (q::l)=.int .i64 q.1.x::.int .i64 q.1.y::.int .i64 q.1.z::.int .u64 (q.2:Int)::cI l:=rfl;rw[e,show(k+1)*4=k*4+4 by omega];exact this
theorem gN.at_{w:World}{base:Nat}{v:Value}{l:List (V×Nat)}(h:gN w base v l)(J:0<l.length):
 ∃g e,v=.slice (some ⟨g,0,none⟩) l.length e/\base<=g/\g<w.heap.size/\∀k p,l[k]?=some p ->
  Γ4 w g (k*4) (.int .i64 p.1.x) g (k*4+1) (.int .i64 p.1.y) g (k*4+2) (.int .i64 p.1.z) g (k*4+3) (.int .u64 (p.2:Int)):=by
 have j:=h;obtain⟨C,⟨rfl,h0⟩|⟨g,e,E,rfl,F,u,r⟩⟩:=h
 ·omega
 ·refine⟨g,e,rfl,F,(Array.getElem?_eq_some_iff.1 u).1,fun k p A=>?_⟩
  have G:k<l.length:=by
   rcases Nat.lt_or_ge k l.length with h|h
   ·exact h
   ·rw[List.getElem?_eq_none h]at A;cases A
  obtain⟨p0,p1,p2,H⟩:=oB l k p A;exact⟨(World.ownsRow.cellAt j _ I).trans p0,(World.ownsRow.cellAt j _ I).trans p1,(World.ownsRow.cellAt j _ I).trans p2,(World.ownsRow.cellAt j _ I).trans H⟩
theorem iU{w:World}{base j e G k U:Nat}{v H:Value}{n W:Nat}{xs C:List Value}(h:w.ownsRow base e k v n xs)(Q:w.ownsRow j G U H W C)(A:e≠G):v.ownBlock=none\/v.ownBlock≠H.ownBlock:=by
 obtain⟨_,⟨rfl,_⟩|⟨g,J,L,rfl,_,R,_⟩⟩:=h
 ·exact .inl rfl
 ·right
  obtain⟨_,⟨rfl,_⟩|⟨g',E,F,rfl,_,u,_⟩⟩:=Q
  ·intro e;cases e
  ·intro e
   have:g=g':=by simpa[Value.ownBlock]using e
   subst this;rw[R]at u;have:=Option.some.inj u;injection this with _ e2 _
   exact A e2
structure RF where
 n:V
 o:Nat
 v:Value
 r:List Nat
def cw(f:RF):List Value:=[.int .i64 f.n.x,.int .i64 f.n.y,.int .i64 f.n.z,.int .u64 (f.o:Int),f.v]
def uI(w:World)(base:Nat)(v:Value)(l:List RF):Prop:=w.ownsRow base 240 5 v l.length (l.flatMap cw)
def FaceOk(P:Nat->V)(N:Nat)(f:RF):Prop:=∃b,Face P N f.n b/\f.o=cA P N f.n b/\f.r=ring P (bj P N f.n b) f.n
def iQ(E:Nat)(l:List RF):Prop:=E<18446744073709551616/\∀v,E.testBit v=decide (∃f∈l,v∈f.r)
theorem Face.small{P:Nat->V}{N:Nat}{n:V}{b:Nat}(h:Face P N n b)(e:∀i,i<N->LeV 4096 (P i)):LeV 200000000 n:=by
 obtain⟨i,j,k,C,E,F,_,u,_⟩:=h.three;have A:LeV 200000000 (tri P i j k):=(((e j I).sub (e i I)).cross ((e k I).sub (e i I))).mono I
 rcases u with rfl|rfl
 ·exact A
 ·unfold LeV Le at *;simp only[V.neg_x,V.neg_y,V.neg_z];omega
theorem infoFc:(prog.info? 240).map (fun i=>(i.zero,i.size,i.bytes))=some (some (.agg #[.int .i64 0,.int .i64 0,.int .i64 0,.int .u64 0,.slice none 0 0]),5,56):=by kernel_rfl
section
open Go.Sort
section
variable {α : Type} [Inhabited α]
theorem fN(enc:α->List Value)(kk:Nat)(w:World)(e off m:Nat)(j:Array α)(os:Array Obj)(k:Nat)(u:k≠e)(A:k<w.heap.size):
 (sortWorldK enc kk w e off m j os).heap[k]?=w.heap[k]? := by
 have C:(putRowK enc kk (Sort.ahead w m) e off j).heap[k]?=w.heap[k]? := by
  unfold putRowK putRow mapBlock;show(w.heap.modify e _)[k]?=w.heap[k]?;rw[Array.getElem?_modify,if_neg (Ne.symm u)]
 unfold sortWorldK grow;show((putRowK enc kk (Sort.ahead w m) e off j).heap++os)[k]?=w.heap[k]?;rw[Array.getElem?_append_left (by show k<(w.heap.modify e _).size;rw[Array.size_modify];exact A),C]
theorem je(enc:α->List Value)(kk:Nat)(w:World)(e off m:Nat)(j:Array α)(os:Array Obj)(B:Nat)(u:B<=e)(A:e<w.heap.size):
 Go.RowKit.Below B w (sortWorldK enc kk w e off m j os):=
 ⟨rfl,rfl,rfl,size_sortWorldK_c enc kk w e off m j os,fun k C=>fN enc kk w e off m j os k I I⟩
theorem qA{w:World}{base e s:Nat}{v:Value}{n:Nat}{xs:List Value}(h:w.ownsRow base e s v n xs)(enc:α->List Value)(kk j off m:Nat)(E:Array α)(os:Array Obj)(C:v.ownBlock≠some j):
 (sortWorldK enc kk w j off m E os).ownsRow base e s v n xs:=by
 obtain⟨G,h|⟨g,u,A,rfl,H,F,L,J,Q,R⟩⟩:=h
 ·exact⟨G,.inl h⟩
 ·refine⟨G,.inr ⟨g,u,A,rfl,H,?_,L,J,Q,R⟩⟩
  rw[fN enc kk w j off m E os g (fun e=>C (by rw[e];rfl)) (Array.getElem?_eq_some_iff.1 F).1];exact F
end
end
section
open Go.Sort
theorem rings1_any(c1 c2 c3 c4 d1 d2 d3 d4:Value)(a b:Option Addr)(n m j cb:Nat)(xs C:List Int)(w:World)(ha:Ints w a n j xs)(hb:Ints w b m cb C)(J:n<=4611686018427387904)(H:m<=4611686018427387904):
 Calls prog 170 #[.agg #[c1,c2,c3,c4,.slice a n j],.agg #[d1,d2,d3,d4,.slice b m cb]] w fun e w'=>e=.returned (.int .i64 (bL xs C))/\∃q A,w'=grow (w.drewN q) A:=by
 obtain⟨W,F,b1,b2,u,hS⟩:=bY w #[c1,c2,c3,c4,.slice a n j] #[d1,d2,d3,d4,.slice b m cb] 240 240;have Q:W.cell? ⟨w.heap.size,4,none⟩=some (.slice a n j):=(b1.cell 4).trans rfl;have R:W.cell? ⟨w.heap.size+1,4,none⟩=some (.slice b m cb):=(b2.cell 4).trans rfl;have hc:=fu a b n j m cb xs C W (ha.below u) (hb.below u) J H;obtain⟨G,E⟩:=η2 hc F;clear ha hb b1 b2 u hS hc F
 go_enter func170,ntmps170
 go_wp2_with fail
 rw[E.o];refine G.o.mono ?_;rintro e L ⟨rfl,rfl⟩;go_wp2;exact bodyPost_ret (results_tmp results170 _ _ _) rfl ⟨rfl,0,_,by rw[<-E.o,alloc_eq_grow,alloc_eq_grow,grow_grow];rfl⟩
end
section
open Go.Sort
section
variable {α : Type} [Inhabited α]
theorem flat_get(enc:α->List Value)(kk:Nat)(e:∀x,(enc x).length=kk)(C:0<kk):∀(l:List α) (j:Nat),j<l.length*kk->(l.flatMap enc)[j]?=(enc (l.getD (j / kk) default))[j % kk]?
 | [],j,h=>by simp at h
 | a::l,j,h=>by
  rw[List.flatMap_cons];by_cases A:j<kk
  ·rw[List.getElem?_append_left (by rw[e];exact A),Nat.div_eq_of_lt A,Nat.mod_eq_of_lt A];rfl
  ·have u:kk<=j:=I
   rw[List.getElem?_append_right (by rw[e];exact u),e];have G:j-kk<l.length*kk:=by rw[List.length_cons,Nat.add_mul,Nat.one_mul]at h;omega
   rw[flat_get enc kk e C l (j-kk) G];have E:j / kk=(j-kk) / kk+1:=by
    rw[<-Nat.add_div_right _ C,Nat.sub_add_cancel u]
   have F:(j-kk) % kk=j % kk:=(Nat.mod_eq_sub_mod u).symm;rw[E,F];rfl
theorem ta(enc:α->List Value)(kk:Nat)(A:∀x,(enc x).length=kk)(E:0<kk)(d:Array α)(j:Nat)(u:j<d.size*kk):some ((flatK enc kk d)[j]!)=(d.toList.flatMap enc)[j]? := by
 rw[get_flatK enc kk d j u,flat_get enc kk A E d.toList j (by simpa using u)];have F:j / kk<d.size:=Nat.div_lt_of_lt_mul (by rw[Nat.mul_comm];exact u);have e:d[j / kk]! = d.toList.getD (j / kk) default:=by simp[F]
 rw[<-e];have C:j % kk<(enc d[j / kk]!).length:=by rw[A];exact Nat.mod_lt _ E
 rw[List.getElem?_eq_getElem C,getElem!_pos (enc d[j / kk]!) (j % kk) C]
theorem lS(enc:α->List Value)(kk:Nat)(C:∀x,(enc x).length=kk)(F:0<kk){w:World}{base e g u n:Nat}{xs:List Value}(d:Array α)(E:n=d.size)(G:xs=d.toList.flatMap enc)(h:w.ownsRow base e kk (.slice (some ⟨g,0,none⟩) n u) n xs):HoldsK enc kk w g 0 d:=by
 intro j A;rw[size_flatK]at A;rw[Nat.zero_add];refine⟨?_,World.ownsRow.frozenAt h j⟩;rw[World.ownsRow.cellAt h j (by rw[E];exact A),G,<-ta enc kk C F d j A];rfl
theorem lH(enc:α->List Value)(kk:Nat)(Q:∀x,(enc x).length=kk)(Y:0<kk){w:World}{base e g u n:Nat}{A:Array Value}(d:Array α)(J:n=d.size)(m:Nat)(os:Array Obj)(L:w.heap[g]?=some (.cells A e (0,0)))(U:base<=g)(hc:n<=u)(W:u<=maxLen)(hs:A.size=u*kk):
 (sortWorldK enc kk w g 0 m d os).ownsRow base e kk (.slice (some ⟨g,0,none⟩) n u) n (d.toList.flatMap enc):=by
 have E:g<w.heap.size:=(Array.getElem?_eq_some_iff.1 L).1;have X:n*kk<=u*kk:=Nat.mul_le_mul_right _ hc;have C:(d.toList.flatMap enc).length=n*kk:=by
  rw[List.length_flatMap,List.map_congr_left (g:=fun _=>kk) (fun x _=>Q x),List.map_const',List.sum_replicate_nat];simp[J]
 have hb:(sortWorldK enc kk w g 0 m d os).heap[g]?=some (.cells (putCells id 0 (flatK enc kk d) A) e (0,0)):=by
  have R:(putRowK enc kk (Sort.ahead w m) g 0 d).heap[g]?=some (.cells (putCells id 0 (flatK enc kk d) A) e (0,0)):=by
   unfold putRowK putRow mapBlock;show(w.heap.modify g _)[g]?=_;rw[Array.getElem?_modify,if_pos rfl,L];rfl
  unfold sortWorldK grow;show((putRowK enc kk (Sort.ahead w m) g 0 d).heap++os)[g]?=_;rw[Array.getElem?_append_left (by show g<(w.heap.modify g _).size;rw[Array.size_modify];exact E),R]
 refine⟨C,.inr ⟨g,u,_,rfl,U,hb,hc,W,by simp[putCells,hs],?_⟩⟩;refine List.ext_getElem? fun j=>?_
 by_cases F:j<n*kk
 ·rw[List.getElem?_take_of_lt F,Array.getElem?_toList,<-ta enc kk Q Y d j (by rw[<-J];exact F)]
  have G:j<A.size:=I;have H:j<d.size*kk:=by rw[<-J];exact F
  simp[putCells,G,H]
 ·rw[List.getElem?_take_eq_none I,List.getElem?_eq_none I]
end
structure Faces (w:World) (base:Nat) (fs:List RF):Prop where
 own:∀ f ∈ fs,bH w base f.v f.r
 short:∀ f ∈ fs,f.r.length<=64
theorem iY:∀(x y z:List Int),bL x y<0->bL y z<0->bL x z<0
 | [],[],_,h,_=>by simp[bL]at h
 | [],_::_,[],_,h=>by simp[bL]at h
 | [],_::_,_::_,_,_=>by simp[bL]
 | _::_,[],_,h,_=>by simp[bL]at h
 | _::_,_::_,[],_,h=>by simp[bL]at h
 | a::x,b::y,c::z,h1,h2=>by
  have e:=iY x y z;simp only[bL]at *
  split at h1<;>split at h2<;>(try split at h1)<;>(try split at h2)<;>(split<;>try split)<;>first|omega|(exact e I I)
theorem iZ:∀(x y z:List Int),¬ bL x y<0->¬ bL y z<0->¬ bL x z<0
 | [],[],_,_,h=>h
 | [],_::_,_,h,_=>by simp[bL]at h
 | _::_,[],[],_,_=>by simp[bL]
 | _::_,[],_::_,_,h=>by simp[bL]at h
 | _::_,_::_,[],_,_=>by simp[bL]
 | a::x,b::y,c::z,h1,h2=>by
  have e:=iZ x y z;simp only[bL]at *
  split at h1<;>split at h2<;>(try split at h1)<;>(try split at h2)<;>(split<;>try split)<;>first|omega|(exact e I I)
theorem nN:∀(x y:List Int),bL y x=- bL x y
 | [],[]=>rfl
 | [],_::_=>rfl
 | _::_,[]=>rfl
 | a::x,b::y=>by
  rw[bL,bL,nN x y]
  split<;>split<;>first|omega|rfl|(split<;>omega)
theorem nO:∀x:List Int,bL x x=0
 | []=>rfl
 | a::x=>by rw[bL,if_neg I,if_neg I,nO x]
end
section
open Go.Sort
theorem rL(v:Value)(fs:List RF)(base:Nat)(w:World)(hO:uI w base v fs)(hR:Faces w base fs)(hl:fs.length<=262144):
 Calls prog 169 #[v,.func (.func 170) #[] #[]] w fun e w'=>e=.returned (.tuple #[]) /\
  (∃G,G.Perm fs/\G.Pairwise (fun f g=>bL (f.r.map fun(i:Nat)=>(i:Int)) (g.r.map fun(i:Nat)=>(i:Int))<=0)/\uI w' base v G/\Faces w' base G)/\Go.RowKit.Below base w w':=by
 by_cases h0:fs.length=0
 ·have:fs=[]:=List.length_eq_zero_iff.1 h0
  subst this;obtain⟨p,C,rfl⟩:∃p C,v=.slice p 0 C:=by
   obtain⟨_,⟨rfl,_⟩|⟨g,c,_,rfl,_⟩⟩:=hO
   ·exact⟨_,_,rfl⟩
   ·exact⟨_,_,rfl⟩
  have hc:=AnyF.slices_SortFunc_none sortFace p C (.func (.func 170) #[] #[]) w;change Calls prog 169 _ _ _ at hc;exact hc.mono fun e w' ⟨he,R⟩=>⟨he,⟨[],List.Perm.refl _,List.Pairwise.nil,by rw[R];exact hO,by rw[R];exact hR⟩,by rw[R];exact Go.RowKit.Below.refl _ _⟩
 ·have ag:0<fs.length:=I
  haveI:Inhabited (Fin fs.length):=⟨⟨0,ag⟩⟩
  have Y:=hO;obtain⟨ay,⟨rfl,U⟩|⟨g,C,az,rfl,hg,hh,hn,hm,hs,ht⟩⟩:=hO
  ·exact absurd U h0
  have ac:g<w.heap.size:=(Array.getElem?_eq_some_iff.1 hh).1;have eg:∀args w,(callFunc 170 args).run prog w=.ok (.enter 170 args) w:=enters_of func170 Z rfl;obtain⟨d,hd⟩:∃d:Array (Fin fs.length),d=Array.ofFn id:=⟨_,rfl⟩;have H:fs.length=d.size:=by rw[hd];simp
  have ab:d.toList.map (fun i=>fs.get i)=fs:=by
   rw[hd,Array.toList_ofFn];refine List.ext_getElem (by simp) fun i U h2=>by simp
  have F:∀l:List (Fin fs.length),l.flatMap (fun i=>cw (fs.get i))=(l.map fun i=>fs.get i).flatMap cw:=fun l=>by rw[List.flatMap_map]
  have hk:∀x:Fin fs.length,(cw (fs.get x)).length=5:=fun _=>rfl
  have af:∀x:Fin fs.length,∀u∈cw (fs.get x),u.oneCell'=true:=by
   intro x u hu;obtain⟨a,c,hv,_⟩:=(hR.own _ (List.get_mem fs x)).ints;simp only[cw,hv,List.mem_cons,List.not_mem_nil,or_false]at hu
   rcases hu with rfl|rfl|rfl|rfl|rfl<;>rfl
  have hH:HoldsK (fun i:Fin fs.length=>cw (fs.get i)) 5 w g 0 d:=
   lS _ 5 hk I d H (by rw[F,ab]) Y
  have ad:∀f∈fs,f.v.ownBlock≠some g:=fun f J=>by
   rcases iU (hR.own f J) Y ν with h|h
   ·rw[h];intro e;cases e
   ·exact h
  have aa:CmpLays prog 170 #[] (fun i:Fin fs.length=>cw (fs.get i)) 5 (fun i j=>bL ((fs.get i).r.map fun(i:Nat)=>(i:Int)) ((fs.get j).r.map fun(i:Nat)=>(i:Int))) g 0 d.size w:=by
   intro m os dk _ x y;have key:∀f∈fs,∃a c,f.v=.slice a f.r.length c/\Ints (sortWorldK (fun i:Fin fs.length=>cw (fs.get i)) 5 w g 0 m dk os) a f.r.length c (f.r.map fun(i:Nat)=>(i:Int)):=fun f J =>
    bH.ints (qA (hR.own f J) _ _ _ _ _ _ _ (ad f J))
   obtain⟨a1,c1,W,i1⟩:=key _ (List.get_mem fs x);obtain⟨a2,c2,X,i2⟩:=key _ (List.get_mem fs y);have s1:=hR.short _ (List.get_mem fs x);have s2:=hR.short _ (List.get_mem fs y);have:=rings1_any (.int .i64 (fs.get x).n.x) (.int .i64 (fs.get x).n.y) (.int .i64 (fs.get x).n.z) (.int .u64 ((fs.get x).o:Int)) (.int .i64 (fs.get y).n.x) (.int .i64 (fs.get y).n.y) (.int .i64 (fs.get y).n.z) (.int .u64 ((fs.get y).o:Int)) a1 a2 _ _ c1 c2 _ _ _ i1 i2 I I;rw[<-W,<-X]at this;exact this
  have ao:SWO (ltOf fun i j:Fin fs.length=>bL ((fs.get i).r.map fun(i:Nat)=>(i:Int)) ((fs.get j).r.map fun(i:Nat)=>(i:Int))):=by
   refine⟨fun x=>by simp[ltOf,nO],fun x y z U h2=>?_,fun x y z U h2=>?_⟩
   ·simp only[ltOf,decide_eq_true_eq]at *;exact iY _ _ _ U h2
   ·simp only[ltOf,decide_eq_false_iff_not]at *;exact iZ _ _ _ U h2
  have hc:=AnyQ.slices_SortFunc sortFace 5 isAgg240 sizeOf240 (fun i:Fin fs.length=>cw (fs.get i)) hk af _ ao 170 #[] g 0 C d w eg aa hH ac I;change Calls prog 169 _ _ _ at hc;rw[<-H]at hc;refine hc.mono fun e w' ⟨he,A,m,os,hp,aw,R⟩=>?_
  obtain⟨av,_,an⟩:=hp;have E:fs.length=A.size:=by rw[av];exact H
  have Q:(A.toList.map (fun i=>fs.get i)).Perm fs:=by
   have ext:∀(k:Nat) (x:Array (Fin fs.length)),k=x.size->x.extract 0 k=x:=fun k x hk=>by subst hk;simp
   have W:=ext _ A E;have X:=ext _ d H;rw[W,X]at an;have:=an.map (fun i=>fs.get i)
   rwa [ab]at this
  refine⟨he,⟨A.toList.map (fun i=>fs.get i),?_,?_,?_,?_⟩,?_⟩
  ·exact Q
  ·rw[List.pairwise_map,List.pairwise_iff_getElem]
   intro i j hi hj ar;have au:j<A.size:=by simpa using hj
   have ap:i<A.size:=by simpa using hi
   have:=aw i j (Nat.zero_le _) ar I;simp only[ltOf,decide_eq_false_iff_not]at this;have W:A[j]! = A.toList[j]:=by simp[au]
   have X:A[i]! = A.toList[i]:=by simp[ap]
   rw[W,X,nN]at this;omega
  ·rw[R];unfold uI
   have L:A.toList.length=fs.length:=by rw[Array.length_toList];exact E.symm
   rw[List.length_map,L,<-F];exact lH _ 5 hk I A E m os hh hg hn hm hs
  ·rw[R]
   refine⟨fun f J=>?_,fun f J=>?_⟩
   ·obtain⟨i,_,rfl⟩:=List.mem_map.mp J
    exact qA (hR.own _ (List.get_mem fs i)) _ _ _ _ _ _ _ (ad _ (List.get_mem fs i))
   ·obtain⟨i,_,rfl⟩:=List.mem_map.mp J
    exact hR.short _ (List.get_mem fs i)
  ·rw[R];exact je _ 5 w g 0 m A os base hg ac
end
end Go.Proofs.Υ
