/- Lemmas. -/
import Derived.Test.YtodehkjinmgflaaGreatDoorV12
import Derived.Test.YtodehkjinmgflaaGreatDoorVSort
import Derived.Shelf.SlSortCmp.NoneTotal
set_option linter.all false
set_option maxHeartbeats 0
set_option maxRecDepth 99999
namespace Go.Proofs.Υ
open Go Go.RowKit Tryz
theorem n8:∀(l:List (V×Nat)) (k:Nat) (p:V×Nat),l[k]?=some p ->
 (cM l)[k*4]?=some (.int .i64 p.1.x)/\(cM l)[k*4+1]?=some (.int .i64 p.1.y)/\(cM l)[k*4+2]?=some (.int .i64 p.1.z)/\(cM l)[k*4+3]?=some (.int .u64 (p.2:Int))
 | [],k,p,h=>by simp at h
 | q::l,0,p,h=>by
  have:q=p:=by simpa using h
  subst this;simp[cM]
 | q::l,k+1,p,h=>by
  have:=n8 l k p (by simpa using h);have e:cM (q::l)=.int .i64 q.1.x::.int .i64 q.1.y::.int .i64 q.1.z::.int .u64 (q.2:Int)::cM l:=rfl;rw[e,show(k+1)*4=k*4+4 by omega];exact this
theorem gN.at_{w:World}{base:Nat}{v:Value}{l:List (V×Nat)}(h:gN w base v l)(H:0<l.length):
 ∃g e,v=.slice (some ⟨g,0,none⟩) l.length e/\base<=g/\g<w.heap.size/\∀k p,l[k]?=some p ->
  Γ4 w g (k*4) (.int .i64 p.1.x) g (k*4+1) (.int .i64 p.1.y) g (k*4+2) (.int .i64 p.1.z) g (k*4+3) (.int .u64 (p.2:Int)):=by
 have i:=h;obtain⟨A,⟨rfl,h0⟩|⟨g,e,C,rfl,E,j,r⟩⟩:=h
 ·omega
 ·refine⟨g,e,rfl,E,(Array.getElem?_eq_some_iff.1 j).1,fun k p u=>?_⟩
  have F:k<l.length:=by
   rcases Nat.lt_or_ge k l.length with h|h
   ·exact h
   ·rw[List.getElem?_eq_none h]at u;cases u
  obtain⟨p0,p1,p2,G⟩:=n8 l k p u;exact⟨(World.ownsRow.cellAt i _ I).trans p0,(World.ownsRow.cellAt i _ I).trans p1,(World.ownsRow.cellAt i _ I).trans p2,(World.ownsRow.cellAt i _ I).trans G⟩
theorem iO{w:World}{base i e F k R:Nat}{v G:Value}{n U:Nat}{xs A:List Value}(h:w.ownsRow base e k v n xs)(L:w.ownsRow i F R G U A)(u:e≠F):v.ownBlock=none\/v.ownBlock≠G.ownBlock:=by
 obtain⟨_,⟨rfl,_⟩|⟨g,H,J,rfl,_,Q,_⟩⟩:=h
 ·exact .inl rfl
 ·right
  obtain⟨_,⟨rfl,_⟩|⟨g',C,E,rfl,_,j,_⟩⟩:=L
  ·intro e;cases e
  ·intro e
   have:g=g':=by simpa[Value.ownBlock]using e
   subst this;rw[Q]at j;have:=Option.some.inj j;injection this with _ e2 _
   exact u e2
structure RF where
 n:V
 o:Nat
 v:Value
 r:List Nat
def ct(f:RF):List Value:=[.int .i64 f.n.x,.int .i64 f.n.y,.int .i64 f.n.z,.int .u64 (f.o:Int),f.v]
def ue(w:World)(base:Nat)(v:Value)(l:List RF):Prop:=w.ownsRow base 240 5 v l.length (l.flatMap ct)
def FaceOk(P:Nat->V)(N:Nat)(f:RF):Prop:=∃b,Face P N f.n b/\f.o=cA P N f.n b/\f.r=ring P (aI P N f.n b) f.n
def iJ(E:Nat)(l:List RF):Prop:=E<18446744073709551616/\∀v,E.testBit v=decide (∃f∈l,v∈f.r)
theorem Face.small{P:Nat->V}{N:Nat}{n:V}{b:Nat}(h:Face P N n b)(e:∀i,i<N->LeV 4096 (P i)):LeV 200000000 n:=by
 obtain⟨i,j,k,C,E,F,_,u,_⟩:=h.three;have A:LeV 200000000 (tri P i j k):=(((e j I).sub (e i I)).cross ((e k I).sub (e i I))).mono I
 rcases u with rfl|rfl
 ·exact A
 ·unfold LeV Le at *;simp only[V.neg_x,V.neg_y,V.neg_z];omega
theorem infoFc:(prog.info? 240).map (fun i=>(i.zero,i.size,i.bytes))=some (some (.agg #[.int .i64 0,.int .i64 0,.int .i64 0,.int .u64 0,.slice none 0 0]),5,56):=by kernel_rfl
section
open Go.Sort
section
variable {α : Type} [Inhabited α]
theorem fM(enc:α->List Value)(kk:Nat)(w:World)(e off m:Nat)(i:Array α)(os:Array Obj)(k:Nat)(j:k≠e)(u:k<w.heap.size):
 (sortWorldK enc kk w e off m i os).heap[k]?=w.heap[k]? := by
 have A:(putRowK enc kk (Sort.ahead w m) e off i).heap[k]?=w.heap[k]? := by
  unfold putRowK putRow mapBlock;show(w.heap.modify e _)[k]?=w.heap[k]?;rw[Array.getElem?_modify,if_neg (Ne.symm j)]
 unfold sortWorldK grow;show((putRowK enc kk (Sort.ahead w m) e off i).heap++os)[k]?=w.heap[k]?;rw[Array.getElem?_append_left (by show k<(w.heap.modify e _).size;rw[Array.size_modify];exact u),A]
theorem iW(enc:α->List Value)(kk:Nat)(w:World)(e off m:Nat)(i:Array α)(os:Array Obj)(B:Nat)(j:B<=e)(u:e<w.heap.size):
 Go.RowKit.Below B w (sortWorldK enc kk w e off m i os):=
 ⟨rfl,rfl,rfl,size_sortWorldK_c enc kk w e off m i os,fun k A=>fM enc kk w e off m i os k I I⟩
theorem qf{w:World}{base e s:Nat}{v:Value}{n:Nat}{xs:List Value}(h:w.ownsRow base e s v n xs)(enc:α->List Value)(kk i off m:Nat)(C:Array α)(os:Array Obj)(A:v.ownBlock≠some i):
 (sortWorldK enc kk w i off m C os).ownsRow base e s v n xs:=by
 obtain⟨F,h|⟨g,j,u,rfl,G,E,J,H,L,Q⟩⟩:=h
 ·exact⟨F,.inl h⟩
 ·refine⟨F,.inr ⟨g,j,u,rfl,G,?_,J,H,L,Q⟩⟩
  rw[fM enc kk w i off m C os g (fun e=>A (by rw[e];rfl)) (Array.getElem?_eq_some_iff.1 E).1];exact E
end
end
section
open Go.Sort
theorem rings1_any(c1 c2 c3 c4 d1 d2 d3 d4:Value)(a b:Option Addr)(n m i cb:Nat)(xs A:List Int)(w:World)(ha:Ints w a n i xs)(hb:Ints w b m cb A)(H:n<=4611686018427387904)(G:m<=4611686018427387904):
 Calls prog 170 #[.agg #[c1,c2,c3,c4,.slice a n i],.agg #[d1,d2,d3,d4,.slice b m cb]] w fun e w'=>e=.returned (.int .i64 (bK xs A))/\∃q u,w'=grow (w.drewN q) u:=by
 obtain⟨W,E,b1,b2,j,hS⟩:=bU w #[c1,c2,c3,c4,.slice a n i] #[d1,d2,d3,d4,.slice b m cb] 240 240;have L:W.cell? ⟨w.heap.size,4,none⟩=some (.slice a n i):=(b1.cell 4).trans rfl;have Q:W.cell? ⟨w.heap.size+1,4,none⟩=some (.slice b m cb):=(b2.cell 4).trans rfl;have hc:=fw a b n i m cb xs A W (ha.below j) (hb.below j) H G;obtain⟨F,C⟩:=η2 hc E;clear ha hb b1 b2 j hS hc E
 go_enter func170,ntmps170
 go_wp2_with fail
 rw[C.o];refine F.o.mono ?_;rintro e J ⟨rfl,rfl⟩;go_wp2;exact bodyPost_ret (results_tmp results170 _ _ _) rfl ⟨rfl,0,_,by rw[<-C.o,alloc_eq_grow,alloc_eq_grow,grow_grow];rfl⟩
end
section
open Go.Sort
section
variable {α : Type} [Inhabited α]
theorem flat_get(enc:α->List Value)(kk:Nat)(e:∀x,(enc x).length=kk)(A:0<kk):∀(l:List α) (j:Nat),j<l.length*kk->(l.flatMap enc)[j]?=(enc (l.getD (j / kk) default))[j % kk]?
 | [],j,h=>by simp at h
 | a::l,j,h=>by
  rw[List.flatMap_cons];by_cases u:j<kk
  ·rw[List.getElem?_append_left (by rw[e];exact u),Nat.div_eq_of_lt u,Nat.mod_eq_of_lt u];rfl
  ·have i:kk<=j:=I
   rw[List.getElem?_append_right (by rw[e];exact i),e];have F:j-kk<l.length*kk:=by rw[List.length_cons,Nat.add_mul,Nat.one_mul]at h;omega
   rw[flat_get enc kk e A l (j-kk) F];have C:j / kk=(j-kk) / kk+1:=by
    rw[<-Nat.add_div_right _ A,Nat.sub_add_cancel i]
   have E:(j-kk) % kk=j % kk:=(Nat.mod_eq_sub_mod i).symm;rw[C,E];rfl
theorem sJ(enc:α->List Value)(kk:Nat)(u:∀x,(enc x).length=kk)(C:0<kk)(d:Array α)(j:Nat)(i:j<d.size*kk):some ((flatK enc kk d)[j]!)=(d.toList.flatMap enc)[j]? := by
 rw[get_flatK enc kk d j i,flat_get enc kk u C d.toList j (by simpa using i)];have E:j / kk<d.size:=Nat.div_lt_of_lt_mul (by rw[Nat.mul_comm];exact i);have e:d[j / kk]! = d.toList.getD (j / kk) default:=by simp[E]
 rw[<-e];have A:j % kk<(enc d[j / kk]!).length:=by rw[u];exact Nat.mod_lt _ C
 rw[List.getElem?_eq_getElem A,getElem!_pos (enc d[j / kk]!) (j % kk) A]
theorem lG(enc:α->List Value)(kk:Nat)(A:∀x,(enc x).length=kk)(E:0<kk){w:World}{base e g i n:Nat}{xs:List Value}(d:Array α)(C:n=d.size)(F:xs=d.toList.flatMap enc)(h:w.ownsRow base e kk (.slice (some ⟨g,0,none⟩) n i) n xs):HoldsK enc kk w g 0 d:=by
 intro j u;rw[size_flatK]at u;rw[Nat.zero_add];refine⟨?_,World.ownsRow.frozenAt h j⟩;rw[World.ownsRow.cellAt h j (by rw[C];exact u),F,<-sJ enc kk A E d j u];rfl
theorem ln(enc:α->List Value)(kk:Nat)(L:∀x,(enc x).length=kk)(X:0<kk){w:World}{base e g i n:Nat}{u:Array Value}(d:Array α)(H:n=d.size)(m:Nat)(os:Array Obj)(J:w.heap[g]?=some (.cells u e (0,0)))(R:base<=g)(hc:n<=i)(U:i<=maxLen)(Y:u.size=i*kk):
 (sortWorldK enc kk w g 0 m d os).ownsRow base e kk (.slice (some ⟨g,0,none⟩) n i) n (d.toList.flatMap enc):=by
 have C:g<w.heap.size:=(Array.getElem?_eq_some_iff.1 J).1;have W:n*kk<=i*kk:=Nat.mul_le_mul_right _ hc;have A:(d.toList.flatMap enc).length=n*kk:=by
  rw[List.length_flatMap,List.map_congr_left (g:=fun _=>kk) (fun x _=>L x),List.map_const',List.sum_replicate_nat];simp[H]
 have hb:(sortWorldK enc kk w g 0 m d os).heap[g]?=some (.cells (putCells id 0 (flatK enc kk d) u) e (0,0)):=by
  have Q:(putRowK enc kk (Sort.ahead w m) g 0 d).heap[g]?=some (.cells (putCells id 0 (flatK enc kk d) u) e (0,0)):=by
   unfold putRowK putRow mapBlock;show(w.heap.modify g _)[g]?=_;rw[Array.getElem?_modify,if_pos rfl,J];rfl
  unfold sortWorldK grow;show((putRowK enc kk (Sort.ahead w m) g 0 d).heap++os)[g]?=_;rw[Array.getElem?_append_left (by show g<(w.heap.modify g _).size;rw[Array.size_modify];exact C),Q]
 refine⟨A,.inr ⟨g,i,_,rfl,R,hb,hc,U,by simp[putCells,Y],?_⟩⟩;refine List.ext_getElem? fun j=>?_
 by_cases E:j<n*kk
 ·rw[List.getElem?_take_of_lt E,Array.getElem?_toList,<-sJ enc kk L X d j (by rw[<-H];exact E)]
  have F:j<u.size:=I;have G:j<d.size*kk:=by rw[<-H];exact E
  simp[putCells,F,G]
 ·rw[List.getElem?_take_eq_none I,List.getElem?_eq_none I]
end
structure Faces (w:World) (base:Nat) (fs:List RF):Prop where
 own:∀ f ∈ fs,bo w base f.v f.r
 short:∀ f ∈ fs,f.r.length<=64
theorem iS:∀(x y z:List Int),bK x y<0->bK y z<0->bK x z<0
 | [],[],_,h,_=>by simp[bK]at h
 | [],_::_,[],_,h=>by simp[bK]at h
 | [],_::_,_::_,_,_=>by simp[bK]
 | _::_,[],_,h,_=>by simp[bK]at h
 | _::_,_::_,[],_,h=>by simp[bK]at h
 | a::x,b::y,c::z,h1,h2=>by
  have e:=iS x y z;simp only[bK]at *
  split at h1<;>split at h2<;>(try split at h1)<;>(try split at h2)<;>(split<;>try split)<;>first|omega|(exact e I I)
theorem iT:∀(x y z:List Int),¬ bK x y<0->¬ bK y z<0->¬ bK x z<0
 | [],[],_,_,h=>h
 | [],_::_,_,h,_=>by simp[bK]at h
 | _::_,[],[],_,_=>by simp[bK]
 | _::_,[],_::_,_,h=>by simp[bK]at h
 | _::_,_::_,[],_,_=>by simp[bK]
 | a::x,b::y,c::z,h1,h2=>by
  have e:=iT x y z;simp only[bK]at *
  split at h1<;>split at h2<;>(try split at h1)<;>(try split at h2)<;>(split<;>try split)<;>first|omega|(exact e I I)
theorem nw:∀(x y:List Int),bK y x=- bK x y
 | [],[]=>rfl
 | [],_::_=>rfl
 | _::_,[]=>rfl
 | a::x,b::y=>by
  rw[bK,bK,nw x y]
  split<;>split<;>first|omega|rfl|(split<;>omega)
theorem ny:∀x:List Int,bK x x=0
 | []=>rfl
 | a::x=>by rw[bK,if_neg I,if_neg I,ny x]
end
section
open Go.Sort
theorem rk(v:Value)(fs:List RF)(base:Nat)(w:World)(hO:ue w base v fs)(hR:Faces w base fs)(hl:fs.length<=262144):
 Calls prog 169 #[v,.func (.func 170) #[] #[]] w fun e w'=>e=.returned (.tuple #[]) /\
  (∃G,G.Perm fs/\G.Pairwise (fun f g=>bK (f.r.map fun(i:Nat)=>(i:Int)) (g.r.map fun(i:Nat)=>(i:Int))<=0)/\ue w' base v G/\Faces w' base G)/\Go.RowKit.Below base w w':=by
 by_cases h0:fs.length=0
 ·have:fs=[]:=List.length_eq_zero_iff.1 h0
  subst this;obtain⟨p,C,rfl⟩:∃p C,v=.slice p 0 C:=by
   obtain⟨_,⟨rfl,_⟩|⟨g,c,_,rfl,_⟩⟩:=hO
   ·exact⟨_,_,rfl⟩
   ·exact⟨_,_,rfl⟩
  have hc:=AnyF.slices_SortFunc_none sortFace p C (.func (.func 170) #[] #[]) w;change Calls prog 169 _ _ _ at hc;exact hc.mono fun e w' ⟨he,R⟩=>⟨he,⟨[],List.Perm.refl _,List.Pairwise.nil,by rw[R];exact hO,by rw[R];exact hR⟩,by rw[R];exact Go.RowKit.Below.refl _ _⟩
 ·have ag:0<fs.length:=I
  haveI:Inhabited (Fin fs.length):=⟨⟨0,ag⟩⟩
  have Y:=hO;obtain⟨ay,⟨rfl,U⟩|⟨g,C,az,rfl,hg,hh,hn,hm,hs,ht⟩⟩:=hO
  ·exact absurd U h0
  have ac:g<w.heap.size:=(Array.getElem?_eq_some_iff.1 hh).1;have eg:∀args w,(callFunc 170 args).run prog w=.ok (.enter 170 args) w:=enters_of func170 Z rfl;obtain⟨d,hd⟩:∃d:Array (Fin fs.length),d=Array.ofFn id:=⟨_,rfl⟩;have H:fs.length=d.size:=by rw[hd];simp
  have ab:d.toList.map (fun i=>fs.get i)=fs:=by
   rw[hd,Array.toList_ofFn];refine List.ext_getElem (by simp) fun i U h2=>by simp
  have F:∀l:List (Fin fs.length),l.flatMap (fun i=>ct (fs.get i))=(l.map fun i=>fs.get i).flatMap ct:=fun l=>by rw[List.flatMap_map]
  have hk:∀x:Fin fs.length,(ct (fs.get x)).length=5:=fun _=>rfl
  have af:∀x:Fin fs.length,∀u∈ct (fs.get x),u.oneCell'=true:=by
   intro x u hu;obtain⟨a,c,hv,_⟩:=(hR.own _ (List.get_mem fs x)).ints;simp only[ct,hv,List.mem_cons,List.not_mem_nil,or_false]at hu
   rcases hu with rfl|rfl|rfl|rfl|rfl<;>rfl
  have hH:HoldsK (fun i:Fin fs.length=>ct (fs.get i)) 5 w g 0 d:=
   lG _ 5 hk I d H (by rw[F,ab]) Y
  have ad:∀f∈fs,f.v.ownBlock≠some g:=fun f J=>by
   rcases iO (hR.own f J) Y ν with h|h
   ·rw[h];intro e;cases e
   ·exact h
  have aa:CmpLays prog 170 #[] (fun i:Fin fs.length=>ct (fs.get i)) 5 (fun i j=>bK ((fs.get i).r.map fun(i:Nat)=>(i:Int)) ((fs.get j).r.map fun(i:Nat)=>(i:Int))) g 0 d.size w:=by
   intro m os dk _ x y;have key:∀f∈fs,∃a c,f.v=.slice a f.r.length c/\Ints (sortWorldK (fun i:Fin fs.length=>ct (fs.get i)) 5 w g 0 m dk os) a f.r.length c (f.r.map fun(i:Nat)=>(i:Int)):=fun f J =>
    bo.ints (qf (hR.own f J) _ _ _ _ _ _ _ (ad f J))
   obtain⟨a1,c1,W,i1⟩:=key _ (List.get_mem fs x);obtain⟨a2,c2,X,i2⟩:=key _ (List.get_mem fs y);have s1:=hR.short _ (List.get_mem fs x);have s2:=hR.short _ (List.get_mem fs y);have:=rings1_any (.int .i64 (fs.get x).n.x) (.int .i64 (fs.get x).n.y) (.int .i64 (fs.get x).n.z) (.int .u64 ((fs.get x).o:Int)) (.int .i64 (fs.get y).n.x) (.int .i64 (fs.get y).n.y) (.int .i64 (fs.get y).n.z) (.int .u64 ((fs.get y).o:Int)) a1 a2 _ _ c1 c2 _ _ _ i1 i2 I I;rw[<-W,<-X]at this;exact this
  have ao:SWO (ltOf fun i j:Fin fs.length=>bK ((fs.get i).r.map fun(i:Nat)=>(i:Int)) ((fs.get j).r.map fun(i:Nat)=>(i:Int))):=by
   refine⟨fun x=>by simp[ltOf,ny],fun x y z U h2=>?_,fun x y z U h2=>?_⟩
   ·simp only[ltOf,decide_eq_true_eq]at *;exact iS _ _ _ U h2
   ·simp only[ltOf,decide_eq_false_iff_not]at *;exact iT _ _ _ U h2
  have hc:=AnyQ.slices_SortFunc sortFace 5 isAgg240 sizeOf240 (fun i:Fin fs.length=>ct (fs.get i)) hk af _ ao 170 #[] g 0 C d w eg aa hH ac I;change Calls prog 169 _ _ _ at hc;rw[<-H]at hc;refine hc.mono fun e w' ⟨he,A,m,os,hp,aw,R⟩=>?_
  obtain⟨av,_,an⟩:=hp;have E:fs.length=A.size:=by rw[av];exact H
  have Q:(A.toList.map (fun i=>fs.get i)).Perm fs:=by
   have ext:∀(k:Nat) (x:Array (Fin fs.length)),k=x.size->x.extract 0 k=x:=fun k x hk=>by subst hk;simp
   have W:=ext _ A E;have X:=ext _ d H;rw[W,X]at an;have:=an.map (fun i=>fs.get i)
   rwa [ab]at this
  refine⟨he,⟨A.toList.map (fun i=>fs.get i),?_,?_,?_,?_⟩,?_⟩
  ·exact Q
  ·rw[List.pairwise_map,List.pairwise_iff_getElem]
   intro i j hi hj ar;have au:j<A.size:=by simpa using hj
   have ap:i<A.size:=by simpa using hi
   have:=aw i j (Nat.zero_le _) ar I;simp only[ltOf,decide_eq_false_iff_not]at this;have W:A[j]! = A.toList[j]:=by simp[au]
   have X:A[i]! = A.toList[i]:=by simp[ap]
   rw[W,X,nw]at this;omega
  ·rw[R];unfold ue
   have L:A.toList.length=fs.length:=by rw[Array.length_toList];exact E.symm
   rw[List.length_map,L,<-F];exact ln _ 5 hk I A E m os hh hg hn hm hs
  ·rw[R]
   refine⟨fun f J=>?_,fun f J=>?_⟩
   ·obtain⟨i,_,rfl⟩:=List.mem_map.mp J
    exact qf (hR.own _ (List.get_mem fs i)) _ _ _ _ _ _ _ (ad _ (List.get_mem fs i))
   ·obtain⟨i,_,rfl⟩:=List.mem_map.mp J
    exact hR.short _ (List.get_mem fs i)
  ·rw[R];exact iW _ 5 w g 0 m A os base hg ac
end
end Go.Proofs.Υ
