/- Lemmas. -/
import Derived.Test.YtodehkjinmgflaaGreatDoorV11
set_option linter.all false
set_option maxHeartbeats 0
set_option maxRecDepth 99999
namespace Go.Proofs.Υ
open Go Go.RowKit Tryz
open Go.Maps (Keyed int_keyed keyOf_int_mk)
def lP(P:Program)(w:World)(kt et:TypeId)(b n:Nat)(S:List Nat):Prop:=
 ∃D:DataW Unit,w.ownsMap P kt (plainElem P et) b n D/\Go.Maps.IsMap D/\∀key:Nat,key<18446744073709551616->D.atKey (.int .u64 (key:Int)) (.lit (.bool false))=.lit (.bool (decide (key∈S)))
theorem lP.made(P:Program)(w:World)(i e:TypeId):lP P (w.alloc (.map #[] 0)) i e w.heap.size 0 []:=
 ⟨.map [],World.ownsMap_made _ _ _ _,⟨_,rfl⟩,fun key _=>by simp[DataW.atKey]⟩
theorem lP.below{P:Program}{w w':World}{u i:TypeId}{b n:Nat}{S:List Nat}(h:lP P w u i b n S)(hb:Bl w w'):lP P w' u i b n S:=by
 obtain⟨D,j,G,E⟩:=h;have F:=j.lt;obtain⟨es,e,A,C⟩:=j;exact⟨D,⟨es,e,by rw[hb.block b F];exact A,C⟩,G,E⟩
theorem lw{P:Program}{e:TypeId}(i:P.underlying e=some .bool){v:Value}{z:DataW Unit×List MemPlace}(h:plainElem P e v=some z):∃a,v=.bool a/\z=(.lit (.bool a),[]):=by
 unfold plainElem at h;rw[i]at h;cases v<;>simp at h
 exact⟨_,rfl,h.symm⟩
theorem u64_wf(key:Nat)(h:key<18446744073709551616):(Lit.int .u64 (key:Int)).wf=true:=by
 simp only[Lit.wf,Bool.and_eq_true,decide_eq_true_eq];refine⟨?_,?_⟩
 ·show(0:Int)<=key;omega
 ·show(key:Int)<=18446744073709551615;omega
theorem lP.lookup{P:Program}{w:World}{u j t:TypeId}{b n:Nat}{S:List Nat}(h:lP P w u j b n S)(C:P.underlying u=some (.int .u64))(A:P.underlying j=some .bool)(G:P.underlying t=some (.map u j))(J:(zeroValue j).run P w=.ok (.bool false) w)(key:Nat)(e:key<18446744073709551616):
 (Instr.lookup t (.map (some b)) (.int .u64 (key:Int)) false).run P w=.ok (.bool (decide (key∈S))) w:=by
 obtain⟨D,F,_,ha⟩:=h;obtain⟨v,ps,i,H⟩:=F.lookup (int_keyed C) G J (plainElem_bool A false) (keyOf_int_mk C (u64_wf key e));obtain⟨x,rfl,E⟩:=lw A H;rw[ha key e]at E;have:decide (key∈S)=x:=by simpa using(Prod.mk.inj E).1
 rw[i,this]
theorem lP.put{D:DataW Unit}{S:List Nat}(A:Go.Maps.IsMap D)(ha:∀key:Nat,key<18446744073709551616->D.atKey (.int .u64 (key:Int)) (.lit (.bool false))=.lit (.bool (decide (key∈S))))(j:Nat)(h0:j<18446744073709551616):
 ∀key:Nat,key<18446744073709551616->(D.put (.int .u64 (j:Int)) (.lit (.bool true))).atKey (.int .u64 (key:Int)) (.lit (.bool false))=.lit (.bool (decide (key∈j::S))):=by
 intro key i;by_cases u:key=j
 ·subst u
  rw[Go.Maps.atKey_put_same A]
  ·simp
  ·exact True.intro
 ·rw[Go.Maps.atKey_put_other (by intro e;injection e with _ e;omega),ha key i]
  simp[u]
structure PlaneI (P:Nat→V) (N:Nat) (l:List (V × Nat)) (Q:Nat→Nat→Nat→Prop):Prop where
 face:∀ p ∈ l,∃ b,Face P N p.1 b/\p.2=cA P N p.1 b
 nodup:(l.map Prod.snd).Nodup
 all:∀ i j m,m<j→j<i→i<N→Q i j m→∀ n,fF P N i j m n→cA P N n i ∈ l.map Prod.snd
theorem fF.face{P:Nat->V}{N i j m:Nat}{n:V}(h:fF P N i j m n)(e:m<j)(u:j<i)(A:i<N):Face P N n i:=
 ⟨⟨i,j,m,e,u,A,h.1,h.2.1,fun _=>rfl⟩,h.2.2.1⟩
theorem onMask_base{P:Nat->V}{N:Nat}{n:V}{i b:Nat}(h:∀w,V.dot n (w-P i)=V.dot n (w-P b)):cA P N n i=cA P N n b:=
 jw _ _ _ fun q _=>by rw[h]
theorem fF.unique{P:Nat->V}{N i j m:Nat}{n C:V}(h:fF P N i j m n)(E:fF P N i j m C):n=C:=by
 obtain⟨_,F,ha,q,H,L⟩:=h;obtain⟨_,u,e,J,A,G⟩:=E
 rcases F with rfl|rfl<;>rcases u with rfl|rfl
 ·rfl
 ·have:=e q H;rw[bG]at this;omega
 ·have:=ha J A;rw[bG]at this;omega
 ·rfl
theorem PlaneI.start(P:Nat->V)(N:Nat):PlaneI P N [] (fun _ _ _=>False):=⟨by simp,by simp,fun _ _ _ _ _ _ h=>h.elim⟩
theorem PlaneI.mono{P:Nat->V}{N:Nat}{l:List (V×Nat)}{Q e:Nat->Nat->Nat->Prop}(h:PlaneI P N l Q)(F:∀i j m,m<j->j<i->i<N->e i j m->Q i j m):PlaneI P N l e:=
 ⟨h.face,h.nodup,fun i j m u A C E=>h.all i j m u A C (F i j m u A C E)⟩
theorem PlaneI.none{P:Nat->V}{N i j m:Nat}{l:List (V×Nat)}{Q:Nat->Nat->Nat->Prop}(h:PlaneI P N l Q)(J:∀n,¬ fF P N i j m n):PlaneI P N l (fun u A C=>Q u A C\/(u=i/\A=j/\C=m)):=
 ⟨h.face,h.nodup,fun u A C F G H e n E=>by
  rcases e with e|⟨rfl,rfl,rfl⟩
  ·exact h.all _ _ _ F G H e n E
  ·exact absurd E (J n)⟩
theorem PlaneI.old{P:Nat->V}{N i j m:Nat}{l:List (V×Nat)}{Q:Nat->Nat->Nat->Prop}(h:PlaneI P N l Q){n:V}(L:fF P N i j m n)(J:cA P N n i∈l.map Prod.snd):
 PlaneI P N l (fun u A C=>Q u A C\/(u=i/\A=j/\C=m)):=
 ⟨h.face,h.nodup,fun u A C F G H e R E=>by
  rcases e with e|⟨rfl,rfl,rfl⟩
  ·exact h.all _ _ _ F G H e R E
  ·rw[<-L.unique E];exact J⟩
theorem PlaneI.new{P:Nat->V}{N i j m:Nat}{l:List (V×Nat)}{Q:Nat->Nat->Nat->Prop}(h:PlaneI P N l Q)(L:m<j)(R:j<i)(U:i<N){n:V}(H:fF P N i j m n)(W:cA P N n i∉l.map Prod.snd):
 PlaneI P N (l++[(n,cA P N n i)]) (fun C E F=>Q C E F\/(C=i/\E=j/\F=m)):=by
 refine⟨fun p u=>?_,?_,fun C E F X Y k3 A n' G=>?_⟩
 ·rcases List.mem_append.mp u with u|u
  ·exact h.face p u
  ·rw[List.mem_singleton.mp u];exact⟨i,H.face L R U,rfl⟩
 ·rw[List.map_append]
  refine List.nodup_append.mpr ⟨h.nodup,by simp,fun a ha b hb=>?_⟩;rw[List.map_singleton,List.mem_singleton]at hb;intro e;apply W;have J:a=cA P N n i:=e.trans hb;rw[<-J];exact ha
 ·rw[List.map_append,List.mem_append]
  rcases A with A|⟨rfl,rfl,rfl⟩
  ·exact .inl (h.all _ _ _ X Y k3 A n' G)
  ·right;rw[<-H.unique G];simp
theorem PlaneI.done{P:Nat->V}{N:Nat}{l:List (V×Nat)}{Q:Nat->Nat->Nat->Prop}(h:PlaneI P N l Q)(u:∀i j m,m<j->j<i->i<N->Q i j m)(e:iC P N)(n:V)(b:Nat)(hF:Face P N n b):
 cA P N n b∈l.map Prod.snd:=by
 obtain⟨i,j,m,A,C,E,h0,F,hb⟩:=hF.three;rw[<-onMask_base hb];refine h.all i j m A C E (u i j m A C E) n ⟨h0,F,fun q u=>by rw[hb];exact hF.o q u,?_⟩;obtain⟨q,u,G⟩:=e n hF.n0 i;refine⟨q,u,?_⟩;have:=hF.o q u;rw[<-hb]at this;omega
def cM(l:List (V×Nat)):List Value:=l.flatMap fun p=>[.int .i64 p.1.x,.int .i64 p.1.y,.int .i64 p.1.z,.int .u64 (p.2:Int)]
def gN(w:World)(base:Nat)(v:Value)(l:List (V×Nat)):Prop:=w.ownsRow base 212 4 v l.length (cM l)
def RetPl(P:Nat->V)(N base:Nat)(w:World)(e:Ending):Prop:=∃v l,e=.returned v/\gN w base v l/\PlaneI P N l (fun _ _ _=>True)/\l.length<=262144
theorem gN.below{w w':World}{base:Nat}{v:Value}{l:List (V×Nat)}(h:gN w base v l)(hb:Bl w w'):gN w' base v l:=aC h hb
open Go.Maps (Keyed int_keyed keyOf_int_mk)
theorem infoPl:(prog.info? 212).map (fun i=>(i.zero,i.size,i.bytes))=some (some (.agg #[.int .i64 0,.int .i64 0,.int .i64 0,.int .u64 0]),4,32):=by kernel_rfl
theorem zeroBool(w:World):(zeroValue 4).run prog w=.ok (.bool false) w:=by kernel_rfl
theorem planes_any(a:Option Addr)(len ba:Nat)(P:Nat->V)(w:World)(hP:Pts w a len ba P)(a2:len<=64)(an:∀i,i<len->LeV 4096 (P i)):
 Calls prog 167 #[.slice a len ba] w fun e w'=>RetPl P len w.heap.size w' e/\Bl w w':=by
 obtain⟨HP,HN⟩:=η2 hP an;have cq:=@run_makeMap prog;obtain⟨i0,bz,cu,cv,cy⟩:=info_parts infoPl;clear hP an
 go_enter func167,ntmps167
 go_wp2_with fail
 obtain⟨W,hW⟩:=χ (w.alloc (.map #[] 0));rw[hW];have b4:lP prog W 177 4 w.heap.size 0 []:=by rw[<-hW];exact lP.made _ _ _ _
 have bv:Bl w W:=by rw[<-hW];exact β.alloc ρ _
 have a5:w.heap.size+1<=W.heap.size:=by rw[<-hW];simp
 obtain⟨cg,b7,bm⟩:=η3 b4 bv a5;clear b4 bv hW a5 cq
 go_loopw [4,13] (fun ov iv wr=>∃k n l,k<=len/\iv=.int .i64 (k:Nat)/\n<=l.length/\l.length<=k*4096/\Hid (lP prog wr 177 4 w.heap.size n (l.map Prod.snd))/\Hid (gN wr (w.heap.size+1) ov l)/\Hid (PlaneI P len l (fun i _ _=>i<k))/\Hid (Bl w wr)/\Hid (w.heap.size+1<=wr.heap.size)) (fun _ iv _=>len-(intOf iv).toNat)
 case atStart=>exact⟨0,0,[],Nat.zero_le _,rfl,Nat.le_refl _,Nat.le_refl _,cg.o,World.ownsRow_nil _ _ _ _,(PlaneI.start P len).mono (fun i j m _ _ _ h=>by omega),b7.o,bm.o⟩
 case round =>
  obtain⟨i,n,l,hi,rfl,J,bF,R,HO,HI,HB,F⟩:=hrel;by_cases h0:i=len
  ·have hn:¬ (i:Int)<(len:Int):=I
   have H0:=O h0;clear h0;go_wp2;have cn:l.length<=262144:=by have:=H0.o;omega
   exact bodyPost_ret (results_tmp results167 _ _ _) rfl ⟨⟨_,l,rfl,bX HO.o (Nat.le_succ _),HI.o.mono (fun Y j' m _ _ h _=>by have:=H0.o;omega),cn⟩,HB.o⟩
  have ac:(i:Int)<(len:Int):=I;have cl:i<len:=I;have L:=O cl;clear h0;go_wp2;have cU:=O ac;clear ac
  go_loopw [4,17] (fun ov jv wr=>∃k n l,k<=i/\jv=.int .i64 (k:Nat)/\n<=l.length/\l.length<=i*4096+k*64/\Hid (lP prog wr 177 4 w.heap.size n (l.map Prod.snd))/\Hid (gN wr (w.heap.size+1) ov l)/\Hid (PlaneI P len l (fun Y j' _=>Y<i\/(Y=i/\j'<k)))/\Hid (Bl w wr)/\Hid (w.heap.size+1<=wr.heap.size)) (fun _ iv _=>i-(intOf iv).toNat)
  case atStart=>exact⟨0,n,l,Nat.zero_le _,rfl,J,by omega,R.o,HO.o,HI.o.mono (fun Y j' m _ _ _ h=>by omega),HB.o,F.o⟩
  case round =>
   obtain⟨j,n,l,hj,rfl,J,bF,R,HO,HI,HB,F⟩:=hrel;by_cases h0:j=i
   ·have hn:¬ (j:Int)<(i:Int):=I
    have H0:=O h0;clear h0;go_wp2;go_round
    case rel=>exact⟨i+1,n,l,by have:=L.o;omega,rfl,J,by have:=H0.o;omega,R.o,HO.o,HI.o.mono (fun Y j' m h1 h2 _ h=>by have:=H0.o;omega),HB.o,F.o⟩
    case measure=>exact μ (ψ L.o)
   have ac:(j:Int)<(i:Int):=I;have cm:j<i:=I;have ab:=O cm;clear h0;go_wp2;have cB:=O ac;clear ac
   go_loopw [4,21] (fun ov mv wr=>∃k n l,k<=j/\mv=.int .i64 (k:Nat)/\n<=l.length/\l.length<=i*4096+j*64+k/\Hid (lP prog wr 177 4 w.heap.size n (l.map Prod.snd))/\Hid (gN wr (w.heap.size+1) ov l)/\Hid (PlaneI P len l (fun Y j' m'=>Y<i\/(Y=i/\j'<j)\/(Y=i/\j'=j/\m'<k)))/\Hid (Bl w wr)/\Hid (w.heap.size+1<=wr.heap.size)) (fun _ iv _=>j-(intOf iv).toNat)
   case atStart=>exact⟨0,n,l,Nat.zero_le _,rfl,J,by omega,R.o,HO.o,HI.o.mono (fun Y j' m _ _ _ h=>by omega),HB.o,F.o⟩
   case round =>
    obtain⟨m,n,l,hm,rfl,J,bF,R,HO,HI,HB,F⟩:=hrel;by_cases h0:m=j
    ·have hn:¬ (m:Int)<(j:Int):=I
     have H0:=O h0;clear h0;go_wp2;go_round
     case rel=>exact⟨j+1,n,l,by have:=ab.o;omega,rfl,J,by have:=H0.o;omega,R.o,HO.o,HI.o.mono (fun Y j' m' h1 h2 _ h=>by have:=H0.o;omega),HB.o,F.o⟩
     case measure=>exact μ (ψ ab.o)
    have ac:(m:Int)<(j:Int):=I;have cp:m<j:=I;have Q:=O cp;have cs:=O (side_any a len ba i j m P wr (HP.o.below HB.o) a2 HN.o L.o (by have:=L.o;have:=ab.o;omega) (by have:=L.o;have:=ab.o;omega));clear h0;obtain⟨w3,rfl⟩:=φ wr
    go_wp2_with fail
    refine cs.o.mono ?_;rintro e w4 ⟨hr,aw⟩;have aa:=O aw;have X:=R.o.below aw;have ay:=HO.o.below aw;clear aw
    rcases hr with⟨E,b3,rfl⟩|⟨bV,E,o,rfl⟩
    ·unfold mW
     obtain⟨o,ho⟩:=χ (cA P len E i);have ao:o<18446744073709551616:=by rw[<-ho];exact Nat.lt_of_lt_of_le (mr _ _) (Nat.pow_le_pow_right I a2)
     rw[ho];obtain⟨a9,bi⟩:=η2 ho b3;obtain⟨W2,cV,b2,av,ci⟩:=aB w4 #[.int .i64 E.x,.int .i64 E.y,.int .i64 E.z,.int .u64 (o:Int)] 212;have au:=X.below av;have b0:=ay.below av;have bc:=au.lookup underlying177 underlying4 (t:=283) underlying283 (zeroBool W2) o ao;have H:Bl w W2:=ae (ae HB.o aa.o ρ) av ρ;have a6:w.heap.size+1<=W2.heap.size:=by have:=F.o;have:=aa.o.size;omega
     obtain⟨U,af,a8,a0,B2,az⟩:=η6 H a6 b0 au b2 ao;clear ho b3 av ci au b0 H X ay a6 ao;by_cases G:o∈l.map Prod.snd
     ·have hd:decide (o∈l.map Prod.snd)=true:=decide_eq_true G
      rw[hd]at bc;have ad:=O G;obtain⟨x0,x1,x2,x3,-⟩:=B2.o.four;clear hd G
      go_upto_region 13 with fail
      go_wp2;go_round
      case rel=>exact⟨m+1,n,l,by have:=Q.o;omega,rfl,J,by omega,a0.o,a8.o,(HI.o.old bi.o (by rw[a9.o];exact ad.o)).mono (fun Y j' m' h1 h2 _ h=>by omega),U.o,af.o⟩
      case measure=>exact μ (ψ Q.o)
     ·have hd:decide (o∈l.map Prod.snd)=false:=decide_eq_false G
      rw[hd]at bc;have ad:=O G;obtain⟨x0,x1,x2,x3,-⟩:=B2.o.four;obtain⟨D,br,bs,bt⟩:=a0.o;have b9:=O bt;clear hd G bt
      go_upto_region 13 with fail
      go_wp2_with (at_mapUpdate;refine wpList_mapUpdate_own _ rfl _ _ _ 283 rfl 177 4 (int_keyed underlying177) underlying283 _ w.heap.size n D rfl br (by unfold maxLen;omega) _ _ _ rfl rfl (keyOf_int_mk underlying177 (u64_wf o az.o)) _ [] (plainElem_bool underlying4 true) ?_)
      intro w5 ar A;have a3:=B2.o.lt;have a4:w4.heap.size≠w.heap.size:=by have:=F.o;have:=aa.o.size;omega
      have b5:Box w5 w4.heap.size #[.int .i64 E.x,.int .i64 E.y,.int .i64 E.z,.int .u64 (o:Int)] 212:=by
       unfold Box;rw[A.block w4.heap.size a3 (by intro e;exact a4 (Option.some.inj e))];exact B2.o
      have be:∀g,u4.ownBlock=some g->w.heap.size+1<=g:=cz a8.o;have cr:w5.ownsRow (w.heap.size+1) 212 4 u4 l.length (cM l):=World.ownsRow.kept a8.o A (by
       cases hq:u4.ownBlock with
       | none=>exact .inl rfl
       | some g=>exact .inr (by have:=be g hq;intro e;have:=Option.some.inj e;omega))
      have ag:Bl w w5:=U.o.grown A (ψ af.o) (fun k hk=>by cases hk;exact Nat.le_refl _);have c0:w.heap.size+1<=w5.heap.size:=Nat.le_trans af.o A.size;have bI:w5.ownsMap prog 177 (plainElem prog 4) w.heap.size (n+1) (D.put (.int .u64 (o:Int)) (.lit (.bool true))):=ar;obtain⟨ca,cF,a7,bg,bf⟩:=η5 bI b5 ag be bs;obtain⟨y0,y1,y2,y3,-⟩:=b5.four;clear A ar bI be ag b5 x0 x1 x2 x3 bc br bs a3 a4;have cD:l.length<=1000000:=by have:=L.o;have:=ab.o;omega
      go_wp2_with (at_builtin;refine wpList_append_own _ rfl _ _ 199 rfl (w.heap.size+1) 212 i0 (.agg #[.int .i64 0,.int .i64 0,.int .i64 0,.int .u64 0]) 4 32 underlying199 bz cu cv cy rfl ν _ _ _ rfl (cr.alloc _) ⟨w5.heap.size,0,none⟩ 1 1 [.int .i64 E.x,.int .i64 E.y,.int .i64 E.z,.int .u64 (o:Int)] rfl rfl ?c1 ?c2 ?c3 ?c4 ?c5 ?_)
      case c1=>exact fun j u hj=>fD w5 _ _ j u hj
      case c2=>intro u hu;simp at hu;rcases hu with rfl|rfl|rfl|rfl<;>rfl
      case c3=>unfold maxLen;omega
      case c4=>omega
      case c5=>simp;omega
      ·intro v' w6 ap C _
       have bu:gN w6 (w.heap.size+1) v' (l++[(E,o)]):=by
        have e:cM (l++[(E,o)])=cM l++[.int .i64 E.x,.int .i64 E.y,.int .i64 E.z,.int .u64 (o:Int)]:=by simp[cM]
        unfold gN;rw[List.length_append,e];exact ap
       have bp:Bl w w6:=(a7.o.alloc I _).grown C (by simp;omega) (fun g hg=>Nat.le_of_succ_le (bg.o g hg));have b6:w.heap.size+1<=w6.heap.size:=Nat.le_trans (by simp;omega) C.size;have a1:lP prog w6 177 4 w.heap.size (n+1) ((l++[(E,o)]).map Prod.snd):=by
        refine⟨_,World.ownsMap.kept (World.ownsMap.alloc ca.o _) C (fun e=>?_),bf.o.put _ _,fun key hk=>?_⟩
        ·have:=bg.o _ e.symm;omega
        ·have e:key∈o::l.map Prod.snd↔key∈(l++[(E,o)]).map Prod.snd:=by rw[List.map_append,List.mem_append,List.mem_cons,List.map_singleton,List.mem_singleton,or_comm]
         rw[lP.put bf.o b9.o o az.o key hk,decide_eq_decide.mpr e]
       obtain⟨ce,b8,ch,bl⟩:=η4 bu bp b6 a1;clear ap C bu bp b6 a1;go_wp2;go_round
       case rel=>exact⟨m+1,n+1,l++[(E,o)],by have:=Q.o;omega,rfl,by simp;omega,by simp;omega,bl.o,ce.o,(by
        have:=HI.o.new Q.o ab.o L.o bi.o (by rw[a9.o];exact ad.o);rw[a9.o]at this;exact this.mono (fun Y j' m' h1 h2 _ h=>by omega)),b8.o,ch.o⟩
       case measure=>exact μ (ψ Q.o)
    ·unfold mW
     have cc:=O bV;have H:Bl w (w4.alloc (.cells #[.int .i64 E.x,.int .i64 E.y,.int .i64 E.z,.int .u64 (o:Int)] 212)):=(ae HB.o aa.o ρ).alloc (by have:=F.o;have:=aa.o.size;omega) _;obtain⟨U,bk,cd⟩:=η3 H X ay;clear bV H X ay;go_wp2;go_round
     case rel=>exact⟨m+1,n,l,by have:=Q.o;omega,rfl,J,by omega,bk.o.below (β.alloc ρ _),cd.o.below (β.alloc ρ _),(HI.o.none cc.o).mono (fun Y j' m' h1 h2 _ h=>by omega),U.o,by have:=F.o;have:=aa.o.size;show _<=_;simp;omega⟩
     case measure=>exact μ (ψ Q.o)
end Go.Proofs.Υ
