/- Lemmas. -/
import Derived.Test.YtodehkjinmgflaaGreatDoorE1
set_option linter.all false
set_option maxHeartbeats 0
set_option maxRecDepth 99999
namespace Go.Proofs.Υ
open Go Go.RowKit Tryz
def DgS(base:Nat)(w:World)(v:Value)(d:List Nat):Prop:=∃a cap,v=.slice a d.length cap/\Ints w a d.length cap (d.map fun(i:Nat)=>(i:Int))/\∀x,a=some x->base<=x.block
theorem DgS.below{base:Nat}{w w':World}{v:Value}{d:List Nat}(h:DgS base w v d)(hb:Bl w w'):DgS base w' v d:=by
 obtain⟨a,j,e,h,u⟩:=h;exact⟨a,j,e,h.below hb,u⟩
theorem DgS.mono{base j:Nat}{w:World}{v:Value}{d:List Nat}(h:DgS base w v d)(hb:j<=base):DgS j w v d:=by
 obtain⟨a,u,e,h,A⟩:=h;exact⟨a,u,e,h,fun x C=>Nat.le_trans hb (A x C)⟩
theorem bH.dg{w:World}{base:Nat}{v:Value}{l:List Nat}(h:bH w base v l):DgS base w v l:=by
 obtain⟨a,A,e,F⟩:=h.ints;refine⟨a,A,e,F,fun x u=>?_⟩;obtain⟨-,⟨j,-⟩|⟨g,C,E,j,G,-⟩⟩:=h
 ·rw[e]at j;injection j with j;rw[j]at u;cases u
 ·rw[e]at j;injection j with j;rw[j]at u;cases u;exact G
theorem Ints.digit{w:World}{a:Option Addr}{e:Nat}{d:List Nat}(h:Ints w a d.length e (d.map fun(i:Nat)=>(i:Int))){i:Nat}(hi:i<d.length):
 ∃b off,a=some ⟨b,off,none⟩/\b<w.heap.size/\d.length<=e/\∀k,k<d.length->w.cell? ⟨b,off+k,none⟩=some (.int .i64 ((d.getD k 0:Nat):Int)):=by
 obtain⟨b,off,u,A,C,E⟩:=h.cells I;refine⟨b,off,u,A,C,fun k j=>?_⟩;rw[E k j];simp[j]
def oZ(w:World)(base:Nat)(v:Value)(l:List UInt8):Prop:=w.ownsRow base 5 1 v l.length (l.map fun c=>Value.int .u8 (c.toNat:Int))
theorem pN(l:List Nat)(x:Nat):dG (l++[x])=if x=0 then dG l else l++[x]:=by
 unfold dG;rw[List.reverse_append,List.reverse_singleton,List.singleton_append,List.dropWhile_cons];by_cases h:x=0
 ·rw[if_pos h,if_pos (by simpa using h)]
 ·rw[if_neg h,if_neg (by simpa using h)];simp
theorem lG(d:List Nat):dG d=d.take (dG d).length:=by
 have h:∀n (d:List Nat),d.length=n->dG d=d.take (dG d).length:=by
  intro n
  induction n with
  | zero=>intro d h;rw[List.length_eq_zero_iff.1 h];rfl
  | succ n ih =>
   intro d h;obtain⟨l,x,rfl⟩:∃l x,d=l++[x]:=⟨d.dropLast,d.getLast (by intro e;rw[e]at h;cases h),(List.dropLast_concat_getLast _).symm⟩;rw[pN]
   split
   ·have:=ih l (by simpa using h)
    conv=>lhs;rw[this]
    rw[List.take_append_of_le_length];have:=congrArg List.length this;rw[List.length_take]at this;omega
   ·rw[List.take_length]
 exact h _ d rfl
theorem jd(d:List Nat):(dG d).length<=d.length:=by
 have:=congrArg List.length (lG d);rw[List.length_take]at this;omega
theorem DgS.first{base:Nat}{w:World}{a:Option Addr}{e:Nat}{d:List Nat}(h:Ints w a d.length e (d.map fun(i:Nat)=>(i:Int)))(G:∀x,a=some x->base<=x.block)(n:Nat)(H:n<=d.length):DgS base w (.slice a n e) (d.take n):=by
 have j:(d.take n).length=n:=by rw[List.length_take];omega
 refine⟨a,e,by rw[j],⟨⟨by rw[j];exact Nat.le_trans H h.sl.le,by simp,h.sl.nil,fun x J=>?_⟩,by simp⟩,G⟩;obtain⟨u,A,C⟩:=h.sl.at_ x J;refine⟨u,A,fun i hi=>?_⟩;rw[j]at hi;rw[C i I];have E:i<n:=I;have F:i<d.length:=I;simp[E,F]
def gR(l:List UInt8):Prop:=∀c∈l,c.toNat=45\/(48<=c.toNat/\c.toNat<=57)
def rZ(l:List UInt8)(k:Nat):List Nat:=((l.drop k).reverse.filter (· != 45)).map fun b=>b.toNat-48
theorem digK_zero(l:List UInt8):dG (rZ l 0)=dN l:=rfl
theorem digK_end(l:List UInt8):rZ l l.length=[]:=by unfold rZ;simp
theorem digK_step{l:List UInt8}{k:Nat}(j:k<l.length):rZ l k=if(l.getD k 0).toNat=45 then rZ l (k+1)else rZ l (k+1)++[(l.getD k 0).toNat-48]:=by
 unfold rZ;have e:(l.getD k 0 != 45)=!decide ((l.getD k 0).toNat=45):=by
  rw[bne,Bool.not_eq_eq_eq_not,Bool.not_not,Bool.eq_iff_iff,beq_iff_eq,decide_eq_true_iff]
  constructor
  ·intro h;rw[h];rfl
  ·intro h;exact UInt8.toNat_inj.mp (h.trans rfl)
 rw[List.drop_eq_getElem_cons j,List.reverse_cons,List.filter_append,List.map_append];have u:l.getD k 0=l[k]:=by simp[j]
 rw[<-u];rw[List.filter_cons,e];by_cases h:(l.getD k 0).toNat=45
 ·rw[if_pos h,decide_eq_true h];simp
 ·rw[if_neg h,decide_eq_false h];simp
theorem digK_le(l:List UInt8)(k:Nat):(rZ l k).length<=l.length:=by
 unfold rZ;rw[List.length_map];refine Nat.le_trans (List.length_filter_le _ _) ?_;rw[List.length_reverse,List.length_drop];omega
theorem lg(base:Nat)(v:Value)(d:List Nat)(w:World)(h:DgS base w v d)(hl:d.length<=1000000):
 Calls prog 185 #[v] w fun e w'=>(∃W,e=.returned W/\DgS base w W (dG d))/\w'=w:=by
 obtain⟨a,X,rfl,hi,R⟩:=h;obtain⟨F,Q⟩:=η2 hi R;clear hi R
 go_enter func185,ntmps185
 go_wp2
 go_loopw [3] (fun L wr=>∃k:Nat,k<=d.length/\L=.int .i64 (k:Nat)/\Hid (dG (d.take k)=dG d)/\wr=w) (fun L _=>(intOf L).toNat)
 case atStart=>exact⟨d.length,Nat.le_refl _,rfl,by show dG _=_;rw[List.take_length],rfl⟩
 case round =>
  obtain⟨k,Y,rfl,G,rfl⟩:=hrel;by_cases h0:k=0
  ·subst h0
   have ab:¬ (0:Int)<((0:Nat):Int):=I
   go_wp2_with fail
   go_ret;refine⟨⟨_,rfl,?_⟩,rfl⟩
   rw[<-G.o];exact DgS.first F.o Q.o 0 I
  ·obtain⟨j,rfl⟩:∃j,k=j+1:=⟨k-1,by omega⟩
   have aa:(0:Int)<((j+1:Nat):Int):=I;obtain⟨b,off,rfl,hb,hc,A⟩:=F.o.digit (i:=j) I;have J:=A j I;have C:j<d.length:=I;obtain⟨x,E⟩:=χ (d.getD j 0);rw[E]at J;have HX:=O E;have U:Hid (dG (d.take (j+1))=if x=0 then dG (d.take j)else d.take (j+1)):=by
    show _=_;have e:d.take (j+1)=d.take j++[x]:=by
     rw[List.take_succ_eq_append_getElem C,<-E];simp[C]
    rw[e,pN]
   clear A E;by_cases u:x=0
   ·subst u
    go_wp2_with fail
    go_round
    case rel=>exact⟨j,by omega,rfl,by show dG _=_;rw[<-G.o,U.o,if_pos rfl],trivial⟩
    case measure=>simp[intOf]
   ·have ac:((x:Int) == 0)=false:=by rw[beq_eq_false_iff_ne];omega
    have H:=O u;clear u
    go_wp2_with fail
    go_ret;refine⟨⟨_,rfl,?_⟩,rfl⟩
    rw[<-G.o,U.o,if_neg H.o];exact DgS.first F.o Q.o (j+1) Y
theorem fj(l:List UInt8)(w:World)(hl:l.length<=1000)(hn:gR l):
 Calls prog 147 #[.string ⟨l.toArray⟩] w fun e w'=>(∃Y,e=.returned Y/\DgS w.heap.size w' Y (dN l))/\Bl w w':=by
 obtain⟨i0,aa,an,ao,ap⟩:=info_parts sX;obtain⟨S,hS⟩:∃S:ByteArray,⟨l.toArray⟩=S:=⟨_,rfl⟩;have W:S.size=l.length:=by rw[<-hS];rfl
 have F:∀k (h:k<S.size),S[k]=l.getD k 0:=by
  subst hS;intro k h;have h':k<l.length:=h;simp[h'];rfl
 obtain⟨Q,HN⟩:=η2 F hn;rw[hS];clear F hn hS
 go_enter func147,ntmps147
 go_wp2_with fail
 go_loopw [3,4] (fun ov X wr=>∃k:Nat,k<=l.length/\X=.int .i64 ((k:Int)-1)/\Hid (bH wr w.heap.size ov (rZ l k))/\Hid (Bl w wr)) (fun _ X _=>(intOf X+1).toNat)
 case atStart=>exact⟨l.length,Nat.le_refl _,by simp[W],by show bH _ _ _ _;rw[digK_end];exact World.ownsRow_nil _ _ _ _,Below.refl _ _⟩
 case round =>
  obtain⟨k,hk,rfl,H,G⟩:=hrel;obtain⟨wk,rfl⟩:=φ wr;by_cases h0:k=0
  ·subst h0
   have af:¬ (0:Int)<=((0:Nat):Int)-1:=I;have HD:=O H.o.dg;obtain⟨a,ab,rfl,-⟩:=H.o.ints
   go_wp2_with fail
   refine(lg _ _ _ _ HD.o (by have:=digK_le l 0;omega)).mono ?_;rintro e w1 ⟨⟨Y,rfl,hv⟩,rfl⟩
   go_wp2_with fail
   go_ret;exact⟨⟨_,rfl,by rw[<-digK_zero];exact hv⟩,G.o⟩
  ·obtain⟨j,rfl⟩:∃j,k=j+1:=⟨k-1,by omega⟩
   have ac:(0:Int)<=((j+1:Nat):Int)-1:=I;have hj:j<S.size:=I;obtain⟨u,J⟩:=χ ((l.getD j 0).toNat);have hx:(((S[j]'hj).toNat:Nat):Int)=(u:Int):=by rw[Q.o j hj,J]
   have C:=digK_step (l:=l) (k:=j) I;rw[J]at C;have ag:u=45\/(48<=u/\u<=57):=by
    rw[<-J];refine HN.o _ ?_;rw[List.getD_eq_getElem?_getD,List.getElem?_eq_getElem (show j<l.length by omega)];exact List.getElem_mem _
   have E:=O C;clear J C;by_cases A:u=45
   ·subst A
    go_wp2_with fail
    go_round
    case rel=>exact⟨j,by omega,rfl,by show bH _ _ _ _;rw[E.o,if_pos rfl];exact H.o,G.o⟩
    case measure=>simp[intOf]
   ·have ad:((u:Int) != 45)=true:=by rw[bne_iff_ne];omega
    have HC:=O (show(u:Int)-48=((u-48:Nat):Int) by omega);obtain⟨HK,L⟩:=η2 (digK_le l (j+1)) A;clear A
    go_wp2_with (at_builtin;refine dE rfl _ _ rfl rfl H.o (u-48) (congrArg (fun z=>#[Value.int .i64 z]) HC.o) rfl (ψ HK.o) G.o G.o.size ?_)
    intro v1 w1 ho hb;obtain⟨U,R⟩:=η2 ho hb;clear ho hb
    go_wp2_with fail
    go_round
    case rel=>exact⟨j,by omega,rfl,by show bH _ _ _ _;rw[E.o,if_neg L.o];exact U.o,R.o⟩
    case measure=>simp[intOf]
theorem iu(l:List UInt8)(w:World)(h0:0<l.length):Calls prog 143 #[.string ⟨l.toArray⟩] w fun e w'=>e=.returned (.int .i64 (dr l))/\w'=w:=by
 obtain⟨S,hS⟩:∃S:ByteArray,⟨l.toArray⟩=S:=⟨_,rfl⟩;have j:0<S.size:=by rw[<-hS];exact h0
 rw[hS];have C:S.toList=l:=by rw[<-hS,ByteArray.toList_mk]
 by_cases u:l=[48]
 ·have F:(S.toList == [48])=true:=by rw[C,u];rfl
  clear C
  go_enter func143,ntmps143
  go_wp2_with fail
  go_ret;exact⟨by unfold dr;rw[if_pos u];rfl,rfl⟩
 ·have F:(S.toList == [48])=false:=by rw[C,beq_eq_false_iff_ne];exact u
  clear C;have E:S[0]'j=l.headD 0:=by
   subst hS
   cases l with
   | nil=>cases h0
   | cons x y=>rfl
  by_cases A:l.headD 0=45
  ·have hc:(((S[0]'j).toNat:Int) == 45)=true:=by rw[E,A];rfl
   clear E
   go_enter func143,ntmps143
   go_wp2_with fail
   go_ret;exact⟨by unfold dr;rw[if_neg u,if_pos A];rfl,rfl⟩
  ·have hc:(((S[0]'j).toNat:Int) == 45)=false:=by
    rw[E,beq_eq_false_iff_ne];intro e;exact A (UInt8.toNat_inj.mp (show(l.headD 0).toNat=45 by omega))
   clear E
   go_enter func143,ntmps143
   go_wp2_with fail
   go_ret;exact⟨by unfold dr;rw[if_neg u,if_neg A];rfl,rfl⟩
theorem info5:(prog.info? 5).map (fun i=>(i.zero,i.size,i.bytes))=some (some (.int .u8 0),1,1):=by kernel_rfl
theorem oZ.text{w:World}{base:Nat}{v:Value}{T:List UInt8}(h:oZ w base v T)(h0:T≠[]):∃g c,v=.slice (some ⟨g,0,none⟩) T.length c/\(convert 247 9 (.slice (some ⟨g,0,none⟩) T.length c)).run prog w=.ok (.string ⟨T.toArray⟩) w:=by
 have F:=h;obtain⟨H,⟨rfl,G⟩|⟨g,u,C,rfl,r⟩⟩:=h
 ·exact absurd (List.length_eq_zero_iff.1 G) h0
 ·refine⟨g,u,rfl,run_convert_bytes_back w 247 9 5 ⟨g,0,none⟩ u T underlying247 underlying5 underlying9 fun j A=>?_⟩
  have e:=World.ownsRow.cellAt F j (by rw[Nat.mul_one];exact A);have E:(⟨g,0,none⟩:Addr).add j=⟨g,j,none⟩:=by simp[Addr.add];exact fun h=>h.symm
  rw[E,e];simp[A]
theorem n9{C:Array Oper}{rest:List Oper}{o:Oper}{a:Act}{Q:Exit->Act->World->Prop}{e:World}{c:Array Value}(G:o.guard=none)(s x:Operand)(ho:o.op=.call { callee:=.builtin .append,args:=#[s,x],argTypes:=#[247,247] }){w0:World}{base:Nat}{v:Value}{l:List UInt8}(hs:a.eval s=v)(U:oZ e base v l)(n:UInt8)(hc:c=#[.int .u8 (n.toNat:Int)])(hx:a.eval x=.slice (some ⟨e.heap.size,0,none⟩) 1 1)(hl:l.length<=1000000)(X:Below base w0 e)(hb:base<=e.heap.size)(h:∀E w',oZ w' base E (l++[n])->Below base w0 w'->wpList prog C Q rest (a.put o.dst E) w'):wpList prog C Q (o::rest) a (e.alloc (.cells c 5)):=by
 obtain⟨i0,A,J,L,R⟩:=info_parts info5;subst hc;refine Go.wpList_append_own _ G s x 247 ho base 5 i0 (.int .u8 0) 1 1 underlying247 A J L R rfl ν v l.length _ hs (World.ownsRow.alloc U _) ⟨e.heap.size,0,none⟩ 1 1 [.int .u8 (n.toNat:Int)] hx rfl (fun j u Y=>fF e _ _ j u Y) (by intro u W;simp at W;rw[W];rfl) (by unfold maxLen;omega) I (by simp;omega) ?_;intro E w1 H F _;exact h E w1 (by unfold oZ;simpa using H) ((X.alloc hb _).grown F (by simp;omega) (cz U))
theorem ir(neg:Bool)(base:Nat)(v:Value)(d:List Nat)(w:World)(h:DgS base w v d)(hl:d.length<=1000)(h9:∀x∈d,x<=9):
 Calls prog 148 #[.bool neg,v] w fun e w'=>e=.returned (.string ⟨(df neg d).toArray⟩)/\Bl w w':=by
 obtain⟨HT,HL⟩:=η2 (lg base v d w h I) (jd d);have G:∀x∈dG d,x<=9:=fun x J=>h9 x (by rw[lG]at J;exact List.mem_of_mem_take J)
 obtain⟨a,av,rfl,-⟩:=h;obtain⟨D,hD⟩:=χ (dG d);rw[hD]at HT HL G;obtain⟨HD,H9⟩:=η2 hD G;clear hD h9 G
 go_enter func148,ntmps148
 go_wp2_with fail
 refine HT.o.mono ?_;rintro e w1 ⟨⟨v',rfl,a1,c1,rfl,hi,-⟩,hw⟩;rw[hw];clear hw w1;have HI:=O hi;clear hi HT;by_cases h0:D.length=0
 ·have ap:D=[]:=List.length_eq_zero_iff.1 h0
  have ar:((D.length:Int) == 0)=true:=by rw[beq_iff_eq];omega
  go_wp2_with fail
  go_ret;exact⟨by unfold df;rw[HD.o,if_pos ap];rfl,Below.refl _ _⟩
 have ar:((D.length:Int) == 0)=false:=by rw[beq_eq_false_iff_ne];omega
 have Q:=O h0;have ay:D.length<=1000:=by have:=HL.o;omega
 have W:∀b:Bool,b=neg->∃s,s=(if b then[45] else[]:List UInt8)/\s.length<=1:=fun b _=>⟨_,rfl,by cases b<;>simp⟩
 obtain⟨L,ac,ad⟩:=W neg rfl;obtain⟨X,ao⟩:=η2 ac ad;clear h0 W ac ad;have key:∀(b:Bool) (k:Nat),k<=D.length->((D.drop k).reverse.map fun x=>UInt8.ofNat (48+x)).length=D.length-k:=fun _ k _=>by simp
 have step:∀k,k<D.length->(D.drop k).reverse.map (fun x=>UInt8.ofNat (48+x))=(D.drop (k+1)).reverse.map (fun x=>UInt8.ofNat (48+x))++[UInt8.ofNat (48+D.getD k 0)]:=fun k hk=>by
  rw[List.drop_eq_getElem_cons hk,List.reverse_cons,List.map_append];simp[hk]
 obtain⟨HK,HS⟩:=η2 key step;clear key step;have start:∀(b:Bool) (v:Value) (w2:World),oZ w2 w.heap.size v (if b then[45] else[])->b=neg->Hid (oZ w2 w.heap.size v (L++(D.drop D.length).reverse.map fun x=>UInt8.ofNat (48+x))):=fun b v w2 h e=>by
  show oZ _ _ _ _;rw[List.drop_length,X.o,<-e]
  simpa using h
 have u:=O start;clear start;cases neg
 case' false =>
  have C:=u.o false (.slice none 0 0) w (World.ownsRow_nil _ _ _ _) rfl;have A:=O (Below.refl w.heap.size w)
  go_wp2_with fail
 case' true =>
  go_wp2_with (at_builtin;refine n9 rfl _ _ rfl rfl (show oZ w w.heap.size (.slice none 0 0) [] from World.ownsRow_nil _ _ _ _) 45 rfl rfl ν (Below.refl w.heap.size w) ρ ?_)
  intro v2 w2 ho hb;have C:=u.o true v2 w2 ho rfl;have A:=O hb;clear ho hb
  go_wp2_with fail
 all_goals
  go_loopw [5,6] (fun ov iv wr=>∃k:Nat,k<=D.length/\iv=.int .i64 ((k:Int)-1)/\Hid (oZ wr w.heap.size ov (L++(D.drop k).reverse.map fun x=>UInt8.ofNat (48+x)))/\Hid (Bl w wr)) (fun _ iv _=>(intOf iv+1).toNat)
  case atStart=>exact⟨D.length,Nat.le_refl _,rfl,C.o,A.o⟩
  case round =>
   clear C A;obtain⟨k,hk,rfl,C,A⟩:=hrel;obtain⟨wk,rfl⟩:=φ wr;have R:=O (HK.o true k hk);by_cases h0:k=0
   ·subst h0
    have a0:¬ (0:Int)<=((0:Nat):Int)-1:=I;obtain⟨T,E⟩:=χ (L++(D.drop 0).reverse.map (fun x=>UInt8.ofNat (48+x)));rw[E]at C;obtain⟨g,c,rfl,kc⟩:=oZ.text C.o (by
     intro e;rw[<-E]at e;have:=congrArg List.length e;rw[List.length_append,R.o]at this;exact Q.o (by have:L.length+(D.length-0)=0:=this;omega))
    have F:=O E;clear E
    go_wp2_with fail
    go_ret;refine⟨?_,A.o⟩
    rw[<-F.o,X.o];unfold df;rw[HD.o,if_neg (show ¬ D=[] from fun e=>Q.o (by rw[e];rfl))]
    rfl
   ·obtain⟨j,rfl⟩:∃j,k=j+1:=⟨k-1,by omega⟩
    have az:(0:Int)<=((j+1:Nat):Int)-1:=I;have hj:j<D.length:=I;obtain⟨b,off,rfl,hb,hc,aa⟩:=(HI.o.below A.o).digit hj;have au:=aa j hj;obtain⟨x,J⟩:=χ (D.getD j 0);have a2:x<=9:=by
     rw[<-J];refine H9.o _ ?_;rw[List.getD_eq_getElem?_getD,List.getElem?_eq_getElem hj];exact List.getElem_mem _
    rw[J]at au;have u:=O (HS.o j hj);have aw:IntKind.u8.wrap (48+(x:Int))=48+(x:Int):=by rw[IntKind.wrap_u8];omega
    have HC:=O (show 48+(x:Int)=((UInt8.ofNat (48+x)).toNat:Int) by rw[UInt8.toNat_ofNat'];omega);have HX:=O J;have U:=O (show(L++(D.drop (j+1)).reverse.map fun x=>UInt8.ofNat (48+x)).length<=2000 from by rw[List.length_append,R.o];have:=ao.o;have:=HL.o;omega);obtain⟨T,E⟩:=χ (L++(D.drop (j+1)).reverse.map (fun x=>UInt8.ofNat (48+x)));obtain⟨cU,H⟩:=χ (UInt8.ofNat (48+x));rw[E]at C U;rw[H]at HC;obtain⟨F,ag⟩:=η2 E H;clear aa J h0 E H
    go_wp2_with (at_builtin;refine n9 rfl _ _ rfl rfl C.o cU (congrArg (fun z=>#[Value.int .u8 z]) HC.o) rfl (ψ U.o) A.o A.o.size ?_)
    intro v3 w3 ab Y;have an:=O (show oZ w3 w.heap.size v3 (L++(D.drop j).reverse.map fun x=>UInt8.ofNat (48+x))from by rw[u.o,HX.o,<-List.append_assoc,F.o,ag.o];exact ab);have af:=O Y;clear ab Y
    go_wp2_with fail
    go_round
    case rel=>exact⟨j,by omega,rfl,an.o,af.o⟩
    case measure=>simp[intOf]
theorem iW{a:List Nat}{k:Nat}(e:k<a.length):(a.take (k+1)).reverse=a.getD k 0::(a.take k).reverse:=by
 rw[List.take_succ_eq_append_getElem e,List.reverse_append];simp[e]
theorem lexD_step{a b:List Nat}{k:Nat}(e:k<a.length)(j:k<b.length):kA (a.take (k+1)).reverse (b.take (k+1)).reverse=if a.getD k 0<b.getD k 0 then -1 else if b.getD k 0<a.getD k 0 then 1 else kA (a.take k).reverse (b.take k).reverse:=by
 rw[iW e,iW j,kA]
theorem subD_len:∀(a b:List Nat) (c:Nat),(iS a b c).length=a.length
 | [],_,_=>rfl
 | x::a,b,c=>by
  unfold iS
  split<;>simp[subD_len]
theorem sB:∀(a b:List Nat) (c:Nat),(∀x∈a,x<=9)->∀x∈iS a b c,x<=9
 | [],_,_,_=>fun x j=>by simp[iS]at j
 | x::a,b,c,h=>by
  have j:=h x (by simp);have u:=fun c=>sB a b.tail c fun y e=>h y (by simp[e])
  unfold iS
  split
  ·intro y e
   rcases List.mem_cons.mp e with rfl|e
   ·omega
   ·exact u 1 y e
  ·intro y e
   rcases List.mem_cons.mp e with rfl|e
   ·omega
   ·exact u 0 y e
theorem kN{d:List Nat}{x:Nat}(h:x∈dG d):x∈d:=by
 rw[lG]at h;exact List.mem_of_mem_take h
theorem minusD_nine{a b:List Nat}(h:∀x∈a,x<=9):∀x∈lO a b,x<=9:=fun x e=>sB a b 0 h x (kN e)
theorem minusD_len(a b:List Nat):(lO a b).length<=a.length:=by
 have:=jd (iS a b 0);rw[subD_len]at this;exact this
theorem tail_drop(b:List Nat)(k:Nat):(b.drop k).tail=b.drop (k+1):=by rw[List.tail_drop]
theorem headD_drop(b:List Nat)(k:Nat):(b.drop k).headD 0=b.getD k 0:=by
 rw[List.headD_eq_head?_getD,List.head?_drop,List.getD_eq_getElem?_getD]
theorem subD_step{a b:List Nat}{k c:Nat}(e:k<a.length):iS (a.drop k) (b.drop k) c =
 if(a.getD k 0:Int)-c-b.getD k 0<0 then((a.getD k 0:Int)-c-b.getD k 0+10).toNat::iS (a.drop (k+1)) (b.drop (k+1)) 1 else((a.getD k 0:Int)-c-b.getD k 0).toNat::iS (a.drop (k+1)) (b.drop (k+1)) 0:=by
 rw[List.drop_eq_getElem_cons e,iS,headD_drop,tail_drop];simp[e]
theorem kY{d:List Nat}(h:∀x∈d,x<=9)(k:Nat):d.getD k 0<=9:=by
 rw[List.getD_eq_getElem?_getD];by_cases e:k<d.length
 ·rw[List.getElem?_eq_getElem e];exact h _ (List.getElem_mem e)
 ·rw[List.getElem?_eq_none I];exact Nat.zero_le _
theorem dorder_any(b1 b2:Nat)(v u:Value)(a b:List Nat)(w:World)(ha:DgS b1 w v a)(hb:DgS b2 w u b)(h1:a.length<=1000)(h2:b.length<=1000):
 Calls prog 186 #[v,u] w fun e w'=>e=.returned (.int .i64 (gQ a b))/\Bl w w':=by
 obtain⟨p,cp,rfl,hi,-⟩:=ha;obtain⟨q,cq,rfl,hj,-⟩:=hb;by_cases hl:a.length<b.length
 ·have U:((a.length:Int) != (b.length:Int))=true:=by rw[bne_iff_ne];omega
  have J:(a.length:Int)<(b.length:Int):=I;clear hi hj
  go_enter func186,ntmps186
  go_wp2_with fail
  go_ret;exact⟨by unfold gQ;rw[if_pos hl];rfl,Below.refl _ _⟩
 by_cases H:b.length<a.length
 ·have U:((a.length:Int) != (b.length:Int))=true:=by rw[bne_iff_ne];omega
  have J:¬ (a.length:Int)<(b.length:Int):=I;clear hi hj
  go_enter func186,ntmps186
  go_wp2_with fail
  go_ret;exact⟨by unfold gQ;rw[if_neg hl,if_pos H];rfl,Below.refl _ _⟩
 have he:b.length=a.length:=I;have HE:gQ a b=kA a.reverse b.reverse:=by unfold gQ;rw[if_neg hl,if_neg H]
 obtain⟨HI,HJ⟩:=η2 hi hj;obtain⟨r,hr⟩:=χ (kA a.reverse b.reverse);rw[HE,hr];have HR:=O hr;rw[he];have U:((a.length:Int) != (a.length:Int))=false:=by simp
 have Q:=O he;clear hl H HE hr hi hj he h2
 go_enter func186,ntmps186
 go_wp2_with fail
 go_loopw [4,5] (fun rv iv wr=>∃k:Nat,rv=rv/\k<=a.length/\iv=.int .i64 ((k:Int)-1)/\Hid (kA (a.take k).reverse (b.take k).reverse=r)/\Hid (Bl w wr)) (fun _ iv _=>(intOf iv+1).toNat)
 case atStart=>exact⟨a.length,rfl,Nat.le_refl _,rfl,by show kA _ _=_;rw[List.take_length,<-Q.o,List.take_length];exact HR.o,Below.refl _ _⟩
 case round =>
  obtain⟨k,-,hk,rfl,HT,L⟩:=hrel;by_cases h0:k=0
  ·subst h0
   have ao:¬ (0:Int)<=((0:Nat):Int)-1:=I
   go_wp2_with fail
   go_ret;exact⟨by rw[<-HT.o];rfl,L.o⟩
  ·obtain⟨j,rfl⟩:∃j,k=j+1:=⟨k-1,by omega⟩
   have an:(0:Int)<=((j+1:Nat):Int)-1:=I;have G:j<a.length:=I;have A:j<b.length:=by have:=Q.o;omega
   obtain⟨b1,o1,rfl,af,ab,C⟩:=(HI.o.below L.o).digit G;obtain⟨b2,o2,rfl,ag,ac,E⟩:=(HJ.o.below L.o).digit A;have hx:=C j G;have hy:=E j A;have HS:=O (lexD_step G A);have R:=HT.o;rw[HS.o]at R;obtain⟨x,W⟩:=χ (a.getD j 0);obtain⟨y,Y⟩:=χ (b.getD j 0);rw[W]at hx R;rw[Y]at hy R;have F:=O R;clear C E W Y R HS h0 ab ac A;by_cases X:x<y
   ·have J:(x:Int)<(y:Int):=I
    go_wp2_with fail
    go_quiet (fail)
    go_wp2_with fail
    go_ret;exact⟨by rw[<-F.o,if_pos I];rfl,aE L.o _⟩
   ·have J:¬ (x:Int)<(y:Int):=I
    by_cases aa:y<x
    ·have ad:(y:Int)<(x:Int):=I
     go_wp2_with fail
     go_quiet (fail)
     go_wp2_with fail
     go_quiet (fail)
     go_wp2_with fail
     go_ret;exact⟨by rw[<-F.o,if_neg I,if_pos I];rfl,aE (aE L.o _) _⟩
    ·have ad:¬ (y:Int)<(x:Int):=I
     have H3:=O (show ¬ x<y/\¬ y<x from⟨X,aa⟩);clear X aa
     go_wp2_with fail
     go_quiet (fail)
     go_wp2_with fail
     go_quiet (fail)
     go_wp2_with fail
     go_roundw
     case rel=>exact⟨j,trivial,by omega,rfl,by show kA _ _=_;rw[<-F.o,if_neg H3.o.1,if_neg H3.o.2],aE L.o _⟩
     case measure=>simp[intOf]
theorem dminus_any(b1 b2:Nat)(v u:Value)(a b:List Nat)(w:World)(ha:DgS b1 w v a)(hb:DgS b2 w u b)(h1:a.length<=1000)(h2:b.length<=1000)(ac:∀x∈a,x<=9)(af:∀x∈b,x<=9):
 Calls prog 187 #[v,u] w fun e w'=>(∃v',e=.returned v'/\DgS w.heap.size w' v' (lO a b))/\Bl w w':=by
 obtain⟨p,cp,rfl,hi,-⟩:=ha;obtain⟨q,cq,rfl,hj,-⟩:=hb;obtain⟨HI,HJ,HA,ay⟩:=η4 hi hj ac af;clear hi hj ac af
 go_enter func187,ntmps187
 go_wp2_with fail
 go_loopw [5,6,7] (fun ov bv iv wr=>∃(k c:Nat) (l:List Nat),k<=a.length/\c<=1/\iv=.int .i64 (k:Nat)/\bv=.int .i64 (c:Nat)/\Hid (l.length=k/\l++iS (a.drop k) (b.drop k) c=iS a b 0)/\Hid (bH wr w.heap.size ov l)/\Hid (Bl w wr)) (fun _ _ iv _=>a.length-(intOf iv).toNat)
 case atStart=>exact⟨0,0,[],by omega,by omega,rfl,rfl,⟨rfl,rfl⟩,World.ownsRow_nil _ _ _ _,Below.refl _ _⟩
 case round =>
  obtain⟨k,c,l,hk,a5,rfl,rfl,HL,HO,H⟩:=hrel;obtain⟨wk,rfl⟩:=φ wr;by_cases h0:k=a.length
  ·have a7:¬ (k:Int)<(a.length:Int):=I
   have ao:l=iS a b 0:=by
    have:=HL.o.2;rw[h0,List.drop_length]at this;rw[<-this,iS,List.append_nil]
   obtain⟨HD,az,G⟩:=η3 HO.o.dg ao HL.o.1;obtain⟨ap,a3,rfl,-⟩:=HO.o.ints;clear h0 ao
   go_wp2_with fail
   refine(lg _ _ _ _ HD.o (ψ G.o)).mono ?_;rintro e w1 ⟨⟨v',rfl,hv⟩,au⟩;rw[au];clear au w1;have HV:=O hv;clear hv
   go_wp2_with fail
   go_ret;exact⟨⟨_,rfl,by unfold lO;rw[<-az.o];exact HV.o⟩,H.o⟩
  ·have a6:(k:Int)<(a.length:Int):=I
   have aa:k<a.length:=I;obtain⟨b1,o1,rfl,a4,a0,W⟩:=(HI.o.below H.o).digit aa;have hx:=W k aa;have a1:=kY HA.o k;have a2:=kY ay.o k;have Q:=subD_step (a:=a) (b:=b) (c:=c) aa;have R:¬ k<b.length->b.getD k 0=0:=fun h=>by rw[List.getD_eq_getElem?_getD,List.getElem?_eq_none I];rfl
   have U:k<b.length->∃b2 o2,q=some ⟨b2,o2,none⟩/\b2<wk.heap.size/\wk.cell? ⟨b2,o2+k,none⟩=some (.int .i64 ((b.getD k 0:Nat):Int)):=fun h=>by
    obtain⟨b2,o2,e2,ad,-,ag⟩:=(HJ.o.below H.o).digit h;exact⟨b2,o2,e2,ad,ag k h⟩
   obtain⟨x,av⟩:=χ (a.getD k 0);obtain⟨y,aw⟩:=χ (b.getD k 0);rw[av]at hx a1 Q;rw[aw]at a2 Q R U;have L:=O Q;have G:=O (show l.length<=1000000 from by have:=HL.o.1;omega);clear W av aw Q h0 a0;have ab:∀(n d:Nat),iS (a.drop k) (b.drop k) c=n::iS (a.drop (k+1)) (b.drop (k+1)) d->Hid ((l++[n]).length=k+1/\(l++[n])++iS (a.drop (k+1)) (b.drop (k+1)) d=iS a b 0):=fun n d e=>⟨by rw[List.length_append,HL.o.1];rfl,by rw[List.append_assoc,List.singleton_append,<-e];exact HL.o.2⟩
   have J:=O ab;clear ab;by_cases an:k<b.length
   ·have ar:(k:Int)<(b.length:Int):=I
    obtain⟨b2,o2,rfl,ad,hy⟩:=U an;clear R U;by_cases hn:(x:Int)-c-y<0
    ·obtain⟨n,A⟩:=χ (((x:Int)-c-y+10).toNat)
     have X:=O (show(x:Int)-c-y+10=((n:Nat):Int) by omega);have Y:=O (J.o n 1 (by rw[L.o,if_pos hn,A]));clear A
     go_wp2_with (at_builtin;refine dE rfl _ _ rfl rfl HO.o n (congrArg (fun z=>#[Value.int .i64 z]) X.o) rfl G.o H.o H.o.size ?_)
     intro v3 w3 C j;obtain⟨F,E⟩:=η2 C j;clear C j
     go_wp2_with fail
     go_round
     case rel=>exact⟨k+1,1,_,by omega,by omega,rfl,rfl,Y.o,F.o,E.o⟩
     case measure=>simp[intOf];omega
    ·obtain⟨n,A⟩:=χ (((x:Int)-c-y).toNat)
     have X:=O (show(x:Int)-c-y=((n:Nat):Int) by omega);have Y:=O (J.o n 0 (by rw[L.o,if_neg hn,A]));clear A
     go_wp2_with (at_builtin;refine dE rfl _ _ rfl rfl HO.o n (congrArg (fun z=>#[Value.int .i64 z]) X.o) rfl G.o H.o H.o.size ?_)
     intro v3 w3 C j;obtain⟨F,E⟩:=η2 C j;clear C j
     go_wp2_with fail
     go_round
     case rel=>exact⟨k+1,0,_,by omega,by omega,rfl,rfl,Y.o,F.o,E.o⟩
     case measure=>simp[intOf];omega
   ·have ar:¬ (k:Int)<(b.length:Int):=I
    obtain rfl:=R an;clear R U;have hz:(x:Int)-c-(0:Nat)=(x:Int)-c:=I;by_cases hn:(x:Int)-c<0
    ·obtain⟨n,A⟩:=χ (((x:Int)-c+10).toNat)
     have X:=O (show(x:Int)-c+10=((n:Nat):Int) by omega);have Y:=O (J.o n 1 (by rw[L.o,hz,if_pos hn,A]));clear A;clear hz
     go_wp2_with (at_builtin;refine dE rfl _ _ rfl rfl HO.o n (congrArg (fun z=>#[Value.int .i64 z]) X.o) rfl G.o H.o H.o.size ?_)
     intro v3 w3 C j;obtain⟨F,E⟩:=η2 C j;clear C j
     go_wp2_with fail
     go_round
     case rel=>exact⟨k+1,1,_,by omega,by omega,rfl,rfl,Y.o,F.o,E.o⟩
     case measure=>simp[intOf];omega
    ·obtain⟨n,A⟩:=χ (((x:Int)-c).toNat)
     have X:=O (show(x:Int)-c=((n:Nat):Int) by omega);have Y:=O (J.o n 0 (by rw[L.o,hz,if_neg hn,A]));clear A;clear hz
     go_wp2_with (at_builtin;refine dE rfl _ _ rfl rfl HO.o n (congrArg (fun z=>#[Value.int .i64 z]) X.o) rfl G.o H.o H.o.size ?_)
     intro v3 w3 C j;obtain⟨F,E⟩:=η2 C j;clear C j
     go_wp2_with fail
     go_round
     case rel=>exact⟨k+1,0,_,by omega,by omega,rfl,rfl,Y.o,F.o,E.o⟩
     case measure=>simp[intOf];omega
end Go.Proofs.Υ
