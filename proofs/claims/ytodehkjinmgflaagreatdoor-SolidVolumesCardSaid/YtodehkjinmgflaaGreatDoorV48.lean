/- Lemmas. -/
import Derived.Test.YtodehkjinmgflaaGreatDoorV1
set_option linter.all false
set_option maxHeartbeats 0
set_option maxRecDepth 99999
namespace Go.Proofs.Υ
open Go Go.RowKit Tryz
def DgS(base:Nat)(w:World)(v:Value)(d:List Nat):Prop:=∃a cap,v=.slice a d.length cap/\Ints w a d.length cap (d.map fun(i:Nat)=>(i:Int))/\∀x,a=some x->base<=x.block
theorem DgS.below{base:Nat}{w w':World}{v:Value}{d:List Nat}(h:DgS base w v d)(hb:Bl w w'):DgS base w' v d:=by
 obtain⟨a,i,e,h,j⟩:=h;exact⟨a,i,e,h.below hb,j⟩
theorem DgS.mono{base i:Nat}{w:World}{v:Value}{d:List Nat}(h:DgS base w v d)(hb:i<=base):DgS i w v d:=by
 obtain⟨a,j,e,h,u⟩:=h;exact⟨a,j,e,h,fun x A=>Nat.le_trans hb (u x A)⟩
theorem bo.dg{w:World}{base:Nat}{v:Value}{l:List Nat}(h:bo w base v l):DgS base w v l:=by
 obtain⟨a,u,e,E⟩:=h.ints;refine⟨a,u,e,E,fun x j=>?_⟩;obtain⟨-,⟨i,-⟩|⟨g,A,C,i,F,-⟩⟩:=h
 ·rw[e]at i;injection i with i;rw[i]at j;cases j
 ·rw[e]at i;injection i with i;rw[i]at j;cases j;exact F
theorem Ints.digit{w:World}{a:Option Addr}{e:Nat}{d:List Nat}(h:Ints w a d.length e (d.map fun(i:Nat)=>(i:Int))){i:Nat}(hi:i<d.length):
 ∃b off,a=some ⟨b,off,none⟩/\b<w.heap.size/\d.length<=e/\∀k,k<d.length->w.cell? ⟨b,off+k,none⟩=some (.int .i64 ((d.getD k 0:Nat):Int)):=by
 obtain⟨b,off,u,A,C,E⟩:=h.cells I;refine⟨b,off,u,A,C,fun k j=>?_⟩;rw[E k j];simp[j]
def oK(w:World)(base:Nat)(v:Value)(l:List UInt8):Prop:=w.ownsRow base 5 1 v l.length (l.map fun c=>Value.int .u8 (c.toNat:Int))
theorem pA(l:List Nat)(x:Nat):dH (l++[x])=if x=0 then dH l else l++[x]:=by
 unfold dH;rw[List.reverse_append,List.reverse_singleton,List.singleton_append,List.dropWhile_cons];by_cases h:x=0
 ·rw[if_pos h,if_pos (by simpa using h)]
 ·rw[if_neg h,if_neg (by simpa using h)];simp
theorem lm(d:List Nat):dH d=d.take (dH d).length:=by
 have h:∀n (d:List Nat),d.length=n->dH d=d.take (dH d).length:=by
  intro n
  induction n with
  | zero=>intro d h;rw[List.length_eq_zero_iff.1 h];rfl
  | succ n ih =>
   intro d h;obtain⟨l,x,rfl⟩:∃l x,d=l++[x]:=⟨d.dropLast,d.getLast (by intro e;rw[e]at h;cases h),(List.dropLast_concat_getLast _).symm⟩;rw[pA]
   split
   ·have:=ih l (by simpa using h)
    conv=>lhs;rw[this]
    rw[List.take_append_of_le_length];have:=congrArg List.length this;rw[List.length_take]at this;omega
   ·rw[List.take_length]
 exact h _ d rfl
theorem iV(d:List Nat):(dH d).length<=d.length:=by
 have:=congrArg List.length (lm d);rw[List.length_take]at this;omega
theorem DgS.first{base:Nat}{w:World}{a:Option Addr}{e:Nat}{d:List Nat}(h:Ints w a d.length e (d.map fun(i:Nat)=>(i:Int)))(G:∀x,a=some x->base<=x.block)(n:Nat)(H:n<=d.length):DgS base w (.slice a n e) (d.take n):=by
 have j:(d.take n).length=n:=by rw[List.length_take];omega
 refine⟨a,e,by rw[j],⟨⟨by rw[j];exact Nat.le_trans H h.sl.le,by simp,h.sl.nil,fun x J=>?_⟩,by simp⟩,G⟩;obtain⟨u,A,C⟩:=h.sl.at_ x J;refine⟨u,A,fun i hi=>?_⟩;rw[j]at hi;rw[C i I];have E:i<n:=I;have F:i<d.length:=I;simp[E,F]
def gQ(l:List UInt8):Prop:=∀c∈l,c.toNat=45\/(48<=c.toNat/\c.toNat<=57)
def rG(l:List UInt8)(k:Nat):List Nat:=((l.drop k).reverse.filter (· != 45)).map fun b=>b.toNat-48
theorem digK_zero(l:List UInt8):dH (rG l 0)=dO l:=rfl
theorem digK_end(l:List UInt8):rG l l.length=[]:=by unfold rG;simp
theorem digK_step{l:List UInt8}{k:Nat}(i:k<l.length):rG l k=if(l.getD k 0).toNat=45 then rG l (k+1)else rG l (k+1)++[(l.getD k 0).toNat-48]:=by
 unfold rG;have e:(l.getD k 0 != 45)=!decide ((l.getD k 0).toNat=45):=by
  rw[bne,Bool.not_eq_eq_eq_not,Bool.not_not,Bool.eq_iff_iff,beq_iff_eq,decide_eq_true_iff]
  constructor
  ·intro h;rw[h];rfl
  ·intro h;exact UInt8.toNat_inj.mp (h.trans rfl)
 rw[List.drop_eq_getElem_cons i,List.reverse_cons,List.filter_append,List.map_append];have j:l.getD k 0=l[k]:=by simp[i]
 rw[<-j];rw[List.filter_cons,e];by_cases h:(l.getD k 0).toNat=45
 ·rw[if_pos h,decide_eq_true h];simp
 ·rw[if_neg h,decide_eq_false h];simp
theorem digK_le(l:List UInt8)(k:Nat):(rG l k).length<=l.length:=by
 unfold rG;rw[List.length_map];refine Nat.le_trans (List.length_filter_le _ _) ?_;rw[List.length_reverse,List.length_drop];omega
theorem kO(base:Nat)(v:Value)(d:List Nat)(w:World)(h:DgS base w v d)(hl:d.length<=1000000):
 Calls prog 185 #[v] w fun e w'=>(∃W,e=.returned W/\DgS base w W (dH d))/\w'=w:=by
 obtain⟨a,X,rfl,hi,R⟩:=h;obtain⟨F,Q⟩:=η2 hi R;clear hi R
 go_enter func185,ntmps185
 go_wp2
 go_loopw [3] (fun L wr=>∃k:Nat,k<=d.length/\L=.int .i64 (k:Nat)/\Hid (dH (d.take k)=dH d)/\wr=w) (fun L _=>(intOf L).toNat)
 case atStart=>exact⟨d.length,Nat.le_refl _,rfl,by show dH _=_;rw[List.take_length],rfl⟩
 case round =>
  obtain⟨k,Y,rfl,G,rfl⟩:=hrel;by_cases h0:k=0
  ·subst h0
   have ab:¬ (0:Int)<((0:Nat):Int):=I
   go_wp2_with fail
   go_ret;refine⟨⟨_,rfl,?_⟩,rfl⟩
   rw[<-G.o];exact DgS.first F.o Q.o 0 I
  ·obtain⟨j,rfl⟩:∃j,k=j+1:=⟨k-1,by omega⟩
   have aa:(0:Int)<((j+1:Nat):Int):=I;obtain⟨b,off,rfl,hb,hc,A⟩:=F.o.digit (i:=j) I;have J:=A j I;have C:j<d.length:=I;obtain⟨x,E⟩:=χ (d.getD j 0);rw[E]at J;have HX:=O E;have U:Hid (dH (d.take (j+1))=if x=0 then dH (d.take j)else d.take (j+1)):=by
    show _=_;have e:d.take (j+1)=d.take j++[x]:=by
     rw[List.take_succ_eq_append_getElem C,<-E];simp[C]
    rw[e,pA]
   clear A E;by_cases u:x=0
   ·subst u
    go_wp2_with fail
    go_round
    case rel=>exact⟨j,by omega,rfl,by show dH _=_;rw[<-G.o,U.o,if_pos rfl],trivial⟩
    case measure=>simp[intOf]
   ·have ac:((x:Int) == 0)=false:=by rw[beq_eq_false_iff_ne];omega
    have H:=O u;clear u
    go_wp2_with fail
    go_ret;refine⟨⟨_,rfl,?_⟩,rfl⟩
    rw[<-G.o,U.o,if_neg H.o];exact DgS.first F.o Q.o (j+1) Y
theorem fk(l:List UInt8)(w:World)(hl:l.length<=1000)(hn:gQ l):
 Calls prog 147 #[.string ⟨l.toArray⟩] w fun e w'=>(∃X,e=.returned X/\DgS w.heap.size w' X (dO l))/\Bl w w':=by
 obtain⟨i0,Y,ag,an,ao⟩:=info_parts sF;obtain⟨S,hS⟩:∃S:ByteArray,⟨l.toArray⟩=S:=⟨_,rfl⟩;have U:S.size=l.length:=by rw[<-hS];rfl
 have E:∀k (h:k<S.size),S[k]=l.getD k 0:=by
  subst hS;intro k h;have h':k<l.length:=h;simp[h'];rfl
 obtain⟨L,HN⟩:=η2 E hn;rw[hS];clear E hn hS
 go_enter func147,ntmps147
 go_wp2_with fail
 go_loopw [3,4] (fun ov W wr=>∃k:Nat,k<=l.length/\W=.int .i64 ((k:Int)-1)/\Hid (bo wr w.heap.size ov (rG l k))/\Hid (Bl w wr)) (fun _ W _=>(intOf W+1).toNat)
 case atStart=>exact⟨l.length,Nat.le_refl _,by simp[U],by show bo _ _ _ _;rw[digK_end];exact World.ownsRow_nil _ _ _ _,Below.refl _ _⟩
 case round =>
  obtain⟨k,hk,rfl,G,F⟩:=hrel;obtain⟨wk,rfl⟩:=φ wr;by_cases h0:k=0
  ·subst h0
   have ad:¬ (0:Int)<=((0:Nat):Int)-1:=I;have HD:=O G.o.dg;obtain⟨a,aa,rfl,-⟩:=G.o.ints
   go_wp2_with fail
   refine(kO _ _ _ _ HD.o (by have:=digK_le l 0;omega)).mono ?_;rintro e w1 ⟨⟨X,rfl,hv⟩,rfl⟩
   go_wp2_with fail
   go_ret;exact⟨⟨_,rfl,by rw[<-digK_zero];exact hv⟩,F.o⟩
  ·obtain⟨j,rfl⟩:∃j,k=j+1:=⟨k-1,by omega⟩
   have ab:(0:Int)<=((j+1:Nat):Int)-1:=I;have hj:j<S.size:=I;obtain⟨u,H⟩:=χ ((l.getD j 0).toNat);have hx:(((S[j]'hj).toNat:Nat):Int)=(u:Int):=by rw[L.o j hj,H]
   have A:=digK_step (l:=l) (k:=j) I;rw[H]at A;have af:u=45\/(48<=u/\u<=57):=by
    rw[<-H];refine HN.o _ ?_;rw[List.getD_eq_getElem?_getD,List.getElem?_eq_getElem (show j<l.length by omega)];exact List.getElem_mem _
   have C:=O A;clear H A;by_cases i:u=45
   ·subst i
    go_wp2_with fail
    go_round
    case rel=>exact⟨j,by omega,rfl,by show bo _ _ _ _;rw[C.o,if_pos rfl];exact G.o,F.o⟩
    case measure=>simp[intOf]
   ·have ac:((u:Int) != 45)=true:=by rw[bne_iff_ne];omega
    have HC:=O (show(u:Int)-48=((u-48:Nat):Int) by omega);obtain⟨HK,J⟩:=η2 (digK_le l (j+1)) i;clear i
    go_wp2_with (at_builtin;refine dG rfl _ _ rfl rfl G.o (u-48) (congrArg (fun z=>#[Value.int .i64 z]) HC.o) rfl (ψ HK.o) F.o F.o.size ?_)
    intro v1 w1 ho hb;obtain⟨R,Q⟩:=η2 ho hb;clear ho hb
    go_wp2_with fail
    go_round
    case rel=>exact⟨j,by omega,rfl,by show bo _ _ _ _;rw[C.o,if_neg J.o];exact R.o,Q.o⟩
    case measure=>simp[intOf]
theorem ik(l:List UInt8)(w:World)(h0:0<l.length):Calls prog 143 #[.string ⟨l.toArray⟩] w fun e w'=>e=.returned (.int .i64 (dD l))/\w'=w:=by
 obtain⟨S,hS⟩:∃S:ByteArray,⟨l.toArray⟩=S:=⟨_,rfl⟩;have i:0<S.size:=by rw[<-hS];exact h0
 rw[hS];have A:S.toList=l:=by rw[<-hS,ByteArray.toList_mk]
 by_cases j:l=[48]
 ·have E:(S.toList == [48])=true:=by rw[A,j];rfl
  clear A
  go_enter func143,ntmps143
  go_wp2_with fail
  go_ret;exact⟨by unfold dD;rw[if_pos j];rfl,rfl⟩
 ·have E:(S.toList == [48])=false:=by rw[A,beq_eq_false_iff_ne];exact j
  clear A;have C:S[0]'i=l.headD 0:=by
   subst hS
   cases l with
   | nil=>cases h0
   | cons x y=>rfl
  by_cases u:l.headD 0=45
  ·have hc:(((S[0]'i).toNat:Int) == 45)=true:=by rw[C,u];rfl
   clear C
   go_enter func143,ntmps143
   go_wp2_with fail
   go_ret;exact⟨by unfold dD;rw[if_neg j,if_pos u];rfl,rfl⟩
  ·have hc:(((S[0]'i).toNat:Int) == 45)=false:=by
    rw[C,beq_eq_false_iff_ne];intro e;exact u (UInt8.toNat_inj.mp (show(l.headD 0).toNat=45 by omega))
   clear C
   go_enter func143,ntmps143
   go_wp2_with fail
   go_ret;exact⟨by unfold dD;rw[if_neg j,if_neg u];rfl,rfl⟩
theorem info5:(prog.info? 5).map (fun i=>(i.zero,i.size,i.bytes))=some (some (.int .u8 0),1,1):=by kernel_rfl
theorem oK.text{w:World}{base:Nat}{v:Value}{T:List UInt8}(h:oK w base v T)(h0:T≠[]):∃g c,v=.slice (some ⟨g,0,none⟩) T.length c/\(convert 247 9 (.slice (some ⟨g,0,none⟩) T.length c)).run prog w=.ok (.string ⟨T.toArray⟩) w:=by
 have E:=h;obtain⟨G,⟨rfl,F⟩|⟨g,i,A,rfl,r⟩⟩:=h
 ·exact absurd (List.length_eq_zero_iff.1 F) h0
 ·refine⟨g,i,rfl,run_convert_bytes_back w 247 9 5 ⟨g,0,none⟩ i T underlying247 underlying5 underlying9 fun j u=>?_⟩
  have e:=World.ownsRow.cellAt E j (by rw[Nat.mul_one];exact u);have C:(⟨g,0,none⟩:Addr).add j=⟨g,j,none⟩:=by simp[Addr.add];exact fun h=>h.symm
  rw[C,e];simp[u]
theorem nM{A:Array Oper}{rest:List Oper}{o:Oper}{a:Act}{Q:Exit->Act->World->Prop}{e:World}{c:Array Value}(F:o.guard=none)(s x:Operand)(Y:o.op=.call { callee:=.builtin .append,args:=#[s,x],argTypes:=#[247,247] }){w0:World}{base:Nat}{v:Value}{l:List UInt8}(hs:a.eval s=v)(R:oK e base v l)(n:UInt8)(hc:c=#[.int .u8 (n.toNat:Int)])(hx:a.eval x=.slice (some ⟨e.heap.size,0,none⟩) 1 1)(hl:l.length<=1000000)(W:Below base w0 e)(hb:base<=e.heap.size)(h:∀C w',oK w' base C (l++[n])->Below base w0 w'->wpList prog A Q rest (a.put o.dst C) w'):wpList prog A Q (o::rest) a (e.alloc (.cells c 5)):=by
 obtain⟨i0,i,H,J,L⟩:=info_parts info5;subst hc;refine Go.wpList_append_own _ F s x 247 Y base 5 i0 (.int .u8 0) 1 1 underlying247 i H J L rfl ν v l.length _ hs (World.ownsRow.alloc R _) ⟨e.heap.size,0,none⟩ 1 1 [.int .u8 (n.toNat:Int)] hx rfl (fun j u X=>fD e _ _ j u X) (by intro u U;simp at U;rw[U];rfl) (by unfold maxLen;omega) I (by simp;omega) ?_;intro C w1 G E _;exact h C w1 (by unfold oK;simpa using G) ((W.alloc hb _).grown E (by simp;omega) (cz R))
theorem ij(neg:Bool)(base:Nat)(v:Value)(d:List Nat)(w:World)(h:DgS base w v d)(hl:d.length<=1000)(h9:∀x∈d,x<=9):
 Calls prog 148 #[.bool neg,v] w fun e w'=>e=.returned (.string ⟨(df neg d).toArray⟩)/\Bl w w':=by
 obtain⟨HT,HL⟩:=η2 (kO base v d w h I) (iV d);have F:∀x∈dH d,x<=9:=fun x H=>h9 x (by rw[lm]at H;exact List.mem_of_mem_take H)
 obtain⟨a,au,rfl,-⟩:=h;obtain⟨D,hD⟩:=χ (dH d);rw[hD]at HT HL F;obtain⟨HD,H9⟩:=η2 hD F;clear hD h9 F
 go_enter func148,ntmps148
 go_wp2_with fail
 refine HT.o.mono ?_;rintro e w1 ⟨⟨v',rfl,a1,c1,rfl,hi,-⟩,hw⟩;rw[hw];clear hw w1;have HI:=O hi;clear hi HT;by_cases h0:D.length=0
 ·have ao:D=[]:=List.length_eq_zero_iff.1 h0
  have ap:((D.length:Int) == 0)=true:=by rw[beq_iff_eq];omega
  go_wp2_with fail
  go_ret;exact⟨by unfold df;rw[HD.o,if_pos ao];rfl,Below.refl _ _⟩
 have ap:((D.length:Int) == 0)=false:=by rw[beq_eq_false_iff_ne];omega
 have L:=O h0;have aw:D.length<=1000:=by have:=HL.o;omega
 have U:∀b:Bool,b=neg->∃s,s=(if b then[45] else[]:List UInt8)/\s.length<=1:=fun b _=>⟨_,rfl,by cases b<;>simp⟩
 obtain⟨J,ab,ac⟩:=U neg rfl;obtain⟨W,an⟩:=η2 ab ac;clear h0 U ab ac;have key:∀(b:Bool) (k:Nat),k<=D.length->((D.drop k).reverse.map fun x=>UInt8.ofNat (48+x)).length=D.length-k:=fun _ k _=>by simp
 have step:∀k,k<D.length->(D.drop k).reverse.map (fun x=>UInt8.ofNat (48+x))=(D.drop (k+1)).reverse.map (fun x=>UInt8.ofNat (48+x))++[UInt8.ofNat (48+D.getD k 0)]:=fun k hk=>by
  rw[List.drop_eq_getElem_cons hk,List.reverse_cons,List.map_append];simp[hk]
 obtain⟨HK,HS⟩:=η2 key step;clear key step;have start:∀(b:Bool) (v:Value) (w2:World),oK w2 w.heap.size v (if b then[45] else[])->b=neg->Hid (oK w2 w.heap.size v (J++(D.drop D.length).reverse.map fun x=>UInt8.ofNat (48+x))):=fun b v w2 h e=>by
  show oK _ _ _ _;rw[List.drop_length,W.o,<-e]
  simpa using h
 have i:=O start;clear start;cases neg
 case' false =>
  have A:=i.o false (.slice none 0 0) w (World.ownsRow_nil _ _ _ _) rfl;have u:=O (Below.refl w.heap.size w)
  go_wp2_with fail
 case' true =>
  go_wp2_with (at_builtin;refine nM rfl _ _ rfl rfl (show oK w w.heap.size (.slice none 0 0) [] from World.ownsRow_nil _ _ _ _) 45 rfl rfl ν (Below.refl w.heap.size w) ρ ?_)
  intro v2 w2 ho hb;have A:=i.o true v2 w2 ho rfl;have u:=O hb;clear ho hb
  go_wp2_with fail
 all_goals
  go_loopw [5,6] (fun ov iv wr=>∃k:Nat,k<=D.length/\iv=.int .i64 ((k:Int)-1)/\Hid (oK wr w.heap.size ov (J++(D.drop k).reverse.map fun x=>UInt8.ofNat (48+x)))/\Hid (Bl w wr)) (fun _ iv _=>(intOf iv+1).toNat)
  case atStart=>exact⟨D.length,Nat.le_refl _,rfl,A.o,u.o⟩
  case round =>
   clear A u;obtain⟨k,hk,rfl,A,u⟩:=hrel;obtain⟨wk,rfl⟩:=φ wr;have Q:=O (HK.o true k hk);by_cases h0:k=0
   ·subst h0
    have az:¬ (0:Int)<=((0:Nat):Int)-1:=I;obtain⟨T,C⟩:=χ (J++(D.drop 0).reverse.map (fun x=>UInt8.ofNat (48+x)));rw[C]at A;obtain⟨g,c,rfl,kc⟩:=oK.text A.o (by
     intro e;rw[<-C]at e;have:=congrArg List.length e;rw[List.length_append,Q.o]at this;exact L.o (by have:J.length+(D.length-0)=0:=this;omega))
    have E:=O C;clear C
    go_wp2_with fail
    go_ret;refine⟨?_,u.o⟩
    rw[<-E.o,W.o];unfold df;rw[HD.o,if_neg (show ¬ D=[] from fun e=>L.o (by rw[e];rfl))]
    rfl
   ·obtain⟨j,rfl⟩:∃j,k=j+1:=⟨k-1,by omega⟩
    have ay:(0:Int)<=((j+1:Nat):Int)-1:=I;have hj:j<D.length:=I;obtain⟨b,off,rfl,hb,hc,Y⟩:=(HI.o.below u.o).digit hj;have ar:=Y j hj;obtain⟨x,H⟩:=χ (D.getD j 0);have a0:x<=9:=by
     rw[<-H];refine H9.o _ ?_;rw[List.getD_eq_getElem?_getD,List.getElem?_eq_getElem hj];exact List.getElem_mem _
    rw[H]at ar;have i:=O (HS.o j hj);have av:IntKind.u8.wrap (48+(x:Int))=48+(x:Int):=by rw[IntKind.wrap_u8];omega
    have HC:=O (show 48+(x:Int)=((UInt8.ofNat (48+x)).toNat:Int) by rw[UInt8.toNat_ofNat'];omega);have HX:=O H;have R:=O (show(J++(D.drop (j+1)).reverse.map fun x=>UInt8.ofNat (48+x)).length<=2000 from by rw[List.length_append,Q.o];have:=an.o;have:=HL.o;omega);obtain⟨T,C⟩:=χ (J++(D.drop (j+1)).reverse.map (fun x=>UInt8.ofNat (48+x)));obtain⟨cU,G⟩:=χ (UInt8.ofNat (48+x));rw[C]at A R;rw[G]at HC;obtain⟨E,af⟩:=η2 C G;clear Y H h0 C G
    go_wp2_with (at_builtin;refine nM rfl _ _ rfl rfl A.o cU (congrArg (fun z=>#[Value.int .u8 z]) HC.o) rfl (ψ R.o) u.o u.o.size ?_)
    intro v3 w3 aa X;have ag:=O (show oK w3 w.heap.size v3 (J++(D.drop j).reverse.map fun x=>UInt8.ofNat (48+x))from by rw[i.o,HX.o,<-List.append_assoc,E.o,af.o];exact aa);have ad:=O X;clear aa X
    go_wp2_with fail
    go_round
    case rel=>exact⟨j,by omega,rfl,ag.o,ad.o⟩
    case measure=>simp[intOf]
theorem iQ{a:List Nat}{k:Nat}(e:k<a.length):(a.take (k+1)).reverse=a.getD k 0::(a.take k).reverse:=by
 rw[List.take_succ_eq_append_getElem e,List.reverse_append];simp[e]
theorem lexD_step{a b:List Nat}{k:Nat}(e:k<a.length)(i:k<b.length):j7 (a.take (k+1)).reverse (b.take (k+1)).reverse=if a.getD k 0<b.getD k 0 then -1 else if b.getD k 0<a.getD k 0 then 1 else j7 (a.take k).reverse (b.take k).reverse:=by
 rw[iQ e,iQ i,j7]
theorem subD_len:∀(a b:List Nat) (c:Nat),(iL a b c).length=a.length
 | [],_,_=>rfl
 | x::a,b,c=>by
  unfold iL
  split<;>simp[subD_len]
theorem rN:∀(a b:List Nat) (c:Nat),(∀x∈a,x<=9)->∀x∈iL a b c,x<=9
 | [],_,_,_=>fun x i=>by simp[iL]at i
 | x::a,b,c,h=>by
  have i:=h x (by simp);have j:=fun c=>rN a b.tail c fun y e=>h y (by simp[e])
  unfold iL
  split
  ·intro y e
   rcases List.mem_cons.mp e with rfl|e
   ·omega
   ·exact j 1 y e
  ·intro y e
   rcases List.mem_cons.mp e with rfl|e
   ·omega
   ·exact j 0 y e
theorem ku{d:List Nat}{x:Nat}(h:x∈dH d):x∈d:=by
 rw[lm]at h;exact List.mem_of_mem_take h
theorem minusD_nine{a b:List Nat}(h:∀x∈a,x<=9):∀x∈lD a b,x<=9:=fun x e=>rN a b 0 h x (ku e)
theorem minusD_len(a b:List Nat):(lD a b).length<=a.length:=by
 have:=iV (iL a b 0);rw[subD_len]at this;exact this
theorem tail_drop(b:List Nat)(k:Nat):(b.drop k).tail=b.drop (k+1):=by rw[List.tail_drop]
theorem headD_drop(b:List Nat)(k:Nat):(b.drop k).headD 0=b.getD k 0:=by
 rw[List.headD_eq_head?_getD,List.head?_drop,List.getD_eq_getElem?_getD]
theorem subD_step{a b:List Nat}{k c:Nat}(e:k<a.length):iL (a.drop k) (b.drop k) c =
 if(a.getD k 0:Int)-c-b.getD k 0<0 then((a.getD k 0:Int)-c-b.getD k 0+10).toNat::iL (a.drop (k+1)) (b.drop (k+1)) 1 else((a.getD k 0:Int)-c-b.getD k 0).toNat::iL (a.drop (k+1)) (b.drop (k+1)) 0:=by
 rw[List.drop_eq_getElem_cons e,iL,headD_drop,tail_drop];simp[e]
theorem kK{d:List Nat}(h:∀x∈d,x<=9)(k:Nat):d.getD k 0<=9:=by
 rw[List.getD_eq_getElem?_getD];by_cases e:k<d.length
 ·rw[List.getElem?_eq_getElem e];exact h _ (List.getElem_mem e)
 ·rw[List.getElem?_eq_none I];exact Nat.zero_le _
theorem dorder_any(b1 b2:Nat)(v u:Value)(a b:List Nat)(w:World)(ha:DgS b1 w v a)(hb:DgS b2 w u b)(h1:a.length<=1000)(h2:b.length<=1000):
 Calls prog 186 #[v,u] w fun e w'=>e=.returned (.int .i64 (gP a b))/\Bl w w':=by
 obtain⟨p,cp,rfl,hi,-⟩:=ha;obtain⟨q,cq,rfl,hj,-⟩:=hb;by_cases hl:a.length<b.length
 ·have R:((a.length:Int) != (b.length:Int))=true:=by rw[bne_iff_ne];omega
  have H:(a.length:Int)<(b.length:Int):=I;clear hi hj
  go_enter func186,ntmps186
  go_wp2_with fail
  go_ret;exact⟨by unfold gP;rw[if_pos hl];rfl,Below.refl _ _⟩
 by_cases G:b.length<a.length
 ·have R:((a.length:Int) != (b.length:Int))=true:=by rw[bne_iff_ne];omega
  have H:¬ (a.length:Int)<(b.length:Int):=I;clear hi hj
  go_enter func186,ntmps186
  go_wp2_with fail
  go_ret;exact⟨by unfold gP;rw[if_neg hl,if_pos G];rfl,Below.refl _ _⟩
 have he:b.length=a.length:=I;have HE:gP a b=j7 a.reverse b.reverse:=by unfold gP;rw[if_neg hl,if_neg G]
 obtain⟨HI,HJ⟩:=η2 hi hj;obtain⟨r,hr⟩:=χ (j7 a.reverse b.reverse);rw[HE,hr];have HR:=O hr;rw[he];have R:((a.length:Int) != (a.length:Int))=false:=by simp
 have L:=O he;clear hl G HE hr hi hj he h2
 go_enter func186,ntmps186
 go_wp2_with fail
 go_loopw [4,5] (fun rv iv wr=>∃k:Nat,rv=rv/\k<=a.length/\iv=.int .i64 ((k:Int)-1)/\Hid (j7 (a.take k).reverse (b.take k).reverse=r)/\Hid (Bl w wr)) (fun _ iv _=>(intOf iv+1).toNat)
 case atStart=>exact⟨a.length,rfl,Nat.le_refl _,rfl,by show j7 _ _=_;rw[List.take_length,<-L.o,List.take_length];exact HR.o,Below.refl _ _⟩
 case round =>
  obtain⟨k,-,hk,rfl,HT,J⟩:=hrel;by_cases h0:k=0
  ·subst h0
   have an:¬ (0:Int)<=((0:Nat):Int)-1:=I
   go_wp2_with fail
   go_ret;exact⟨by rw[<-HT.o];rfl,J.o⟩
  ·obtain⟨j,rfl⟩:∃j,k=j+1:=⟨k-1,by omega⟩
   have ag:(0:Int)<=((j+1:Nat):Int)-1:=I;have F:j<a.length:=I;have i:j<b.length:=by have:=L.o;omega
   obtain⟨b1,o1,rfl,ad,aa,A⟩:=(HI.o.below J.o).digit F;obtain⟨b2,o2,rfl,af,ab,C⟩:=(HJ.o.below J.o).digit i;have hx:=A j F;have hy:=C j i;have HS:=O (lexD_step F i);have Q:=HT.o;rw[HS.o]at Q;obtain⟨x,U⟩:=χ (a.getD j 0);obtain⟨y,X⟩:=χ (b.getD j 0);rw[U]at hx Q;rw[X]at hy Q;have E:=O Q;clear A C U X Q HS h0 aa ab i;by_cases W:x<y
   ·have H:(x:Int)<(y:Int):=I
    go_wp2_with fail
    go_quiet (fail)
    go_wp2_with fail
    go_ret;exact⟨by rw[<-E.o,if_pos I];rfl,aF J.o _⟩
   ·have H:¬ (x:Int)<(y:Int):=I
    by_cases Y:y<x
    ·have ac:(y:Int)<(x:Int):=I
     go_wp2_with fail
     go_quiet (fail)
     go_wp2_with fail
     go_quiet (fail)
     go_wp2_with fail
     go_ret;exact⟨by rw[<-E.o,if_neg I,if_pos I];rfl,aF (aF J.o _) _⟩
    ·have ac:¬ (y:Int)<(x:Int):=I
     have H3:=O (show ¬ x<y/\¬ y<x from⟨W,Y⟩);clear W Y
     go_wp2_with fail
     go_quiet (fail)
     go_wp2_with fail
     go_quiet (fail)
     go_wp2_with fail
     go_roundw
     case rel=>exact⟨j,trivial,by omega,rfl,by show j7 _ _=_;rw[<-E.o,if_neg H3.o.1,if_neg H3.o.2],aF J.o _⟩
     case measure=>simp[intOf]
theorem dminus_any(b1 b2:Nat)(v u:Value)(a b:List Nat)(w:World)(ha:DgS b1 w v a)(hb:DgS b2 w u b)(h1:a.length<=1000)(h2:b.length<=1000)(ab:∀x∈a,x<=9)(ad:∀x∈b,x<=9):
 Calls prog 187 #[v,u] w fun e w'=>(∃v',e=.returned v'/\DgS w.heap.size w' v' (lD a b))/\Bl w w':=by
 obtain⟨p,cp,rfl,hi,-⟩:=ha;obtain⟨q,cq,rfl,hj,-⟩:=hb;obtain⟨HI,HJ,HA,aw⟩:=η4 hi hj ab ad;clear hi hj ab ad
 go_enter func187,ntmps187
 go_wp2_with fail
 go_loopw [5,6,7] (fun ov bv iv wr=>∃(k c:Nat) (l:List Nat),k<=a.length/\c<=1/\iv=.int .i64 (k:Nat)/\bv=.int .i64 (c:Nat)/\Hid (l.length=k/\l++iL (a.drop k) (b.drop k) c=iL a b 0)/\Hid (bo wr w.heap.size ov l)/\Hid (Bl w wr)) (fun _ _ iv _=>a.length-(intOf iv).toNat)
 case atStart=>exact⟨0,0,[],by omega,by omega,rfl,rfl,⟨rfl,rfl⟩,World.ownsRow_nil _ _ _ _,Below.refl _ _⟩
 case round =>
  obtain⟨k,c,l,hk,a4,rfl,rfl,HL,HO,G⟩:=hrel;obtain⟨wk,rfl⟩:=φ wr;by_cases h0:k=a.length
  ·have a6:¬ (k:Int)<(a.length:Int):=I
   have an:l=iL a b 0:=by
    have:=HL.o.2;rw[h0,List.drop_length]at this;rw[<-this,iL,List.append_nil]
   obtain⟨HD,ay,F⟩:=η3 HO.o.dg an HL.o.1;obtain⟨ap,a2,rfl,-⟩:=HO.o.ints;clear h0 an
   go_wp2_with fail
   refine(kO _ _ _ _ HD.o (ψ F.o)).mono ?_;rintro e w1 ⟨⟨v',rfl,hv⟩,ar⟩;rw[ar];clear ar w1;have HV:=O hv;clear hv
   go_wp2_with fail
   go_ret;exact⟨⟨_,rfl,by unfold lD;rw[<-ay.o];exact HV.o⟩,G.o⟩
  ·have a5:(k:Int)<(a.length:Int):=I
   have Y:k<a.length:=I;obtain⟨b1,o1,rfl,a3,az,U⟩:=(HI.o.below G.o).digit Y;have hx:=U k Y;have a0:=kK HA.o k;have a1:=kK aw.o k;have L:=subD_step (a:=a) (b:=b) (c:=c) Y;have Q:¬ k<b.length->b.getD k 0=0:=fun h=>by rw[List.getD_eq_getElem?_getD,List.getElem?_eq_none I];rfl
   have R:k<b.length->∃b2 o2,q=some ⟨b2,o2,none⟩/\b2<wk.heap.size/\wk.cell? ⟨b2,o2+k,none⟩=some (.int .i64 ((b.getD k 0:Nat):Int)):=fun h=>by
    obtain⟨b2,o2,e2,ac,-,af⟩:=(HJ.o.below G.o).digit h;exact⟨b2,o2,e2,ac,af k h⟩
   obtain⟨x,au⟩:=χ (a.getD k 0);obtain⟨y,av⟩:=χ (b.getD k 0);rw[au]at hx a0 L;rw[av]at a1 L Q R;have J:=O L;have F:=O (show l.length<=1000000 from by have:=HL.o.1;omega);clear U au av L h0 az;have aa:∀(n d:Nat),iL (a.drop k) (b.drop k) c=n::iL (a.drop (k+1)) (b.drop (k+1)) d->Hid ((l++[n]).length=k+1/\(l++[n])++iL (a.drop (k+1)) (b.drop (k+1)) d=iL a b 0):=fun n d e=>⟨by rw[List.length_append,HL.o.1];rfl,by rw[List.append_assoc,List.singleton_append,<-e];exact HL.o.2⟩
   have H:=O aa;clear aa;by_cases ag:k<b.length
   ·have ao:(k:Int)<(b.length:Int):=I
    obtain⟨b2,o2,rfl,ac,hy⟩:=R ag;clear Q R;by_cases hn:(x:Int)-c-y<0
    ·obtain⟨n,j⟩:=χ (((x:Int)-c-y+10).toNat)
     have W:=O (show(x:Int)-c-y+10=((n:Nat):Int) by omega);have X:=O (H.o n 1 (by rw[J.o,if_pos hn,j]));clear j
     go_wp2_with (at_builtin;refine dG rfl _ _ rfl rfl HO.o n (congrArg (fun z=>#[Value.int .i64 z]) W.o) rfl F.o G.o G.o.size ?_)
     intro v3 w3 A i;obtain⟨E,C⟩:=η2 A i;clear A i
     go_wp2_with fail
     go_round
     case rel=>exact⟨k+1,1,_,by omega,by omega,rfl,rfl,X.o,E.o,C.o⟩
     case measure=>simp[intOf];omega
    ·obtain⟨n,j⟩:=χ (((x:Int)-c-y).toNat)
     have W:=O (show(x:Int)-c-y=((n:Nat):Int) by omega);have X:=O (H.o n 0 (by rw[J.o,if_neg hn,j]));clear j
     go_wp2_with (at_builtin;refine dG rfl _ _ rfl rfl HO.o n (congrArg (fun z=>#[Value.int .i64 z]) W.o) rfl F.o G.o G.o.size ?_)
     intro v3 w3 A i;obtain⟨E,C⟩:=η2 A i;clear A i
     go_wp2_with fail
     go_round
     case rel=>exact⟨k+1,0,_,by omega,by omega,rfl,rfl,X.o,E.o,C.o⟩
     case measure=>simp[intOf];omega
   ·have ao:¬ (k:Int)<(b.length:Int):=I
    obtain rfl:=Q ag;clear Q R;have hz:(x:Int)-c-(0:Nat)=(x:Int)-c:=I;by_cases hn:(x:Int)-c<0
    ·obtain⟨n,j⟩:=χ (((x:Int)-c+10).toNat)
     have W:=O (show(x:Int)-c+10=((n:Nat):Int) by omega);have X:=O (H.o n 1 (by rw[J.o,hz,if_pos hn,j]));clear j;clear hz
     go_wp2_with (at_builtin;refine dG rfl _ _ rfl rfl HO.o n (congrArg (fun z=>#[Value.int .i64 z]) W.o) rfl F.o G.o G.o.size ?_)
     intro v3 w3 A i;obtain⟨E,C⟩:=η2 A i;clear A i
     go_wp2_with fail
     go_round
     case rel=>exact⟨k+1,1,_,by omega,by omega,rfl,rfl,X.o,E.o,C.o⟩
     case measure=>simp[intOf];omega
    ·obtain⟨n,j⟩:=χ (((x:Int)-c).toNat)
     have W:=O (show(x:Int)-c=((n:Nat):Int) by omega);have X:=O (H.o n 0 (by rw[J.o,hz,if_neg hn,j]));clear j;clear hz
     go_wp2_with (at_builtin;refine dG rfl _ _ rfl rfl HO.o n (congrArg (fun z=>#[Value.int .i64 z]) W.o) rfl F.o G.o G.o.size ?_)
     intro v3 w3 A i;obtain⟨E,C⟩:=η2 A i;clear A i
     go_wp2_with fail
     go_round
     case rel=>exact⟨k+1,0,_,by omega,by omega,rfl,rfl,X.o,E.o,C.o⟩
     case measure=>simp[intOf];omega
end Go.Proofs.Υ
