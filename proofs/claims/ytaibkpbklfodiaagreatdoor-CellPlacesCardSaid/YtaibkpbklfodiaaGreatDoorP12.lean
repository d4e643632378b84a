/- A set of masks as a map; the planes of the faces. Package cell: planes. -/
import Derived.Test.YtaibkpbklfodiaaGreatDoorP11
import Derived.Maps.Own
import Derived.Maps.Views
set_option linter.all false
set_option maxHeartbeats 100000000
section
namespace Dowel
open Go Go.RowKit
open Go.Maps (Keyed int_keyed keyOf_int_mk)
def jS (P:Program) (w:World) (kt et:TypeId) (b n:Nat) (S:List Nat):Prop:=
 ∃ D:DataW Unit,w.ownsMap P kt (plainElem P et) b n D∧Go.Maps.IsMap D∧∀ key:Nat,key<18446744073709551616→D.atKey (.int .u64 (key:Int)) (.lit (.bool false))=.lit (.bool (decide (key ∈ S)))
theorem jS.made (P:Program) (w:World) (kt et:TypeId):jS P (w.alloc (.map #[] 0)) kt et w.heap.size 0 []:=
 ⟨.map [],World.ownsMap_made _ _ _ _,⟨_,rfl⟩,fun key _=>by simp [DataW.atKey]⟩
theorem jS.below {P:Program} {w w':World} {kt et:TypeId} {b n:Nat} {S:List Nat} (h:jS P w kt et b n S) (hb:Below w.heap.size w w'):jS P w' kt et b n S:=by
 obtain ⟨D,ho,hm,hk⟩:=h;have hl:=ho.lt;obtain ⟨es,clock,h1,h2⟩:=ho;exact ⟨D,⟨es,clock,by rw [hb.block b hl];exact h1,h2⟩,hm,hk⟩
theorem jE {P:Program} {e:TypeId} (he:P.underlying e=some .bool) {v:Value} {z:DataW Unit × List MemPlace} (h:plainElem P e v=some z):∃ a,v=.bool a∧z=(.lit (.bool a),[]):=by
 unfold plainElem at h;rw [he] at h;cases v <;> simp at h
 exact ⟨_,rfl,h.symm⟩
theorem u64_wf (key:Nat) (h:key<18446744073709551616):(Lit.int .u64 (key:Int)).wf=true:=by
 simp only [Lit.wf,Bool.and_eq_true,decide_eq_true_eq];refine ⟨?_,?_⟩
 ·show (0:Int)≤key;omega
 ·show (key:Int)≤18446744073709551615;omega
theorem jS.lookup {P:Program} {w:World} {kt et t:TypeId} {b n:Nat} {S:List Nat} (h:jS P w kt et b n S) (hk:P.underlying kt=some (.int .u64)) (he:P.underlying et=some .bool) (ht:P.underlying t=some (.map kt et))
  (hz:(zeroValue et).run P w=.ok (.bool false) w) (key:Nat) (hkey:key<18446744073709551616) :
  (Instr.lookup t (.map (some b)) (.int .u64 (key:Int)) false).run P w=.ok (.bool (decide (key ∈ S))) w:=by
 obtain ⟨D,ho,_,ha⟩:=h;obtain ⟨v,ps,hrun,hv⟩:=ho.lookup (int_keyed hk) ht hz (plainElem_bool he false) (keyOf_int_mk hk (u64_wf key hkey));obtain ⟨x,rfl,hx⟩:=jE he hv;rw [ha key hkey] at hx;have:decide (key ∈ S)=x:=by simpa using (Prod.mk.inj hx).1
 rw [hrun,this]
theorem jS.put {D:DataW Unit} {S:List Nat} (hm:Go.Maps.IsMap D) (ha:∀ key:Nat,key<18446744073709551616→D.atKey (.int .u64 (key:Int)) (.lit (.bool false))=.lit (.bool (decide (key ∈ S)))) (k0:Nat) (h0:k0<18446744073709551616) :
  ∀ key:Nat,key<18446744073709551616→(D.put (.int .u64 (k0:Int)) (.lit (.bool true))).atKey (.int .u64 (key:Int)) (.lit (.bool false))=.lit (.bool (decide (key ∈ k0 :: S))):=by
 intro key hkey;by_cases he:key=k0
 ·subst he
  rw [Go.Maps.atKey_put_same hm]
  ·simp
  ·exact True.intro
 ·rw [Go.Maps.atKey_put_other (by intro e;injection e with _ e;omega),ha key hkey]
  simp [he]
structure PlaneI (P:Nat→V) (N:Nat) (l:List (V × Nat)) (Q:Nat→Nat→Nat→Prop):Prop where
 face:∀ p ∈ l,∃ b,Face P N p.1 b∧p.2=cH P N p.1 b
 nodup:(l.map Prod.snd).Nodup
 all:∀ i j m,m<j→j<i→i<N→Q i j m→∀ n,eR P N i j m n→cH P N n i ∈ l.map Prod.snd
theorem eR.face {P:Nat→V} {N i j m:Nat} {n:V} (h:eR P N i j m n) (h1:m<j) (h2:j<i) (h3:i<N):Face P N n i:=
 ⟨⟨i,j,m,h1,h2,h3,h.1,h.2.1,fun _=>rfl⟩,h.2.2.1⟩
theorem onMask_base {P:Nat→V} {N:Nat} {n:V} {i b:Nat} (h:∀ w,V.dot n (w - P i)=V.dot n (w - P b)):cH P N n i=cH P N n b:=
 ip _ _ _ fun q _=>by rw [h]
theorem eR.unique {P:Nat→V} {N i j m:Nat} {n n':V} (h:eR P N i j m n) (h':eR P N i j m n'):n=n':=by
 obtain ⟨_,hn,ha,q,hq,hp⟩:=h;obtain ⟨_,hn',ha',q',hq',hp'⟩:=h'
 rcases hn with rfl | rfl <;> rcases hn' with rfl | rfl
 ·rfl
 ·have:=ha' q hq;rw [bo] at this;omega
 ·have:=ha q' hq';rw [bo] at this;omega
 ·rfl
theorem PlaneI.start (P:Nat→V) (N:Nat):PlaneI P N [] (fun _ _ _=>False):=⟨by simp,by simp,fun _ _ _ _ _ _ h=>h.elim⟩
theorem PlaneI.mono {P:Nat→V} {N:Nat} {l:List (V × Nat)} {Q Q':Nat→Nat→Nat→Prop} (h:PlaneI P N l Q) (hq:∀ i j m,m<j→j<i→i<N→Q' i j m→Q i j m):PlaneI P N l Q':=
 ⟨h.face,h.nodup,fun i j m h1 h2 h3 h4=>h.all i j m h1 h2 h3 (hq i j m h1 h2 h3 h4)⟩
theorem PlaneI.none {P:Nat→V} {N i j m:Nat} {l:List (V × Nat)} {Q:Nat→Nat→Nat→Prop} (h:PlaneI P N l Q) (hs:∀ n,¬ eR P N i j m n):PlaneI P N l (fun i' j' m'=>Q i' j' m'∨(i'=i∧j'=j∧m'=m)):=
 ⟨h.face,h.nodup,fun i' j' m' h1 h2 h3 h4 n hn=>by
  rcases h4 with h4 | ⟨rfl,rfl,rfl⟩
  ·exact h.all _ _ _ h1 h2 h3 h4 n hn
  ·exact absurd hn (hs n)⟩
theorem PlaneI.old {P:Nat→V} {N i j m:Nat} {l:List (V × Nat)} {Q:Nat→Nat→Nat→Prop} (h:PlaneI P N l Q) {n:V} (hs:eR P N i j m n) (hm:cH P N n i ∈ l.map Prod.snd) :
  PlaneI P N l (fun i' j' m'=>Q i' j' m'∨(i'=i∧j'=j∧m'=m)):=
 ⟨h.face,h.nodup,fun i' j' m' h1 h2 h3 h4 n' hn=>by
  rcases h4 with h4 | ⟨rfl,rfl,rfl⟩
  ·exact h.all _ _ _ h1 h2 h3 h4 n' hn
  ·rw [← hs.unique hn];exact hm⟩
theorem PlaneI.new {P:Nat→V} {N i j m:Nat} {l:List (V × Nat)} {Q:Nat→Nat→Nat→Prop} (h:PlaneI P N l Q) (h1:m<j) (h2:j<i) (h3:i<N) {n:V} (hs:eR P N i j m n) (hm:cH P N n i ∉ l.map Prod.snd) :
  PlaneI P N (l ++ [(n,cH P N n i)]) (fun i' j' m'=>Q i' j' m'∨(i'=i∧j'=j∧m'=m)):=by
 refine ⟨fun p hp=>?_,?_,fun i' j' m' k1 k2 k3 h4 n' hn=>?_⟩
 ·rcases List.mem_append.mp hp with hp | hp
  ·exact h.face p hp
  ·rw [List.mem_singleton.mp hp];exact ⟨i,hs.face h1 h2 h3,rfl⟩
 ·rw [List.map_append]
  refine List.nodup_append.mpr ⟨h.nodup,by simp,fun a ha b hb=>?_⟩;rw [List.map_singleton,List.mem_singleton] at hb;intro e;apply hm;have e2:a=cH P N n i:=e.trans hb;rw [← e2];exact ha
 ·rw [List.map_append,List.mem_append]
  rcases h4 with h4 | ⟨rfl,rfl,rfl⟩
  ·exact .inl (h.all _ _ _ k1 k2 k3 h4 n' hn)
  ·right;rw [← hs.unique hn];simp
theorem PlaneI.done {P:Nat→V} {N:Nat} {l:List (V × Nat)} {Q:Nat→Nat→Nat→Prop} (h:PlaneI P N l Q) (hq:∀ i j m,m<j→j<i→i<N→Q i j m) (hfull:fG P N) (n:V) (b:Nat) (hF:Face P N n b) :
  cH P N n b ∈ l.map Prod.snd:=by
 obtain ⟨i,j,m,h1,h2,h3,h0,hn,hb⟩:=hF.three;rw [← onMask_base hb];refine h.all i j m h1 h2 h3 (hq i j m h1 h2 h3) n ⟨h0,hn,fun q hq=>by rw [hb];exact hF.out q hq,?_⟩;obtain ⟨q,hq,hne⟩:=hfull n hF.n0 i;refine ⟨q,hq,?_⟩;have:=hF.out q hq;rw [← hb] at this;omega
end Dowel
end

section
namespace Dowel
open Go Go.RowKit
def cP (l:List (V × Nat)):List Value:=l.flatMap fun p=>[.int .i64 p.1.x,.int .i64 p.1.y,.int .i64 p.1.z,.int .u64 (p.2:Int)]
def fF (w:World) (base:Nat) (v:Value) (l:List (V × Nat)):Prop:=w.ownsRow base 120 4 v l.length (cP l)
def RetPl (P:Nat→V) (N base:Nat) (w:World) (e:Ending):Prop:=∃ v l,e=.returned v∧fF w base v l∧PlaneI P N l (fun _ _ _=>True)∧l.length≤262144
theorem nG (w:World) (cs:List Value) (t:TypeId) (j:Nat) (u:Value) (h:cs[j]?=some u):(w.alloc (.cells cs.toArray t)).cell? ((⟨w.heap.size,0,none⟩:Addr).add j)=some u:=by
 rw [show ((⟨w.heap.size,0,none⟩:Addr).add j)=⟨w.heap.size,j,none⟩ by simp [Addr.add];exact fun h=>h.symm,(Box.new w cs.toArray t _ rfl).cell j,List.getElem?_toArray];exact h
theorem fF.below {w w':World} {base:Nat} {v:Value} {l:List (V × Nat)} (h:fF w base v l) (hb:Below w.heap.size w w'):fF w' base v l:=aF h hb
end Dowel
namespace Go.Proofs.Υ
open Go.RowKit Dowel
open Go.Maps (Keyed int_keyed keyOf_int_mk)
theorem infoPl:(Tryz.prog.info? 120).map (fun i=>(i.zero,i.size,i.bytes))=some (some (.agg #[.int .i64 0,.int .i64 0,.int .i64 0,.int .u64 0]),4,32):=by kernel_rfl
theorem zeroBool (w:World):(zeroValue 4).run Tryz.prog w=.ok (.bool false) w:=by kernel_rfl
set_option maxRecDepth 10000 in
theorem planes_any (a:Option Addr) (len cap:Nat) (P:Nat→V) (w:World) (hP:Pts w a len cap P) (hlen:len≤64) (hnear:∀ i,i<len→LeV 4096 (P i)) :
  Calls Tryz.prog 100 #[.slice a len cap] w fun e w'=>RetPl P len w.heap.size w' e∧Below w.heap.size w w':=by
 have HP:=η hP;have HN:=η hnear;have hmm:=@run_makeMap Tryz.prog;obtain ⟨i0,hinf,hz0,hz1,hz2⟩:=info_parts infoPl;clear hP hnear
 go_enter Tryz.func100,Tryz.ntmps100
 go_wp2_with fail
 obtain ⟨W,hW⟩:∃ W,w.alloc (.map #[] 0)=W:=⟨_,rfl⟩;rw [hW];have hs0:jS Tryz.prog W 116 4 w.heap.size 0 []:=by rw [← hW];exact jS.made _ _ _ _
 have hb0:Below w.heap.size w W:=by rw [← hW];exact β.alloc ρ _
 have hsz0:w.heap.size+1≤W.heap.size:=by rw [← hW];simp
 have HS0:=η hs0;have HB0:=η hb0;have HSZ0:=η hsz0;clear hs0 hb0 hW hsz0 hmm
 go_loopw [4,13] (fun ov iv wr=>∃ k n l,k≤len∧iv=.int .i64 (k:Nat)∧n≤l.length∧l.length≤k*4096∧Hid (jS Tryz.prog wr 116 4 w.heap.size n (l.map Prod.snd))∧Hid (fF wr (w.heap.size+1) ov l)∧Hid (PlaneI P len l (fun i _ _=>i<k))∧Hid (Below w.heap.size w wr)∧Hid (w.heap.size+1≤wr.heap.size)) (fun _ iv _=>len - (intOf iv).toNat)
 case atStart=>exact ⟨0,0,[],Nat.zero_le _,rfl,Nat.le_refl _,Nat.le_refl _,HS0.out,World.ownsRow_nil _ _ _ _,(PlaneI.start P len).mono (fun i j m _ _ _ h=>by omega),HB0.out,HSZ0.out⟩
 case round =>
  obtain ⟨i,n,l,hi,rfl,hnl,hll,HSE,HO,HI,HB,HSZ⟩:=hrel;by_cases h0:i=len
  ·have hn:¬ (i:Int)<(len:Int):=ω
   have H0:=η h0;clear h0;go_wp2;have hlm:l.length≤262144:=by have:=H0.out;omega
   exact bodyPost_ret (results_tmp Tryz.results100 _ _ _) rfl ⟨⟨_,l,rfl,cj HO.out (Nat.le_succ _),HI.out.mono (fun i' j' m _ _ h _=>by have:=H0.out;omega),hlm⟩,HB.out⟩
  have hlt:(i:Int)<(len:Int):=ω;have hil:i<len:=ω;have HIL:=η hil;clear h0;go_wp2;have HLT:=η hlt;clear hlt
  go_loopw [4,17] (fun ov jv wr=>∃ k n l,k≤i∧jv=.int .i64 (k:Nat)∧n≤l.length∧l.length≤i*4096+k*64∧Hid (jS Tryz.prog wr 116 4 w.heap.size n (l.map Prod.snd))∧Hid (fF wr (w.heap.size+1) ov l)∧Hid (PlaneI P len l (fun i' j' _=>i'<i∨(i'=i∧j'<k)))∧Hid (Below w.heap.size w wr)∧Hid (w.heap.size+1≤wr.heap.size)) (fun _ iv _=>i - (intOf iv).toNat)
  case atStart=>exact ⟨0,n,l,Nat.zero_le _,rfl,hnl,by omega,HSE.out,HO.out,HI.out.mono (fun i' j' m _ _ _ h=>by omega),HB.out,HSZ.out⟩
  case round =>
   obtain ⟨j,n,l,hj,rfl,hnl,hll,HSE,HO,HI,HB,HSZ⟩:=hrel;by_cases h0:j=i
   ·have hn:¬ (j:Int)<(i:Int):=ω
    have H0:=η h0;clear h0;go_wp2;go_round
    case rel=>exact ⟨i+1,n,l,by have:=HIL.out;omega,rfl,hnl,by have:=H0.out;omega,HSE.out,HO.out,HI.out.mono (fun i' j' m h1 h2 _ h=>by have:=H0.out;omega),HB.out,HSZ.out⟩
    case measure=>show len - ((i:Int)+1).toNat<len - (i:Int).toNat;have:=HIL.out;omega
   have hlt:(j:Int)<(i:Int):=ω;have hjl:j<i:=ω;have HJL:=η hjl;clear h0;go_wp2;have HLT2:=η hlt;clear hlt
   go_loopw [4,21] (fun ov mv wr=>∃ k n l,k≤j∧mv=.int .i64 (k:Nat)∧n≤l.length∧l.length≤i*4096+j*64+k∧Hid (jS Tryz.prog wr 116 4 w.heap.size n (l.map Prod.snd))∧Hid (fF wr (w.heap.size+1) ov l)∧Hid (PlaneI P len l (fun i' j' m'=>i'<i∨(i'=i∧j'<j)∨(i'=i∧j'=j∧m'<k)))∧Hid (Below w.heap.size w wr)∧Hid (w.heap.size+1≤wr.heap.size)) (fun _ iv _=>j - (intOf iv).toNat)
   case atStart=>exact ⟨0,n,l,Nat.zero_le _,rfl,hnl,by omega,HSE.out,HO.out,HI.out.mono (fun i' j' m _ _ _ h=>by omega),HB.out,HSZ.out⟩
   case round =>
    obtain ⟨m,n,l,hm,rfl,hnl,hll,HSE,HO,HI,HB,HSZ⟩:=hrel;by_cases h0:m=j
    ·have hn:¬ (m:Int)<(j:Int):=ω
     have H0:=η h0;clear h0;go_wp2;go_round
     case rel=>exact ⟨j+1,n,l,by have:=HJL.out;omega,rfl,hnl,by have:=H0.out;omega,HSE.out,HO.out,HI.out.mono (fun i' j' m' h1 h2 _ h=>by have:=H0.out;omega),HB.out,HSZ.out⟩
     case measure=>show i - ((j:Int)+1).toNat<i - (j:Int).toNat;have:=HJL.out;omega
    have hlt:(m:Int)<(j:Int):=ω;have hml:m<j:=ω;have HML:=η hml;have hsd:=η (side_any a len cap i j m P wr (HP.out.below HB.out) hlen HN.out HIL.out (by have:=HIL.out;have:=HJL.out;omega) (by have:=HIL.out;have:=HJL.out;omega));clear h0;obtain ⟨w3,rfl⟩:∃ w3,w3=wr:=⟨_,rfl⟩
    go_wp2_with fail
    refine hsd.out.mono ?_;rintro e w4 ⟨hr,hb4⟩;have HB4:=η hb4;have hse4:=HSE.out.below hb4;have ho4:=HO.out.below hb4;clear hb4
    rcases hr with ⟨nn,hok,rfl⟩ | ⟨hno,nn,o,rfl⟩
    ·unfold kO
     obtain ⟨o,ho⟩:∃ o,cH P len nn i=o:=⟨_,rfl⟩;have ho64:o<18446744073709551616:=by rw [← ho];exact Nat.lt_of_lt_of_le (j9 _ _) (Nat.pow_le_pow_right ω hlen)
     rw [ho];have HOM:=η ho;have HOK:=η hok;obtain ⟨W2,hW2,b2,hB2,hS2⟩:=aG w4 #[.int .i64 nn.x,.int .i64 nn.y,.int .i64 nn.z,.int .u64 (o:Int)] 120;have hse2:=hse4.below hB2;have ho2:=ho4.below hB2;have hlk:=hse2.lookup Tryz.underlying116 Tryz.underlying4 (t:=212) Tryz.underlying212 (zeroBool W2) o ho64;have hfin:Below w.heap.size w W2:=ae (ae HB.out HB4.out ρ) hB2 ρ;have hsz2:w.heap.size+1≤W2.heap.size:=by have:=HSZ.out;have:=HB4.out.size;omega
     have HFIN:=η hfin;have HSZ2:=η hsz2;have HO2:=η ho2;have HSE2:=η hse2;have B2:=η b2;have HO64:=η ho64;clear ho hok hB2 hS2 hse2 ho2 hfin hse4 ho4 hsz2 ho64;by_cases hmem:o ∈ l.map Prod.snd
     ·have hd:decide (o ∈ l.map Prod.snd)=true:=decide_eq_true hmem
      rw [hd] at hlk;have HMEM:=η hmem;obtain ⟨x0,x1,x2,x3,-⟩:=B2.out.four;clear hd hmem
      go_upto_region 13 with fail
      go_wp2;go_round
      case rel=>exact ⟨m+1,n,l,by have:=HML.out;omega,rfl,hnl,by omega,HSE2.out,HO2.out,(HI.out.old HOK.out (by rw [HOM.out];exact HMEM.out)).mono (fun i' j' m' h1 h2 _ h=>by omega),HFIN.out,HSZ2.out⟩
      case measure=>show j - ((m:Int)+1).toNat<j - (m:Int).toNat;have:=HML.out;omega
     ·have hd:decide (o ∈ l.map Prod.snd)=false:=decide_eq_false hmem
      rw [hd] at hlk;have HMEM:=η hmem;obtain ⟨x0,x1,x2,x3,-⟩:=B2.out.four;obtain ⟨D,hD1,hD2,hD3⟩:=HSE2.out;have HD3:=η hD3;clear hd hmem hD3
      go_upto_region 13 with fail
      go_wp2_with (at_mapUpdate;refine wpList_mapUpdate_own _ rfl _ _ _ 212 rfl 116 4 (int_keyed Tryz.underlying116) Tryz.underlying212 _ w.heap.size n D rfl hD1 (by unfold maxLen;omega) _ _ _ rfl rfl (keyOf_int_mk Tryz.underlying116 (u64_wf o HO64.out)) _ [] (plainElem_bool Tryz.underlying4 true) ?_)
      intro w5 hown5 hgrow5;have hlt2:=B2.out.lt;have hne2:w4.heap.size≠w.heap.size:=by have:=HSZ.out;have:=HB4.out.size;omega
      have b5:Box w5 w4.heap.size #[.int .i64 nn.x,.int .i64 nn.y,.int .i64 nn.z,.int .u64 (o:Int)] 120:=by
       unfold Box;rw [hgrow5.block w4.heap.size hlt2 (by intro e;exact hne2 (Option.some.inj e))];exact B2.out
      have hob:∀ g,u4.ownBlock=some g→w.heap.size+1≤g:=cJ HO2.out;have ho5:w5.ownsRow (w.heap.size+1) 120 4 u4 l.length (cP l):=World.ownsRow.kept HO2.out hgrow5 (by
       cases hq:u4.ownBlock with
       | none=>exact .inl rfl
       | some g=>exact .inr (by have:=hob g hq;intro e;have:=Option.some.inj e;omega))
      have hfin5:Below w.heap.size w w5:=HFIN.out.grown hgrow5 (ψ HSZ2.out) (fun k hk=>by cases hk;exact Nat.le_refl _);have hs5:w.heap.size+1≤w5.heap.size:=Nat.le_trans HSZ2.out hgrow5.size;have hm5:w5.ownsMap Tryz.prog 116 (plainElem Tryz.prog 4) w.heap.size (n+1) (D.put (.int .u64 (o:Int)) (.lit (.bool true))):=hown5;have HM5:=η hm5;have HB5:=η b5;have HFIN5:=η hfin5;have HOB:=η hob;have HD2:=η hD2;obtain ⟨y0,y1,y2,y3,-⟩:=b5.four;clear hgrow5 hown5 hm5 hob hfin5 b5 x0 x1 x2 x3 hlk hD1 hD2 hlt2 hne2;have hll2:l.length≤1000000:=by have:=HIL.out;have:=HJL.out;omega
      go_wp2_with (at_builtin;refine wpList_append_own _ rfl _ _ 114 rfl (w.heap.size+1) 120 i0 (.agg #[.int .i64 0,.int .i64 0,.int .i64 0,.int .u64 0]) 4 32 Tryz.underlying114 hinf hz0 hz1 hz2 rfl ν _ _ _ rfl (ho5.alloc _) ⟨w5.heap.size,0,none⟩ 1 1 [.int .i64 nn.x,.int .i64 nn.y,.int .i64 nn.z,.int .u64 (o:Int)] rfl rfl ?c1 ?c2 ?c3 ?c4 ?c5 ?_)
      case c1=>exact fun j u hj=>nG w5 _ _ j u hj
      case c2=>intro u hu;simp at hu;rcases hu with rfl | rfl | rfl | rfl <;> rfl
      case c3=>unfold maxLen;omega
      case c4=>omega
      case c5=>simp;omega
      ·intro v' w6 hown' hgrow6 _
       have hO6:fF w6 (w.heap.size+1) v' (l ++ [(nn,o)]):=by
        have e:cP (l ++ [(nn,o)])=cP l ++ [.int .i64 nn.x,.int .i64 nn.y,.int .i64 nn.z,.int .u64 (o:Int)]:=by simp [cP]
        unfold fF;rw [List.length_append,e];exact hown'
       have hB6:Below w.heap.size w w6:=(HFIN5.out.alloc ω _).grown hgrow6 (by simp;omega) (fun g hg=>Nat.le_of_succ_le (HOB.out g hg));have hs6:w.heap.size+1≤w6.heap.size:=Nat.le_trans (by simp;omega) hgrow6.size;have hSe6:jS Tryz.prog w6 116 4 w.heap.size (n+1) ((l ++ [(nn,o)]).map Prod.snd):=by
        refine ⟨_,World.ownsMap.kept (World.ownsMap.alloc HM5.out _) hgrow6 (fun e=>?_),HD2.out.put _ _,fun key hk=>?_⟩
        ·have:=HOB.out _ e.symm;omega
        ·have e:key ∈ o :: l.map Prod.snd↔key ∈ (l ++ [(nn,o)]).map Prod.snd:=by rw [List.map_append,List.mem_append,List.mem_cons,List.map_singleton,List.mem_singleton,or_comm]
         rw [jS.put HD2.out HD3.out o HO64.out key hk,decide_eq_decide.mpr e]
       have HO6:=η hO6;have HB6:=η hB6;have HS6:=η hs6;have HSE6:=η hSe6;clear hown' hgrow6 hO6 hB6 hs6 hSe6;go_wp2;go_round
       case rel=>exact ⟨m+1,n+1,l ++ [(nn,o)],by have:=HML.out;omega,rfl,by simp;omega,by simp;omega,HSE6.out,HO6.out,(by
        have:=HI.out.new HML.out HJL.out HIL.out HOK.out (by rw [HOM.out];exact HMEM.out);rw [HOM.out] at this;exact this.mono (fun i' j' m' h1 h2 _ h=>by omega)),HB6.out,HS6.out⟩
       case measure=>show j - ((m:Int)+1).toNat<j - (m:Int).toNat;have:=HML.out;omega
    ·unfold kO
     have HNO:=η hno;have hfin:Below w.heap.size w (w4.alloc (.cells #[.int .i64 nn.x,.int .i64 nn.y,.int .i64 nn.z,.int .u64 (o:Int)] 120)):=(ae HB.out HB4.out ρ).alloc (by have:=HSZ.out;have:=HB4.out.size;omega) _;have HFIN:=η hfin;have HSE4:=η hse4;have HO4:=η ho4;clear hno hfin hse4 ho4;go_wp2;go_round
     case rel=>exact ⟨m+1,n,l,by have:=HML.out;omega,rfl,hnl,by omega,HSE4.out.below (β.alloc ρ _),HO4.out.below (β.alloc ρ _),(HI.out.none HNO.out).mono (fun i' j' m' h1 h2 _ h=>by omega),HFIN.out,by have:=HSZ.out;have:=HB4.out.size;show _≤_;simp;omega⟩
     case measure=>show j - ((m:Int)+1).toNat<j - (m:Int).toNat;have:=HML.out;omega
end Go.Proofs.Υ
end
