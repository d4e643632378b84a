/- Two slices that grow together. Package cell: rings. The statements' comparison of two lists of ints. -/
import Derived.Test.YtaibkpbklfodiaaGreatDoorP13
import Derived.Deep.AppendLies
set_option linter.all false
set_option maxHeartbeats 100000000
section
namespace Dowel
open Go Go.RowKit
theorem Box.kept {w w':World} {g:Nat} {cs:Array Value} {t:TypeId} {row:Option Nat} (h:Box w g cs t) (hg:w.grownBy w' row) (hne:row≠some g):Box w' g cs t:=by
 unfold Box;rw [hg.block g h.lt (fun e=>hne e.symm)];exact h
theorem iw {w:World} {g base e k:Nat} {cs:Array Value} {t:TypeId} {v:Value} {n:Nat} {xs:List Value} (h:Box w g cs t) (ho:w.ownsRow base e k v n xs) (hne:e≠t):v.ownBlock≠some g:=by
 obtain ⟨_,⟨rfl,_⟩ | ⟨g',cap,cur,rfl,_,hh,_⟩⟩:=ho
 ·intro e;cases e
 ·intro e
  have:g'=g:=by simpa [Value.ownBlock] using e
  subst this;unfold Box at h;rw [h] at hh;have:=Option.some.inj hh;injection this with _ e2 _
  exact hne e2.symm
theorem Box.five {w:World} {g:Nat} {a b c d e:Value} {t:TypeId} (h:Box w g #[a,b,c,d,e] t) :
  w.cell? ⟨g,0,.none⟩=.some a∧w.cell? ⟨g,1,.none⟩=.some b∧w.cell? ⟨g,2,.none⟩=.some c∧w.cell? ⟨g,3,.none⟩=.some d∧w.cell? ⟨g,4,.none⟩=.some e:=
 ⟨h.cell 0,h.cell 1,h.cell 2,h.cell 3,h.cell 4⟩
theorem Box.news {w:World} {g:Nat} {cs:List Value} {t:TypeId} (h:Box w g cs.toArray t) (j:Nat) (u:Value) (hj:cs[j]?=some u):w.cell? ((⟨g,0,none⟩:Addr).add j)=some u:=by
 rw [show ((⟨g,0,none⟩:Addr).add j)=⟨g,j,none⟩ by simp [Addr.add];exact fun h=>h.symm,h.cell j,List.getElem?_toArray];exact hj
theorem Box.new1 (w:World) (cs:Array Value) (t:TypeId):Box (w.alloc (.cells cs t)) w.heap.size cs t:=Box.new _ _ _ _ rfl
theorem Box.new2 (w:World) (o:Obj) (cs:Array Value) (t:TypeId):Box ((w.alloc o).alloc (.cells cs t)) (w.heap.size+1) cs t:=Box.new _ _ _ _ (by simp)
theorem tyPR:(120:TypeId)≠43:=by decide
theorem tyRP:(43:TypeId)≠120:=by decide
def OwnS (w:World) (base:Nat) (v:Value) (l:List Value):Prop:=w.ownsRow base 43 1 v l.length l
structure St (w5:World) (B gb:Nat) (fc:Array Value) (w:World) (pv rv:Value) (ps:List (V × Nat)) (rs:List Value):Prop where
 ps:fF w B pv ps
 rs:OwnS w B rv rs
 bx:Box w gb fc 171
 lo:Below B w5 w
 le:B≤w.heap.size
variable {w5 : World} {B gb : Nat} {fc : Array Value} {w w' : World} {pv rv : Value} {ps : List (V × Nat)} {rs : List Value}
theorem St.alloc (h:St w5 B gb fc w pv rv ps rs) (o:Obj):St w5 B gb fc (w.alloc o) pv rv ps rs:=
 ⟨World.ownsRow.alloc h.ps o,World.ownsRow.alloc h.rs o,h.bx.old o,h.lo.alloc h.le o,by simp;have:=h.le;omega⟩
theorem St.drew (h:St w5 B gb fc w pv rv ps rs):St w5 B gb fc w.drew pv rv ps rs:=⟨h.ps,h.rs,h.bx,h.lo.drew,h.le⟩
theorem St.appP (h:St w5 B gb fc w pv rv ps rs) {v':Value} {p:V × Nat} (ho:w'.ownsRow B 120 4 v' (ps.length+1) (cP ps ++ [.int .i64 p.1.x,.int .i64 p.1.y,.int .i64 p.1.z,.int .u64 (p.2:Int)])) (hg:w.grownBy w' pv.ownBlock) :
    St w5 B gb fc w' v' rv (ps ++ [p]) rs:=
  ⟨by
    have e:cP (ps ++ [p])=cP ps ++ [.int .i64 p.1.x,.int .i64 p.1.y,.int .i64 p.1.z,.int .u64 (p.2:Int)]:=by simp [cP]
    unfold fF;rw [List.length_append,e];exact ho,
   World.ownsRow.kept h.rs hg (io h.rs h.ps ν),h.bx.kept hg (iw h.bx h.ps ν),h.lo.grown hg h.le (cJ h.ps),Nat.le_trans h.le hg.size⟩
theorem St.appR (h:St w5 B gb fc w pv rv ps rs) {v' r:Value} (ho:w'.ownsRow B 43 1 v' (rs.length+1) (rs ++ [r])) (hg:w.grownBy w' rv.ownBlock) :
    St w5 B gb fc w' pv v' ps (rs ++ [r]):=
  ⟨World.ownsRow.kept h.ps hg (io h.ps h.rs ν),
   by unfold OwnS;rw [List.length_append];exact ho,h.bx.kept hg (iw h.bx h.rs ν),h.lo.grown hg h.le (cJ h.rs),Nat.le_trans h.le hg.size⟩
theorem St.ps' (h:St w5 B gb fc w pv rv ps rs):w.ownsRow B 120 4 pv ps.length (cP ps):=h.ps
theorem St.rs' (h:St w5 B gb fc w pv rv ps rs):w.ownsRow B 43 1 rv rs.length rs:=h.rs
theorem St.keepP {g:Nat} {cs:Array Value} (hg:w.grownBy w' pv.ownBlock) (h:St w5 B gb fc w pv rv ps rs) (hb:Box w g cs 43):Box w' g cs 43:=hb.kept hg (iw hb h.ps' tyPR)
theorem St.keepR {g:Nat} {cs:Array Value} (hg:w.grownBy w' rv.ownBlock) (h:St w5 B gb fc w pv rv ps rs) (hb:Box w g cs 120):Box w' g cs 120:=hb.kept hg (iw hb h.rs' tyRP)
theorem lE:∀ (l:List RF) (k:Nat) (f:RF),l[k]?=some f →
  (l.flatMap cA)[k*5]?=some (.int .i64 f.n.x)∧(l.flatMap cA)[k*5+1]?=some (.int .i64 f.n.y)∧(l.flatMap cA)[k*5+2]?=some (.int .i64 f.n.z)∧(l.flatMap cA)[k*5+3]?=some (.int .u64 (f.o:Int))∧(l.flatMap cA)[k*5+4]?=some f.v
 | [],k,p,h=>by simp at h
 | q :: l,0,p,h=>by
  have:q=p:=by simpa using h
  subst this;simp [cA]
 | q :: l,k+1,p,h=>by
  have:=lE l k p (by simpa using h);have e:(q :: l).flatMap cA=.int .i64 q.n.x :: .int .i64 q.n.y :: .int .i64 q.n.z :: .int .u64 (q.o:Int) :: q.v :: l.flatMap cA:=rfl;rw [e,show (k+1)*5=k*5+5 by omega];exact this
theorem qt.at_ {w:World} {base:Nat} {v:Value} {l:List RF} (h:qt w base v l) (hl:0<l.length) :
  ∃ g cap,v=.slice (some ⟨g,0,none⟩) l.length cap∧g<w.heap.size∧∀ k f,l[k]?=some f →
   w.cell? ⟨g,k*5,none⟩=some (.int .i64 f.n.x)∧w.cell? ⟨g,k*5+1,none⟩=some (.int .i64 f.n.y)∧w.cell? ⟨g,k*5+2,none⟩=some (.int .i64 f.n.z)∧w.cell? ⟨g,k*5+3,none⟩=some (.int .u64 (f.o:Int))∧w.cell? ⟨g,k*5+4,none⟩=some f.v:=by
 have hh:=h;obtain ⟨hlen,⟨rfl,h0⟩ | ⟨g,cap,cur,rfl,hg,hh',r⟩⟩:=h
 ·omega
 ·refine ⟨g,cap,rfl,(Array.getElem?_eq_some_iff.1 hh').1,fun k p hk=>?_⟩
  have hkl:k<l.length:=by
   rcases Nat.lt_or_ge k l.length with h | h
   ·exact h
   ·rw [List.getElem?_eq_none h] at hk;cases hk
  obtain ⟨p0,p1,p2,p3,p4⟩:=lE l k p hk;exact ⟨(World.ownsRow.cellAt hh _ ω).trans p0,(World.ownsRow.cellAt hh _ ω).trans p1,(World.ownsRow.cellAt hh _ ω).trans p2,(World.ownsRow.cellAt hh _ ω).trans p3,(World.ownsRow.cellAt hh _ ω).trans p4⟩
end Dowel
end

section
namespace Dowel
open Go Go.RowKit
theorem gO.nil:gO 0 []:=⟨by omega,fun v=>by simp⟩
def fx (E0 E:Nat) (r:List Nat) (i:Nat):Prop:=E<18446744073709551616∧∀ v,E.testBit v=(E0.testBit v || decide (v ∈ r.take i))
theorem fx.start {E0:Nat} {r:List Nat} (h:E0<18446744073709551616):fx E0 E0 r 0:=⟨h,fun v=>by simp⟩
theorem fx.step {E0 E i q:Nat} {r:List Nat} (h:fx E0 E r i) (hi:r[i]?=some q) (hq:q<64):fx E0 (E ||| 2 ^ q) r (i+1):=by
 refine ⟨Nat.or_lt_two_pow (n:=64) h.1 (Nat.pow_lt_pow_right ω hq),fun v=>?_⟩;rw [Nat.testBit_or,h.2 v,Nat.testBit_two_pow];have hil:i<r.length:=by
  rcases Nat.lt_or_ge i r.length with h | h
  ·exact h
  ·rw [List.getElem?_eq_none h] at hi;cases hi
 have e:r.take (i+1)=r.take i ++ [q]:=by
  rw [List.take_succ_eq_append_getElem hil];rw [List.getElem?_eq_getElem hil] at hi;rw [Option.some.inj hi]
 rw [e];by_cases hv:v=q
 ·subst hv;simp
 ·have:decide (q=v)=false:=decide_eq_false (fun e=>hv e.symm)
  simp [hv,this]
theorem fx.done {E0 E:Nat} {f:RF} {l:List RF} (h:fx E0 E f.r f.r.length) (h0:gO E0 l):gO E (l ++ [f]):=by
 refine ⟨h.1,fun v=>?_⟩;rw [h.2 v,h0.2 v,List.take_length];by_cases h1:∃ g ∈ l,v ∈ g.r
 ·obtain ⟨g,hg,hv⟩:=h1
  rw [decide_eq_true (⟨g,hg,hv⟩:∃ g ∈ l,v ∈ g.r),decide_eq_true (⟨g,List.mem_append_left _ hg,hv⟩:∃ g ∈ l ++ [f],v ∈ g.r)];rfl
 ·rw [decide_eq_false h1,Bool.false_or]
  refine decide_eq_decide.mpr ⟨fun hv=>⟨f,by simp,hv⟩,?_⟩;rintro ⟨g,hg,hv⟩
  rcases List.mem_append.mp hg with hg | hg
  ·exact absurd ⟨g,hg,hv⟩ h1
  ·rw [List.mem_singleton.mp hg] at hv;exact hv
structure RingsOk (P:Nat→V) (N:Nat) (fs:List RF) (E:Nat):Prop where
 ok:∀ f ∈ fs,FaceOk P N f
 all:∀ n b,Face P N n b→∃ f ∈ fs,f.o=cH P N n b
 nodup:(fs.map RF.o).Nodup
 sorted:fs.Pairwise (fun f g=>bT (f.r.map fun (i:Nat)=>(i:Int)) (g.r.map fun (i:Nat)=>(i:Int))≤0)
 bits:gO E fs
def RetRings (P:Nat→V) (N base:Nat) (w:World) (e:Ending):Prop:=
 ∃ pv rv fs E,e=.returned (.tuple #[pv,rv,.int .u64 (E:Nat)])∧fF w base pv (fs.map fun f=>(f.n,f.o))∧OwnS w base rv (fs.map RF.v)∧Faces w base fs∧RingsOk P N fs E
theorem fR {α:Type} {l:List α} {j:Nat} {x:α} (h:l[j]?=some x):l.take (j+1)=l.take j ++ [x]:=by
 have hj:=(List.getElem?_eq_some_iff.1 h).1;rw [List.take_succ_eq_append_getElem hj];rw [List.getElem?_eq_getElem hj] at h;rw [Option.some.inj h]
theorem ring_short {P:Nat→V} {N:Nat} {n:V} {b:Nat} (hF:Face P N n b) (hS:Sorted P N) (hN:N≤64):(ring P (aH P N n b) n).length≤64:=by
 unfold ring;obtain ⟨kp,hkp,_,h2,_⟩:=kQ (hF.flat hS.inj) hF.two (hF.head hS);rw [← hkp,List.length_map,List.length_range];have:(aH P N n b).length≤N:=by unfold aH;exact Nat.le_trans (List.length_filter_le _ _) (by simp)
 omega
end Dowel
namespace Go.Proofs.Υ
open Go.RowKit Dowel
theorem infoSl:(Tryz.prog.info? 43).map (fun i=>(i.zero,i.size,i.bytes))=some (some (.slice none 0 0),1,24):=by kernel_rfl
set_option maxRecDepth 10000 in
theorem ox (a:Option Addr) (len cap:Nat) (P:Nat→V) (w:World) (hT:Tab w) (hP:Pts w a len cap P) (hlen:len≤64) (hnear:∀ i,i<len→LeV 4096 (P i)) (hS:Sorted P len) (hfull:fG P len) :
    Calls Tryz.prog 53 #[.slice a len cap] w fun e w'=>RetRings P len w.heap.size w' e∧Below w.heap.size w w':=by
  have HP:=η hP;have HN:=η hnear;have HT:=η hT;have HSS:=η hS;have HFU:=η hfull;obtain ⟨i0,hinf,hz0,hz1,hz2⟩:=info_parts infoFc;clear hP hnear hT hS hfull
  go_enter Tryz.func53,Tryz.ntmps53
  go_wp2_with fail
  refine (planes_any a len cap P _ HP.out hlen HN.out).mono ?_;rintro e w1 ⟨⟨pv,l,rfl,hpl,hpi,hlmax⟩,hb1⟩;have HB1:=η hb1;have HPL:=η hpl;have HPI:=η hpi;obtain ⟨ap,cp,hpv⟩:∃ ap cp,pv=.slice ap l.length cp:=by
    obtain ⟨_,⟨rfl,h0⟩ | ⟨g,c,_,rfl,_⟩⟩:=hpl
    · exact ⟨_,_,by rw [h0]⟩
    · exact ⟨_,_,rfl⟩
  subst hpv;clear hb1 hpl hpi
  go_wp2_with fail
  go_loopw [5,6,19] (fun av ev iv wr=>∃ k fs E,k≤l.length∧iv=.int .i64 (k:Nat)∧ev=.int .u64 (E:Nat)∧Hid (fs.map (fun f=>(f.n,f.o))=l.take k)∧Hid (∀ f ∈ fs,FaceOk P len f)∧Hid (∀ f ∈ fs,dr wr w1.heap.size f.v f.r)∧Hid (qt wr w1.heap.size av fs)∧Hid (gO E fs)∧Hid (Below w1.heap.size w1 wr)) (fun _ _ iv _=>l.length - (intOf iv).toNat)
  case atStart=>exact ⟨0,[],0,Nat.zero_le _,rfl,rfl,by exact rfl,(fun f hf=>by cases hf),(fun f hf=>by cases hf),World.ownsRow_nil _ _ _ _,gO.nil,Below.refl _ _⟩
  case round =>
    obtain ⟨k,fs,E,hk,rfl,rfl,HM,HFO,HON,HO,HE,HR⟩:=hrel;by_cases h0:k=l.length
    · have hn:¬ (k:Int)<(l.length:Int):=ω
      have hM:fs.map (fun f=>(f.n,f.o))=l:=by have:=HM.out;rwa [h0,List.take_length] at this
      have hfl:fs.length≤262144:=by have:=congrArg List.length hM;rw [List.length_map] at this;omega
      have hsh:Faces wr w1.heap.size fs:=⟨HON.out,fun f hf=>by
        obtain ⟨b,hF,_,hr⟩:=HFO.out f hf;rw [hr];exact ring_short hF HSS.out hlen⟩
      have hst:=nV u5 fs w1.heap.size wr HO.out hsh hfl;have HST:=η hst;have HMM:=η hM;clear h0 hM hsh hst
      go_wp2_with fail
      refine HST.out.mono ?_;rintro e w5 ⟨rfl,⟨fs',hperm,hsort,hO',hF'⟩,hb5⟩;have hB5:Below w1.heap.size w1 w5:=HR.out.trans hb5;have HPE:=η hperm;have HSO:=η hsort;have HOF:=η hO';have HFC:=η hF';have HB5:=η hB5;have hfl':fs'.length≤262144:=by rw [hperm.length_eq];exact hfl
      obtain ⟨au,cu,hau⟩:∃ au cu,u5=.slice au fs'.length cu:=by
        obtain ⟨_,⟨rfl,h0⟩ | ⟨g,c,_,rfl,_⟩⟩:=hO'
        · exact ⟨_,_,by rw [h0]⟩
        · exact ⟨_,_,rfl⟩
      obtain ⟨i1,hpf,hp0,hp1,hp2⟩:=info_parts infoPl;obtain ⟨i2,hsf,hs0,hs1,hs2⟩:=info_parts infoSl;subst hau;clear hperm hsort hO' hF' hB5 hb5 hn HST
      go_wp2_with fail
      go_loopw [12,13,48] (fun pv rv iv wr=>∃ k,k≤fs'.length∧iv=.int .i64 (k:Nat)∧Hid (fF wr w5.heap.size pv ((fs'.take k).map fun f=>(f.n,f.o)))∧Hid (OwnS wr w5.heap.size rv ((fs'.take k).map RF.v))∧Hid (Below w5.heap.size w5 wr)) (fun _ _ iv _=>fs'.length - (intOf iv).toNat)
      case atStart=>exact ⟨0,Nat.zero_le _,rfl,World.ownsRow_nil _ _ _ _,World.ownsRow_nil _ _ _ _,Below.refl _ _⟩
      case round =>
        obtain ⟨j,hj,rfl,HPS,HRS,HR5⟩:=hrel;by_cases h0:j=fs'.length
        · have hn:¬ (j:Int)<(fs'.length:Int):=ω
          have H0:=η h0;clear h0;go_wp2;have hb:=HB1.out.size;have hb5:=HB5.out.size;have htk:fs'.take j=fs':=by rw [H0.out,List.take_length]
          have hpsE:=HPS.out;have hrsE:=HRS.out;rw [htk] at hpsE hrsE;refine bodyPost_ret (results_tmp3 Tryz.results53 _ _ _) rfl ⟨⟨u12,u13,fs',E,rfl,cj hpsE ω,cj hrsE ω,⟨fun f hf=>cj (aF (HFC.out.own f hf) HR5.out) ω,HFC.out.short⟩,?_⟩,?_⟩
          · have hmap:l.map Prod.snd=fs.map RF.o:=by rw [← HMM.out,List.map_map];rfl
            refine ⟨fun f hf=>HFO.out f (HPE.out.mem_iff.mp hf),fun n b hF=>?_,?_,HSO.out,?_⟩
            · have:=HPI.out.done (fun _ _ _ _ _ _=>trivial) HFU.out n b hF
              rw [hmap] at this;obtain ⟨f,hf,he⟩:=List.mem_map.mp this;exact ⟨f,HPE.out.mem_iff.mpr hf,he⟩
            · have hnd:=HPI.out.nodup
              rw [hmap] at hnd;exact (HPE.out.map RF.o).nodup_iff.mpr hnd
            · refine ⟨HE.out.1,fun v=>?_⟩
              rw [HE.out.2 v];exact decide_eq_decide.mpr ⟨fun ⟨f,hf,hv⟩=>⟨f,HPE.out.mem_iff.mpr hf,hv⟩,fun ⟨f,hf,hv⟩=>⟨f,HPE.out.mem_iff.mp hf,hv⟩⟩
          · exact (HB1.out.trans (HB5.out.mono hb)).trans (HR5.out.mono ω)
        · have hjl:j<fs'.length:=ω
          obtain ⟨g,cg,eg,hgl,hgc⟩:=qt.at_ HOF.out ω;cases eg;obtain ⟨f,hf⟩:∃ f,fs'[j]?=some f:=⟨fs'[j],List.getElem?_eq_getElem hjl⟩;obtain ⟨c0,c1,c2,c3,c4⟩:=hgc j f hf;have d0:=keepC c0 HR5.out hgl;have d1:=keepC c1 HR5.out hgl;have d2:=keepC c2 HR5.out hgl;have d3:=keepC c3 HR5.out hgl;have d4:=keepC c4 HR5.out hgl;have hfm:f ∈ fs':=List.mem_of_getElem? hf;obtain ⟨av,cv,hv,-⟩:=(HFC.out.own f hfm).ints;obtain ⟨fn,fo,fv,fr⟩:=f;simp only at hv c0 c1 c2 c3 c4 d0 d1 d2 d3 d4;subst hv;obtain ⟨ps,hps⟩:∃ ps,((fs'.take j).map fun f=>(f.n,f.o))=ps:=⟨_,rfl⟩;obtain ⟨rs,hrs⟩:∃ rs,((fs'.take j).map RF.v)=rs:=⟨_,rfl⟩;have hpl:ps.length≤262144:=by rw [← hps,List.length_map,List.length_take];omega
          have hrl:rs.length≤262144:=by rw [← hrs,List.length_map,List.length_take];omega
          have hs0':St w5 w5.heap.size wr.heap.size #[.int .i64 fn.x,.int .i64 fn.y,.int .i64 fn.z,.int .u64 (fo:Int),.slice av fr.length cv] (wr.alloc (.cells #[.int .i64 fn.x,.int .i64 fn.y,.int .i64 fn.z,.int .u64 (fo:Int),.slice av fr.length cv] 171)) u12 u13 ps rs:=by
            rw [← hps,← hrs];exact ⟨World.ownsRow.alloc HPS.out _,World.ownsRow.alloc HRS.out _,Box.new _ _ _ _ rfl,HR5.out.alloc HR5.out.size _,by simp;have:=HR5.out.size;omega⟩
          have hjlt:(j:Int)<(fs'.length:Int):=ω;have HJL:=η hjl;have HFF:=η hf;have HPSE:=η hps;have HRSE:=η hrs;have HS0:=η hs0';clear hgc c0 c1 c2 c3 c4 hf hfm hps hrs hs0' h0
          go_upto_region 20 with fail
          obtain ⟨Wk,hWk⟩:∃ Wk,wr.alloc (.cells #[.int .i64 fn.x,.int .i64 fn.y,.int .i64 fn.z,.int .u64 (fo:Int),.slice av fr.length cv] 171)=Wk:=⟨_,rfl⟩;rw [hWk];have S0:=HS0.out;rw [hWk] at S0;have hx0:=S0.bx.five;have S0:=η S0;clear hWk d0 d1 d2 d3 d4
          go_wp2_with fail
          go_region_held3 (fun w'=>w'.cell? ⟨wr.heap.size,0,none⟩=some (.int .i64 fn.x)∧w'.cell? ⟨wr.heap.size,1,none⟩=some (.int .i64 fn.y)∧w'.cell? ⟨wr.heap.size,2,none⟩=some (.int .i64 fn.z)∧w'.cell? ⟨wr.heap.size,3,none⟩=some (.int .u64 (fo:Int))∧w'.cell? ⟨wr.heap.size,4,none⟩=some (.slice av fr.length cv))
            (first | with_reducible exact (SB.out.bx.five) | with_reducible exact ((SB.out.alloc _).bx.five) | with_reducible exact (SD.out.bx.five) | with_reducible exact ((SD.out.alloc _).bx.five) | with_reducible exact (S0.out.bx.five) | with_reducible exact (S0.out.drew.bx.five) | with_reducible exact ((S0.out.alloc _).drew.bx.five) | with_reducible exact (((S0.out.alloc _).alloc _).drew.bx.five))
            (first
              | (have _g:=SB.out;clear _g;refine step_append_lies _ rfl (.tmp 57) (.tmp 60) 115 rfl w5.heap.size 43 i2 (.slice none 0 0) 1 24 Tryz.underlying115 hsf hs0 hs1 hs2 rfl ν u13 (rs.length) rs (by simp [Act.eval,Act.put]) (by first | with_reducible exact (SB.out.alloc _).rs' | with_reducible exact SB.out.rs' | with_reducible exact (S0.out.alloc _).drew.rs' | with_reducible exact ((S0.out.alloc _).alloc _).drew.rs') _ 1 1 [.slice av fr.length cv] (by simp [Act.eval,Act.put];rfl) rfl (fun j u hj=>Box.news (by first | with_reducible exact (Box.new1 _ _ _) | with_reducible exact (Box.new1 _ _ _).drew | with_reducible exact (Box.new2 _ _ _ _).drew | with_reducible exact ((Box.new1 _ _ _).old _).drew | with_reducible exact ND.out) j u hj) (by intro u hu;simp at hu;subst hu;rfl) ω (by unfold maxLen;omega) ω (by first | with_reducible exact (SB.out.alloc _).le | with_reducible exact SB.out.le | with_reducible exact (S0.out.alloc _).drew.le | with_reducible exact ((S0.out.alloc _).alloc _).drew.le) _ rfl ?_;intro gD cD vD hown hgrow hat hlt
                 have SD:=η (show St _ _ _ _ vD _ _ _ _ from by first | with_reducible exact (SB.out.alloc _).appR (r:=.slice av fr.length cv) hown hgrow | with_reducible exact SB.out.appR (r:=.slice av fr.length cv) hown hgrow | with_reducible exact (S0.out.alloc _).drew.appR (r:=.slice av fr.length cv) hown hgrow | with_reducible exact ((S0.out.alloc _).alloc _).drew.appR (r:=.slice av fr.length cv) hown hgrow)
                 first
                   | (have NB:=η (show Box vD (Wk.heap.size+1) #[.int .i64 fn.x,.int .i64 fn.y,.int .i64 fn.z,.int .u64 (fo:Int)] 120 from by with_reducible exact (St.keepR hgrow (((S0.out.alloc _).alloc _).drew) (Box.new2 Wk _ _ _).drew)))
                   | (have NB:=η (show Box vD Wk.heap.size #[.int .i64 fn.x,.int .i64 fn.y,.int .i64 fn.z,.int .u64 (fo:Int)] 120 from by with_reducible exact (St.keepR hgrow (((S0.out.alloc _).alloc _).drew) ((Box.new1 Wk _ _).old _).drew)))
                   | skip
                 clear hown hgrow hat hlt)
              | (have _g:=SD.out;clear _g;refine step_append_lies _ rfl (.tmp 52) (.tmp 55) 114 rfl w5.heap.size 120 i1 (.agg #[.int .i64 0,.int .i64 0,.int .i64 0,.int .u64 0]) 4 32 Tryz.underlying114 hpf hp0 hp1 hp2 rfl ν u12 (ps.length) (cP ps) (by simp [Act.eval,Act.put]) (by first | with_reducible exact (SD.out.alloc _).ps' | with_reducible exact SD.out.ps' | with_reducible exact (S0.out.alloc _).drew.ps' | with_reducible exact ((S0.out.alloc _).alloc _).drew.ps') _ 1 1 [.int .i64 fn.x,.int .i64 fn.y,.int .i64 fn.z,.int .u64 (fo:Int)] (by simp [Act.eval,Act.put];rfl) rfl (fun j u hj=>Box.news (by first | with_reducible exact (Box.new1 _ _ _) | with_reducible exact (Box.new1 _ _ _).drew | with_reducible exact (Box.new2 _ _ _ _).drew | with_reducible exact ((Box.new1 _ _ _).old _).drew | with_reducible exact NB.out) j u hj) (by intro u hu;simp at hu;rcases hu with rfl | rfl | rfl | rfl <;> rfl) ω (by unfold maxLen;omega) ω (by first | with_reducible exact (SD.out.alloc _).le | with_reducible exact SD.out.le | with_reducible exact (S0.out.alloc _).drew.le | with_reducible exact ((S0.out.alloc _).alloc _).drew.le) _ rfl ?_;intro gB cB vB hown hgrow hat hlt
                 have SB:=η (show St _ _ _ _ vB _ _ _ _ from by first | with_reducible exact (SD.out.alloc _).appP (p:=(fn,fo)) hown hgrow | with_reducible exact SD.out.appP (p:=(fn,fo)) hown hgrow | with_reducible exact (S0.out.alloc _).drew.appP (p:=(fn,fo)) hown hgrow | with_reducible exact ((S0.out.alloc _).alloc _).drew.appP (p:=(fn,fo)) hown hgrow)
                 first
                   | (have ND:=η (show Box vB (Wk.heap.size+1) #[.slice av fr.length cv] 43 from by with_reducible exact (St.keepP hgrow (((S0.out.alloc _).alloc _).drew) (Box.new2 Wk _ _ _).drew)))
                   | (have ND:=η (show Box vB Wk.heap.size #[.slice av fr.length cv] 43 from by with_reducible exact (St.keepP hgrow (((S0.out.alloc _).alloc _).drew) ((Box.new1 Wk _ _).old _).drew)))
                   | skip
                 clear hown hgrow hat hlt)
              | (refine step_append_lies _ rfl (.tmp 52) (.tmp 55) 114 rfl w5.heap.size 120 i1 (.agg #[.int .i64 0,.int .i64 0,.int .i64 0,.int .u64 0]) 4 32 Tryz.underlying114 hpf hp0 hp1 hp2 rfl ν u12 (ps.length) (cP ps) (by simp [Act.eval,Act.put]) (by first | with_reducible exact (SD.out.alloc _).ps' | with_reducible exact SD.out.ps' | with_reducible exact (S0.out.alloc _).drew.ps' | with_reducible exact ((S0.out.alloc _).alloc _).drew.ps') _ 1 1 [.int .i64 fn.x,.int .i64 fn.y,.int .i64 fn.z,.int .u64 (fo:Int)] (by simp [Act.eval,Act.put];rfl) rfl (fun j u hj=>Box.news (by first | with_reducible exact (Box.new1 _ _ _) | with_reducible exact (Box.new1 _ _ _).drew | with_reducible exact (Box.new2 _ _ _ _).drew | with_reducible exact ((Box.new1 _ _ _).old _).drew | with_reducible exact NB.out) j u hj) (by intro u hu;simp at hu;rcases hu with rfl | rfl | rfl | rfl <;> rfl) ω (by unfold maxLen;omega) ω (by first | with_reducible exact (SD.out.alloc _).le | with_reducible exact SD.out.le | with_reducible exact (S0.out.alloc _).drew.le | with_reducible exact ((S0.out.alloc _).alloc _).drew.le) _ rfl ?_;intro gB cB vB hown hgrow hat hlt
                 have SB:=η (show St _ _ _ _ vB _ _ _ _ from by first | with_reducible exact (SD.out.alloc _).appP (p:=(fn,fo)) hown hgrow | with_reducible exact SD.out.appP (p:=(fn,fo)) hown hgrow | with_reducible exact (S0.out.alloc _).drew.appP (p:=(fn,fo)) hown hgrow | with_reducible exact ((S0.out.alloc _).alloc _).drew.appP (p:=(fn,fo)) hown hgrow)
                 first
                   | (have ND:=η (show Box vB (Wk.heap.size+1) #[.slice av fr.length cv] 43 from by with_reducible exact (St.keepP hgrow (((S0.out.alloc _).alloc _).drew) (Box.new2 Wk _ _ _).drew)))
                   | (have ND:=η (show Box vB Wk.heap.size #[.slice av fr.length cv] 43 from by with_reducible exact (St.keepP hgrow (((S0.out.alloc _).alloc _).drew) ((Box.new1 Wk _ _).old _).drew)))
                   | skip
                 clear hown hgrow hat hlt)
              | (refine step_append_lies _ rfl (.tmp 57) (.tmp 60) 115 rfl w5.heap.size 43 i2 (.slice none 0 0) 1 24 Tryz.underlying115 hsf hs0 hs1 hs2 rfl ν u13 (rs.length) rs (by simp [Act.eval,Act.put]) (by first | with_reducible exact (SB.out.alloc _).rs' | with_reducible exact SB.out.rs' | with_reducible exact (S0.out.alloc _).drew.rs' | with_reducible exact ((S0.out.alloc _).alloc _).drew.rs') _ 1 1 [.slice av fr.length cv] (by simp [Act.eval,Act.put];rfl) rfl (fun j u hj=>Box.news (by first | with_reducible exact (Box.new1 _ _ _) | with_reducible exact (Box.new1 _ _ _).drew | with_reducible exact (Box.new2 _ _ _ _).drew | with_reducible exact ((Box.new1 _ _ _).old _).drew | with_reducible exact ND.out) j u hj) (by intro u hu;simp at hu;subst hu;rfl) ω (by unfold maxLen;omega) ω (by first | with_reducible exact (SB.out.alloc _).le | with_reducible exact SB.out.le | with_reducible exact (S0.out.alloc _).drew.le | with_reducible exact ((S0.out.alloc _).alloc _).drew.le) _ rfl ?_;intro gD cD vD hown hgrow hat hlt
                 have SD:=η (show St _ _ _ _ vD _ _ _ _ from by first | with_reducible exact (SB.out.alloc _).appR (r:=.slice av fr.length cv) hown hgrow | with_reducible exact SB.out.appR (r:=.slice av fr.length cv) hown hgrow | with_reducible exact (S0.out.alloc _).drew.appR (r:=.slice av fr.length cv) hown hgrow | with_reducible exact ((S0.out.alloc _).alloc _).drew.appR (r:=.slice av fr.length cv) hown hgrow)
                 first
                   | (have NB:=η (show Box vD (Wk.heap.size+1) #[.int .i64 fn.x,.int .i64 fn.y,.int .i64 fn.z,.int .u64 (fo:Int)] 120 from by with_reducible exact (St.keepR hgrow (((S0.out.alloc _).alloc _).drew) (Box.new2 Wk _ _ _).drew)))
                   | (have NB:=η (show Box vD Wk.heap.size #[.int .i64 fn.x,.int .i64 fn.y,.int .i64 fn.z,.int .u64 (fo:Int)] 120 from by with_reducible exact (St.keepR hgrow (((S0.out.alloc _).alloc _).drew) ((Box.new1 Wk _ _).old _).drew)))
                   | skip
                 clear hown hgrow hat hlt))
          all_goals
            have hpe:((fs'.take (j+1)).map fun f=>(f.n,f.o))=ps ++ [(fn,fo)]:=by
              rw [← HPSE.out,fR HFF.out,List.map_append];rfl
            have hre:((fs'.take (j+1)).map RF.v)=rs ++ [.slice av fr.length cv]:=by
              rw [← HRSE.out,fR HFF.out,List.map_append];rfl
            have HPE2:=η hpe;have HRE2:=η hre;clear hpe hre;go_wp2;go_round
            case rel =>
              refine ⟨j+1,by have:=HJL.out;omega,rfl,?_⟩;unfold Hid;rw [HPE2.out,HRE2.out]
              first
                | exact ⟨SB.out.ps,SB.out.rs,SB.out.lo⟩
                | exact ⟨SD.out.ps,SD.out.rs,SD.out.lo⟩
            case measure=>show fs'.length - ((j:Int)+1).toNat<fs'.length - (j:Int).toNat;have:=HJL.out;omega
    · have hkl:k<l.length:=ω
      obtain ⟨g,cg,ev,hgb,hgl,hgc⟩:=fF.at_ HPL.out ω;cases ev;obtain ⟨p,hp⟩:∃ p,l[k]?=some p:=⟨l[k],List.getElem?_eq_getElem hkl⟩;obtain ⟨c0,c1,c2,c3⟩:=hgc k p hp;have d0:=keepC c0 HR.out hgl;have d1:=keepC c1 HR.out hgl;have d2:=keepC c2 HR.out hgl;have d3:=keepC c3 HR.out hgl;have hpm:p ∈ l:=List.mem_of_getElem? hp;obtain ⟨b0,hF,hMk⟩:=HPI.out.face p hpm;obtain ⟨pn,po⟩:=p;simp only at hF hMk c0 c1 c2 c3 d0 d1 d2 d3;have hklt:(k:Int)<(l.length:Int):=ω;have HKL:=η hkl;have HPK:=η hp;have HF:=η hF;have HMK:=η hMk;clear hgc c0 c1 c2 c3 hp hpm hF hMk h0
      go_wp2_with fail
      obtain ⟨w2,hw2,b2,hB2,hS2⟩:=aG wr #[.int .i64 pn.x,.int .i64 pn.y,.int .i64 pn.z,.int .u64 (po:Int)] 120;have hw02:Below w.heap.size w w2:=ae (ae HB1.out HR.out ρ) hB2 ρ;have hrg:=ring_any a len cap b0 po pn P w2 (HT.out.below hw02 HT.out.1) (HP.out.below hw02) hlen HN.out (HF.out.small HN.out) HMK.out HF.out HSS.out;rw [hw2];refine hrg.mono ?_;clear hrg hw2;obtain ⟨r,hr⟩:∃ r,ring P (aH P len pn b0) pn=r:=⟨_,rfl⟩;rw [hr];rintro e w4 ⟨⟨rv,rfl,hrv⟩,hb4⟩;have hr64:∀ v,v ∈ r→v<len:=fun v hv=>by
        rw [← hr] at hv;exact (aD.mp ((HF.out.ring_mem HSS.out v).mp hv).1).1
      have hrl:r.length≤64:=by
        rw [← hr];unfold ring;obtain ⟨kp,hkp,_,h2,_⟩:=kQ (HF.out.flat HSS.out.inj) HF.out.two (HF.out.head HSS.out);rw [← hkp,List.length_map,List.length_range];have:(aH P len pn b0).length≤len:=by unfold aH;exact Nat.le_trans (List.length_filter_le _ _) (by simp)
        omega
      obtain ⟨ar,cr,rfl,hri⟩:=hrv.ints;have HRV:=η (cj hrv (show w1.heap.size≤w2.heap.size by have:=HR.out.size;omega));have HRI:=η hri;have HR64:=η hr64;have HRR:=η hr;have hR4:Below w1.heap.size w1 w4:=ae (ae HR.out hB2 ρ) hb4 ρ;have h24:Below wr.heap.size wr w4:=ae hB2 hb4 ρ;have b4:=b2.below hb4 ω;have HR4:=η hR4;have H24:=η h24;have HB4:=η b4;clear hrv hri hr64 hr hR4 h24 b4 b2 hB2 hS2 hw02 hb4 d0 d1 d2 d3
      go_wp2_with fail
      go_loopw [6,28] (fun ev iv wi=>∃ i E',i≤r.length∧iv=.int .i64 (i:Nat)∧ev=.int .u64 (E':Nat)∧Hid (fx E E' r i)∧w4=wi) (fun _ iv _=>r.length - (intOf iv).toNat)
      case atStart=>exact ⟨0,E,Nat.zero_le _,rfl,rfl,fx.start HE.out.1,rfl⟩
      case round =>
        obtain ⟨i,E',hi,rfl,rfl,HX,rfl⟩:=hrel;by_cases h0:i=r.length
        · have hn:¬ (i:Int)<(r.length:Int):=ω
          have H0:=η h0;obtain ⟨x0,x1,x2,x3,-⟩:=HB4.out.four;clear h0;have hown:w4.ownsRow w1.heap.size 171 5 u5 fs.length (fs.flatMap cA):=aF HO.out H24.out;obtain ⟨xs,hxs⟩:∃ xs,fs.flatMap cA=xs:=⟨_,rfl⟩;rw [hxs] at hown;have HXS:=η hxs;have hfl:fs.length=k:=by
            have:=congrArg List.length HM.out;rw [List.length_map,List.length_take] at this;have:=HKL.out;omega
          have hs14:=HR4.out.size;have HFL:=η hfl;have hfm:fs.length≤262144:=ω;clear hxs hfl
          go_wp2_with (at_builtin;refine wpList_append_own _ rfl _ _ 167 rfl w1.heap.size 171 i0 (.agg #[.int .i64 0,.int .i64 0,.int .i64 0,.int .u64 0,.slice none 0 0]) 5 56 Tryz.underlying167 hinf hz0 hz1 hz2 rfl ν _ _ _ rfl (hown.alloc _) ⟨w4.heap.size,0,none⟩ 1 1 [.int .i64 pn.x,.int .i64 pn.y,.int .i64 pn.z,.int .u64 (po:Int),.slice ar r.length cr] rfl rfl (fun j u hj=>nG w4 _ _ j u hj) (by intro u hu;simp at hu;rcases hu with rfl | rfl | rfl | rfl | rfl <;> rfl) (by unfold maxLen;omega) ω (by simp;omega) ?_;intro v' w5 hown' hgrow _)
          ·
            obtain ⟨f,hf⟩:∃ f:RF,f=⟨pn,po,.slice ar r.length cr,r⟩:=⟨_,rfl⟩;have hO5:qt w5 w1.heap.size v' (fs ++ [f]):=by
              have e:(fs ++ [f]).flatMap cA=xs ++ [.int .i64 pn.x,.int .i64 pn.y,.int .i64 pn.z,.int .u64 (po:Int),.slice ar r.length cr]:=by rw [List.flatMap_append,HXS.out,hf];simp [cA]
              unfold qt;rw [List.length_append,e];exact hown'
            have hB5:Below w1.heap.size w1 w5:=(HR4.out.alloc ω _).grown hgrow (by simp;omega) (cJ hown);have hring:∀ g ∈ fs ++ [f],dr w5 w1.heap.size g.v g.r:=by
              intro g hg;have h4:w4.ownsRow w1.heap.size 3 1 g.v g.r.length (g.r.map fun (i:Nat)=>Value.int .i64 (i:Int)):=by
                rcases List.mem_append.mp hg with hg | hg
                · exact aF (HON.out g hg) H24.out
                · rw [List.mem_singleton.mp hg,hf];exact HRV.out
              exact World.ownsRow.kept (h4.alloc _) hgrow (io (h4.alloc (.cells #[] 0)) (hown.alloc (.cells #[] 0)) ν)
            have hFO:∀ g ∈ fs ++ [f],FaceOk P len g:=by
              intro g hg
              rcases List.mem_append.mp hg with hg | hg
              · exact HFO.out g hg
              · rw [List.mem_singleton.mp hg,hf];exact ⟨b0,HF.out,HMK.out,HRR.out.symm⟩
            have hE5:gO E' (fs ++ [f]):=by
              have hx:fx E E' f.r f.r.length:=by rw [hf];have:=HX.out;rw [H0.out] at this;exact this
              exact hx.done HE.out
            have hM5:(fs ++ [f]).map (fun f=>(f.n,f.o))=l.take (k+1):=by
              rw [List.map_append,HM.out,List.take_succ_eq_append_getElem HKL.out,hf];have e:=HPK.out;rw [List.getElem?_eq_getElem HKL.out] at e;rw [Option.some.inj e];rfl
            have HO5:=η hO5;have HB5:=η hB5;have HRG5:=η hring;have HFO5:=η hFO;have HE5:=η hE5;have HM5:=η hM5;clear hown' hgrow hown hO5 hB5 hring hFO hE5 hM5 hf x0 x1 x2 x3;go_wp2;go_round
            case rel=>exact ⟨k+1,fs ++ [f],E',by have:=HKL.out;omega,rfl,rfl,HM5.out,HFO5.out,HRG5.out,HO5.out,HE5.out,HB5.out⟩
            case measure=>show l.length - ((k:Int)+1).toNat<l.length - (k:Int).toNat;have:=HKL.out;omega
        · have hil:i<r.length:=ω
          obtain ⟨br,orr,er,hbr,hcr,hrc⟩:=HRI.out.cells ω;cases er;obtain ⟨q,hq⟩:∃ q,r[i]?=some q:=⟨r[i],List.getElem?_eq_getElem hil⟩;have hqc:=hrc i hil;have eq0:(r.map fun (i:Nat)=>(i:Int)).getD i 0=(q:Int):=by
            rw [List.getD_eq_getElem?_getD,List.getElem?_map,hq];rfl
          rw [eq0] at hqc;have hql:=HR64.out q (List.mem_of_getElem? hq);have hq64:(q:Int)<64:=ω;have hq0:(0:Int)≤(q:Int):=ω;have hor:=shl_or E' q HX.out.1 ω;have hilt:(i:Int)<(r.length:Int):=ω;have HQ:=η hq;have HIL:=η hil;clear hrc eq0 hq h0;go_wp2;go_round
          case rel=>exact ⟨i+1,E' ||| 2 ^ q,by have:=HIL.out;omega,rfl,rfl,HX.out.step HQ.out ω,trivial⟩
          case measure=>show r.length - ((i:Int)+1).toNat<r.length - (i:Int).toNat;have:=HIL.out;omega
end Go.Proofs.Υ
end

section
namespace Go.Proofs.Υ
open Go.RowKit Dowel
theorem oM (g og cap g' og' cap' N:Nat) (f:Nat→Int) (w:World) (hN:N<9223372036854775807) (hg:g<w.heap.size) (hg':g'<w.heap.size) (h1:∀ j,j<N→w.cell? ⟨g,og+j,none⟩=some (.int .i64 (f j))) (h2:∀ j,j<N→w.cell? ⟨g',og'+j,none⟩=some (.int .i64 (f j))) :
  Calls Tryz.prog 19 #[.slice (some ⟨g,og,none⟩) N cap,.slice (some ⟨g',og',none⟩) N cap'] w fun e w'=>e=.returned (.bool true)∧Below w.heap.size w w':=by
 have H1:=η (fun w' (h:Below w.heap.size w w') j hj=>(h.cell (p:=⟨g,og+j,none⟩) hg).trans (h1 j hj));have H2:=η (fun w' (h:Below w.heap.size w w') j hj=>(h.cell (p:=⟨g',og'+j,none⟩) hg').trans (h2 j hj));clear h1 h2 hg hg'
 go_enter Tryz.func19,Tryz.ntmps19
 go_wp2_with fail
 go_loopw [5] (fun iv wr=>∃ i:Nat,i≤N∧iv=.int .i64 (i:Nat)∧Hid (Below w.heap.size w wr)) (fun iv _=>N - (intOf iv).toNat)
 case atStart=>exact ⟨0,Nat.zero_le _,rfl,Below.refl _ _⟩
 case round =>
  obtain ⟨i,hi,rfl,HB⟩:=hrel;by_cases h0:i=N
  ·have hn:¬ (i:Int)<(N:Int):=ω
   go_wp2_with fail
   go_ret;exact ⟨rfl,HB.out⟩
  ·have hlt:(i:Int)<(N:Int):=ω
   have x1:=H1.out _ HB.out i ω;have x2:=H2.out _ HB.out i ω
   go_wp2_with fail
   go_quiet (fail)
   rename_i k
   go_wp2_with fail
   go_round
   case rel=>exact ⟨i+1,by omega,rfl,aJ HB.out _⟩
   case measure=>show N - ((i:Int)+1).toNat<N - (i:Int).toNat;omega
end Go.Proofs.Υ
end
