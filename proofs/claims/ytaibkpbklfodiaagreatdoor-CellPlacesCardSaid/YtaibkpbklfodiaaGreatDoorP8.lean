/- The walks of package integer: lowered. The walk of package integer: digit. -/
import Derived.Test.YtaibkpbklfodiaaGreatDoorP7
import Derived.Test.YtaibkpbklfodiaaGreatDoorP0
import Derived.ArgAppend
import Derived.Lib.SliceRun
set_option linter.all false
set_option maxHeartbeats 100000000
section
namespace Go.Proofs.Υ
open Go.RowKit Dowel
def iE (w:World) (g n cap:Nat) (ds:List Nat):Prop:=w.ownsRow g 191 1 (.slice (some ⟨g,0,none⟩) n cap) n (ds.map dig)
theorem iE.len {w:World} {g n cap:Nat} {ds:List Nat} (h:iE w g n cap ds):ds.length=n:=by
 have:=h.1;simpa using this
theorem iE.cell {w:World} {g n cap:Nat} {ds:List Nat} (h:iE w g n cap ds) (j:Nat) (hj:j<n):w.cell? ⟨g,j,none⟩=some (.int .u32 (ds.getD j 0:Nat)):=by
 have h1:=World.ownsRow.cellAt h j ω;have h2:=h.len;rw [h1];have:j<ds.length:=ω;simp [this,dig]
theorem iE.free {w:World} {g n cap:Nat} {ds:List Nat} (h:iE w g n cap ds) (j:Nat):w.frozen? ⟨g,j,none⟩=false:=World.ownsRow.frozenAt h j
theorem iE.stored {w:World} {g n cap:Nat} {ds:List Nat} (h:iE w g n cap ds) (j d:Nat) (z:Int) (hz:z=(d:Int)):iE (w.setCell ⟨g,j,none⟩ (.int .u32 z)) g n cap (ds.set j d):=by
 subst hz;have:=(World.ownsRow.stored h j (dig d)).1;unfold iE;rw [List.map_set];exact this
theorem iE.lt {w:World} {g n cap:Nat} {ds:List Nat} (h:iE w g n cap ds):g<w.heap.size:=(World.ownsRow.lt h g rfl).2
theorem iE.le {w:World} {g n cap:Nat} {ds:List Nat} (h:iE w g n cap ds):n≤cap:=by
 rcases h.2 with ⟨h',_⟩ | ⟨g',cap',cur,h',_,_,h1,_⟩
 ·simp at h'
 ·simp only [Value.slice.injEq] at h'
  obtain ⟨_,_,rfl⟩:=h';exact h1
theorem iE.mag {w:World} {g n cap:Nat} {ds:List Nat} (h:iE w g n cap ds) (hd:Dg ds):Mag w (some ⟨g,0,none⟩) n cap ds:=
 ⟨Sl.mk' h.le (by simpa using h.len) h.lt (fun i hi=>by
  rw [Nat.zero_add,h.cell i ω];have:=h.len;have:i<ds.length:=ω;simp [this,dig]),hd,h.len,fun x hx=>by
   cases hx;obtain ⟨_,⟨h2,_⟩ | ⟨g',cap',cur,h2,_,h4,_⟩⟩:=h
   ·simp at h2
   ·have e:=(Value.slice.inj h2).1
    have e2:=congrArg Addr.block (Option.some.inj e);dsimp only at e2;subst e2;exact ⟨cur,h4⟩⟩
def RetClone (w0 w:World) (e:Ending) (n:Nat) (ds:List Nat):Prop:=∃ g cap,e=.returned (.slice (some ⟨g,0,none⟩) n cap)∧w0.heap.size≤g∧iE w g n cap ds
theorem pM {w:World} {base e size:Nat} {v:Value} {n:Nat} {xs:List Value} (h:w.ownsRow base e size v n xs) (hn:v≠.slice none 0 0) :
  ∃ g cap,v=.slice (some ⟨g,0,none⟩) n cap∧base≤g∧w.ownsRow g e size v n xs:=by
 obtain ⟨h1,⟨h2,h3⟩ | ⟨g,cap,cur,rfl,h4,h5⟩⟩:=h
 ·exact absurd h2 hn
 ·exact ⟨g,cap,rfl,h4,h1,Or.inr ⟨g,cap,cur,rfl,Nat.le_refl _,h5⟩⟩
theorem clone_u32 (b off n cap:Nat) (ds:List Nat) (w:World) (ha:Mag w (some ⟨b,off,none⟩) n cap ds) (h1:n≤1000001) :
  Calls Tryz.prog 199 #[.slice (some ⟨b,off,none⟩) n cap] w fun e w'=>RetClone w w' e n ds∧Below w.heap.size w w':=by
 have HI:=η (info_parts infoU32);have HA:=η ha;clear ha;have hnil:=fun (W:World)=>Lib.run_eql_slice_nil (P:=Tryz.prog) W 52 191 (some ⟨b,off,none⟩) n cap 0 0 Tryz.underlying52
 go_enter Tryz.func199,Tryz.ntmps199
 go_wp2_with (at_builtin;obtain ⟨i0,hi,hz0,hz1,hz2⟩:=HI.out;refine wpList_append_own _ rfl _ _ 52 rfl w.heap.size 191 i0 (.int .u32 0) 1 4 Tryz.underlying52 hi hz0 hz1 hz2 rfl ω _ _ _ rfl (World.ownsRow_made w #[] 0 ρ (Nat.zero_le _) (by simp)) ⟨b,off,none⟩ n cap (ds.map dig) rfl ?qc1 ?qc2 ?qc3 ?qc4 ?qc5 ?qc6 ?_)
 case qc1=>simpa using HA.out.len
 case qc2 =>
  intro j u hj;have hj':j<n:=by have hq:=(List.getElem?_eq_some_iff.1 hj).1;have hl:=HA.out.len;rw [List.length_map] at hq;omega
  obtain ⟨b',off',he,hb',hcap,hc⟩:=HA.out.cells ω;simp only [Option.some.injEq,Addr.mk.injEq,and_true] at he;obtain ⟨rfl,rfl⟩:=he;have h2:=hc j hj';rw [Addr.add_mid,World.cell?_alloc_lt _ _ _ (by exact hb'),h2,← hj];have:j<ds.length:=by rw [HA.out.len];exact hj'
  simp [this,dig]
 case qc3=>intro u hu;obtain ⟨d,_,rfl⟩:=List.mem_map.1 hu;rfl
 case qc4=>unfold maxLen;omega
 case qc5=>omega
 case qc6=>simp
 intro v' w1 hown hgrow hv;have hown':w1.ownsRow w.heap.size 191 1 v' n (ds.map dig):=by simpa using hown
 obtain ⟨g,cap',rfl,hg,hro⟩:=pM hown' hv;have HR:=η hro;have HG:=η hg;have HB:Hid (Below w.heap.size w w1):=((Below.refl _ w).alloc ρ _).grown hgrow (by simp) (by intro k hk;simp [Value.ownBlock] at hk;omega);clear hown hown' hgrow hv hro hg;go_wp2;go_ret;exact ⟨⟨g,cap',rfl,HG.out,HR.out⟩,HB.out⟩
def kT (s x y:Nat):Nat:=(x / 2 ^ s) ||| (y*4294967296 / 2 ^ s % 4294967296)
theorem lowD_eq {s x y:Nat} (hs:s≤31) (hx:x<4294967296):2 ^ s*kT s x y+x % 2 ^ s=x+B*(y % 2 ^ s):=by
 unfold kT;have e32:(4294967296:Nat)=2 ^ s*2 ^ (32 - s):=by rw [← Nat.pow_add,show s+(32 - s)=32 from by omega]
 have hp:0<2 ^ s:=Nat.two_pow_pos s;have h1:y*4294967296 / 2 ^ s=y*2 ^ (32 - s):=by
  rw [e32,Nat.mul_left_comm,Nat.mul_div_cancel_left _ hp]
 have h2:y*2 ^ (32 - s) % 4294967296=(y % 2 ^ s)*2 ^ (32 - s):=by
  rw [e32,Nat.mul_mod_mul_right]
 have h3:x / 2 ^ s<2 ^ (32 - s):=by
  rw [Nat.div_lt_iff_lt_mul hp,Nat.mul_comm,← e32];exact hx
 rw [h1,h2,Nat.or_comm,nat_join (32 - s) _ _ (Nat.mul_mod_left _ _) h3,Nat.mul_add];have h4:2 ^ s*(y % 2 ^ s*2 ^ (32 - s))=B*(y % 2 ^ s):=by
  unfold B;rw [e32,Nat.mul_left_comm,Nat.mul_comm]
 have h5:=Nat.div_add_mod x (2 ^ s);omega
theorem lowD_lt {s x y:Nat} (hx:x<4294967296):kT s x y<B:=
 or_lt_B (Nat.lt_of_le_of_lt (Nat.div_le_self _ _) hx) (Nat.mod_lt _ ω)
theorem lowD_z {s x y:Nat} (hx:x<4294967296):bits .or .u32 ((x:Int) / 2 ^ s) ((y:Int)*4294967296 / 2 ^ s % 4294967296)=((kT s x y:Nat):Int):=by
 have e1:((x / 2 ^ s:Nat):Int)=(x:Int) / 2 ^ s:=by rw [Int.natCast_ediv,Int.natCast_pow];rfl
 have e2:((y*4294967296 / 2 ^ s % 4294967296:Nat):Int)=(y:Int)*4294967296 / 2 ^ s % 4294967296:=by rw [Int.natCast_emod,Int.natCast_ediv,Int.natCast_mul,Int.natCast_pow];rfl
 unfold kT;rw [← u32_or_nat _ _ (Nat.lt_of_le_of_lt (Nat.div_le_self _ _) hx) (Nat.mod_lt _ ω),e1,e2]
theorem lowD_zero {s x:Nat}:kT s x 0=x / 2 ^ s:=by unfold kT;simp
theorem low_step {xs ds:List Nat} {s k la x y:Nat} (hl:ds.length=la) (hxl:xs.length=la) (hk:k<la) (hx:xs.getD k 0=x) (hy:xs.getD (k+1) 0=y) (hs:s≤31) (hxb:x<4294967296)
  (hv:2 ^ s*val (ds.take k)+xs.getD 0 0 % 2 ^ s=val (xs.take k)+B ^ k*(xs.getD k 0 % 2 ^ s)) :
  2 ^ s*val ((ds.set k (kT s x y)).take (k+1))+xs.getD 0 0 % 2 ^ s=val (xs.take (k+1))+B ^ (k+1)*(xs.getD (k+1) 0 % 2 ^ s):=by
 rw [bZ _ _ _ ω,bJ xs k ω,hx,hy,Nat.mul_add];rw [hx] at hv;have h1:=lowD_eq (y:=y) hs hxb;have h2:B ^ k*(2 ^ s*kT s x y+x % 2 ^ s)=B ^ k*(x+B*(y % 2 ^ s)):=by rw [h1]
 rw [Nat.mul_add,Nat.mul_add,Nat.mul_left_comm,← Nat.mul_assoc (B ^ k) B,← Nat.pow_succ,Nat.succ_eq_add_one] at h2;omega
def RetMagN (w:World) (e:Ending) (v:Nat) (most:Nat):Prop:=∃ a n cap ds,e=.returned (.slice a n cap)∧Mag w a n cap ds∧Nz ds∧val ds=v∧n≤most
theorem lowered_any (b off la ca s:Nat) (xs:List Nat) (w:World) (ha:Mag w (some ⟨b,off,none⟩) la ca xs) (h1:la≤1000001) (hs:s≤31) :
  Calls Tryz.prog 168 #[.slice (some ⟨b,off,none⟩) la ca,.int .i64 (s:Nat)] w fun e w'=>RetMagN w' e (val xs / 2 ^ s) la∧Below w.heap.size w w':=by
 have HA:=η ha;have lxs:=η ha.len;clear ha
 go_enter Tryz.func168,Tryz.ntmps168
 go_wp2_with fail
 refine (clone_u32 b off la ca xs w HA.out h1).mono ?_;rintro e w0 ⟨⟨g,cap,rfl,hg,hown⟩,hb0⟩;have HO:=η hown;have HG:=η hg;have HB:=η hb0;clear hown hg hb0;go_wp2
 go_loopw [11] (fun i wr=>∃ k ds,k≤la∧i=.int .i64 (k:Nat)∧iE wr g la cap ds∧Dg ds∧(2 ^ s*val (ds.take k)+xs.getD 0 0 % 2 ^ s=val (xs.take k)+B ^ k*(xs.getD k 0 % 2 ^ s))∧(∀ j,k≤j→ds.getD j 0=xs.getD j 0)∧Below w.heap.size w wr)
  (fun i _=>la - (intOf i).toNat)
 case atStart=>exact ⟨0,xs,Nat.zero_le _,rfl,HO.out,HA.out.dg,by simp [val],fun _ _=>rfl,HB.out⟩
 case round =>
  obtain ⟨k,ds,hk,rfl,hown,hdg,hval,hrest,hbl⟩:=hrel;have HO':=η hown;have HW:=η hbl;have HD:=η hdg;have HV:=η hval;have HR:=η hrest;by_cases hlt:k<la
  ·obtain ⟨b',off',he,hba,hca,hx⟩:=(HA.out.below hbl).cells ω
   simp only [Option.some.injEq,Addr.mk.injEq,and_true] at he;obtain ⟨rfl,rfl⟩:=he;have hoc:=hown.cell k ω;have hof:=hown.free k;obtain ⟨x,hx'⟩:∃ x,xs.getD k 0=x:=⟨_,rfl⟩;rw [hrest k ρ,hx'] at hoc;have hxb:x<4294967296:=by have:=HA.out.dg.getD k;rw [hx'] at this;exact this
   have HX:=η hx';by_cases hl2:k+1<la
   ·have hyk:=hx (k+1) hl2
    obtain ⟨y,hy'⟩:∃ y,xs.getD (k+1) 0=y:=⟨_,rfl⟩;rw [hy'] at hyk;have hyb:y<4294967296:=by have:=HA.out.dg.getD (k+1);rw [hy'] at this;exact this
    have HY:=η hy';clear hx hx' hown hbl hba hdg hval hrest hy';go_wp2;go_region;go_wp2;have hz:=lowD_z (s:=s) (y:=y) hxb;rw [hz];refine ⟨⟨k+1,ds.set k (kT s x y),by omega,by go_num,?_,HD.out.set _ _ (lowD_lt hxb),low_step HO'.out.len lxs.out hlt HX.out HY.out hs hxb HV.out,fun j hj=>?_,((HW.out.setCell HG.out _).setCell HG.out _).drew⟩,?_⟩
    ·have:=(HO'.out.stored k 0 0 rfl).stored k (kT s x y) _ rfl
     rw [List.set_set] at this;have h2:=(HO'.out.stored k (x / 2 ^ s) ((x:Int) / 2 ^ s) (by rw [Int.natCast_ediv,Int.natCast_pow];rfl)).stored k (kT s x y) _ rfl;rw [List.set_set] at h2;exact h2
    ·rw [bY _ _ _ _ ω];exact HR.out j ω
    ·simp [intOf];omega
   ·have hlt2:¬ (k:Int)+1<(la:Int):=ω
    have HY:Hid (xs.getD (k+1) 0=0):=gL _ _ (ψ lxs.out);clear hx hx' hown hbl hba hdg hval hrest;go_wp2;refine ⟨⟨k+1,ds.set k (kT s x 0),by omega,by go_num,HO'.out.stored _ _ _ (by rw [lowD_zero,Int.natCast_ediv,Int.natCast_pow];rfl),HD.out.set _ _ (lowD_lt hxb),low_step HO'.out.len lxs.out hlt HX.out HY.out hs hxb HV.out,fun j hj=>?_,HW.out.setCell HG.out _⟩,?_⟩
    ·rw [bY _ _ _ _ ω];exact HR.out j ω
    ·simp [intOf];omega
  ·obtain rfl:k=la:=ω
   clear hbl hown hdg hval hrest
   go_wp2_with fail
   refine (eK _ _ _ ds _ (HO'.out.mag HD.out) ω).mono ?_;rintro e w' ⟨⟨n,hm,hn,hnz,hv,rfl⟩,rfl⟩;have HM:=η hm;have HVV:=η hv;have HNZ:=η hnz;clear hm hnz hv;go_wp2;go_ret;refine ⟨⟨_,_,_,_,rfl,HM.out,HNZ.out,?_,hn⟩,HW.out⟩;rw [HVV.out];have h2:=HV.out;have l1:=HO'.out.len;have l2:=lxs.out;rw [List.take_of_length_le ω,List.take_of_length_le ω,gL xs k ω] at h2;simp only [Nat.zero_mod,Nat.mul_zero,Nat.add_zero] at h2;rw [← h2,Nat.mul_add_div (Nat.two_pow_pos s),Nat.div_eq_of_lt (Nat.mod_lt _ (Nat.two_pow_pos s)),Nat.add_zero]
end Go.Proofs.Υ
end

section
namespace Go.Proofs.Υ
open Go.RowKit Dowel
theorem jl {k:IntKind} {a b:Int} (h:a=b):Value.int k a=Value.int k b:=by rw [h]
def RetDigit (w w':World) (e:Ending) (g o m n U V:Nat) (ds:List Nat):Prop:=
 ∃ ds',e=.returned (.int .u32 (U / V:Nat))∧Own w' g m ds'∧Dg ds'∧val (win ds' o (n+1))=U % V∧(∀ j,(j<o∨o+n<j)→ds'.getD j 0=ds.getD j 0)∧Tch g w w'
set_option maxRecDepth 100000 in
theorem digit_any (g o m n cu bv ov cv:Nat) (ds vs:List Nat) (w:World) (hown:Own w g m ds) (hdg:Dg ds) (hm:o+n<m) (hcu:n+1≤cu) (hv:Mag w (some ⟨bv,ov,none⟩) n cv vs) (hg:bv≠g) (hn:2≤n) (hn2:n≤1000001) (hnz:0<vs.getD (n - 1) 0)
  (hUV:val (win ds o (n+1))<val vs*B) :
  Calls Tryz.prog 167 #[.slice (some ⟨g,o,none⟩) (n+1) cu,.slice (some ⟨bv,ov,none⟩) n cv] w fun e w'=>RetDigit w w' e g o m n (val (win ds o (n+1))) (val vs) ds:=by
 obtain ⟨b',o',he,hbv,hcv,hy⟩:=hv.cells ω;simp only [Option.some.injEq,Addr.mk.injEq,and_true] at he;obtain ⟨rfl,rfl⟩:=he;have hx0:=hown.cell (o+n) hm;have hx1:=hown.cell (o+(n - 1)) ω;have hx2:=hown.cell (o+(n - 2)) ω;have hy1:=hy (n - 1) ω;have hy2:=hy (n - 2) ω;have bx0:ds.getD (o+n) 0<4294967296:=hdg.getD _;have bx1:ds.getD (o+(n - 1)) 0<4294967296:=hdg.getD _;have bx2:ds.getD (o+(n - 2)) 0<4294967296:=hdg.getD _;have by1:vs.getD (n - 1) 0<4294967296:=hv.dg.getD _;have by2:vs.getD (n - 2) 0<4294967296:=hv.dg.getD _;have HO:=η hown;have HD:=η hdg;have HV:=η hv;have HU:=η hUV;have lvs:=η hv.len;generalize e0:ds.getD (o+n) 0=x0 at *;generalize e1:ds.getD (o+(n - 1)) 0=x1 at *;generalize e2:ds.getD (o+(n - 2)) 0=x2 at *;generalize f1:vs.getD (n - 1) 0=y1 at *;generalize f2:vs.getD (n - 2) 0=y2 at *;have E0:=η e0;have E1:=η e1;have E2:=η e2;have F1:=η f1;have F2:=η f2;clear hown hdg hv hUV e0 e1 e2 f1 f2 hy hbv;have hor:=l7 x0 x1 bx0 bx1;have hhi:x0*4294967296+x1<18446744073709551616:=ω;generalize hhe:x0*4294967296+x1=hi at *;have HHI:=η hhe;have HHB:=η hhi;have HGU:=η (guess_of HD.out HV.out.dg hn lvs.out E0.out E1.out E2.out F1.out F2.out hhe hnz HU.out);clear hhe;obtain ⟨U,hU⟩:∃ U,val (win ds o (n+1))=U:=⟨_,rfl⟩;obtain ⟨V,hV⟩:∃ V,val vs=V:=⟨_,rfl⟩;rw [hU,hV] at HGU HU;have HUe:=η hU;have HVe:=η hV;rw [hU,hV];have hV0:Hid (0<V):=by
  show 0<V
  rcases Nat.eq_zero_or_pos V with h | h
  ·have:=HU.out;rw [h] at this;omega
  ·exact h
 clear hU hV;have w1:IntKind.i64.wrap ((n:Int) - 1)=(n:Int) - 1:=IntWalk.i64_in _ ω;have w2:IntKind.i64.wrap ((n:Int) - 2)=(n:Int) - 2:=IntWalk.i64_in _ ω;have t1:((n:Int) - 1).toNat=n - 1:=ω;have t2:((n:Int) - 2).toNat=n - 2:=ω;have hq0:IntKind.u64.wrap ((hi:Int).tdiv (y1:Int))=((hi / y1:Nat):Int):=by
  rw [IntWalk.u64_quo _ _ ω];rfl
 have hr0:(hi:Int).tmod (y1:Int)=((hi % y1:Nat):Int):=by
  rw [IntWalk.rem_in _ _ ω];rfl
 go_enter Tryz.func167,Tryz.ntmps167
 go_wp2
 go_quiet (fail)
 go_wp2
 go_quiet (fail)
 go_wp2
 go_loopw [7,8] (fun qv rv wr=>∃ q r k,qv=.int .u64 (q:Nat)∧rv=.int .u64 (r:Nat)∧q*y1+r=hi∧U / V≤q∧r<8589934592∧wr=w.drewN k) (fun _ rv _=>(4294967296 - intOf rv).toNat)
 case atStart =>
  refine ⟨hi / y1,hi % y1,_,?_,rfl,?_,HGU.out.start,?_,World.drewN_drewN _ _ _⟩
  ·rw [show ((hi:Int) / (y1:Int))=((hi / y1:Nat):Int) from rfl,IntWalk.u64_in _ ⟨Int.natCast_nonneg _,by have:=Nat.div_le_self hi y1;have:0≤hi / y1:=Nat.zero_le _;generalize hi / y1=z at *;omega⟩]
  ·rw [Nat.mul_comm];exact Nat.div_add_mod hi y1
  ·have:=Nat.mod_lt hi hnz;omega
 case round =>
  obtain ⟨q,r,k,rfl,rfl,hqr,hq,hr,rfl⟩:=hrel;have HQR:=η hqr;have HQ:=η hq;clear hqr hq hq0 hr0 hor hhi;by_cases hcont:r<4294967296∧(4294967296≤q∨r*4294967296+x2<q*y2)
  ·have HST:=η (HGU.out.step q r HQR.out HQ.out hcont.2)
   have hq1:0<q:=HST.out.1;have hrB:=hcont.1;have hdr:decide ((r:Int)<4294967296)=true:=by simp;omega
   by_cases hqB:q<4294967296
   ·have ht:r*4294967296+x2<q*y2:=by have:=hcont.2;omega
    obtain ⟨p,hp⟩:∃ p,q*y2=p:=⟨_,rfl⟩;have hpb:=j5 hqB by2;rw [hp] at hpb ht;have hpz:(q:Int)*(y2:Int)=(p:Int):=by rw [← hp,Int.natCast_mul]
    have hmul:IntKind.u64.wrap ((q:Int)*(y2:Int))=(p:Int):=by rw [hpz];exact IntWalk.u64_in _ ω
    have hor:=l7 r x2 hrB bx2;have hsb:r*4294967296+x2<18446744073709551616:=ω;obtain ⟨s,hs⟩:∃ s,r*4294967296+x2=s:=⟨_,rfl⟩;rw [hs] at hor hsb ht;have hdq:decide ((4294967296:Int)≤(q:Int))=false:=by simp;omega
    have hdt:decide (s<p)=true:=by simp;omega
    clear hs hp hpz hcont;go_wp2
    go_quiet (fail)
    go_wp2;refine ⟨⟨q - 1,r+y1,_,?_,rfl,HST.out.2.2,HST.out.2.1,by omega,rfl⟩,?_⟩
    ·exact jl ω
    ·simp [intOf];omega
   ·have hdq:decide ((4294967296:Int)≤(q:Int))=true:=by simp;omega
    have hqn:q<18446744073709551616:=by
     have h1:=HQR.out;have h2:=HHB.out;have h3:q*1≤q*y1:=Nat.mul_le_mul_left _ hnz;omega
    clear hcont;go_wp2
    go_quiet (fail)
    go_wp2;refine ⟨⟨q - 1,r+y1,_,?_,rfl,HST.out.2.2,HST.out.2.1,by omega,rfl⟩,?_⟩
    ·exact jl ω
    ·simp [intOf];omega
  ·have hqe:=HGU.out.stop q r HQR.out (by unfold B;omega)
   have HQE:=η hqe.2;have hqB:q<4294967296:=hqe.1;have hdq:decide ((4294967296:Int)≤(q:Int))=false:=by simp;omega
   have hsplit:(4294967296≤r)∨(r<4294967296∧q*y2≤r*4294967296+x2):=ω;clear hqe hcont
   rcases hsplit with hrB | ⟨hrB,ht⟩
   case' inl =>
    have hdr:decide ((r:Int)<4294967296)=false:=by simp;omega
    go_wp2
    go_quiet (fail)
    go_wp2;clear hdr hrB hdq
   case' inr =>
    have hdr:decide ((r:Int)<4294967296)=true:=by simp;omega
    obtain ⟨p,hp⟩:∃ p,q*y2=p:=⟨_,rfl⟩;have hpb:=j5 hqB by2;rw [hp] at hpb ht;have hpz:(q:Int)*(y2:Int)=(p:Int):=by rw [← hp,Int.natCast_mul]
    have hmul:IntKind.u64.wrap ((q:Int)*(y2:Int))=(p:Int):=by rw [hpz];exact IntWalk.u64_in _ ω
    have hor:=l7 r x2 hrB bx2;have hsb:r*4294967296+x2<18446744073709551616:=ω;obtain ⟨s,hs⟩:∃ s,r*4294967296+x2=s:=⟨_,rfl⟩;rw [hs] at hor hsb ht;have hdt:decide (s<p)=false:=by simp;omega
    clear hs hp hpz;have HT:=η ht;clear ht;go_wp2
    go_quiet (fail)
    clear hdr hrB hdq hor hmul hsb hdt hpb;go_wp2
   all_goals
    clear w1 w2 t1 t2 hx1 hx2 hy1 hy2 hnz bx1 bx2 by1 by2
    go_loopw [9,10,86] (fun cv bv' iv wr=>∃ kk c b ds',kk≤n∧iv=.int .i64 (kk:Nat)∧c<4294967296∧cv=.int .u64 (c:Nat)∧b≤1∧bv'=.int .i64 (b:Nat)∧Own wr g m ds'∧MsI ds vs o q kk c b ds'∧Tch g w wr)
     (fun _ _ iv _=>n - (intOf iv).toNat)
    case atStart=>exact ⟨0,0,0,ds,Nat.zero_le _,rfl,by omega,rfl,Nat.zero_le _,rfl,HO.out.drewN _,MsI.start HD.out _ _,(Tch.refl g w).drewN _⟩
    case round =>
     obtain ⟨kk,c,b,ds',hkk,rfl,hc,rfl,hb,rfl,hown,hms,htc⟩:=hrel;have HO2:=η hown;have HM2:=η hms;have HT2:=η htc;by_cases hlt:kk<n
     ·obtain ⟨b',o',he,hbv,hcv2,hy⟩:=(HV.out.touch htc hg).cells ω
      simp only [Option.some.injEq,Addr.mk.injEq,and_true] at he;obtain ⟨rfl,rfl⟩:=he;have hyk:=hy kk hlt;have hok:=hown.cell (o+kk) ω;have hof:=hown.free (o+kk);have hsame:=hms.2.2 (o+kk) ω;rw [hsame] at hok;have bu:ds.getD (o+kk) 0<4294967296:=HD.out.getD _;have bd:vs.getD kk 0<4294967296:=HV.out.dg.getD _;obtain ⟨u,hu⟩:∃ u,ds.getD (o+kk) 0=u:=⟨_,rfl⟩;obtain ⟨d,hd⟩:∃ d,vs.getD kk 0=d:=⟨_,rfl⟩;rw [hu] at hok bu;rw [hd] at hyk bd;have hpb:=j5 hqB bd;obtain ⟨pr,hp⟩:∃ pr,q*d=pr:=⟨_,rfl⟩;rw [hp] at hpb;have hpz:(q:Int)*(d:Int)=(pr:Int):=by rw [← hp,Int.natCast_mul]
      have HE:Hid (∀ (new b2:Nat) (nz:Int),(new:Int)=nz→new+(c+pr) % 4294967296+b=u+4294967296*b2→new<4294967296→b2≤1 →
        ∃ kk' c' b' ds2,kk'≤n∧Value.int .i64 ((kk:Int)+1)=.int .i64 (kk':Nat)∧c'<4294967296∧Value.int .u64 (((c:Int)+(pr:Int)) / 4294967296)=.int .u64 (c':Nat)∧b'≤1∧Value.int .i64 (b2:Int)=.int .i64 (b':Nat) ∧
         Own (wr.setCell ⟨g,o+kk,none⟩ (.int .u32 nz)) g m ds2∧MsI ds vs o q kk' c' b' ds2∧Tch g w (wr.setCell ⟨g,o+kk,none⟩ (.int .u32 nz))):=by
       intro new b2 nz hnz' hnew hnB hb2;refine ⟨kk+1,(c+pr) / 4294967296,b2,ds'.set (o+kk) new,by omega,rfl,by omega,by rfl,hb2,rfl,HO2.out.stored _ _ _ hnz'.symm,?_,HT2.out.set _ _⟩;refine HM2.out.step (by rw [HO2.out.len];omega) (by rw [lvs.out];exact hlt) hu hd ?_ hnew hnB;rw [hp];unfold B;omega
      have HPB:=η hpb;clear hown hms htc hy hsame hu hd hp hbv;by_cases hneg:(u:Int) - b - ((c:Int)+pr) % 4294967296<0
      ·go_wp2
       go_roundw
       case rel=>exact HE.out (u+4294967296 - b - (c+pr) % 4294967296) 1 _ ω ω ω ω
       case measure=>simp [intOf];omega
      ·go_wp2
       go_roundw
       case rel=>exact HE.out (u - b - (c+pr) % 4294967296) 0 _ ω ω ω ω
       case measure=>simp [intOf];omega
     ·obtain rfl:kk=n:=ω
      have hok:=hown.cell (o+kk) hm;have hof:=hown.free (o+kk);have hsame:=hms.2.2 (o+kk) ω;rw [hsame,E0.out] at hok;by_cases ht0:c+b≤x0
      ·have hend:=ms_end hms (by rw [hown.len];exact hm) lvs.out E0.out HUe.out HVe.out hV0.out HQ.out ht0
       have HEND:=η hend;clear hown hms htc hsame hend;go_wp2;go_ret;refine ⟨ds'.set (o+kk) (x0 - b - c),?_,HO2.out.stored _ _ _ ω,HM2.out.1.set _ _ (by unfold B;omega),HEND.out.2,fun j hj=>?_,HT2.out.set _ _⟩
       ·rw [← HEND.out.1];rfl
       ·rw [bY _ _ _ _ ω];exact HM2.out.2.2 j ω
      ·have hneg:(x0:Int) - b - c<0:=ω
       have HO3:=η (HO2.out.stored (o+kk) (x0+4294967296 - b - c) (((x0:Int) - b - c) % 4294967296) ω);have HD3:=η (HM2.out.1.set (o+kk) (x0+4294967296 - b - c) (by unfold B;omega));have HT3:=η (HT2.out.set (o+kk) (.int .u32 (((x0:Int) - b - c) % 4294967296)));clear hown hms htc hsame;have HNE:=η ht0;clear ht0 hx0;go_wp2;clear hok hof hneg;obtain ⟨W3,hW3⟩:∃ W3,W3=wr.setCell ⟨g,o+kk,none⟩ (.int .u32 (((x0:Int) - b - c) % 4294967296)):=⟨_,rfl⟩;rw [← hW3] at HO3 HT3 ⊢;clear hW3
       go_loopw [9,139] (fun cv' iv wi=>∃ j c3 es,j≤kk∧iv=.int .i64 (j:Nat)∧c3≤1∧cv'=.int .u64 (c3:Nat)∧Own wi g m es∧AbI (ds'.set (o+kk) (x0+4294967296 - b - c)) vs o j c3 es∧Tch g w wi) (fun _ iv _=>kk - (intOf iv).toNat)
       case atStart=>exact ⟨0,0,_,Nat.zero_le _,rfl,Nat.zero_le _,rfl,HO3.out,AbI.start HD3.out _,HT3.out⟩
       case round =>
        obtain ⟨j,c3,es,hj,rfl,hc3,rfl,hown,hab,htc⟩:=hrel;have HO4:=η hown;have HM4:=η hab;have HT4:=η htc;by_cases hlj:j<kk
        ·obtain ⟨b',o',he,hbv,hcv2,hy⟩:=(HV.out.touch htc hg).cells ω
         simp only [Option.some.injEq,Addr.mk.injEq,and_true] at he;obtain ⟨rfl,rfl⟩:=he;have hyk:=hy j hlj;have hok:=hown.cell (o+j) ω;have hof:=hown.free (o+j);have hsame:=hab.2.2 (o+j) ω;rw [hsame] at hok;have bu:(ds'.set (o+kk) (x0+4294967296 - b - c)).getD (o+j) 0<4294967296:=HD3.out.getD _;have bd:vs.getD j 0<4294967296:=HV.out.dg.getD _;obtain ⟨u,hu⟩:∃ u,(ds'.set (o+kk) (x0+4294967296 - b - c)).getD (o+j) 0=u:=⟨_,rfl⟩;obtain ⟨d,hd⟩:∃ d,vs.getD j 0=d:=⟨_,rfl⟩;rw [hu] at hok bu;rw [hd] at hyk bd;have HST:=η (hab.step (by rw [hown.len];omega) (by rw [lvs.out];exact hlj) hu hd (s:=c3+(u+d)) rfl);clear hown hab htc hy hsame hu hd hbv;go_wp2
         go_roundw
         case rel=>exact ⟨j+1,(c3+(u+d)) / 4294967296,_,by omega,by go_num,by omega,by rfl,HO4.out.stored _ _ _ (by rfl),HST.out,HT4.out.set _ _⟩
         case measure=>simp [intOf];omega
        ·obtain rfl:j=kk:=ω
         have hok:=hown.cell (o+j) hm;have hof:=hown.free (o+j);have hsame:=hab.2.2 (o+j) ω;rw [hsame,dX _ _ _ (by rw [HO2.out.len];exact hm)] at hok;have hend:=ab_end HM2.out lvs.out HV.out.dg E0.out HUe.out HVe.out hV0.out HQE.out (ψ HNE.out) (by unfold B;omega) hab (by rw [hown.len];exact hm);have HEND:=η hend.2;have hq1:=hend.1;obtain ⟨d2,hd2⟩:∃ d2,x0+4294967296 - b - c=d2:=⟨_,rfl⟩;have hd2b:d2<4294967296:=by have:=HNE.out;omega
         rw [hd2] at hok;have HD2:=η hd2;clear hown hab htc hsame hend hd2;go_wp2;go_ret;refine ⟨es.set (o+j) ((d2+c3) % 4294967296),?_,HO4.out.stored _ _ _ ω,HM4.out.1.set _ _ (by unfold B;omega),?_,fun i hi=>?_,HT4.out.set _ _⟩
         ·have h5:=HEND.out.1
          show Ending.returned (.int .u32 _)=_;rw [← h5];exact congrArg Ending.returned (jl ω)
         ·have:=HEND.out.2
          unfold B at this;rw [HD2.out] at this;exact this
         ·rw [bY _ _ _ _ ω,HM4.out.2.2 i ω,bY _ _ _ _ ω];exact HM2.out.2.2 i ω
end Go.Proofs.Υ
end
