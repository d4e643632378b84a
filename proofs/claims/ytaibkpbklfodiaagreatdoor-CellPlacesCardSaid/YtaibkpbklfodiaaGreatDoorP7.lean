/- The walks of package integer: short. The walks of package integer: raised. -/
import Derived.Test.YtaibkpbklfodiaaGreatDoorP1
import Derived.Laws.BitsAllLaws
set_option linter.all false
set_option maxHeartbeats 100000000
section
namespace Go.Proofs.Υ
open Go.RowKit Dowel
theorem l7 (r x:Nat) (hr:r<4294967296) (hx:x<4294967296):bits .or .u64 ((r:Int)*4294967296) (x:Int)=((r*4294967296+x:Nat):Int):=by
 have h1:((r:Int)*4294967296)=((r*4294967296:Nat):Int):=ω;rw [h1,u64_or_nat _ _ ω ω,nat_join 32 _ _ ω ω]
def RetShort (w:World) (e:Ending) (v D:Nat) (most:Nat):Prop:=
 ∃ a n cap ds,e=.returned (.tuple #[.slice a n cap,.int .u32 (v % D:Nat)])∧Mag w a n cap ds∧Nz ds∧val ds=v / D∧n≤most
theorem kM (a:Option Addr) (la ca:Nat) (D:Nat) (xs:List Nat) (w:World) (ha:Mag w a la ca xs) (h1:la≤1000000) (hb0:0<D) (hb:D<4294967296) :
  Calls Tryz.prog 138 #[.slice a la ca,.int .u32 (D:Nat)] w fun e w'=>RetShort w' e (val xs) D la∧Below w.heap.size w w':=by
 have HA:=η ha;have lxs:=η ha.len;have hD1:(1:Int)≤(D:Int):=ω;clear ha
 go_enter Tryz.func138,Tryz.ntmps138
 go_wp2_with (at_make;refine fA _ rfl _ _ rfl _ _ _ _ rfl rfl la ?c1 ?c2 ?c3 ?_)
 case c1=>omega
 case c2=>omega
 case c3=>omega
 intro w0 hown0 hgrow0;have HO:=η hown0;have HG:=η hgrow0;clear hown0 hgrow0;go_wp2
 go_loopw [7,8] (fun r i wr=>∃ k rr ds,k≤la∧i=.int .i64 ((k:Int) - 1)∧rr<D∧r=.int .u64 (rr:Nat)∧Own wr w.heap.size la ds∧Dg ds∧val (xs.drop k)=D*val (ds.drop k)+rr∧Below w.heap.size w wr)
  (fun _ i _=>(intOf i+1).toNat)
 case atStart=>exact ⟨la,0,_,Nat.le_refl _,rfl,hb0,rfl,HO.out,Dg.zeros _,by rw [List.drop_of_length_le (by rw [lxs.out];exact Nat.le_refl _),List.drop_of_length_le (by simp)];simp [val],HG.out⟩
 case round =>
  obtain ⟨k,rr,ds,hk,rfl,hrr,rfl,hown,hdg,hval,hbl⟩:=hrel;have HO':=η hown;have HW:=η hbl;have HD:=η hdg;have HV:=η hval;by_cases hlt:0<k
  ·obtain ⟨ba,oa,rfl,hba,hca,hx⟩:=(HA.out.below hbl).cells ω
   obtain ⟨i,rfl⟩:∃ i,k=i+1:=⟨k - 1,by omega⟩;have hxk:=hx i ω;obtain ⟨x,hx'⟩:∃ x,xs.getD i 0=x:=⟨_,rfl⟩;rw [hx'] at hxk;have hxb:x<4294967296:=by have:=HA.out.dg.getD i;rw [hx'] at this;exact this
   have HX:=η hx';have hoc:=hown.cell i ω;have hof:=hown.free i;have ei:(((i+1:Nat):Int) - 1)=(i:Int):=ω;rw [ei];have hor:=l7 rr x ω hxb;have hst:=short_step _ _ _ _ x hval;have hsl:=short_lt hrr (show x<B from hxb);have hsm:(rr*B+x) % D<D:=Nat.mod_lt _ hb0;have hH:rr*B+x<18446744073709551616:=by unfold B;omega
   have eB:rr*4294967296+x=rr*B+x:=rfl;rw [eB] at hor;generalize hHH:rr*B+x=H at *;have HS:=η hst;have HSL:=η hsl;have HSM:=η hsm;have hdiv:((H:Int) / (D:Int))≤4294967295:=by
    have:((H / D:Nat):Int)=(H:Int) / (D:Int):=Int.natCast_ediv H D;have h3:H / D<4294967296:=hsl;omega
   have hdiv0:0≤((H:Int) / (D:Int)):=Int.ediv_nonneg ω ω;clear hx hx' hown hbl hba ei hdg hval hst hsl hsm hHH eB;go_wp2
   go_roundw
   case rel =>
    refine ⟨i,H % D,ds.set i (H / D),by omega,rfl,HSM.out,by rfl,HO'.out.stored _ _ _ (by rfl),HD.out.set _ _ HSL.out,?_,HW.out.setCell ρ _⟩;rw [mu _ _ (by rw [lxs.out];omega),o8 _ _ _ (by rw [HO'.out.len];omega),HX.out];exact HS.out
   case measure=>simp [intOf]
  ·obtain rfl:k=0:=ω
   have hr:rr<4294967296:=ω;clear hown hbl hdg hval
   go_wp2_with fail
   refine (eK _ _ _ ds _ (HO'.out.mag HD.out) ω).mono ?_;rintro e w' ⟨⟨n,hm,hn,hnz,hv,rfl⟩,rfl⟩;have HM:=η hm;have HN:=η hnz;have HVV:=η hv;clear hm hnz hv;go_wp2
   go_ret2
   refine ⟨⟨_,_,_,_,?_,HM.out,HN.out,?_,hn⟩,HW.out⟩
   ·have h2:=HV.out
    simp only [List.drop_zero] at h2;rw [h2,Nat.mul_add_mod,Nat.mod_eq_of_lt hrr];rfl
   ·have h2:=HV.out
    simp only [List.drop_zero] at h2;rw [HVV.out,h2,Nat.mul_add_div hb0,Nat.div_eq_of_lt hrr];simp
end Go.Proofs.Υ
end

section
namespace Go.Proofs.Υ
open Go.RowKit Dowel
def qr (xs:List Nat) (s k:Nat) (ds:List Nat):Prop:=Dg ds∧val (ds.take (k+1))=2 ^ s*val (xs.take k)∧ds.getD k 0<2 ^ s∧∀ j,k<j→ds.getD j 0=0
theorem shl_join {c x s:Nat} (hs:s≤31) (hc:c<2 ^ s):c ||| (x*2 ^ s % B)=c+x*2 ^ s % B:=by
 rw [Nat.or_comm,nat_join s _ _ (shl_mod ω) hc,Nat.add_comm]
theorem qr.step {xs ds:List Nat} {s k:Nat} (h:qr xs s k ds) (hs:s≤31) (hk:k<xs.length) (hl:k+1<ds.length) (x c:Nat) (hx:xs.getD k 0=x) (hxB:x<B) (hc:ds.getD k 0=c) :
  qr xs s (k+1) ((ds.set k (c ||| (x*2 ^ s % B))).set (k+1) (x*2 ^ s / B)):=by
 obtain ⟨h1,h2,h3,h4⟩:=h;have hcB:c<B:=by rw [← hc];exact h1.getD k
 rw [hc] at h3;have hq:x*2 ^ s / B<2 ^ s:=shl_div_lt hxB;have hqB:x*2 ^ s / B<B:=by
  have:2 ^ s≤2 ^ 31:=Nat.pow_le_pow_right ω hs;unfold B at *;omega
 refine ⟨(h1.set _ _ (or_lt_B hcB (Nat.mod_lt _ ii))).set _ _ hqB,?_,?_,fun j hj=>?_⟩
 ·rw [bZ _ _ _ (by simpa using hl),bZ _ _ _ ω,bJ xs k hk,hx,shl_join hs h3]
  rw [bJ ds k ω,hc] at h2;rw [Nat.mul_add (2 ^ s),← h2,Nat.mul_add,Nat.pow_succ,Nat.mul_assoc];have:=Nat.div_add_mod (x*2 ^ s) B;have h5:B ^ k*(x*2 ^ s)=B ^ k*(B*(x*2 ^ s / B)+x*2 ^ s % B):=by rw [this]
  rw [Nat.mul_add] at h5;have h6:2 ^ s*(B ^ k*x)=B ^ k*(x*2 ^ s):=by rw [Nat.mul_left_comm,Nat.mul_comm x]
  omega
 ·rw [dX _ _ _ (by simpa using hl)];exact hq
 ·rw [bY _ _ _ _ ω,bY _ _ _ _ ω];exact h4 j ω
theorem mP (a:Option Addr) (la ca:Nat) (s:Nat) (xs:List Nat) (w:World) (ha:Mag w a la ca xs) (h1:la≤1000000) (hs:s≤31) :
  Calls Tryz.prog 166 #[.slice a la ca,.int .i64 (s:Nat)] w fun e w' =>
   (∃ ds,e=.returned (.slice (some ⟨w.heap.size,0,none⟩) (la+1) (la+1))∧Own w' w.heap.size (la+1) ds∧Dg ds∧val ds=2 ^ s*val xs)∧Below w.heap.size w w':=by
 have HA:=η ha;have lxs:=η ha.len;clear ha
 go_enter Tryz.func166,Tryz.ntmps166
 go_wp2_with (at_make;refine fA _ rfl _ _ rfl _ _ _ _ rfl rfl (la+1) ?c1 ?c2 ?c3 ?_)
 case c1=>omega
 case c2=>omega
 case c3=>omega
 intro w0 hown0 hgrow0;have HO:=η hown0;have HG:=η hgrow0;clear hown0 hgrow0;go_wp2
 go_loopw [14] (fun i wr=>∃ k ds,k≤la∧i=.int .i64 (k:Nat)∧Own wr w.heap.size (la+1) ds∧qr xs s k ds∧Below w.heap.size w wr)
  (fun i _=>la - (intOf i).toNat)
 case atStart=>exact ⟨0,_,Nat.zero_le _,rfl,HO.out,⟨Dg.zeros _,by simp [val,List.replicate_succ],by simp [List.replicate_succ,Nat.two_pow_pos],fun j _=>by simp [List.getElem?_replicate];split <;> rfl⟩,HG.out⟩
 case round =>
  obtain ⟨k,ds,hk,rfl,hown,hri,hbl⟩:=hrel;have HO':=η hown;have HW:=η hbl;have HR:=η hri;by_cases hlt:k<la
  ·obtain ⟨ba,oa,rfl,hba,hca,hx⟩:=(HA.out.below hbl).cells ω
   have hxk:=hx k ω;obtain ⟨x,hx'⟩:∃ x,xs.getD k 0=x:=⟨_,rfl⟩;rw [hx'] at hxk;have hxb:x<4294967296:=by have:=HA.out.dg.getD k;rw [hx'] at this;exact this
   have hoc:=hown.cell k ω;have hof:=hown.free k;obtain ⟨c,hc'⟩:∃ c,ds.getD k 0=c:=⟨_,rfl⟩;rw [hc'] at hoc;have hcb:c<4294967296:=by have:=hri.1.getD k;rw [hc'] at this;exact this
   have hoc1:=hown.cell (k+1) ω;have hof1:=hown.free (k+1);have HST:=η (hri.step hs (by rw [lxs.out];exact hlt) (by rw [hown.len];omega) x c hx' hxb hc');obtain ⟨p,hp⟩:∃ p,x*2 ^ s=p:=⟨_,rfl⟩;have hpz:(x:Int)*2 ^ s=(p:Int):=by rw [← hp,Int.natCast_mul,Int.natCast_pow];rfl
   have hpb:p<18446744073709551616:=by
    rw [← hp];have h3:2 ^ s≤2 ^ 31:=Nat.pow_le_pow_right ω hs;have h4:x*2 ^ s≤4294967295*2 ^ 31:=Nat.mul_le_mul ω h3;omega
   rw [hp] at HST;have hor:bits .or .u32 (c:Int) ((p:Int) % 4294967296)=((c ||| p % B:Nat):Int):=by
    rw [← u32_or_nat c (p % B) hcb (Nat.mod_lt _ ii)];rfl
   clear hx hx' hown hbl hba hri hc' hp;go_wp2;go_region;go_wp2;refine ⟨⟨k+1,(ds.set k (c ||| p % B)).set (k+1) (p / B),by omega,by go_num,((HO'.out.stored _ _ _ rfl).stored _ _ _ ?_).drewN 1,HST.out,((HW.out.setCell ρ _).setCell ρ _).drew⟩,?_⟩
   ·show _=((p / 4294967296:Nat):Int)
    omega
   ·simp [intOf];omega
  ·obtain rfl:k=la:=ω
   clear hbl hown hri;go_wp2;go_ret;refine ⟨⟨ds,rfl,HO'.out,HR.out.1,?_⟩,HW.out⟩;have h2:=HR.out.2.1;have l1:=HO'.out.len
   rwa [List.take_of_length_le ω,List.take_of_length_le (by rw [lxs.out];exact Nat.le_refl _)] at h2
end Go.Proofs.Υ
end
