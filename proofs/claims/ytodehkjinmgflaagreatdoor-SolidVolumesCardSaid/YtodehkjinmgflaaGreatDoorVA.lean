/- Short names for frequent proofs. -/
import Derived.Lib.Hide
set_option linter.all false
open Go Go.RowKit
theorem I{p:Prop}(h:p:=by omega):p:=h
theorem Z{p:Prop}(h:p:=by kernel_rfl):p:=h
theorem ν{p:Prop}(h:p:=by decide):p:=h
theorem δ{p q:Prop}(h:¬p:=by decide):p→q:=fun x=>absurd x h
theorem ρ{n:Nat}:n<=n:=Nat.le_refl _
theorem β{n:Nat}{w:World}:Below n w w:=Below.refl _ _
theorem ψ{q p:Prop}(h:q)(f:q→p:=by intro _;omega):p:=f h
theorem O{p:Prop}(h:p):Hid p:=h
theorem ξ{α:Sort _}{a:α}:∃x,a=x:=⟨a,rfl⟩
theorem Go.RowKit.Hid.o{p:Prop}(h:Hid p):p:=h.out
theorem η2{p q:Prop}(hp:p)(hq:q):Hid p/\Hid q:=⟨hp,hq⟩
theorem η3{p q r:Prop}(hp:p)(hq:q)(hr:r):Hid p/\Hid q/\Hid r:=⟨hp,hq,hr⟩
theorem η4{p q r s:Prop}(hp:p)(hq:q)(hr:r)(hs:s):Hid p/\Hid q/\Hid r/\Hid s:=⟨hp,hq,hr,hs⟩
theorem η5{p q r s t:Prop}(hp:p)(hq:q)(hr:r)(hs:s)(ht:t):Hid p/\Hid q/\Hid r/\Hid s/\Hid t:=⟨hp,hq,hr,hs,ht⟩
theorem η6{p q r s t u:Prop}(hp:p)(hq:q)(hr:r)(hs:s)(ht:t)(hu:u):Hid p/\Hid q/\Hid r/\Hid s/\Hid t/\Hid u:=⟨hp,hq,hr,hs,ht,hu⟩
theorem η7{p q r s t u v:Prop}(hp:p)(hq:q)(hr:r)(hs:s)(ht:t)(hu:u)(hv:v):Hid p/\Hid q/\Hid r/\Hid s/\Hid t/\Hid u/\Hid v:=⟨hp,hq,hr,hs,ht,hu,hv⟩
theorem η8{p q r s t u v x:Prop}(hp:p)(hq:q)(hr:r)(hs:s)(ht:t)(hu:u)(hv:v)(hx:x):Hid p/\Hid q/\Hid r/\Hid s/\Hid t/\Hid u/\Hid v/\Hid x:=⟨hp,hq,hr,hs,ht,hu,hv,hx⟩
theorem η9{p q r s t u v x y:Prop}(hp:p)(hq:q)(hr:r)(hs:s)(ht:t)(hu:u)(hv:v)(hx:x)(hy:y):Hid p/\Hid q/\Hid r/\Hid s/\Hid t/\Hid u/\Hid v/\Hid x/\Hid y:=⟨hp,hq,hr,hs,ht,hu,hv,hx,hy⟩
def τ(a b:Nat):Array Bool:=⟨List.replicate a true++List.replicate b false⟩
theorem μ{n k:Nat}(h:k<n:=by omega):n-((k:Int)+1).toNat<n-(k:Int).toNat:=by omega
theorem σ{α:Type}:(∀(l:List α)(i:Nat)(a:α),l.toArray.setIfInBounds i a=(l.set i a).toArray)/\(∀(x a:α)(l:List α),(x::l).set 0 a=a::l)/\∀(x a:α)(l:List α)(i:Nat),(x::l).set (i+1) a=x::l.set i a:=⟨fun _ _ _=>List.setIfInBounds_toArray ..,fun _ _ _=>rfl,fun _ _ _ _=>rfl⟩
theorem ζ{n:Int}(h:-9223372036854775808<=n/\n<=9223372036854775807:=by omega):wrap64 n=n:=by unfold wrap64;omega
theorem χ{α:Sort _}(a:α):∃x,a=x:=⟨a,rfl⟩
theorem φ{α:Sort _}(a:α):∃x,x=a:=⟨a,rfl⟩
abbrev Γ2(w:World)(b0 o0:Nat)(v0:Value)(b1 o1:Nat)(v1:Value):Prop:=w.cell? ⟨b0,o0,none⟩=some v0/\w.cell? ⟨b1,o1,none⟩=some v1
abbrev Γ3(w:World)(b0 o0:Nat)(v0:Value)(b1 o1:Nat)(v1:Value)(b2 o2:Nat)(v2:Value):Prop:=w.cell? ⟨b0,o0,none⟩=some v0/\w.cell? ⟨b1,o1,none⟩=some v1/\w.cell? ⟨b2,o2,none⟩=some v2
abbrev Γ4(w:World)(b0 o0:Nat)(v0:Value)(b1 o1:Nat)(v1:Value)(b2 o2:Nat)(v2:Value)(b3 o3:Nat)(v3:Value):Prop:=w.cell? ⟨b0,o0,none⟩=some v0/\w.cell? ⟨b1,o1,none⟩=some v1/\w.cell? ⟨b2,o2,none⟩=some v2/\w.cell? ⟨b3,o3,none⟩=some v3
abbrev Γ5(w:World)(b0 o0:Nat)(v0:Value)(b1 o1:Nat)(v1:Value)(b2 o2:Nat)(v2:Value)(b3 o3:Nat)(v3:Value)(b4 o4:Nat)(v4:Value):Prop:=w.cell? ⟨b0,o0,none⟩=some v0/\w.cell? ⟨b1,o1,none⟩=some v1/\w.cell? ⟨b2,o2,none⟩=some v2/\w.cell? ⟨b3,o3,none⟩=some v3/\w.cell? ⟨b4,o4,none⟩=some v4
abbrev Γ6(w:World)(b0 o0:Nat)(v0:Value)(b1 o1:Nat)(v1:Value)(b2 o2:Nat)(v2:Value)(b3 o3:Nat)(v3:Value)(b4 o4:Nat)(v4:Value)(b5 o5:Nat)(v5:Value):Prop:=w.cell? ⟨b0,o0,none⟩=some v0/\w.cell? ⟨b1,o1,none⟩=some v1/\w.cell? ⟨b2,o2,none⟩=some v2/\w.cell? ⟨b3,o3,none⟩=some v3/\w.cell? ⟨b4,o4,none⟩=some v4/\w.cell? ⟨b5,o5,none⟩=some v5
abbrev Γ8(w:World)(b0 o0:Nat)(v0:Value)(b1 o1:Nat)(v1:Value)(b2 o2:Nat)(v2:Value)(b3 o3:Nat)(v3:Value)(b4 o4:Nat)(v4:Value)(b5 o5:Nat)(v5:Value)(b6 o6:Nat)(v6:Value)(b7 o7:Nat)(v7:Value):Prop:=w.cell? ⟨b0,o0,none⟩=some v0/\w.cell? ⟨b1,o1,none⟩=some v1/\w.cell? ⟨b2,o2,none⟩=some v2/\w.cell? ⟨b3,o3,none⟩=some v3/\w.cell? ⟨b4,o4,none⟩=some v4/\w.cell? ⟨b5,o5,none⟩=some v5/\w.cell? ⟨b6,o6,none⟩=some v6/\w.cell? ⟨b7,o7,none⟩=some v7
abbrev Γ9(w:World)(b0 o0:Nat)(v0:Value)(b1 o1:Nat)(v1:Value)(b2 o2:Nat)(v2:Value)(b3 o3:Nat)(v3:Value)(b4 o4:Nat)(v4:Value)(b5 o5:Nat)(v5:Value)(b6 o6:Nat)(v6:Value)(b7 o7:Nat)(v7:Value)(b8 o8:Nat)(v8:Value):Prop:=w.cell? ⟨b0,o0,none⟩=some v0/\w.cell? ⟨b1,o1,none⟩=some v1/\w.cell? ⟨b2,o2,none⟩=some v2/\w.cell? ⟨b3,o3,none⟩=some v3/\w.cell? ⟨b4,o4,none⟩=some v4/\w.cell? ⟨b5,o5,none⟩=some v5/\w.cell? ⟨b6,o6,none⟩=some v6/\w.cell? ⟨b7,o7,none⟩=some v7/\w.cell? ⟨b8,o8,none⟩=some v8
abbrev Γ12(w:World)(b0 o0:Nat)(v0:Value)(b1 o1:Nat)(v1:Value)(b2 o2:Nat)(v2:Value)(b3 o3:Nat)(v3:Value)(b4 o4:Nat)(v4:Value)(b5 o5:Nat)(v5:Value)(b6 o6:Nat)(v6:Value)(b7 o7:Nat)(v7:Value)(b8 o8:Nat)(v8:Value)(b9 o9:Nat)(v9:Value)(b10 o10:Nat)(v10:Value)(b11 o11:Nat)(v11:Value):Prop:=w.cell? ⟨b0,o0,none⟩=some v0/\w.cell? ⟨b1,o1,none⟩=some v1/\w.cell? ⟨b2,o2,none⟩=some v2/\w.cell? ⟨b3,o3,none⟩=some v3/\w.cell? ⟨b4,o4,none⟩=some v4/\w.cell? ⟨b5,o5,none⟩=some v5/\w.cell? ⟨b6,o6,none⟩=some v6/\w.cell? ⟨b7,o7,none⟩=some v7/\w.cell? ⟨b8,o8,none⟩=some v8/\w.cell? ⟨b9,o9,none⟩=some v9/\w.cell? ⟨b10,o10,none⟩=some v10/\w.cell? ⟨b11,o11,none⟩=some v11
abbrev Bl(w w':World):Prop:=Below w.heap.size w w'
