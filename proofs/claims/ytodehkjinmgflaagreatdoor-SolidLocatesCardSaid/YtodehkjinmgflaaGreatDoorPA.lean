/- Short names for frequent proofs. -/
import Derived.Lib.Hide
set_option linter.all false
theorem I{p:Prop}(h:p:=by omega):p:=h
theorem Z{p:Prop}(h:p:=by kernel_rfl):p:=h
theorem ν{p:Prop}(h:p:=by decide):p:=h
theorem δ{p q:Prop}(h:¬p:=by decide):p→q:=fun x=>absurd x h
theorem ρ{n:Nat}:n≤n:=Nat.le_refl _
theorem β{n:Nat}{w:Go.World}:Go.RowKit.Below n w w:=Go.RowKit.Below.refl _ _
theorem ψ{q p:Prop}(h:q)(f:q→p:=by intro _;omega):p:=f h
theorem O{p:Prop}(h:p):Go.RowKit.Hid p:=h
theorem ξ{α:Sort _}{a:α}:∃x,a=x:=⟨a,rfl⟩
theorem Go.RowKit.Hid.o{p:Prop}(h:Go.RowKit.Hid p):p:=h.out
theorem η2{p q:Prop}(hp:p)(hq:q):Go.RowKit.Hid p∧Go.RowKit.Hid q:=⟨hp,hq⟩
theorem η3{p q r:Prop}(hp:p)(hq:q)(hr:r):Go.RowKit.Hid p∧Go.RowKit.Hid q∧Go.RowKit.Hid r:=⟨hp,hq,hr⟩
theorem η4{p q r s:Prop}(hp:p)(hq:q)(hr:r)(hs:s):Go.RowKit.Hid p∧Go.RowKit.Hid q∧Go.RowKit.Hid r∧Go.RowKit.Hid s:=⟨hp,hq,hr,hs⟩
theorem η5{p q r s t:Prop}(hp:p)(hq:q)(hr:r)(hs:s)(ht:t):Go.RowKit.Hid p∧Go.RowKit.Hid q∧Go.RowKit.Hid r∧Go.RowKit.Hid s∧Go.RowKit.Hid t:=⟨hp,hq,hr,hs,ht⟩
theorem η6{p q r s t u:Prop}(hp:p)(hq:q)(hr:r)(hs:s)(ht:t)(hu:u):Go.RowKit.Hid p∧Go.RowKit.Hid q∧Go.RowKit.Hid r∧Go.RowKit.Hid s∧Go.RowKit.Hid t∧Go.RowKit.Hid u:=⟨hp,hq,hr,hs,ht,hu⟩
theorem η7{p q r s t u v:Prop}(hp:p)(hq:q)(hr:r)(hs:s)(ht:t)(hu:u)(hv:v):Go.RowKit.Hid p∧Go.RowKit.Hid q∧Go.RowKit.Hid r∧Go.RowKit.Hid s∧Go.RowKit.Hid t∧Go.RowKit.Hid u∧Go.RowKit.Hid v:=⟨hp,hq,hr,hs,ht,hu,hv⟩
theorem η8{p q r s t u v x:Prop}(hp:p)(hq:q)(hr:r)(hs:s)(ht:t)(hu:u)(hv:v)(hx:x):Go.RowKit.Hid p∧Go.RowKit.Hid q∧Go.RowKit.Hid r∧Go.RowKit.Hid s∧Go.RowKit.Hid t∧Go.RowKit.Hid u∧Go.RowKit.Hid v∧Go.RowKit.Hid x:=⟨hp,hq,hr,hs,ht,hu,hv,hx⟩
theorem η9{p q r s t u v x y:Prop}(hp:p)(hq:q)(hr:r)(hs:s)(ht:t)(hu:u)(hv:v)(hx:x)(hy:y):Go.RowKit.Hid p∧Go.RowKit.Hid q∧Go.RowKit.Hid r∧Go.RowKit.Hid s∧Go.RowKit.Hid t∧Go.RowKit.Hid u∧Go.RowKit.Hid v∧Go.RowKit.Hid x∧Go.RowKit.Hid y:=⟨hp,hq,hr,hs,ht,hu,hv,hx,hy⟩
def τ(a b:Nat):Array Bool:=⟨List.replicate a true++List.replicate b false⟩
