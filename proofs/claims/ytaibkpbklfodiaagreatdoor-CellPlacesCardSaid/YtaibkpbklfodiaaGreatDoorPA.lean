/- Short names for frequent proofs. -/
import Derived.KernelRfl
import Derived.RowKit
import Derived.Lib.Hide
set_option linter.all false
theorem ω{p:Prop}(h:p:=by omega):p:=h
theorem κ{p:Prop}(h:p:=by kernel_rfl):p:=h
theorem ν{p:Prop}(h:p:=by decide):p:=h
theorem δ{p q:Prop}(h:¬p:=by decide):p→q:=fun x=>absurd x h
theorem ρ{n:Nat}:n≤n:=Nat.le_refl _
theorem β{n:Nat}{w:Go.World}:Go.RowKit.Below n w w:=Go.RowKit.Below.refl _ _
theorem ψ{q p:Prop}(h:q)(f:q→p:=by intro _;omega):p:=f h
theorem η{p:Prop}(h:p):Go.RowKit.Hid p:=h
