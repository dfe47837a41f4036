import Derived.Below
import Derived.Deep.LoopGhost
import Derived.KernelRfl
import Derived.Orders
import Derived.Tactics
theorem F{α:Sort _}{a:α}:a=a:=rfl
theorem aa{c:Prop}{h:Decidable c}(k:¬c){α:Sort _}{t e:α}:ite c t e=e:=if_neg k
theorem ae{c:Prop}{h:Decidable c}(k:c){α:Sort _}{t e:α}:ite c t e=t:=if_pos k
theorem af{α:Sort _}(a:α):∃g,g=a:=⟨a,rfl⟩
theorem ag{p:Prop}(h:p:=by first | exact .inl rfl | exact .inr ⟨rfl, fun _ h => h.mono fun b _ e => by omega⟩):p:=h
theorem ah{p:Prop}(h:p:=by first | omega | assumption):p:=h
theorem ao{p:Prop}(h:p:=by first | assumption | omega):p:=h
theorem aq{p:Prop}(h:p:=by omega):p:=h
theorem ar{p:Prop}(h:p:=by decide):p:=h
theorem aw{p:Prop}(h:p:=by kernel_rfl):p:=h
theorem aA{p:Prop}(h:p:=by simp):p:=h
theorem aB{p:Prop}(h:p:=by assumption):p:=h
theorem aC{p:Prop}(h:p:=by grind):p:=h
theorem aD{n:Nat}:n≤n:=Nat.le_refl n
theorem aE{n:Nat}:0≤n:=Nat.zero_le n
theorem aF{α:Sort _}{a:α}{q:Prop}:a=a∨q:=.inl rfl
theorem aG{α:Type _}{a:α}{l:List α}:a∈a::l:=List.mem_cons_self
