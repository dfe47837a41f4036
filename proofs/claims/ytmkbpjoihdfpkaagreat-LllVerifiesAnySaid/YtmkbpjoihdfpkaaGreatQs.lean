/- Joined: Opv. -/
import Derived.Test.YtmkbpjoihdfpkaaGreatQo
import Derived.Test.YtmkbpjoihdfpkaaGreatQn
/- Openers: five parameters; lists and matrices of int64,lists of int. -/
namespace Go.Proofs.YtmkbpjoihdfpkaaGreat
open Go Go.Eng Go.Num Go.Proofs
section
open Go.ChangeShapes
variable {H:Type} {enc:TypeId × Value→H} {P:Program} {w:World} {base:Nat} {spare:Nat→Bool} {held:Bool}
end
section
variable {H:Type} {enc:TypeId × Value→H} {w:World} {sp:Nat→Bool} {hd:Bool}
theorem cells_i64:Tryz.prog.cellsOf 2 = 1:=by kernel_rfl
theorem cells_si64:Tryz.prog.cellsOf 30 = 1:=by kernel_rfl
theorem i64_of_wf' {a:Int} (h:(Lit.int .i64 a).wf = true):-9223372036854775808≤a∧a < 9223372036854775808:=by
 simp [Lit.wf,IntKind.min,IntKind.max,IntKind.signed,IntKind.bits] at h
 omega
theorem open_i64s {fuel:Nat} {cs:List Value} {x:DataW H × List MemPlace} (h:DataW.trod enc Tryz.prog w 0 sp hd fuel 30 cs = some x):∃ v c g,cs = [v]∧RowZ w v c g:=by
 rcases ChangeShapes.open_ints Tryz.underlying30 Tryz.underlying2 cells_i64 h with ⟨rfl,rfl⟩ | ⟨a,len,cap,zs,rfl,_,hl,hm,hz,rfl,hc,hwf⟩
 · exact ⟨_,0,fun _=>0,rfl,none,0,rfl,Nat.le_refl _,by decide,fun j hj=>absurd hj (by omega)⟩
 · have hlen:len≤zs.length:=by rw [hz]; split <;> omega
   refine ⟨_,len,fun j=>zs.getD j 0,rfl,some a,cap,rfl,hl,by have:maxLen = 9223372036854775807:=rfl; omega,fun j hj=>⟨a,rfl,?_,?_⟩⟩
   · rw [Nat.mul_one,hc j (by omega)]
   · have:zs.getD j 0 ∈ zs:=by
      have hi':j < zs.length:=by omega
      simp [List.getD,hi']
     exact i64_of_wf' (hwf _ this)
theorem open_zmat {v:Value} {d:DataW H} {ps:List MemPlace} (h:DataW.Trod enc Tryz.prog w 0 sp hd 22 v d ps) (hv:v.cells.toList = [v]):∃ r len M,MatZ w v r len M:=by
 obtain ⟨fuel,h⟩:=h
 rw [hv] at h
 rcases Deep.open_slice1 Tryz.underlying22 cells_si64 h with ⟨e,e2⟩ | ⟨a,len,cap,m,n,V,D,Pl,e,_,hl,hm,hmm,e2,hx⟩
 · injection e with e
   subst e
   exact ⟨0,fun _=>0,fun _ _=>0,none,0,rfl,Nat.le_refl _,by decide,fun j hj=>absurd hj (by omega)⟩
 · injection e with e
   subst e
   have hlm:len≤m:=by rw [hmm]; split <;> omega
   have hc:maxLen = 9223372036854775807:=rfl
   have each:∀ j,j < len→∃ q:Nat × (Nat→Int),∃ u,w.cell? (a.add (j * 1)) = some u∧RowZ w u q.1 q.2:=fun j hj=>by
    obtain ⟨h1,h2⟩:=hx j (by omega)
    obtain ⟨u,c,g,e,hr⟩:=open_i64s h2
    injection e with e
    refine ⟨(c,g),u,?_,hr⟩
    rw [Nat.mul_one,h1,e]
   obtain ⟨q,hq⟩:=Deep.choose_lt each
   refine ⟨len,fun i=>(q i).1,fun i=>(q i).2,some a,cap,rfl,hl,by omega,fun i hi=>?_⟩
   obtain ⟨u,h1,h2⟩:=hq i hi
   exact ⟨a,u,rfl,h1,h2⟩
end
end Go.Proofs.YtmkbpjoihdfpkaaGreat
