/- Joined: Llh, Lli, Llj. -/
import Derived.Test.YtncbjgblcofddaaGreatDoorQnc
/- lll: subtractNearest. -/
namespace Go.Proofs.YtncbjgblcofddaaGreatDoor
open Go Go.Eng Go.Num Go.Proofs
def PlV (w:World) (v:Value) (N:Nat) (z:Nat→Int):Prop:=∃ h,v = .agg (arr 14 h)∧∀ j,j < 7→EV w N true (h (j * 2)) (h (j * 2 + 1)) (z j)
theorem PlV.one {w:World} {N:Nat} {z:Nat→Int} {h:Nat→Value} (hc:∀ j,j < 7→EV w N true (h (j * 2)) (h (j * 2 + 1)) (z j)):∀ v ∈ (arr 14 h).toList,v.oneCell' = true:=by
 intro v hv
 obtain ⟨i,hi⟩:=List.mem_iff_getElem?.1 hv
 rw [Array.getElem?_toList] at hi
 by_cases hl:i < 14
 · rw [arr_at hl] at hi
   have e:=Option.some.inj hi
   have h1:=hc (i / 2) (by omega)
   by_cases h2:i % 2 = 0
   · rw [← e,show i = i / 2 * 2 by omega]; exact h1.1.one0
   · rw [← e,show i = i / 2 * 2 + 1 by omega]; exact h1.1.one1
 · rw [Array.getElem?_eq_none (by rw [arr_size]; omega)] at hi
   cases hi
end Go.Proofs.YtncbjgblcofddaaGreatDoor
