/- Joined: Fpl, Lgg. -/
import Derived.Test.YtncbjgblcofddaaGreatDoorQoc
import Derived.Test.YtncbjgblcofddaaGreatDoorQoj
import Derived.Test.YtncbjgblcofddaaGreatDoorQj
import Derived.Test.YtncbjgblcofddaaGreatDoorQf
import Derived.Test.YtncbjgblcofddaaGreatDoorQon
/- The text of a Gram matrix is read as that matrix. A plain text. -/
namespace Go.Dig
open Go.Lib
theorem dig_ne {c d:UInt8} (h:isDig c = true) (hd:isDig d = false):c ≠ d:=fun e=>by rw [e,hd] at h; cases h
theorem form_length {n:Nat} {M:Nat→Nat→Int} (h8:n≤8) (h:okT n M):(formT n M).length≤200000:=by
 have:=linesT_len (M:=M) h8 fun a k ha hk=>h a k ha hk
 unfold formT headT
 simp only [List.length_append,List.length_cons,List.length_nil]
 omega
end Go.Dig
namespace Go.Proofs.YtncbjgblcofddaaGreatDoor
open Go Go.Eng Go.Num Go.Dig Go.Proofs
open Go.Det (det)
theorem okLen_bd {z:Int} (h:Bd 5 z):Dig.okLen z:=by
 unfold Bd at h
 unfold Dig.okLen
 have:dlen z.natAbs≤50:=dlen_le (Nat.lt_of_lt_of_le h (by decide))
 omega
theorem okT_bd {n:Nat} {M:Nat→Nat→Int} (h:∀ i j,i < n→j < n→Bd 5 (M i j)):okT n M:=fun i j hi hj=>okLen_bd (h i j hi (by omega))
theorem valE_same {n:Nat} {M M':Nat→Nat→Int} (h:valE n (fun _=>n) M = 0) (e:∀ i j,i < n→j < n→M' i j = M i j):valE n (fun _=>n) M' = 0:=by
 obtain ⟨hok,h8,hs,hp⟩:=valE_zero.1 h
 refine valE_0 ⟨hok,h8⟩ (fun i j hi hj=>?_) fun q hq=>?_
 · rw [e i j hi (by omega),e j i (by omega) hi]; exact hs i j hi hj
 · rw [Go.Det.det_congr (C:=M) fun i j hi hj=>e i j (by omega) (by omega)]
   exact hp q hq
end Go.Proofs.YtncbjgblcofddaaGreatDoor
