/- Joined: Min. -/
import Derived.Test.YtmkbpjoihdfpkaaGreatQr
/- Minors. -/
namespace Go.Proofs.YtmkbpjoihdfpkaaGreat
open Go Go.Eng Go.Num Go.Proofs
theorem WMat.read {w:World} {gO r c N:Nat} {gs:Nat→Nat} {cn:Bool} {M:Nat→Nat→Int} (h:WMat w gO gs r c cn (fun _ _=>N) M) (hr:r < 9223372036854775808) (hc:c < 9223372036854775808):MatE (EI N) w (.slice (some ⟨gO,0,none⟩) r r) r (fun _=>c) M :=
 ⟨_,_,rfl,Nat.le_refl _,hr,fun i hi=>⟨_,_,rfl,by rw [add_lit]; exact h.at hi,_,_,rfl,Nat.le_refl _,hc,fun j hj=>by
  obtain ⟨x,y,e1,e2,hv⟩:=(h.row i hi).at hj
  exact ⟨_,x,y,rfl,by rw [add_lit]; exact e1,by rw [add_lit]; exact e2,hv.1⟩⟩⟩
end Go.Proofs.YtmkbpjoihdfpkaaGreat
