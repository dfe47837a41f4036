/- Joined: Sqi. -/
import Derived.Test.YtncbjgblcofddaaGreatDoorQk
/- Square matrices,more: reading rows with room,the reference's Identity and Product where they succeed; Cramer's rule. -/
namespace Go.Proofs.YtncbjgblcofddaaGreatDoor
open Go Go.Eng Go.Num Go.Proofs
theorem GMat.readC {w:World} {gO r c N:Nat} {gs cp:Nat→Nat} {M:Nat→Nat→Int} (h:GMat w gO gs cp r c true (fun _ _=>N) M) (hr:r < 9223372036854775808):MatE (EC N) w (.slice (some ⟨gO,0,none⟩) r r) r (fun _=>c) M :=
 ⟨_,_,rfl,Nat.le_refl _,hr,fun i hi=>⟨_,_,rfl,by rw [add_lit]; exact h.at hi,by
  obtain ⟨h1,h2,_⟩:=h.row i hi
  refine ⟨_,_,rfl,h1,h2,fun j hj=>?_⟩
  obtain ⟨x,y,e1,e2,hv⟩:=(h.row i hi).at hj
  exact ⟨_,x,y,rfl,by rw [add_lit]; exact e1,by rw [add_lit]; exact e2,hv.2 rfl,hv.bd⟩⟩⟩
theorem rproductT_ok {va vb:Value} {r q c N:Nat} {X Y:Nat→Nat→Int} {w:World} (ha:MatE (EI N) w va r (fun _=>q) X) (hb:MatE (EI N) w vb q (fun _=>c) Y) (hN:N < 34359738368) (h1:1≤r) (h2:r≤16) (h3:1≤q) (h4:q≤16) (h5:1≤c) (h6:c≤16) :
 Meets Tryz.prog 58 #[va,vb] w (RM w r c (mulM q X Y)) :=
 (rproduct_ok va vb r q N _ _ X Y w ha hb hN).mono fun _ _ h=>h.get (okMul_const h1 h2 h3 h4 h5 h6)
end Go.Proofs.YtncbjgblcofddaaGreatDoor
