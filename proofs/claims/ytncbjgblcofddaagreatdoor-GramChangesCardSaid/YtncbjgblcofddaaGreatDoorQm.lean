/- Joined: Sqi. -/
import Derived.Test.YtncbjgblcofddaaGreatDoorQk
/- Square matrices,more: reading rows with room,the reference's Identity and Product where they succeed; Cramer's rule. -/
namespace Go.Proofs.YtncbjgblcofddaaGreatDoor
open Go Go.Eng Go.Num Go.Proofs
theorem rproductT_ok {va vb:Value} {r q c N:Nat} {X Y:Nat→Nat→Int} {w:World} (ha:MatE (EI N) w va r (fun _=>q) X) (hb:MatE (EI N) w vb q (fun _=>c) Y) (hN:N < 34359738368) (h1:1≤r) (h2:r≤16) (h3:1≤q) (h4:q≤16) (h5:1≤c) (h6:c≤16) :
 Meets Tryz.prog 58 #[va,vb] w (RM w r c (mulM q X Y)) :=
 (rproduct_ok va vb r q N _ _ X Y w ha hb hN).mono fun _ _ h=>h.get (okMul_const h1 h2 h3 h4 h5 h6)
end Go.Proofs.YtncbjgblcofddaaGreatDoor
