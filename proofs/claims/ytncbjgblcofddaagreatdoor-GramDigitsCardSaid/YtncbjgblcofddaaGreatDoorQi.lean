/- Joined: Sqh. -/
import Derived.Test.YtncbjgblcofddaaGreatDoorQf
import Derived.Test.YtncbjgblcofddaaGreatDoorQh
/- Square matrices: the contracts of Mul,Transpose,Det,Adjugate where they succeed. -/
namespace Go.Proofs.YtncbjgblcofddaaGreatDoor
open Go Go.Eng Go.Num Go.Proofs
def RMT (w:World) (r c:Nat) (M:Nat→Nat→Int) (v:Value) (w':World):Prop :=
 Ext w w'∧∃ gO gs,v = .tuple #[.slice (some ⟨gO,0,none⟩) r r,.bool true]∧OMat w' gO gs r c M
theorem RMB.rmt {w w':World} {ok:Bool} {r c:Nat} {M:Nat→Nat→Int} {v:Value} (h:RMB w ok r c M v w') (hok:ok = true):RMT w r c M v w':=by
 obtain ⟨u,rfl,hE,gO,gs,rfl,_,_,hO⟩:=h.get hok
 exact ⟨hE,gO,gs,rfl,hO⟩
theorem okS_const {n:Nat} (h1:1≤n) (h2:n≤16):okS n (fun _=>n) = true:=okS_iff.2 ⟨h1,h2,fun _ _=>rfl⟩
theorem okMul_const {r q c:Nat} (h1:1≤r) (h2:r≤16) (h3:1≤q) (h4:q≤16) (h5:1≤c) (h6:c≤16):okMul r q (fun _=>q) (fun _=>c) = true:=by
 unfold okMul; rw [okM_const h1 h2 h3 h4,okM_const h3 h4 h5 h6]; simp
theorem mulT_ok {va vb:Value} {r q c N:Nat} {X Y:Nat→Nat→Int} {w:World} (ha:MatE (EI N) w va r (fun _=>q) X) (hb:MatE (EI N) w vb q (fun _=>c) Y) (hN:N < 68719476736) (h1:1≤r) (h2:r≤16) (h3:1≤q) (h4:q≤16) (h5:1≤c) (h6:c≤16) :
 Meets Tryz.prog 110 #[va,vb] w (RMT w r c (mulM q X Y)) :=
 (mul2_ok va vb r q N _ _ X Y w ha hb hN).mono fun _ _ h=>h.rmt (okMul_const h1 h2 h3 h4 h5 h6)
theorem transposeT_ok {va:Value} {r c N:Nat} {X:Nat→Nat→Int} {w:World} (ha:MatE (EI N) w va r (fun _=>c) X) (hN:N < 1099511627776) (h1:1≤r) (h2:r≤16) (h3:1≤c) (h4:c≤16) :
 Meets Tryz.prog 109 #[va] w (RMT w c r (fun i j=>X j i)) :=
 (transpose_ok va r N _ X w ha hN).mono fun _ _ h=>h.rmt (okM_const h1 h2 h3 h4)
theorem detT_ok {v:Value} {n N:Nat} {M:Nat→Nat→Int} {w:World} (h:MatE (EI N) w v n (fun _=>n) M) (hN1:1≤N) (hN:N < 1048576) (h1:1≤n) (h2:n≤16) :
 Meets Tryz.prog 100 #[v] w (fun u w'=>Ext w w'∧∃ x y,u = .tuple #[.agg #[x,y],.bool true]∧CV w' x y (detB n M)) :=
 (det_ok v n N _ M w h hN1 hN).mono fun _ _ ⟨hE,x,y,e,hc⟩=>by
  rw [okS_const h1 h2] at e hc
  exact ⟨hE,x,y,e,hc⟩
theorem OMat.congr {w:World} {gO:Nat} {gs:Nat→Nat} {r c:Nat} {M M':Nat→Nat→Int} (h:OMat w gO gs r c M) (e:∀ i j,i < r→j < c→M i j = M' i j):OMat w gO gs r c M' :=
 ⟨h.outer,fun i hi=>(h.row i hi).congr (fun j hj=>e i j hi hj),h.ne,h.inj⟩
theorem OMat.rd {w:World} {gO:Nat} {gs:Nat→Nat} {r c N' N:Nat} {M:Nat→Nat→Int} (h:OMat w gO gs r c M) (hM:∀ i j,i < r→j < c→Bd N' (M i j)) (hN:N'≤N) (hr:r < 9223372036854775808) (hc:c < 9223372036854775808):MatE (EI N) w (.slice (some ⟨gO,0,none⟩) r r) r (fun _=>c) M :=
 h.read (fun i j hi hj=>(hM i j hi hj).mono hN) hr hc
theorem mulM_assoc (n:Nat) (X Y Z:Nat→Nat→Int) (i j:Nat):mulM n (mulM n X Y) Z i j = mulM n X (mulM n Y Z) i j:=by
 rw [mulM_mul,mulM_mul,mulM_mul,mulM_mul]; exact Go.Det.mul_assoc n n X Y Z i j
end Go.Proofs.YtncbjgblcofddaaGreatDoor
