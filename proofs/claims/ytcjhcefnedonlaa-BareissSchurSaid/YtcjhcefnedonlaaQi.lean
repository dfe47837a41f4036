/- Joined: Sqh. -/
import Derived.Test.YtcjhcefnedonlaaQf
import Derived.Test.YtcjhcefnedonlaaQh
/- Square matrices: the contracts of Mul, Transpose, Det, Adjugate where they succeed. -/
namespace Go.Proofs.Ytcjhcefnedonlaa
open Go Go.Eng Go.Num Go.Proofs

/-- a new matrix and true -/
def RMT (w : World) (r c : Nat) (M : Nat → Nat → Int) (v : Value) (w' : World) : Prop :=
  Ext w w' ∧ ∃ gO gs, v = .tuple #[.slice (some ⟨gO, 0, none⟩) r r, .bool true] ∧ OMat w' gO gs r c M
theorem RMB.rmt {w w' : World} {ok : Bool} {r c : Nat} {M : Nat → Nat → Int} {v : Value} (h : RMB w ok r c M v w') (hok : ok = true) : RMT w r c M v w' := by
  obtain ⟨u, rfl, hE, gO, gs, rfl, _, _, hO⟩ := h.get hok
  exact ⟨hE, gO, gs, rfl, hO⟩
theorem okS_const {n : Nat} (h1 : 1 ≤ n) (h2 : n ≤ 16) : okS n (fun _ => n) = true := okS_iff.2 ⟨h1, h2, fun _ _ => rfl⟩
theorem okMul_const {r q c : Nat} (h1 : 1 ≤ r) (h2 : r ≤ 16) (h3 : 1 ≤ q) (h4 : q ≤ 16) (h5 : 1 ≤ c) (h6 : c ≤ 16) : okMul r q (fun _ => q) (fun _ => c) = true := by
  unfold okMul; rw [okM_const h1 h2 h3 h4, okM_const h3 h4 h5 h6]; simp
theorem OMat.congr {w : World} {gO : Nat} {gs : Nat → Nat} {r c : Nat} {M M' : Nat → Nat → Int} (h : OMat w gO gs r c M) (e : ∀ i j, i < r → j < c → M i j = M' i j) : OMat w gO gs r c M' :=
  ⟨h.outer, fun i hi => (h.row i hi).congr (fun j hj => e i j hi hj), h.ne, h.inj⟩
theorem same_o {w : World} {g g' : Nat} {gs gs' : Nat → Nat} {r c N : Nat} {M M' : Nat → Nat → Int} (h : OMat w g gs r c M) (h' : OMat w g' gs' r c M') (e : ∀ i j, i < r → j < c → M i j = M' i j) (hN : ∀ i j, i < r → j < c → Bd N (M i j)) (hr : r < 9223372036854775808) (hc : c < 9223372036854775808) (hN2 : N < 1099511627776) :
    Meets Try.prog 14 #[.slice (some ⟨g, 0, none⟩) r r, .slice (some ⟨g', 0, none⟩) r r] w fun u w' => Ext w w' ∧ u = .bool true :=
  same_nm (ok := true) (r := r) (c := c) (N := N) (M := M) ⟨g, gs, rfl, h⟩ ⟨g', gs', rfl, h'.congr fun i j hi hj => (e i j hi hj).symm⟩ (fun _ => hN) (fun _ => hr) (fun _ => hc) hN2
theorem OMat.rd {w : World} {gO : Nat} {gs : Nat → Nat} {r c N' N : Nat} {M : Nat → Nat → Int} (h : OMat w gO gs r c M) (hM : ∀ i j, i < r → j < c → Bd N' (M i j)) (hN : N' ≤ N) (hr : r < 9223372036854775808) (hc : c < 9223372036854775808) : MatE (EI N) w (.slice (some ⟨gO, 0, none⟩) r r) r (fun _ => c) M :=
  h.read (fun i j hi hj => (hM i j hi hj).mono hN) hr hc
theorem mulM_tr (n : Nat) (X Y : Nat → Nat → Int) (i j : Nat) : mulM n X Y j i = mulM n (fun a b => Y b a) (fun a b => X b a) i j := by
  rw [mulM_mul, mulM_mul]; exact congrFun (congrFun (Go.Det.tr_mul n X Y) i) j
theorem mulM_assoc (n : Nat) (X Y Z : Nat → Nat → Int) (i j : Nat) : mulM n (mulM n X Y) Z i j = mulM n X (mulM n Y Z) i j := by
  rw [mulM_mul, mulM_mul, mulM_mul, mulM_mul]; exact Go.Det.mul_assoc n n X Y Z i j
theorem detB_mul (n : Nat) (X Y : Nat → Nat → Int) : detB n (mulM n X Y) = detB n X * detB n Y := by
  rw [mulM_mul, detB_det, detB_det, detB_det]; exact Go.Det.det_mul n X Y
theorem GridV.agg {w : World} {r c n cap : Nat} {ns : Nat → Int} {A : Option Addr} (h1 : r < 256) (h2 : c < 256) (h3 : n ≤ cap) (h4 : Nums w A n ns) : ∀ w', Ext w w' → GridV w' (.agg #[.int .u8 ((r : Nat) : Int), .int .u8 ((c : Nat) : Int), .slice A n cap]) r c n ns := fun _ h => ⟨A, cap, rfl, h1, h2, h3, h4.ext h⟩
end Go.Proofs.Ytcjhcefnedonlaa
