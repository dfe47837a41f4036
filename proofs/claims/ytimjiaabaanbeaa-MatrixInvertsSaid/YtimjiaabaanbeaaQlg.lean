/- Joined: Lwg. -/
import Derived.Test.YtimjiaabaanbeaaQn
import Derived.Test.YtimjiaabaanbeaaQo
/- The law MatrixInverts. -/
namespace Go.Proofs.Ytimjiaabaanbeaa
open Go Go.Eng Go.Num Go.Proofs

theorem rofT_ok {gO n : Nat} {gs : Nat → Nat} {U : Nat → Nat → Int} {w : World} (h : ZMat w gO gs n n U) (hU : ∀ i j, i < n → j < n → -9223372036854775808 ≤ U i j ∧ U i j < 9223372036854775808) (h1 : 1 ≤ n) (h2 : n ≤ 16) :
    Meets Try.prog 26 #[.slice (some ⟨gO, 0, none⟩) n n] w (RM w n n U) :=
  (rof_ok _ n (fun _ => n) U w (h.read hU (by omega) (by omega))).mono fun _ _ h => h.get (okM_const h1 h2 h1 h2)
theorem RGB.readC {w w' : World} {ok : Bool} {r c N : Nat} {M : Nat → Nat → Int} {v : Value} (h : RGB w ok r c N M v w') (hr : r < 9223372036854775808) : Ext w w' ∧ ∃ A m cp, v = .tuple #[.slice A m cp, .bool ok] ∧ MatE (EC N) w' (.slice A m cp) (if ok then r else 0) (fun _ => c) M := by
  unfold RGB at h
  cases ok
  · rw [if_neg (by decide)] at h
    exact ⟨h.1, _, _, _, h.2, matC_nil _ _ _ _⟩
  · rw [if_pos rfl] at h
    obtain ⟨u, rfl, hE, gO, gs, cp, rfl, _, _, _, hG⟩ := h
    exact ⟨hE, _, _, _, rfl, hG.readC hr⟩
theorem EC.mono {N N' : Nat} {w : World} {v : Value} {r : Nat} {len : Nat → Nat} {M : Nat → Nat → Int} (h : MatE (EC N) w v r len M) (hN : N ≤ N') : MatE (EC N') w v r len M :=
  h.imp (fun _ _ h => h) (fun _ _ _ h => ⟨h.1, h.2.mono hN⟩)
theorem sq_one {d : Int} (h : d = 1 ∨ d = -1) : d * d = 1 := by rcases h with rfl | rfl <;> rfl
theorem sumTo_mulc (n : Nat) (c : Int) (f : Nat → Int) : sumTo n (fun k => c * f k) = c * sumTo n f := by
  rw [sumTo_sm, sumTo_sm]
  induction n with
  | zero => simp [Go.Det.sm]
  | succ n ih => simp only [Go.Det.sm]; rw [ih, Int.mul_add]
theorem inv_right (n : Nat) (U : Nat → Nat → Int) (h : detB n U = 1 ∨ detB n U = -1) (i j : Nat) (hi : i < n) (hj : j < n) : mulM n U (invF n U) i j = scal 1 i j := by
  have : mulM n U (invF n U) i j = detB n U * mulM n U (adjF n U) i j := by
    unfold mulM invF
    rw [← sumTo_mulc]
    congr 1; funext k; rw [← Int.mul_assoc, Int.mul_comm (U i k), Int.mul_assoc]
  rw [this, cramer n U i j hi hj]
  unfold timesM
  rw [← Int.mul_assoc, sq_one h, Int.one_mul]
theorem inv_left (n : Nat) (U : Nat → Nat → Int) (h : detB n U = 1 ∨ detB n U = -1) (i j : Nat) (hi : i < n) (hj : j < n) : mulM n (invF n U) U i j = scal 1 i j := by
  have : mulM n (invF n U) U i j = detB n U * mulM n (adjF n U) U i j := by
    unfold mulM invF
    rw [← sumTo_mulc]
    congr 1; funext k; rw [Int.mul_assoc]
  rw [this, cramer' n U i j hi hj]
  unfold timesM
  rw [← Int.mul_assoc, sq_one h, Int.one_mul]
theorem invF_bd {n N : Nat} {M : Nat → Nat → Int} (hn : n ≤ 16) (hM : ∀ i j, i < n → j < n → Bd N (M i j)) (hd : detB n M = 1 ∨ detB n M = -1) (i j : Nat) (hi : i < n) (hj : j < n) : Bd (1 + (n - 1) * (N + 3)) (invF n M i j) := by
  have h := adjF_bd hn hM i j hi hj
  unfold invF
  rcases hd with e | e
  · rw [e, Int.one_mul]; exact h
  · rw [e, Int.neg_mul, Int.one_mul]; exact h.neg

set_option maxHeartbeats 16000000 in
theorem lawInverts {vl vn vx : Value} {m nn rx cx nx : Nat} {ns nsx : Nat → Int} {w : World} (hl : NumsV w vl m ns) (hnn : ByteV vn nn) (hx : GridV w vx rx cx nx nsx) :
    Meets Try.prog 6 #[vl, vn, vx] w (Law w) := by
  obtain ⟨Ax, capx, rfl, hx1, hx2, hx3, hx4⟩ := hx
  obtain ⟨Al, capl, rfl, hl1, hl2⟩ := hl
  obtain ⟨rfl, hn256⟩ := hnn
  refine fn_W (n := 75) Try.func6 rfl rfl (by kernel_rfl) (by simp) ?_
  refine gg ?_
  refine R1_box (v := .agg _) (.inl rfl) rfl ?_
  intro w1 hB1 hE1 hs1
  have hX1 : Blk w1 w.heap.size 25 #[.int .u8 ((rx : Nat) : Int), .int .u8 ((cx : Nat) : Int), .slice Ax nx capx] := hB1
  have hGx := GridV.agg hx1 hx2 hx3 hx4
  clear hB1
  have hmod := Nat.mod_lt nn (show 0 < 5 by decide)
  refine gg ?_
  refine R1_rem_i64_c rfl (by decide) ?_
  refine gg ?_
  obtain ⟨n, hn⟩ : ∃ n, n = 1 + nn % 5 := ⟨_, rfl⟩
  have hn1 : 1 ≤ n := by omega
  have hn2 : n ≤ 16 := by omega
  have hn5 : n ≤ 5 := by omega
  have hnb : n < 9223372036854775808 := by omega
  rw [show (OfNat.ofNat 1 + nn % OfNat.ofNat 5 : Nat) = n from hn.symm]
  refine R1_call2 (unimodular_ok Al m capl n ns w1 (hl2.ext hE1) hn1 hn2) ?_
  rintro _ w2 ⟨hE2, gU, gsU, U, rfl, _, _, hZ, hU, hdet⟩
  rw [← detB_det] at hdet
  refine gg ?_
  refine R1_call2 (rofT_ok hZ (fun i j hi hj => by have := hU i j hi hj; omega) hn1 hn2) ?_
  rintro _ w3 ⟨hE3, g3, gs3, rfl, _, _, hO3⟩
  have bU : ∀ i j, i < n → j < n → Bd 1 (U i j) := fun i j hi hj => by
    have := hU i j hi hj
    unfold Bd
    have : B ^ 1 = 4294967296 := by decide
    omega
  have bI : ∀ i j, i < n → j < n → Bd 17 (invF n U i j) := fun i j hi hj => (invF_bd hn2 bU hdet i j hi hj).mono (by omega)
  have hokU : okI n (fun _ => n) U = true := by rw [okI_iff, okS_const hn1 hn2, Bool.true_and]; exact decide_eq_true hdet
  refine gg ?_
  refine R1_call2 (inverse_ok _ n 1 (fun _ => n) U w3 (hO3.rd bU (by decide) hnb hnb) (by decide) (by decide)) ?_
  intro u w4 hu
  obtain ⟨hE4, g4, gs4, rfl, hO4⟩ := hu.rmt hokU
  clear hu
  refine gg ?_
  refine R1_call2 (ridentityT_ok (n := n) w4 hn1 hn2) ?_
  rintro _ w5 ⟨hE5, g5, gs5, rfl, hO5⟩
  replace hO3 := hO3.ext (hE4.trans hE5)
  replace hO4 := hO4.ext hE5
  have b1 : ∀ i j, i < n → j < n → Bd 1 (scal 1 i j) := fun i j _ _ => scal_bd 1 bd1_1 i j
  refine gg ?_
  refine W_seq ?_
  refine gg ?_
  refine R1_call2 (rproductT_ok (N := 17) (hO3.rd bU (by decide) hnb hnb) (hO4.rd bI (by decide) hnb hnb) (by decide) hn1 hn2 hn1 hn2 hn1 hn2) ?_
  rintro _ w6 ⟨hE6, g6, gs6, rfl, _, _, hO6⟩
  replace hO3 := hO3.ext hE6
  replace hO4 := hO4.ext hE6
  replace hO5 := hO5.ext hE6
  refine gg ?_
  refine R1_call2 (same_o (N := 1) hO6 hO5 (fun i j hi hj => inv_right n U hdet i j hi hj) (fun i j hi hj => by rw [inv_right n U hdet i j hi hj]; exact b1 i j hi hj) hnb hnb (by decide)) ?_
  rintro _ w7 ⟨hE7, rfl⟩
  replace hO3 := hO3.ext hE7
  replace hO4 := hO4.ext hE7
  replace hO5 := hO5.ext hE7
  refine gg ?_
  refine R1_call2 (rproductT_ok (N := 17) (hO4.rd bI (by decide) hnb hnb) (hO3.rd bU (by decide) hnb hnb) (by decide) hn1 hn2 hn1 hn2 hn1 hn2) ?_
  rintro _ w8 ⟨hE8, g8, gs8, rfl, _, _, hO8⟩
  replace hO5 := hO5.ext hE8
  refine gg ?_
  refine R1_call2 (same_o (N := 1) hO8 hO5 (fun i j hi hj => inv_left n U hdet i j hi hj) (fun i j hi hj => by rw [inv_left n U hdet i j hi hj]; exact b1 i j hi hj) hnb hnb (by decide)) ?_
  rintro _ w9 ⟨hE9, rfl⟩
  have hE19 := hE2.trans (hE3.trans (hE4.trans (hE5.trans (hE6.trans (hE7.trans (hE8.trans hE9))))))
  clear hE2 hE3 hE4 hE5 hE6 hE7 hE8 hE9 hO3 hO4 hO5 hO6 hO8 hZ
  have hm1 := Nat.mod_lt rx (show 0 < 3 by decide)
  have hm2 := Nat.mod_lt cx (show 0 < 3 by decide)
  obtain ⟨r, hr⟩ : ∃ r, r = 1 + rx % 3 := ⟨_, rfl⟩
  obtain ⟨c, hc⟩ : ∃ c, c = 1 + cx % 3 := ⟨_, rfl⟩
  have hrb : r < 9223372036854775808 := by omega
  have hcb : c < 9223372036854775808 := by omega
  obtain ⟨X, hX⟩ : ∃ X, X = gridM c nx nsx := ⟨_, rfl⟩
  have bX : ∀ i j, i < r → j < c → Bd 1 (X i j) := fun i j _ _ => by rw [hX]; exact gridM_bd hx4 _ i j
  obtain ⟨x0, x1, x2⟩ := blkT (hX1.ext hE19)
  refine gg ?_
  refine R1_load3F (by decide) agg_Grid rfl x0 x1 x2 ?_
  clear x0 x1 x2
  refine gg ?_
  refine R1_call2 (gridMatrix_ok _ rx cx nx 3 nsx w9 (hGx w9 (hE1.trans hE19)) (by decide) (by decide)) ?_
  rintro _ w10 ⟨hE10, g10, gs10, rfl, _, _, hO10⟩
  rw [← hr, ← hc, ← hX] at hO10
  rw [← hr]
  refine gg ?_
  refine R1_call2 (inverse_ok _ r 1 (fun _ => c) X w10 (hO10.rd bX (by decide) hrb hcb) (by decide) (by decide)) ?_
  intro u w11 hu
  obtain ⟨A11, m11, c11, rfl, hE11, hN11⟩ := hu.nm
  clear hu
  have hE1_11 := hE19.trans (hE10.trans hE11)
  obtain ⟨x0, x1, x2⟩ := blkT (hX1.ext hE1_11)
  refine gg ?_
  refine R1_load3F (by decide) agg_Grid rfl x0 x1 x2 ?_
  clear x0 x1 x2
  refine gg ?_
  refine R1_call2 (gridMatrix_ok _ rx cx nx 3 nsx w11 (hGx w11 (hE1.trans hE1_11)) (by decide) (by decide)) ?_
  rintro _ w12 ⟨hE12, g12, gs12, rfl, _, _, hO12⟩
  rw [← hr, ← hc, ← hX] at hO12
  rw [← hr]
  refine gg ?_
  refine R1_call2 (rinverse_ok _ r 1 (fun _ => c) X w12 (hO12.rd bX (by decide) hrb hcb) (by decide) (by decide)) ?_
  intro u w13 hu
  obtain ⟨hE13, A13, m13, c13, rfl, hN13⟩ := hu.readC hrb
  clear hu
  replace hN11 := hN11.ext (hE12.trans hE13)
  have hE := hE1.trans (hE1_11.trans (hE12.trans hE13))
  refine gg ?_
  rw [show (okI r (fun _ => c) X == okI r (fun _ => c) X) = true from beq_self_eq_true _]
  have hsq : okI r (fun _ => c) X = true → c = r := fun hok => by
    rw [okI_iff, Bool.and_eq_true] at hok
    exact (okS_iff.1 hok.1).2.2 0 (by omega)
  have hNN : Nb 1 16 + Nb 1 16 < 1099511627776 := by have := Nb_big (N := 1) (k := 16) (by decide) (by decide); omega
  have bInv : okI r (fun _ => c) X = true → ∀ i j, i < r → j < r → Bd (Nb 1 16 + Nb 1 16) (invF r X i j) := fun hok i j hi hj => by
    have hcr := hsq hok
    have hb : ∀ i j, i < r → j < r → Bd 1 (X i j) := fun i j hi hj => bX i j hi (by omega)
    have e : invF r X i j = detB r X * radjF r X i j := by unfold invF; rw [radjF_eq r X i j hi hj]
    rw [e]
    exact ((detB_bd (by decide) hb).mono (Nb_le16 1 r (by omega))).mul (radjF_bd (by omega) (by decide) hb i j hi hj)
  refine gg ?_
  refine R1_call2 (same_c (hN11.readC bInv (fun _ => hrb) (fun _ => hrb)) hN13 (fun i j hi hj => ?_) hNN) ?_
  · unfold invF timesM
    by_cases hok : okI r (fun _ => c) X = true
    · rw [if_pos hok] at hi
      rw [radjF_eq r X i j hi hj]
    · rw [if_neg hok] at hi; omega
  rintro _ w14 ⟨hE14, rfl⟩
  refine gg ?_
  refine R1_call2 (awake_ok w14) ?_
  rintro _ w15 ⟨hE15, rfl⟩
  refine gg ?_
  exact ret1 (v := .bool _) rfl rfl ⟨hE.trans (hE14.trans hE15), rfl⟩
end Go.Proofs.Ytimjiaabaanbeaa
