/- Joined: Rqa, Grr, Rsl. -/
import Derived.Test.YtcjhcefnedonlaaQu
import Derived.Test.YtcjhcefnedonlaaQx
import Derived.Test.YtcjhcefnedonlaaQj
import Derived.Test.YtcjhcefnedonlaaQk
/- quadformref01: Rem, Gcd; quadformref02.New. -/
namespace Go.Proofs.Ytcjhcefnedonlaa
open Go Go.Eng Go.Num Go.Proofs

theorem Bd.emod {N : Nat} {a b : Int} (hb : Bd N b) (h0 : b ≠ 0) : Bd N (a % b) := by
  have h1 := Int.emod_nonneg a h0
  have h2 := Int.emod_lt a h0
  unfold Bd at *
  omega
set_option maxHeartbeats 8000000 in
theorem rrem_ok (x1 y1 x2 y2 : Value) (z1 z2 : Int) (N : Nat) (w : World) (h1 : IV w N x1 y1 z1) (h2 : IV w N x2 y2 z2) (hN : N < 68719476736) (hz : z2 ≠ 0) :
    Meets Try.prog 112 #[.agg #[x1, y1], .agg #[x2, y2]] w (RI w (z1 % z2)) := by
  refine fn_W (n := 16) Try.func112 rfl rfl (by kernel_rfl) (by simp) ?_
  refine gg ?_
  refine R1_box (v := .agg _) (.inl rfl) rfl ?_
  intro w1 hB1 hE1 hs1
  refine gg ?_
  refine R1_box (v := .agg _) (.inl rfl) rfl ?_
  intro w2 hB2 hE2 hs2
  refine gg ?_
  refine R1_alloc (.inl rfl) z_Int ?_
  intro w3 hB3 hE3 hs3
  have hR3 : Bx w3 w2.heap.size 1 true 0 := Bx.zero true hB3
  obtain ⟨gR, hgR⟩ : ∃ g, g = w2.heap.size := ⟨_, rfl⟩
  rw [← hgR] at hR3 ⊢
  have hE13 := hE1.trans (hE2.trans hE3)
  obtain ⟨f0, f1⟩ := blkP (hB1.ext (hE2.trans hE3))
  obtain ⟨f2, f3⟩ := blkP (hB2.ext hE3)
  have hs13 := hE13.size
  have hs12 := (hE1.trans hE2).size
  refine gg ?_
  refine R1_call2 (rdivMod_ok _ _ _ _ _ _ N w3 (h1.ext hE13) (h2.ext hE13) hN) ?_
  intro v w4 hv
  unfold RDZ at hv
  rw [if_neg hz] at hv
  obtain ⟨hE4, qx, qy, rx, ry, rfl, hq, hr⟩ := hv
  have hbq : Bd N (z1 / z2) := Bd.ediv (IV.bd h1)
  have hbr : Bd N (z1 % z2) := Bd.emod (IV.bd h2) hz
  have hs34 := hE4.size
  refine gg ?_
  refine R1_alloc (.inl rfl) z_Int ?_
  intro w5 hB5 hE5 hs5
  have hX5 : Bx w5 w4.heap.size 1 true 0 := Bx.zero true hB5
  obtain ⟨g5, hg5⟩ : ∃ g, g = w4.heap.size := ⟨_, rfl⟩
  rw [← hg5] at hX5 ⊢
  refine gg ?_
  refine R1_alloc (.inl rfl) z_Int ?_
  intro w6 hB6 hE6 hs6
  have hX6 : Bx w6 w5.heap.size 1 true 0 := Bx.zero true hB6
  obtain ⟨g6, hg6⟩ : ∃ g, g = w5.heap.size := ⟨_, rfl⟩
  rw [← hg6] at hX6 ⊢
  have hs45 := hE5.size
  have hE46 := hE5.trans hE6
  clear hB5 hB6
  refine gg ?_
  refine R1_storeBx (.inl rfl) rfl rfl (hX5.ext hE6) ((hq.ext hE46).ev true hbq) ?_
  intro w7 hX7 hC7 hk7 hs7
  refine gg ?_
  refine R1_storeBx (.inl rfl) rfl rfl (hX6.kp hk7 hC7 (by omega)) (((hr.ext hE46).kp hk7).ev true hbr) ?_
  intro w8 hX8 hC8 hk8 hs8
  have hE08 : Ext w w8 := hC8.ext_of (hC7.ext_of (hE13.trans (hE4.trans hE46)) (fun b hb => by omega)) (fun b hb => by omega)
  have hR8 := ((hR3.ext (hE4.trans hE46)).kp hk7 hC7 (by omega)).kp hk8 hC8 (by omega)
  obtain ⟨u, v, hU, hV⟩ := id hX8
  obtain ⟨p0, p1⟩ := blkP hU
  clear f0 f1 f2 f3
  refine gg ?_
  refine R1_storeBx (.inl rfl) rfl rfl hR8 hV ?_
  intro w9 hR9 hC9 hk9 hs9
  obtain ⟨u', v', hU', hV'⟩ := hR9
  refine gg ?_
  exact retC rfl agg_Int rfl hU' ⟨hC9.ext_of hE08 (fun b hb => by omega), _, _, rfl, hV'.2 rfl⟩

set_option maxHeartbeats 16000000 in
theorem rgcd_ok (x1 y1 x2 y2 : Value) (z1 z2 : Int) (N : Nat) (w : World) (h1 : IV w N x1 y1 z1) (h2 : IV w N x2 y2 z2) (hN : N < 68719476736) :
    Meets Try.prog 95 #[.agg #[x1, y1], .agg #[x2, y2]] w (RI w ((Int.gcd z1 z2 : Nat) : Int)) := by
  refine fn_W (n := 19) Try.func95 rfl rfl (by kernel_rfl) (by simp) ?_
  refine gg ?_
  refine R1_box (v := .agg _) (.inl rfl) rfl ?_
  intro w1 hB1 hE1 hs1
  refine gg ?_
  refine R1_box (v := .agg _) (.inl rfl) rfl ?_
  intro w2 hB2 hE2 hs2
  refine gg ?_
  refine R1_alloc (.inl rfl) z_Int ?_
  intro w3 hB3 hE3 hs3
  have hR3 : Bx w3 w2.heap.size 1 true 0 := Bx.zero true hB3
  obtain ⟨gR, hgR⟩ : ∃ g, g = w2.heap.size := ⟨_, rfl⟩
  rw [← hgR] at hR3 ⊢
  have hE13 := hE1.trans (hE2.trans hE3)
  have hs12 := (hE1.trans hE2).size
  have hRlt := hR3.lt
  refine gg ?_
  refine W_seqG [(0, 0), (2, 0)] [(1, [], []), (4, [], []), (5, [], []), (3, [], [1])] [(6, 2), (7, 2)] mixed (by kernel_rfl) (fun w9 hE9 _ => ?_)
  obtain ⟨f0, f1⟩ := blkP (hB1.ext (hE2.trans (hE3.trans hE9)))
  obtain ⟨f2, f3⟩ := blkP (hB2.ext (hE3.trans hE9))
  have hE09 := hE13.trans hE9
  refine gg ?_
  refine Rg_float [(1, []), (3, [])] [fA 4 5 35 (.agg #[.bool false, .slice none 0 0]), fA 5 6 35 (.agg #[.bool false, .slice none 0 0])] [8, 10, 5, 6] (by kernel_rfl) (fun a ha f' w' _ _ => by
    rcases List.mem_cons.1 ha with rfl | ha
    · exact flt_alloc z_Int rfl f' w'
    · rcases List.mem_singleton.1 ha with rfl
      exact flt_alloc z_Int rfl f' w') ?_
  refine Rc_cons (fun w10 hE10 => ?_)
  refine gg ?_
  refine R1_call1 (rabs_ok _ _ _ N w10 (h1.ext (hE09.trans hE10)) (by omega)) ?_
  rintro _ w11 ⟨hE11, q1, q2, rfl, hcq⟩
  refine ⟨hE11, ?_⟩
  refine gg ?_
  refine Rc_cons (fun w12 hE12 => ?_)
  refine gg ?_
  refine R1_call1 (rabs_ok _ _ _ N w12 (h2.ext (hE09.trans (hE10.trans (hE11.trans hE12)))) (by omega)) ?_
  rintro _ w13 ⟨hE13', r1, r2, rfl, hcr⟩
  refine ⟨hE13', ?_⟩
  refine gg ?_
  refine Rc_nil (fun w14 hE14 bs hbs hdis => ?_)
  obtain ⟨hge11, hB11⟩ := hbs _ List.mem_cons_self
  obtain ⟨hge12, hB12⟩ := hbs _ (List.mem_cons_of_mem _ List.mem_cons_self)
  have hne : bs 5 ≠ bs 6 := hdis _ _ List.mem_cons_self (List.mem_cons_of_mem _ List.mem_cons_self) (show (5 : Nat) ≠ 6 by decide)
  have hM11 : Bx w14 (bs 5) 1 true 0 := Bx.zero true hB11
  have hM12 : Bx w14 (bs 6) 1 true 0 := Bx.zero true hB12
  have hge11 : w9.heap.size ≤ bs 5 := hge11
  have hge12 : w9.heap.size ≤ bs 6 := hge12
  show Ro _ _ _ _ _ _ (upd (upd _ 6 (.pointer (some ⟨bs 6, 0, none⟩))) 5 (.pointer (some ⟨bs 5, 0, none⟩))) _
  generalize bs 5 = g5 at *
  generalize bs 6 = g6 at *
  clear hB11 hB12 hbs hdis f0 f1 f2 f3
  have b1 : Bd N ((z1.natAbs : Nat) : Int) := by have := IV.bd h1; unfold Bd at *; omega
  have b2 : Bd N ((z2.natAbs : Nat) : Int) := by have := IV.bd h2; unfold Bd at *; omega
  have hs9 := hE9.size
  have hs03 := hE13.size
  refine gg ?_
  refine R1_storeBx (.inl rfl) rfl rfl hM11 ((hcq.ext (hE12.trans (hE13'.trans hE14))).ev true b1) ?_
  intro w15 h5 hC15 hk15 hs15
  refine gg ?_
  refine R1_storeBx (.inl rfl) rfl rfl (hM12.kp hk15 hC15 hne.symm) (((hcr.ext hE14).kp hk15).ev true b2) ?_
  intro w16 h6 hC16 hk16 hs16
  have h5 := h5.kp hk16 hC16 hne
  have hE914 := hE10.trans (hE11.trans (hE12.trans (hE13'.trans hE14)))
  have hR16 := ((hR3.ext (hE9.trans hE914)).kp hk15 hC15 (by omega)).kp hk16 hC16 (by omega)
  have hE16 : Ext w w16 := hC16.ext_of (hC15.ext_of (hE09.trans hE914) (fun b hb => by omega)) (fun b hb => by omega)
  have hg : w.heap.size ≤ gR ∧ w.heap.size ≤ g5 ∧ w.heap.size ≤ g6 ∧ gR ≠ g5 ∧ gR ≠ g6 := by omega
  clear hE914 hk15 hC15 hk16 hC16 hs15 hs16 hM11 hM12 hE14 hE13' hE12 hE11 hE10 hE9 hge11 hge12 hcq hcr hs9 hs03 hRlt hs12 hE13 hE09 hR3 hB1 hB2 hB3
  obtain ⟨G, hG⟩ : ∃ G, G = Int.gcd z1 z2 := ⟨_, rfl⟩
  rw [← hG]
  refine gg ?_
  refine W_seqM (fun f w' => f 4 = .pointer (some ⟨gR, 0, none⟩) ∧ f 5 = .pointer (some ⟨g5, 0, none⟩) ∧ f 6 = .pointer (some ⟨g6, 0, none⟩) ∧ Ext w w' ∧ Bx w' gR 1 true 0 ∧ Bx w' g5 N true ((G : Nat) : Int)) ?_ ?_
  · refine gg ?_
    refine W_loop (fun m f w' => ∃ a b : Nat, m = b ∧ f 4 = .pointer (some ⟨gR, 0, none⟩) ∧ f 5 = .pointer (some ⟨g5, 0, none⟩) ∧ f 6 = .pointer (some ⟨g6, 0, none⟩) ∧ Ext w w' ∧ Bx w' gR 1 true 0 ∧ Bx w' g5 N true ((a : Nat) : Int) ∧ Bx w' g6 N true ((b : Nat) : Int) ∧ G = Nat.gcd a b)
      z2.natAbs ⟨z1.natAbs, z2.natAbs, rfl, rfl, rfl, rfl, hE16, hR16, h5, h6, hG⟩ ?_
    clear hE16 hR16 h5 h6 hG b1 b2
    rintro m f w17 ⟨a, b, rfl, hf4, hf5, hf6, hE, hR, h5, h6, hG⟩
    rw [ui hf4, ui hf5, ui hf6]
    clear hf4 hf5 hf6
    obtain ⟨u, v, hU, hV⟩ := id h6
    obtain ⟨p0, p1⟩ := blkP hU
    refine W_seq ?_
    refine W_seq ?_
    refine gg ?_
    refine R1_call2 (rsign_ok _ _ _ N w17 hV.1 (by omega)) ?_
    rintro _ w18 ⟨hE18, rfl⟩
    clear p0 p1
    by_cases hb0 : m = 0
    · have hs : ((m : Nat) : Int).sign = 0 := by rw [hb0]; rfl
      refine gg ?_
      refine ⟨rfl, rfl, rfl, hE.trans hE18, hR.ext hE18, ?_⟩
      rw [hG, hb0, Nat.gcd_zero_right]
      exact h5.ext hE18
    · have hs : ¬ ((m : Nat) : Int).sign = 0 := fun e => hb0 (by have := Int.sign_eq_zero_iff_zero.1 e; omega)
      refine gg ?_
      refine W_regD [(0, 0), (1, 0), (2, 0), (3, 1), (4, 2), (5, 2)] mixed (by kernel_rfl) (fun w19 hE19 _ => ?_)
      have hE1719 := hE18.trans hE19
      obtain ⟨u, v, hU, hV⟩ := h6.ext hE1719
      obtain ⟨p0, p1⟩ := blkP hU
      obtain ⟨u2, v2, hU2, hV2⟩ := h5.ext hE1719
      obtain ⟨p2, p3⟩ := blkP hU2
      refine gg ?_
      refine R1_call1 (rrem_ok _ _ _ _ _ _ N w19 hV2.1 hV.1 hN (by omega)) ?_
      rintro _ w20 ⟨hE20, c1, c2, rfl, hcm⟩
      refine ⟨hE20, ?_⟩
      have hbm : Bd N (((a : Nat) : Int) % ((m : Nat) : Int)) := Bd.emod hV.bd (by omega)
      have em : ((a : Nat) : Int) % ((m : Nat) : Int) = ((a % m : Nat) : Int) := by omega
      rw [em] at hcm hbm
      clear p0 p1 p2 p3
      refine gg ?_
      refine R1_storeBx (.inl rfl) rfl rfl (h5.ext (hE1719.trans hE20)) (hV.ext hE20) ?_
      intro w21 h21 hC21 hk21 hs21
      refine gg ?_
      refine R1_storeBx (.inl rfl) rfl rfl ((h6.ext (hE1719.trans hE20)).kp hk21 hC21 hne.symm) ((hcm.kp hk21).ev true hbm) ?_
      intro w22 h22 hC22 hk22 hs22
      refine gg ?_
      refine ⟨a % m, Nat.mod_lt _ (by omega), m, a % m, rfl, rfl, rfl, rfl, hC22.ext_of (hC21.ext_of (hE.trans (hE1719.trans hE20)) (fun b hb => by omega)) (fun b hb => by omega), ((hR.ext (hE1719.trans hE20)).kp hk21 hC21 (by omega)).kp hk22 hC22 (by omega), h21.kp hk22 hC22 hne, h22, ?_⟩
      rw [hG, Nat.gcd_comm a, Nat.gcd_rec, Nat.gcd_comm]
  clear hE16 hR16 h5 h6
  rintro f w17 ⟨hf4, hf5, hf6, hE, hR, h5⟩
  rw [ui hf4, ui hf5, ui hf6]
  clear hf4 hf5 hf6
  obtain ⟨u, v, hU, hV⟩ := id h5
  obtain ⟨p0, p1⟩ := blkP hU
  refine gg ?_
  refine R1_storeBx (.inl rfl) rfl rfl hR hV ?_
  intro w18 hR18 hC18 hk18 hs18
  obtain ⟨u', v', hU', hV'⟩ := hR18
  refine gg ?_
  exact retC rfl agg_Int rfl hU' ⟨hC18.ext_of hE (fun b hb => by omega), _, _, rfl, hV'.2 rfl⟩

theorem lowG_dvd_left (n d : Int) : lowG n d ∣ n := by
  unfold lowG; split
  · exact Int.neg_dvd.2 (Int.gcd_dvd_left ..)
  · exact Int.gcd_dvd_left ..
theorem lowG_dvd_right (n d : Int) : lowG n d ∣ d := by
  unfold lowG; split
  · exact Int.neg_dvd.2 (Int.gcd_dvd_right ..)
  · exact Int.gcd_dvd_right ..
theorem lowN_mul (n d : Int) : lowN n d * lowG n d = n := Int.ediv_mul_cancel (lowG_dvd_left n d)
theorem lowD_mul (n d : Int) : lowD n d * lowG n d = d := Int.ediv_mul_cancel (lowG_dvd_right n d)
/-- what New returns is the same number -/
theorem low_cross {n d : Int} : lowN n d * d = n * lowD n d := by
  have a := lowN_mul n d
  have b := lowD_mul n d
  generalize lowN n d = x at *
  generalize lowD n d = y at *
  generalize lowG n d = g at *
  subst a b
  grind
theorem lowD_pos {n d : Int} (h : d ≠ 0) : 0 < lowD n d := by
  have h1 := lowD_mul n d
  have hg : Int.gcd n d ≠ 0 := fun e => h (Int.gcd_eq_zero_iff.1 e).2
  by_cases hd : d < 0
  · have e : lowG n d = -((Int.gcd n d : Nat) : Int) := by unfold lowG; rw [if_pos hd]
    rcases Int.lt_trichotomy (lowD n d) 0 with h2 | h2 | h2
    · exfalso
      have := Int.mul_nonneg_of_nonpos_of_nonpos (Int.le_of_lt h2) (show lowG n d ≤ 0 by omega)
      omega
    · rw [h2, Int.zero_mul] at h1; omega
    · exact h2
  · have e : lowG n d = ((Int.gcd n d : Nat) : Int) := by unfold lowG; rw [if_neg hd]
    rcases Int.lt_trichotomy (lowD n d) 0 with h2 | h2 | h2
    · exfalso
      have := Int.mul_nonpos_of_nonpos_of_nonneg (Int.le_of_lt h2) (show 0 ≤ lowG n d by omega)
      omega
    · rw [h2, Int.zero_mul] at h1; omega
    · exact h2
theorem low_bd {n d : Int} {N : Nat} (h1 : Bd N n) (h2 : Bd N d) : Bd N (lowN n d) ∧ Bd N (lowD n d) := ⟨h1.ediv, h2.ediv⟩

set_option maxHeartbeats 16000000 in
theorem rratNew_ok (x1 y1 x2 y2 : Value) (z1 z2 : Int) (N : Nat) (w : World) (h1 : IV w N x1 y1 z1) (h2 : IV w N x2 y2 z2) (hN : N < 68719476736) (hz : z2 ≠ 0) :
    Meets Try.prog 68 #[.agg #[x1, y1], .agg #[x2, y2]] w fun v w' => ∃ u, v = .tuple #[u, .bool true] ∧ RRat w (lowN z1 z2) (lowD z1 z2) u w' := by
  refine fn_W (n := 28) Try.func68 rfl rfl (by kernel_rfl) (by simp) ?_
  refine gg ?_
  refine R1_box (v := .agg _) (.inl rfl) rfl ?_
  intro w1 hB1 hE1 hs1
  have hX1 : Bx w1 w.heap.size N false z1 := ⟨x1, y1, hB1, (h1.ext hE1), fun e => by cases e⟩
  obtain ⟨g2, hg2⟩ : ∃ g, g = w.heap.size := ⟨_, rfl⟩
  rw [← hg2] at hX1 ⊢
  refine gg ?_
  refine R1_box (v := .agg _) (.inl rfl) rfl ?_
  intro w2 hB2 hE2 hs2
  have hX2 : Bx w2 w1.heap.size N false z2 := ⟨x2, y2, hB2, (h2.ext (hE1.trans hE2)), fun e => by cases e⟩
  obtain ⟨g3, hg3⟩ : ∃ g, g = w1.heap.size := ⟨_, rfl⟩
  rw [← hg3] at hX2 ⊢
  refine gg ?_
  refine R1_alloc (.inl rfl) z_Rat ?_
  intro w3 hB3 hE3 hs3
  have hR3 : Blk w3 w2.heap.size 55 #[.bool false, .slice none 0 0, .bool false, .slice none 0 0] := hB3
  obtain ⟨gR, hgR⟩ : ∃ g, g = w2.heap.size := ⟨_, rfl⟩
  rw [← hgR] at hR3 ⊢
  clear hB1 hB2 hB3
  replace hX1 := hX1.ext (hE2.trans hE3)
  replace hX2 := hX2.ext hE3
  have hE03 := hE1.trans (hE2.trans hE3)
  have hs01 := hE1.size
  have hs12 := hE2.size
  have hs23 := hE3.size
  have hd : w.heap.size ≤ g2 ∧ w.heap.size ≤ g3 ∧ w.heap.size ≤ gR ∧ g2 ≠ g3 ∧ g2 ≠ gR ∧ g3 ≠ gR := by omega
  clear hs01 hs12 hs23 hs1 hs2 hs3 hg2 hg3 hgR hE1 hE2 hE3
  obtain ⟨u2, v2, hU2, hV2⟩ := id hX2
  obtain ⟨p2, p2'⟩ := blkP hU2
  refine gg ?_
  refine W_seq ?_
  refine gg ?_
  refine R1_call2 (rsign_ok _ _ _ N w3 hV2.1 (by omega)) ?_
  rintro _ w4 ⟨hE4, rfl⟩
  have hs0 : ¬ z2.sign = 0 := fun e => hz (Int.sign_eq_zero_iff_zero.1 e)
  clear p2 p2' hU2 hV2
  replace hX1 := hX1.ext hE4
  replace hX2 := hX2.ext hE4
  replace hR3 := hR3.ext hE4
  replace hE03 := hE03.trans hE4
  refine gg ?_
  obtain ⟨s, hs⟩ : ∃ s : Int, s = if z2 < 0 then -1 else 1 := ⟨_, rfl⟩
  refine W_seqM (fun f w' => f 2 = .pointer (some ⟨g2, 0, none⟩) ∧ f 3 = .pointer (some ⟨g3, 0, none⟩) ∧ f 4 = .pointer (some ⟨gR, 0, none⟩) ∧ Ext w w' ∧ Bx w' g2 N false (s * z1) ∧ Bx w' g3 N false (s * z2) ∧ Blk w' gR 55 #[.bool false, .slice none 0 0, .bool false, .slice none 0 0]) ?_ ?_
  · obtain ⟨u2, v2, hU2, hV2⟩ := id hX2
    obtain ⟨p2, p2'⟩ := blkP hU2
    refine gg ?_
    refine R1_call2 (rsign_ok _ _ _ N w4 hV2.1 (by omega)) ?_
    rintro _ w5 ⟨hE5, rfl⟩
    clear p2 p2' hU2 hV2
    by_cases hneg : z2 < 0
    · have hsn : z2.sign < 0 := by rw [Int.sign_eq_neg_one_of_neg hneg]; decide
      rw [if_pos hneg] at hs
      refine gg ?_
      refine W_regD [(0, 0), (2, 0), (1, 1), (3, 1), (4, 2), (5, 2)] mixed (by kernel_rfl) (fun w6 hE6 _ => ?_)
      have hE46 := hE5.trans hE6
      obtain ⟨u1, v1, hU1, hV1⟩ := hX1.ext hE46
      obtain ⟨p1, p1'⟩ := blkP hU1
      obtain ⟨u2, v2, hU2, hV2⟩ := hX2.ext hE46
      obtain ⟨p2, p2'⟩ := blkP hU2
      refine gg ?_
      refine R1_call1 (rneg_ok _ _ _ N w6 hV1.1 (by omega)) ?_
      rintro _ w7 ⟨hE7, a1, b1, rfl, hc1⟩
      refine ⟨hE7, ?_⟩
      refine gg ?_
      refine R1_call1 (rneg_ok _ _ _ N w7 (hV2.1.ext hE7) (by omega)) ?_
      rintro _ w8 ⟨hE8, a2, b2, rfl, hc2⟩
      refine ⟨hE8, ?_⟩
      have hE48 := hE46.trans (hE7.trans hE8)
      clear p1 p1' p2 p2'
      refine gg ?_
      refine R1_storeBx (.inl rfl) rfl rfl (hX1.ext hE48) ((hc1.ext hE8).ev false hV1.bd.neg') ?_
      intro w9 hY1 hC9 hk9 hs9
      refine gg ?_
      refine R1_storeBx (.inl rfl) rfl rfl ((hX2.ext hE48).kp hk9 hC9 (by omega)) ((hc2.kp hk9).ev false hV2.bd.neg') ?_
      intro w10 hY2 hC10 hk10 hs10
      refine gg ?_
      refine ⟨rfl, rfl, rfl, hC10.ext_of (hC9.ext_of (hE03.trans hE48) (fun b hb => by omega)) (fun b hb => by omega), ?_, ?_, ((hR3.ext hE48).ch hC9 (by omega)).ch hC10 (by omega)⟩
      · rw [hs, Int.neg_mul, Int.one_mul]; exact hY1.kp hk10 hC10 (by omega)
      · rw [hs, Int.neg_mul, Int.one_mul]; exact hY2
    · have hsn : ¬ z2.sign < 0 := by rw [Int.sign_eq_one_of_pos (show 0 < z2 by omega)]; decide
      rw [if_neg hneg] at hs
      refine gg ?_
      refine ⟨rfl, rfl, rfl, hE03.trans hE5, ?_, ?_, hR3.ext hE5⟩
      · rw [hs, Int.one_mul]; exact hX1.ext hE5
      · rw [hs, Int.one_mul]; exact hX2.ext hE5
  clear hX1 hX2 hR3 hE03
  rintro f w5 ⟨hf2, hf3, hf4, hE, hX1, hX2, hR⟩
  rw [ui hf2, ui hf3, ui hf4]
  clear hf2 hf3 hf4
  have hs1 : s = 1 ∨ s = -1 := by rw [hs]; split <;> omega
  have hpos : 0 < s * z2 := by
    rw [hs]; split
    · rw [Int.neg_mul, Int.one_mul]; omega
    · rw [Int.one_mul]; omega
  obtain ⟨e1, e2⟩ : lowN z1 z2 = lowN (s * z1) (s * z2) ∧ lowD z1 z2 = lowD (s * z1) (s * z2) := by
    rcases hs1 with rfl | rfl
    · rw [Int.one_mul, Int.one_mul]; exact ⟨rfl, rfl⟩
    · rw [Int.neg_mul, Int.one_mul, Int.neg_mul, Int.one_mul]
      have hg : lowG (-z1) (-z2) = - lowG z1 z2 := by
        unfold lowG
        have e : Int.gcd (-z1) (-z2) = Int.gcd z1 z2 := by simp [Int.gcd]
        rw [e]
        by_cases h : z2 < 0
        · rw [if_neg (by omega), if_pos h]; omega
        · rw [if_pos (by omega), if_neg h]
      unfold lowN lowD
      rw [hg, Int.ediv_neg, Int.ediv_neg, Int.neg_ediv_of_dvd (lowG_dvd_left z1 z2), Int.neg_ediv_of_dvd (lowG_dvd_right z1 z2), Int.neg_neg, Int.neg_neg]
      exact ⟨rfl, rfl⟩
  rw [e1, e2]
  generalize s * z1 = y1 at *
  generalize s * z2 = y2 at *
  clear e1 e2 hs1 hs hs0
  have eG : lowG y1 y2 = ((Int.gcd y1 y2 : Nat) : Int) := by unfold lowG; rw [if_neg (by omega)]
  obtain ⟨u1, v1, hU1, hV1⟩ := id hX1
  obtain ⟨p1, p1'⟩ := blkP hU1
  obtain ⟨u2, v2, hU2, hV2⟩ := id hX2
  obtain ⟨p2, p2'⟩ := blkP hU2
  refine gg ?_
  refine R1_call2 (rgcd_ok _ _ _ _ _ _ N w5 hV1.1 hV2.1 hN) ?_
  rintro _ w6 ⟨hE6, a1, b1, rfl, hc1⟩
  have hgb := gcd_bd (n := y1) (show y2 ≠ 0 by omega) hV2.bd
  rw [← eG] at hc1 hgb
  have hlt := hU1.lt
  have hlt2 := hU2.lt
  have hlt3 := hR.lt
  have hs56 := hE6.size
  clear p1 p1' p2 p2' hU1 hU2
  refine gg ?_
  refine R1_alloc (.inl rfl) z_Int ?_
  intro w7a hBa_ hEa_ hsa_
  have hG0_ : Bx w7a w6.heap.size 1 true 0 := Bx.zero true hBa_
  obtain ⟨g6, hg_⟩ : ∃ g, g = w6.heap.size := ⟨_, rfl⟩
  rw [← hg_] at hG0_ ⊢
  refine gg ?_
  refine R1_storeBx (.inl rfl) rfl rfl hG0_ ((hc1.ext hEa_).ev true hgb) ?_
  intro w7 hG hCb_ hkb_ hsb_
  have hE7 : Ext w6 w7 := hCb_.ext_of hEa_ (fun b hb => by omega)
  have hfr_g6 : w6.heap.size ≤ g6 := by omega
  clear hG0_ hBa_ hEa_ hsa_ hsb_ hCb_ hkb_ hg_
  have hE57 := hE6.trans hE7
  refine gg ?_
  refine W_seqD [(0, 0), (1, 0), (3, 0), (4, 0), (2, 1), (5, 1), (6, 3), (7, 2), (8, 3)] mixed (by kernel_rfl) (fun w8 hE8 _ => ?_)
  have hE58 := hE57.trans hE8
  obtain ⟨u1, v1, hU1, hV1⟩ := hX1.ext hE58
  obtain ⟨p1, p1'⟩ := blkP hU1
  obtain ⟨u2, v2, hU2, hV2⟩ := hX2.ext hE58
  obtain ⟨p2, p2'⟩ := blkP hU2
  obtain ⟨u3, v3, hU3, hV3⟩ := hG.ext hE8
  obtain ⟨p3, p3'⟩ := blkP hU3
  refine gg ?_
  refine R1_call1 (rquo_ok _ _ _ _ _ _ N w8 hV1.1 hV3.1 hN) ?_
  rintro _ w9 ⟨hE9, a4, b4, rfl, hc4⟩
  refine ⟨hE9, ?_⟩
  refine gg ?_
  refine R1_call1 (rquo_ok _ _ _ _ _ _ N w9 (hV2.1.ext hE9) (hV3.1.ext hE9) hN) ?_
  rintro _ w10 ⟨hE10, a5, b5, rfl, hc5⟩
  refine ⟨hE10, ?_⟩
  have hc4 : CV w10 a4 b4 (lowN y1 y2) := hc4.ext hE10
  have hc5 : CV w10 a5 b5 (lowD y1 y2) := hc5
  have hR10 := hR.ext (hE58.trans (hE9.trans hE10))
  refine gg ?_
  refine R1_bldRat rfl rfl ?_
  refine gg ?_
  refine R1_store4 agg_Rat (.inl rfl) rfl rfl hc4.one0 hc4.one1 hc5.one0 hc5.one1 hR10 (by decide) ?_
  intro w11 hB11 hC11 hs11
  have hk11 := kp_ch hR10 (noInt4 ⟨_, rfl⟩ ⟨_, _, _, rfl⟩ ⟨_, rfl⟩ ⟨_, _, _, rfl⟩).noU hC11
  refine gg ?_
  exact retC4B rfl agg_Rat rfl hB11 rfl ⟨_, rfl, hC11.ext_of (hE.trans (hE58.trans (hE9.trans hE10))) (fun b hb => by omega), _, _, _, _, rfl, hc4.kp hk11, hc5.kp hk11⟩
end Go.Proofs.Ytcjhcefnedonlaa

/- append of one Rat onto a list of the call's own. -/
namespace Go.Proofs.Ytcjhcefnedonlaa
open Go Go.Eng Go.Num Go.Proofs

/-- a list of Rats that grows -/
def GrowR (w : World) (v : Value) (m : Nat) (a b : Nat → Int) : Prop :=
  (m = 0 ∧ v = .slice none 0 0) ∨ ∃ g cap, v = .slice (some ⟨g, 0, none⟩) m cap ∧ m ≤ cap ∧ cap < 9223372036854775808 ∧ RatB w g cap (cutR m a) (cutR m b)
theorem zeroCells4_at (n k : Nat) (h : k < n * 4) : (Builtin.zeroCells #[Value.bool false, Value.slice none 0 0, Value.bool false, Value.slice none 0 0] n)[k]? = some (if k % 2 = 0 then .bool false else .slice none 0 0) := by
  simp only [Builtin.zeroCells]
  rw [show (#[Value.bool false, Value.slice none 0 0, Value.bool false, Value.slice none 0 0] : Array Value).size = 4 from rfl]
  have hm : k % 4 = 0 ∧ k % 2 = 0 ∨ k % 4 = 1 ∧ k % 2 = 1 ∨ k % 4 = 2 ∧ k % 2 = 0 ∨ k % 4 = 3 ∧ k % 2 = 1 := by omega
  simp [h]
  rcases hm with ⟨e, e'⟩ | ⟨e, e'⟩ | ⟨e, e'⟩ | ⟨e, e'⟩ <;> simp [e, e']
theorem ratB_grow {w : World} {g cap m : Nat} {a b : Nat → Int} {h' : Nat → Value} {za zb : Int} (hb : Blk w g 55 (arr (cap * 4) h'))
    (ho : ∀ j, j < m → CV w (h' (j * 4)) (h' (j * 4 + 1)) (a j) ∧ CV w (h' (j * 4 + 2)) (h' (j * 4 + 3)) (b j))
    (hv : CV w (h' (m * 4)) (h' (m * 4 + 1)) za ∧ CV w (h' (m * 4 + 2)) (h' (m * 4 + 3)) zb)
    (hz : ∀ j, m < j → j < cap → CV w (h' (j * 4)) (h' (j * 4 + 1)) 0 ∧ CV w (h' (j * 4 + 2)) (h' (j * 4 + 3)) 0) :
    RatB w g cap (cutR (m + 1) fun j => if j = m then za else a j) (cutR (m + 1) fun j => if j = m then zb else b j) := by
  refine ⟨h', hb, fun j hj => ?_⟩
  unfold cutR
  rcases Nat.lt_trichotomy j m with h | h | h
  · rw [if_pos (show j < m + 1 by omega), if_pos (show j < m + 1 by omega)]
    dsimp only
    rw [if_neg (show j ≠ m by omega), if_neg (show j ≠ m by omega)]; exact ho j h
  · subst h; rw [if_pos (by omega), if_pos (by omega)]
    dsimp only
    rw [if_pos rfl, if_pos rfl]; exact hv
  · rw [if_neg (by omega), if_neg (by omega)]; exact hz j h hj
/-- old cells, one new Rat, zeros: the cells as a function -/
def grownH (m : Nat) (hh : Nat → Value) (x0 x1 x2 x3 : Value) : Nat → Value := fun k => if k < m * 4 then hh k else if k = m * 4 then x0 else if k = m * 4 + 1 then x1 else if k = m * 4 + 2 then x2 else if k = m * 4 + 3 then x3 else if k % 2 = 0 then .bool false else .slice none 0 0
theorem grown_arr (m K : Nat) (hh : Nat → Value) (x0 x1 x2 x3 : Value) : ((List.range (m * 4)).map hh).toArray ++ [x0, x1, x2, x3].toArray ++ Builtin.zeroCells #[Value.bool false, Value.slice none 0 0, Value.bool false, Value.slice none 0 0] K = arr ((m + 1 + K) * 4) (grownH m hh x0 x1 x2 x3) := by
  apply Array.ext_getElem?
  intro k
  have hl : ((List.range (m * 4)).map hh).length = m * 4 := by simp
  by_cases hk : k < (m + 1 + K) * 4
  · rw [arr_at hk]
    unfold grownH
    by_cases h1 : k < m * 4
    · rw [if_pos h1, Array.getElem?_append_left (by simp; omega), Array.getElem?_append_left (by simp; omega)]
      simp [h1]
    · rw [if_neg h1]
      by_cases h2 : k < m * 4 + 4
      · rw [Array.getElem?_append_left (by simp; omega), Array.getElem?_append_right (by simp; omega)]
        simp only [List.size_toArray, hl, List.getElem?_toArray]
        have hm : k = m * 4 ∨ k = m * 4 + 1 ∨ k = m * 4 + 2 ∨ k = m * 4 + 3 := by omega
        rcases hm with rfl | rfl | rfl | rfl
        · rw [if_pos rfl, Nat.sub_self]; rfl
        · rw [if_neg (by omega), if_pos rfl, Nat.add_sub_cancel_left]; rfl
        · rw [if_neg (by omega), if_neg (by omega), if_pos rfl, Nat.add_sub_cancel_left]; rfl
        · rw [if_neg (by omega), if_neg (by omega), if_neg (by omega), if_pos rfl, Nat.add_sub_cancel_left]; rfl
      · rw [Array.getElem?_append_right (by simp; omega), if_neg (by omega), if_neg (by omega), if_neg (by omega), if_neg (by omega)]
        rw [zeroCells4_at K _ (by simp; omega)]
        have : (k - (((List.range (m * 4)).map hh).toArray ++ [x0, x1, x2, x3].toArray).size) % 2 = k % 2 := by
          simp only [Array.size_append, List.size_toArray, hl, List.length_cons, List.length_nil]; omega
        rw [this]
  · rw [Array.getElem?_eq_none (by rw [Array.size_append, Array.size_append, size_zeroCells]; simp; omega), Array.getElem?_eq_none (by rw [arr_size]; omega)]
theorem room_arr {m cap : Nat} (hm : m + 1 ≤ cap) (hh : Nat → Value) (x0 x1 x2 x3 : Value) : ((arr (cap * 4) hh).toList.take (m * 4) ++ [x0, x1, x2, x3] ++ (arr (cap * 4) hh).toList.drop (m * 4 + [x0, x1, x2, x3].length)).toArray = arr (cap * 4) (fun k => if k = m * 4 then x0 else if k = m * 4 + 1 then x1 else if k = m * 4 + 2 then x2 else if k = m * 4 + 3 then x3 else hh k) := by
  apply Array.ext_getElem?
  intro k
  have hmin : min (m * 4) (cap * 4) = m * 4 := by omega
  by_cases hk : k < cap * 4
  · rw [arr_at hk]
    simp only [List.getElem?_toArray]
    rcases Nat.lt_or_ge k (m * 4) with h1 | h1
    · rw [List.append_assoc, List.getElem?_append_left (by simp [arr]; omega), if_neg (by omega), if_neg (by omega), if_neg (by omega), if_neg (by omega)]
      simp [arr, h1, hk]
    · rcases Nat.lt_or_ge k (m * 4 + 4) with h2 | h2
      · rw [List.getElem?_append_left (by simp [arr]; omega), List.getElem?_append_right (by simp [arr]; omega)]
        simp only [List.length_take, arr, Array.length_toList, Array.size_map, Array.size_range, hmin]
        have hm : k = m * 4 ∨ k = m * 4 + 1 ∨ k = m * 4 + 2 ∨ k = m * 4 + 3 := by omega
        rcases hm with rfl | rfl | rfl | rfl
        · rw [if_pos rfl, Nat.sub_self]; rfl
        · rw [if_neg (by omega), if_pos rfl, Nat.add_sub_cancel_left]; rfl
        · rw [if_neg (by omega), if_neg (by omega), if_pos rfl, Nat.add_sub_cancel_left]; rfl
        · rw [if_neg (by omega), if_neg (by omega), if_neg (by omega), if_pos rfl, Nat.add_sub_cancel_left]; rfl
      · rw [List.getElem?_append_right (by simp [arr]; omega), if_neg (by omega), if_neg (by omega), if_neg (by omega), if_neg (by omega)]
        simp only [List.length_append, List.length_take, arr, Array.length_toList, Array.size_map, Array.size_range, hmin, List.length_cons, List.length_nil, List.getElem?_drop]
        rw [show m * 4 + (0 + 1 + 1 + 1 + 1) + (k - (m * 4 + (0 + 1 + 1 + 1 + 1))) = k by omega]
        simp [hk]
  · rw [Array.getElem?_eq_none (by simp [arr]; omega), Array.getElem?_eq_none (by rw [arr_size]; omega)]
theorem grown_rat {w : World} {g m K : Nat} {a b : Nat → Int} {hh : Nat → Value} {x0 x1 x2 x3 : Value} {za zb : Int} (hb : Blk w g 55 (((List.range (m * 4)).map hh).toArray ++ [x0, x1, x2, x3].toArray ++ Builtin.zeroCells #[Value.bool false, Value.slice none 0 0, Value.bool false, Value.slice none 0 0] K))
    (ho : ∀ j, j < m → CV w (hh (j * 4)) (hh (j * 4 + 1)) (a j) ∧ CV w (hh (j * 4 + 2)) (hh (j * 4 + 3)) (b j)) (hv : CV w x0 x1 za) (hv' : CV w x2 x3 zb) :
    RatB w g (m + 1 + K) (cutR (m + 1) fun j => if j = m then za else a j) (cutR (m + 1) fun j => if j = m then zb else b j) := by
  rw [grown_arr] at hb
  refine ratB_grow hb (fun j hj => ?_) ⟨?_, ?_⟩ (fun j hj hj2 => ?_)
  · unfold grownH
    rw [if_pos (by omega), if_pos (by omega), if_pos (by omega), if_pos (by omega)]
    exact ho j hj
  · unfold grownH
    rw [if_neg (by omega), if_pos rfl, if_neg (by omega), if_neg (by omega), if_pos rfl]
    exact hv
  · unfold grownH
    rw [if_neg (by omega), if_neg (by omega), if_neg (by omega), if_pos rfl, if_neg (by omega), if_neg (by omega), if_neg (by omega), if_neg (by omega), if_pos rfl]
    exact hv'
  · have e : ∀ t, t < 4 → grownH m hh x0 x1 x2 x3 (j * 4 + t) = if t % 2 = 0 then .bool false else .slice none 0 0 := fun t ht => by
      unfold grownH
      rw [if_neg (by omega), if_neg (by omega), if_neg (by omega), if_neg (by omega), if_neg (by omega), show (j * 4 + t) % 2 = t % 2 by omega]
    have e0 := e 0 (by omega)
    rw [Nat.add_zero] at e0
    rw [e0, e 1 (by omega), e 2 (by omega), e 3 (by omega)]
    exact ⟨CV.zero w, CV.zero w⟩

theorem append_ratRun {w : World} {v : Value} {m ty : Nat} {ra rb : Nat → Int} {a : Addr} {c : Nat} {x0 x1 x2 x3 : Value} {za zb : Int} (hG : GrowR w v m ra rb)
    (h0 : w.cell? (a.add 0) = some x0) (h1 : w.cell? (a.add 1) = some x1) (h2 : w.cell? (a.add 2) = some x2) (h3 : w.cell? (a.add 3) = some x3) (hv : CV w x0 x1 za) (hv' : CV w x2 x3 zb) (hm : m < 1099511627776) :
    ∃ v' w', (Builtin.append_ #[48, 48] ty #[v, .slice (some a) 1 c]).run Try.prog w = .ok v' w' ∧ GrowR w' v' (m + 1) (fun j => if j = m then za else ra j) (fun j => if j = m then zb else rb j) ∧ Kp w w' ∧
      Ch (fun b => some b = v.ownBlock) w w' ∧ (v'.ownBlock = v.ownBlock ∨ v'.ownBlock = some w.heap.size) := by
  obtain ⟨hu, hinfo⟩ := sl_Rat
  cases hi : Try.prog.info? 55 with
  | none => rw [hi] at hinfo; simp at hinfo
  | some i =>
    rw [hi] at hinfo
    simp at hinfo
    obtain ⟨hz, hsz, hby⟩ := hinfo
    have hnews : ∀ (j : Nat) (u : Value), ([x0, x1, x2, x3] : List Value)[j]? = some u → w.cell? (a.add j) = some u := fun j u hj => by
      match j, hj with
      | 0, hj => simp at hj; rw [← hj]; exact h0
      | 1, hj => simp at hj; rw [← hj]; exact h1
      | 2, hj => simp at hj; rw [← hj]; exact h2
      | 3, hj => simp at hj; rw [← hj]; exact h3
    have hc : maxLen = 9223372036854775807 := rfl
    have hzc : (Value.agg #[Value.bool false, Value.slice none 0 0, Value.bool false, Value.slice none 0 0]).cells = #[Value.bool false, Value.slice none 0 0, Value.bool false, Value.slice none 0 0] := rfl
    rcases hG with ⟨rfl, rfl⟩ | ⟨g, cap, rfl, hmc, hcap, hR⟩
    · have hr := run_append_nil (P := Try.prog) w 48 ty 55 i _ hu hi hz a 1 c [x0, x1, x2, x3] (by rw [hsz]; rfl) hnews (by omega) (by omega) (by rw [hby]; omega)
      rw [hzc] at hr
      have hge := grownCap_ge w 1 0 55
      have hle := grownCap_le_maxLen w 1 0 55 (by rw [hc]; omega)
      have hE := ext_drew w (.cells ([x0, x1, x2, x3].toArray ++ Builtin.zeroCells #[Value.bool false, Value.slice none 0 0, Value.bool false, Value.slice none 0 0] (grownCap w 1 0 55 - 1)) 55)
      have hg := grown_rat (w := w.drew.alloc (.cells ([x0, x1, x2, x3].toArray ++ Builtin.zeroCells #[Value.bool false, Value.slice none 0 0, Value.bool false, Value.slice none 0 0] (grownCap w 1 0 55 - 1)) 55)) (g := w.heap.size) (m := 0) (K := grownCap w 1 0 55 - 1) (a := ra) (b := rb) (hh := fun _ => undef) (x0 := x0) (x1 := x1) (x2 := x2) (x3 := x3) (by
        rw [show ((List.range (0 * 4)).map (fun _ => undef)).toArray ++ [x0, x1, x2, x3].toArray = [x0, x1, x2, x3].toArray by simp]; exact heap_alloc_new w.drew _) (fun j hj => absurd hj (by omega)) (hv.kp (kp_ext hE)) (hv'.kp (kp_ext hE))
      rw [show 0 + 1 + (grownCap w 1 0 55 - 1) = grownCap w 1 0 55 by omega] at hg
      exact ⟨_, _, hr, .inr ⟨w.heap.size, _, rfl, by omega, by omega, hg⟩, kp_ext hE, hE.mono (fun _ _ h => h.elim), .inr rfl⟩
    · obtain ⟨hh, hB, hcc⟩ := hR
      have hold : ∀ j, j < m → CV w (hh (j * 4)) (hh (j * 4 + 1)) (ra j) ∧ CV w (hh (j * 4 + 2)) (hh (j * 4 + 3)) (rb j) := fun j hj => by
        have := hcc j (by omega)
        unfold cutR at this
        rw [if_pos hj, if_pos hj] at this
        exact this
      by_cases hroom : m + 1 ≤ cap
      · have hr := run_append_room (P := Try.prog) w 48 ty 55 i hu hi g m cap (arr (cap * 4) hh) hB a 1 c [x0, x1, x2, x3] (by rw [hsz]; rfl) hnews (fun u hu => by
          simp only [List.mem_cons, List.not_mem_nil, or_false] at hu
          rcases hu with rfl | rfl | rfl | rfl
          · exact hv.one0
          · exact hv.one1
          · exact hv'.one0
          · exact hv'.one1) hroom (by rw [hsz, arr_size]; simp; omega)
        rw [hsz, room_arr hroom] at hr
        have hk := kp_ch hB (ratB_noInt hcc).noU (ch_setRow w g (arr (cap * 4) (fun k => if k = m * 4 then x0 else if k = m * 4 + 1 then x1 else if k = m * 4 + 2 then x2 else if k = m * 4 + 3 then x3 else hh k)))
        refine ⟨_, _, hr, .inr ⟨g, cap, rfl, hroom, hcap, ratB_grow (setRow_heap w g _ _ _ _ hB) (fun j hj => ?_) ⟨?_, ?_⟩ (fun j hj hj2 => ?_)⟩, hk, (ch_setRow w g _).mono (fun b _ hb => by rw [hb]; rfl), .inl rfl⟩
        · rw [if_neg (by omega), if_neg (by omega), if_neg (by omega), if_neg (by omega), if_neg (by omega), if_neg (by omega), if_neg (by omega), if_neg (by omega), if_neg (by omega), if_neg (by omega), if_neg (by omega), if_neg (by omega), if_neg (by omega), if_neg (by omega), if_neg (by omega), if_neg (by omega)]
          exact ⟨(hold j hj).1.kp hk, (hold j hj).2.kp hk⟩
        · rw [if_pos rfl, if_neg (by omega), if_pos rfl]; exact hv.kp hk
        · rw [if_neg (by omega), if_neg (by omega), if_pos rfl, if_neg (by omega), if_neg (by omega), if_neg (by omega), if_pos rfl]; exact hv'.kp hk
        · rw [if_neg (by omega), if_neg (by omega), if_neg (by omega), if_neg (by omega), if_neg (by omega), if_neg (by omega), if_neg (by omega), if_neg (by omega), if_neg (by omega), if_neg (by omega), if_neg (by omega), if_neg (by omega), if_neg (by omega), if_neg (by omega), if_neg (by omega), if_neg (by omega)]
          have := hcc j hj2
          unfold cutR at this
          rw [if_neg (by omega), if_neg (by omega)] at this
          exact ⟨this.1.kp hk, this.2.kp hk⟩
      · obtain rfl : m = cap := by omega
        have hr := run_append_grow (P := Try.prog) w 48 ty 55 i _ hu hi hz ⟨g, 0, none⟩ m m ((List.range (m * 4)).map hh) (by rw [hsz]; simp) (fun j u hj => by
          rw [add_lit, hB.cell, Nat.zero_add]
          by_cases hjm : j < m * 4
          · rw [arr_at hjm]; simpa [hjm] using hj
          · rw [List.getElem?_eq_none (by simp; omega)] at hj; cases hj) a 1 c [x0, x1, x2, x3] (by rw [hsz]; rfl) hnews (by omega) (by omega) (growslice_fits (by omega) (by rw [hby]; omega))
        rw [hzc] at hr
        have hge := grownCap_ge w (m + 1) m 55
        have hle := grownCap_le_maxLen w (m + 1) m 55 (by rw [hc]; omega)
        have hE := ext_drew w (.cells (((List.range (m * 4)).map hh).toArray ++ [x0, x1, x2, x3].toArray ++ Builtin.zeroCells #[Value.bool false, Value.slice none 0 0, Value.bool false, Value.slice none 0 0] (grownCap w (m + 1) m 55 - (m + 1))) 55)
        have hg := grown_rat (w := w.drew.alloc (.cells (((List.range (m * 4)).map hh).toArray ++ [x0, x1, x2, x3].toArray ++ Builtin.zeroCells #[Value.bool false, Value.slice none 0 0, Value.bool false, Value.slice none 0 0] (grownCap w (m + 1) m 55 - (m + 1))) 55)) (g := w.heap.size) (m := m) (K := grownCap w (m + 1) m 55 - (m + 1)) (a := ra) (b := rb) (hh := hh)
          (heap_alloc_new w.drew _) (fun j hj => ⟨(hold j hj).1.kp (kp_ext hE), (hold j hj).2.kp (kp_ext hE)⟩) (hv.kp (kp_ext hE)) (hv'.kp (kp_ext hE))
        rw [show m + 1 + (grownCap w (m + 1) m 55 - (m + 1)) = grownCap w (m + 1) m 55 by omega] at hg
        exact ⟨_, _, hr, .inr ⟨w.heap.size, _, rfl, by omega, by omega, hg⟩, kp_ext hE, hE.mono (fun _ _ h => h.elim), .inr rfl⟩
/-- append of one Rat onto a list of the call's own -/
theorem R1_appR {n : Nat} {S : World → World → Prop} {k : Nat} {K : Fr → World → Prop} {f : Fr} {w : World} {d ty : Nat} {xo yo : Operand} {pos : String} {aft : Array Edge} {gd : Option (Nat × Bool)}
    {v : Value} {m c : Nat} {ra rb : Nat → Int} {a : Addr} {x0 x1 x2 x3 : Value} {za zb : Int}
    (hk : k = 2 ∨ k = 1 ∧ ∀ w', Ch (fun b => some b = v.ownBlock) w w' → S w w') (hx : ev n f xo = v) (hy : ev n f yo = .slice (some a) 1 c) (hG : GrowR w v m ra rb)
    (h0 : w.cell? (a.add 0) = some x0) (h1 : w.cell? (a.add 1) = some x1) (h2 : w.cell? (a.add 2) = some x2) (h3 : w.cell? (a.add 3) = some x3) (hv : CV w x0 x1 za) (hv' : CV w x2 x3 zb) (hm : m < 1099511627776)
    (h : ∀ v' w', GrowR w' v' (m + 1) (fun j => if j = m then za else ra j) (fun j => if j = m then zb else rb j) → Kp w w' → Ch (fun b => some b = v.ownBlock) w w' → (v'.ownBlock = v.ownBlock ∨ v'.ownBlock = some w.heap.size) → K (upd f d v') w') :
    R1 Try.prog n S k ⟨some d, .call { callee := .builtin .append, args := #[xo, yo], argTypes := #[48, 48] }, ty, pos, aft, gd⟩ K f w := by
  obtain ⟨v', w', hrun, h2, h3, h4, h5⟩ := append_ratRun (ty := ty) (c := c) hG h0 h1 h2 h3 hv hv' hm
  refine R1_loud (w' := w') (v := v') (hk.imp id fun h => ⟨h.1, h.2 _ h4⟩) ?_ (h v' w' h2 h3 h4 h5)
  simp only [execOp, resolve, invoke, builtin, Sem.run_bind, Sem.run_pure, Result.andThen_ok, List.map_toArray, List.map_cons, List.map_nil, hx, hy, hrun]
theorem RatB.kp {w w' : World} {g n : Nat} {a b : Nat → Int} {MM : Nat → Prop} (h : RatB w g n a b) (hk : Kp w w') (hC : Ch MM w w') (hn : ¬ MM g) : RatB w' g n a b := by
  obtain ⟨h, hb, hc⟩ := h
  exact ⟨h, hb.ch hC hn, fun i hi => ⟨(hc i hi).1.kp hk, (hc i hi).2.kp hk⟩⟩
theorem GrowR.kp {w w' : World} {v : Value} {m : Nat} {a b : Nat → Int} {MM : Nat → Prop} (h : GrowR w v m a b) (hk : Kp w w') (hC : Ch MM w w') (hn : ∀ b, some b = v.ownBlock → ¬ MM b) : GrowR w' v m a b := by
  rcases h with h | ⟨g, cap, rfl, h1, h2, h3⟩
  · exact .inl h
  · exact .inr ⟨g, cap, rfl, h1, h2, h3.kp hk hC (hn g rfl)⟩
theorem GrowR.ext {w w' : World} {v : Value} {m : Nat} {a b : Nat → Int} (h : GrowR w v m a b) (hE : Ext w w') : GrowR w' v m a b := h.kp (kp_ext hE) hE (fun _ _ => id)
theorem GrowR.congr {w : World} {v : Value} {m : Nat} {a b a' b' : Nat → Int} (h : GrowR w v m a b) (e : ∀ j, j < m → a j = a' j ∧ b j = b' j) : GrowR w v m a' b' := by
  rcases h with h | ⟨g, cap, rfl, h1, h2, h3⟩
  · exact .inl h
  · refine .inr ⟨g, cap, rfl, h1, h2, h3.congr fun j hj => ?_⟩
    unfold cutR
    split
    · rename_i hlt; exact e j hlt
    · exact ⟨rfl, rfl⟩
theorem GrowR.nil {w : World} {a b : Nat → Int} : GrowR w (.slice none 0 0) 0 a b := .inl ⟨rfl, rfl⟩
theorem GrowR.lt {w : World} {v : Value} {m : Nat} {a b : Nat → Int} (h : GrowR w v m a b) {c : Nat} (hb : some c = v.ownBlock) : c < w.heap.size := by
  rcases h with ⟨_, rfl⟩ | ⟨g, cap, rfl, h1, h2, h3⟩
  · cases hb
  · injection hb with e; rw [e]; obtain ⟨_, hB, _⟩ := h3; exact hB.lt
/-- a list of Rats, for reading -/
def RatE (w : World) (v : Value) (m : Nat) (a b : Nat → Int) : Prop :=
  ∃ A c, v = .slice A m c ∧ ∀ i, i < m → ∃ g h cs, A = some ⟨g, 0, none⟩ ∧ Blk w g 55 (arr cs h) ∧ i * 4 + 3 < cs ∧ CV w (h (i * 4)) (h (i * 4 + 1)) (a i) ∧ CV w (h (i * 4 + 2)) (h (i * 4 + 3)) (b i)
theorem GrowR.read {w : World} {v : Value} {m : Nat} {a b : Nat → Int} (h : GrowR w v m a b) : RatE w v m a b := by
  rcases h with ⟨rfl, rfl⟩ | ⟨g, cap, rfl, h1, h2, hh, hB, hc⟩
  · exact ⟨_, _, rfl, fun i hi => absurd hi (by omega)⟩
  · refine ⟨_, _, rfl, fun i hi => ⟨g, hh, _, rfl, hB, by omega, ?_⟩⟩
    have := hc i (by omega)
    unfold cutR at this
    rw [if_pos hi, if_pos hi] at this
    exact this
theorem RatB.read {w : World} {g n c : Nat} {a b : Nat → Int} (h : RatB w g n a b) : RatE w (.slice (some ⟨g, 0, none⟩) n c) n a b := by
  obtain ⟨hh, hB, hc⟩ := h
  exact ⟨_, _, rfl, fun i hi => ⟨g, hh, _, rfl, hB, by omega, hc i hi⟩⟩
theorem RatE.nil {w : World} {a b : Nat → Int} : RatE w (.slice none 0 0) 0 a b := ⟨_, _, rfl, fun i hi => absurd hi (by omega)⟩
theorem RatE.ext {w w' : World} {v : Value} {m : Nat} {a b : Nat → Int} (h : RatE w v m a b) (hE : Ext w w') : RatE w' v m a b := by
  obtain ⟨A, c, e, h⟩ := h
  refine ⟨A, c, e, fun i hi => ?_⟩
  obtain ⟨g, hh, cs, e, hB, hl, h1, h2⟩ := h i hi
  exact ⟨g, hh, cs, e, hB.ext hE, hl, h1.ext hE, h2.ext hE⟩
theorem RatE.congr {w : World} {v : Value} {m : Nat} {a b a' b' : Nat → Int} (h : RatE w v m a b) (e : ∀ j, j < m → a j = a' j ∧ b j = b' j) : RatE w v m a' b' := by
  obtain ⟨A, c, e0, h⟩ := h
  refine ⟨A, c, e0, fun i hi => ?_⟩
  obtain ⟨g, hh, cs, e1, hB, hl, h1, h2⟩ := h i hi
  rw [(e i hi).1] at h1
  rw [(e i hi).2] at h2
  exact ⟨g, hh, cs, e1, hB, hl, h1, h2⟩
theorem set_fourR (X : Array Value) (h : X.size = 4) {a b c e : Value} : (((X.setIfInBounds 0 a).setIfInBounds 1 b).setIfInBounds 2 c).setIfInBounds 3 e = #[a, b, c, e] := by
  apply Array.ext_getElem?
  intro i
  match i with
  | 0 => simp [Array.getElem?_setIfInBounds, h]
  | 1 => simp [Array.getElem?_setIfInBounds, h]
  | 2 => simp [Array.getElem?_setIfInBounds, h]
  | 3 => simp [Array.getElem?_setIfInBounds, h]
  | i + 4 => rw [Array.getElem?_eq_none (by simp [h]), Array.getElem?_eq_none (by simp)]
section
variable {n : Nat} {S : World → World → Prop} {k : Nat} {K : Fr → World → Prop} {f : Fr} {w : World}
  {d ty t t2 : Nat} {x y : Operand} {pos : String} {aft : Array Edge} {gd : Option (Nat × Bool)}
/-- a slice literal of one Rat -/
theorem R1_sliceR1 {a b c e : Value} {y0 : Operand} (hS : k = 2 ∨ k = 1 ∧ ∀ w', Ext w w' → S w w') (h0 : ev n f y0 = .agg #[a, b, c, e])
    (h : ∀ w', Blk w' w.heap.size 55 #[a, b, c, e] → Ext w w' → w'.heap.size = w.heap.size + 1 → K (upd f d (.slice (some ⟨w.heap.size, 0, none⟩) 1 1)) w') : R1 Try.prog n S k ⟨some d, .buildSlice 48 1 #[(0, y0)], ty, pos, aft, gd⟩ K f w := by
  refine R1_new (T := 55) (cs := #[a, b, c, e]) (v := .slice (some ⟨w.heap.size, 0, none⟩) 1 1) hS ?_ h
  obtain ⟨hu, hinfo⟩ := sl_Rat
  cases hi : Try.prog.info? 55 with
  | none => rw [hi] at hinfo; simp at hinfo
  | some i =>
    rw [hi] at hinfo
    simp at hinfo
    obtain ⟨hz', hsz, hby⟩ := hinfo
    simp [execOp, Instr.buildSlice, run_underlying hu, sizeOf, typeInfo, hi, hsz, zeroValue, hz', h0, Instr.fill, Value.cells, newRow, Array.range]
    rw [set_fourR _ (by simp [hsz])]
end
end Go.Proofs.Ytcjhcefnedonlaa

/- quadformref02.Same, quadformref04: SameRats, Solve. -/
namespace Go.Proofs.Ytcjhcefnedonlaa
open Go Go.Eng Go.Num Go.Proofs

theorem fa_Rat0 : FieldA Try.prog 55 0 0 := by
  unfold FieldA
  intro a w
  simp [Instr.fieldAt, run_underlying Try.underlying55, Instr.sureAddr, fieldPlace, size_agg agg_Int]
theorem fa_Rat1 : FieldA Try.prog 55 1 2 := by
  unfold FieldA
  intro a w
  simp [Instr.fieldAt, run_underlying Try.underlying55, Instr.sureAddr, fieldPlace, size_agg agg_Int]
theorem blkR {w : World} {g T : Nat} {x y z u : Value} (h : Blk w g T #[x, y, z, u]) : (w.cell? ⟨g, 0 + 0, none⟩ = some x ∧ w.cell? ((⟨g, 0 + 0, none⟩ : Addr).add 1) = some y) ∧ w.cell? ⟨g, 0 + 2, none⟩ = some z ∧ w.cell? ((⟨g, 0 + 2, none⟩ : Addr).add 1) = some u := by
  refine ⟨⟨by rw [h.cell]; rfl, by rw [add_lit, h.cell]; rfl⟩, by rw [h.cell]; rfl, by rw [add_lit, h.cell]; rfl⟩
theorem blkQ {w : World} {g T : Nat} {x y z u : Value} (h : Blk w g T #[x, y, z, u]) : w.cell? ⟨g, 0, none⟩ = some x ∧ w.cell? ((⟨g, 0, none⟩ : Addr).add 1) = some y ∧ w.cell? ((⟨g, 0, none⟩ : Addr).add 2) = some z ∧ w.cell? ((⟨g, 0, none⟩ : Addr).add 3) = some u := by
  refine ⟨by rw [h.cell]; rfl, by rw [add_lit, h.cell]; rfl, by rw [add_lit, h.cell]; rfl, by rw [add_lit, h.cell]; rfl⟩
set_option maxHeartbeats 8000000 in
theorem rsameRat_ok (x1 y1 x2 y2 x3 y3 x4 y4 : Value) (a b c d : Int) (N : Nat) (w : World) (h1 : CV w x1 y1 a) (h2 : CV w x2 y2 b) (h3 : CV w x3 y3 c) (h4 : CV w x4 y4 d) (b1 : Bd N a) (b2 : Bd N b) (b3 : Bd N c) (b4 : Bd N d) (hN : N < 1099511627776) :
    Meets Try.prog 69 #[.agg #[x1, y1, x2, y2], .agg #[x3, y3, x4, y4]] w fun v w' => Ext w w' ∧ v = .bool (decide (a = c ∧ b = d)) := by
  refine fn_W (n := 17) Try.func69 rfl rfl (by kernel_rfl) (by simp) ?_
  refine gg ?_
  refine R1_box (v := .agg _) (.inl rfl) rfl ?_
  intro w1 hB1 hE1 hs1
  have hX1 : Blk w1 w.heap.size 55 #[x1, y1, x2, y2] := hB1
  refine gg ?_
  refine R1_box (v := .agg _) (.inl rfl) rfl ?_
  intro w2 hB2 hE2 hs2
  have hX2 : Blk w2 w1.heap.size 55 #[x3, y3, x4, y4] := hB2
  have hE02 := hE1.trans hE2
  obtain ⟨⟨p0, p1⟩, _⟩ := blkR (hX1.ext hE2)
  obtain ⟨⟨q0, q1⟩, _⟩ := blkR hX2
  refine gg ?_
  refine R1_fieldAddr fa_Rat0 rfl ?_
  refine gg ?_
  refine R1_fieldAddr fa_Rat0 rfl ?_
  refine gg ?_
  refine R1_call2 (rsame_ok _ _ _ _ _ _ N N w2 (h1.ext hE02) (h3.ext hE02) hN hN b1 b3) ?_
  rintro _ w3 ⟨hE3, rfl⟩
  clear p0 p1 q0 q1
  by_cases e1 : a = c
  · obtain ⟨_, p2, p3⟩ := blkR (hX1.ext (hE2.trans hE3))
    obtain ⟨_, q2, q3⟩ := blkR (hX2.ext hE3)
    refine gg ?_
    refine R1_fieldAddr fa_Rat1 rfl ?_
    refine gg ?_
    refine R1_fieldAddr fa_Rat1 rfl ?_
    refine gg ?_
    refine R1_call2 (rsame_ok _ _ _ _ _ _ N N w3 (h2.ext (hE02.trans hE3)) (h4.ext (hE02.trans hE3)) hN hN b2 b4) ?_
    rintro _ w4 ⟨hE4, rfl⟩
    refine gg ?_
    exact ret1 (v := .bool _) rfl rfl ⟨hE02.trans (hE3.trans hE4), by simp [e1]⟩
  · refine gg ?_
    exact ret1 (v := .bool _) rfl rfl ⟨hE02.trans hE3, by simp [e1]⟩

set_option maxHeartbeats 8000000 in
theorem sameRats_ok (va vb : Value) (m m' N : Nat) (a b c d : Nat → Int) (w : World) (h1 : RatE w va m a b) (h2 : RatE w vb m' c d) (hab : ∀ i, i < m → Bd N (a i) ∧ Bd N (b i)) (hcd : ∀ i, i < m' → Bd N (c i) ∧ Bd N (d i)) (hN : N < 1099511627776) (hm : m < 9223372036854775808) (hm' : m' < 9223372036854775808) :
    Meets Try.prog 26 #[va, vb] w fun v w' => Ext w w' ∧ ∃ q, v = .bool q ∧ (q = true ↔ m = m' ∧ ∀ i, i < m → a i = c i ∧ b i = d i) := by
  obtain ⟨Aa, ca, hva, hra⟩ := id h1
  obtain ⟨Ab, cb, hvb, hrb⟩ := id h2
  refine fn_W (n := 27) Try.func26 rfl rfl (by kernel_rfl) (by simp) ?_
  rw [hva, hvb]
  refine gg ?_
  refine W_seq ?_
  refine gg ?_
  refine R1_len sl_Rat rfl ?_
  refine gg ?_
  refine R1_len sl_Rat rfl ?_
  by_cases em : m = m'
  rotate_left
  · have em' : ¬ ((m : Nat) : Int) = ((m' : Nat) : Int) := by omega
    refine gg ?_
    exact ret1 (v := .bool _) rfl rfl ⟨Ext.refl _, _, rfl, ⟨fun h => (by cases h), fun h => absurd h.1 em⟩⟩
  subst em
  refine gg ?_
  refine W_seqM (fun f w' => Ext w w' ∧ ∀ i, i < m → a i = c i ∧ b i = d i) ?_ ?_
  · refine gg ?_
    refine R1_len sl_Rat rfl ?_
    refine gg ?_
    rw [← hva, ← hvb]
    refine W_loop (fun n f w' => ∃ i, n = m - i ∧ i ≤ m ∧ f 0 = va ∧ f 1 = vb ∧ f 12 = .int .i64 ((m : Nat) : Int) ∧ f 13 = .int .i64 ((i : Nat) : Int) ∧ Ext w w' ∧ ∀ k, k < i → a k = c k ∧ b k = d k)
      m ⟨0, rfl, Nat.zero_le _, rfl, rfl, rfl, rfl, Ext.refl _, fun k hk => absurd hk (by omega)⟩ ?_
    rintro n f w1 ⟨i, rfl, hi, hf0, hf1, hf12, hf13, hE, hk⟩
    rw [ui hf0, ui hf1, ui hf12, ui hf13]
    clear hf0 hf1 hf12 hf13
    by_cases hlt : i < m
    · obtain ⟨ga, fa, csa, e1, hBa, hla, hca, hcb⟩ := hra i hlt
      obtain ⟨gb, fb, csb, e2, hBb, hlb, hcc, hcd'⟩ := hrb i hlt
      rw [hva, hvb, e1, e2]
      refine gg ?_
      refine W_seqD [(0, 3), (1, 3), (2, 3), (3, 0), (4, 3), (5, 3), (6, 3), (7, 0), (8, 1), (9, 3)] mixed (by kernel_rfl) (fun w2 hE2 _ => ?_)
      have hE02 := hE.trans hE2
      have cA : ∀ t, t < 4 → w2.cell? ((⟨ga, 0 + i * 4, none⟩ : Addr).add t) = some (fa (i * 4 + t)) := fun t ht => by
        rw [add_lit, (hBa.ext hE02).cell, arr_at (by omega), Nat.zero_add]
      have cB : ∀ t, t < 4 → w2.cell? ((⟨gb, 0 + i * 4, none⟩ : Addr).add t) = some (fb (i * 4 + t)) := fun t ht => by
        rw [add_lit, (hBb.ext hE02).cell, arr_at (by omega), Nat.zero_add]
      refine gg ?_
      refine R1_indexB sl_Rat rfl rfl hlt ?_
      refine gg ?_
      refine R1_load4E (by decide) agg_Rat rfl (cA 0 (by decide)) (cA 1 (by decide)) (cA 2 (by decide)) (cA 3 (by decide)) ?_
      refine gg ?_
      refine R1_indexB sl_Rat rfl rfl hlt ?_
      refine gg ?_
      refine R1_load4E (by decide) agg_Rat rfl (cB 0 (by decide)) (cB 1 (by decide)) (cB 2 (by decide)) (cB 3 (by decide)) ?_
      refine gg ?_
      refine R1_call1 (rsameRat_ok _ _ _ _ _ _ _ _ (a i) (b i) (c i) (d i) N w2 (hca.ext hE02) (hcb.ext hE02) (hcc.ext hE02) (hcd'.ext hE02) (hab i hlt).1 (hab i hlt).2 (hcd i hlt).1 (hcd i hlt).2 hN) ?_
      rintro _ w3 ⟨hE3, rfl⟩
      refine ⟨hE3, ?_⟩
      by_cases e : a i = c i ∧ b i = d i
      · rw [show decide (a i = c i ∧ b i = d i) = true from decide_eq_true e]
        refine gg ?_
        rw [← e1, ← e2, ← hva, ← hvb]
        refine ⟨_, ?_, i + 1, rfl, by omega, rfl, rfl, rfl, rfl, hE02.trans hE3, fun k hk' => ?_⟩
        · omega
        · by_cases ek : k = i
          · subst ek; exact e
          · exact hk k (by omega)
      · rw [show decide (a i = c i ∧ b i = d i) = false from decide_eq_false e]
        refine gg ?_
        exact ret1 (v := .bool _) rfl rfl ⟨hE02.trans hE3, _, rfl, ⟨fun h => (by cases h), fun h => absurd (h.2 i hlt) e⟩⟩
    · refine gg ?_
      exact ⟨hE, fun k hk' => hk k (by omega)⟩
  rintro f w1 ⟨hE, hk⟩
  refine gg ?_
  exact ret1 (v := .bool _) rfl rfl ⟨hE, _, rfl, ⟨fun _ => ⟨rfl, hk⟩, fun _ => rfl⟩⟩

theorem RowG.weak {w : World} {g c cp : Nat} {bn : Nat → Nat} {M : Nat → Int} (h : RowG w g c cp true bn M) : RowG w g c cp false bn M := by
  obtain ⟨h1, h2, hh, hB, hN, hc⟩ := h
  exact ⟨h1, h2, hh, hB, hN, fun j hj => ⟨(hc j hj).1, fun e => by cases e⟩⟩
theorem GMat.weak {w : World} {gO r c : Nat} {gs cp : Nat → Nat} {bn : Nat → Nat → Nat} {M : Nat → Nat → Int} (h : GMat w gO gs cp r c true bn M) : GMat w gO gs cp r c false bn M :=
  ⟨h.outer, fun i hi => (h.row i hi).weak, h.ne, h.inj⟩
/-- what the reference's Solve leaves -/
def RSolG (w : World) (p : Prop) (n : Nat) (A : Nat → Nat → Int) (v : Value) (w' : World) : Prop :=
  Ext w w' ∧ ((¬ p ∧ v = .tuple #[.slice none 0 0, .int .i64 3]) ∨ (p ∧ Go.Det.det n A = 0 ∧ v = .tuple #[.slice none 0 0, .int .i64 8]) ∨ (p ∧ Go.Det.det n A ≠ 0 ∧ ∃ u, v = .tuple #[u, .int .i64 0] ∧ GrowR w' u n (fun i => lowN (Go.Det.cr n A i n) (Go.Det.det n A)) (fun i => lowD (Go.Det.cr n A i n) (Go.Det.det n A))))
/-- column j replaced in the first i rows -/
def colR (M : Nat → Nat → Int) (bg : Nat → Int) (j i : Nat) : Nat → Nat → Int := fun a b => if b = j ∧ a < i then bg a else M a b
theorem colR_cr {n j : Nat} {M : Nat → Nat → Int} {bg : Nat → Int} (hj : j < n) : Go.Det.det n (colR M bg j n) = Go.Det.cr n (augM n M bg) j n := by
  unfold Go.Det.cr
  refine Go.Det.det_congr fun r c hr hc => ?_
  simp only [colR, Go.Det.setC, augM]
  by_cases e : c = j
  · rw [if_pos ⟨e, hr⟩, if_pos e, if_pos trivial]
  · rw [if_neg fun h => e h.1, if_neg e, if_neg (by omega)]
theorem aug_det {n : Nat} {M : Nat → Nat → Int} {bg : Nat → Int} : Go.Det.det n (augM n M bg) = Go.Det.det n M :=
  Go.Det.det_congr fun r c _ hc => by unfold augM; rw [if_neg (by omega)]

set_option maxHeartbeats 16000000 in
theorem rsolve_ok (va vb : Value) (r N lb : Nat) (len : Nat → Nat) (M : Nat → Nat → Int) (bg : Nat → Int) (w : World) (ha : MatE (EI N) w va r len M) (hb : RowE (EI N) w vb lb bg) (hN1 : 1 ≤ N) (hN : N < 1048576) :
    Meets Try.prog 25 #[va, vb] w (RSolG w (okS r len = true ∧ lb = r) r (augM r M bg)) := by
  obtain ⟨Aa, capa, hva, _⟩ := id ha
  obtain ⟨Ab, capb, hvb, hlc, hcc, hent⟩ := id hb
  refine fn_W (n := 69) Try.func25 rfl rfl (by kernel_rfl) (by simp) ?_
  refine gg ?_
  refine R1_call2 (rsquare_ok _ va r len M w ha) ?_
  rintro _ w1 ⟨hE1, rfl⟩
  obtain ⟨s, es, hs⟩ := sqV_cases r len
  rw [es]
  refine gg ?_
  refine W_seq ?_
  cases hok : okS r len with
  | false =>
    refine gg ?_
    exact ret2 rfl rfl rfl ⟨hE1, .inl ⟨fun h => (by cases h.1), rfl⟩⟩
  | true =>
    rw [hok, if_pos rfl] at hs
    subst hs
    obtain ⟨hr1, hr16, hlen⟩ := okS_iff.1 hok
    by_cases el : lb = s
    rotate_left
    · have el' : ¬ ((lb : Nat) : Int) = ((s : Nat) : Int) := by omega
      rw [hvb]
      refine gg ?_
      exact ret2 rfl rfl rfl ⟨hE1, .inl ⟨fun h => el h.2, rfl⟩⟩
    subst el
    have haS : MatE (EI N) w va lb (fun _ => lb) M := by
      obtain ⟨A, cap, e, h1, h2, h3⟩ := ha
      refine ⟨A, cap, e, h1, h2, fun i hi => ?_⟩
      have := h3 i hi
      rwa [hlen i hi] at this
    have bM : ∀ i j, i < lb → j < lb → Bd N (M i j) := fun i j hi hj => by
      obtain ⟨A, cap, e, h1, h2, h3⟩ := haS
      obtain ⟨ad, u, _, _, hrow⟩ := h3 i hi
      obtain ⟨A', c', _, _, _, h4⟩ := hrow
      obtain ⟨_, _, _, _, _, _, hv⟩ := h4 j hj
      exact IV.bd hv
    have bB : ∀ i, i < lb → Bd N (bg i) := fun i hi => by
      obtain ⟨_, _, _, _, _, _, hv⟩ := hent i hi
      exact IV.bd hv
    have hNb := Nb_big (N := N) (k := 16) hN (by decide)
    have bdet : Bd (Nb N 16) (Go.Det.det lb M) := by rw [← detB_det]; exact (detB_bd hN1 bM).mono (Nb_le16 N lb hr16)
    rw [hvb]
    refine gg ?_
    rw [← hvb]
    refine R1_call2 (rdet_ok va lb N M w1 (haS.ext hE1) hr16 hN1 hN) ?_
    rintro _ w2 ⟨hE2, d0, d1, rfl, hcd⟩
    rw [detB_det] at hcd
    have hE02 := hE1.trans hE2
    refine gg ?_
    refine R1_alloc (.inl rfl) z_Int ?_
    intro w3a hBa_ hEa_ hsa_
    have hG0_ : Bx w3a w2.heap.size 1 true 0 := Bx.zero true hBa_
    obtain ⟨gD, hg_⟩ : ∃ g, g = w2.heap.size := ⟨_, rfl⟩
    rw [← hg_] at hG0_ ⊢
    refine gg ?_
    refine R1_storeBx (.inl rfl) rfl rfl hG0_ ((hcd.ext hEa_).ev true bdet) ?_
    intro w3 hD hCb_ hkb_ hsb_
    have hE3 : Ext w2 w3 := hCb_.ext_of hEa_ (fun b hb => by omega)
    have hfr_gD : w2.heap.size ≤ gD := by omega
    clear hG0_ hBa_ hEa_ hsa_ hsb_ hCb_ hkb_ hg_
    have hE03 := hE02.trans hE3
    obtain ⟨u0, v0, hU0, hV0⟩ := id hD
    refine gg ?_
    obtain ⟨p0, p1⟩ := blkP hU0
    refine W_seq ?_
    refine gg ?_
    refine R1_call2 (rsign_ok _ _ _ _ w3 hV0.1 (by omega)) ?_
    rintro _ w4 ⟨hE4, rfl⟩
    clear p0 p1 hU0 hV0
    have hE04 := hE03.trans hE4
    by_cases hz : Go.Det.det lb M = 0
    · have hs : (Go.Det.det lb M).sign = 0 := by rw [hz]; rfl
      refine gg ?_
      exact ret2 rfl rfl rfl ⟨hE04, .inr (.inl ⟨⟨rfl, rfl⟩, by rw [aug_det]; exact hz, rfl⟩)⟩
    have hs : ¬ (Go.Det.det lb M).sign = 0 := fun e => hz (Int.sign_eq_zero_iff_zero.1 e)
    replace hD := hD.ext hE4
    have hgD : w.heap.size ≤ gD ∧ gD < w4.heap.size := ⟨by have := hE02.size; omega, hD.lt⟩
    refine gg ?_
    obtain ⟨D, hDD⟩ : ∃ D, D = Go.Det.det lb M := ⟨_, rfl⟩
    rw [← hDD] at hD bdet hz
    refine W_seqM (fun f w' => ∃ vo, f 9 = vo ∧ Ext w w' ∧ GrowR w' vo lb (fun i => lowN (Go.Det.cr lb (augM lb M bg) i lb) D) (fun i => lowD (Go.Det.cr lb (augM lb M bg) i lb) D)) ?_ ?_
    · rw [hvb]
      refine gg ?_
      rw [← hvb]
      obtain ⟨r, hrr⟩ : ∃ r, r = lb := ⟨_, rfl⟩
      refine W_loop (fun m f w' => ∃ j vo, m = r - j ∧ j ≤ r ∧ f 0 = va ∧ f 1 = vb ∧ f 8 = .pointer (some ⟨gD, 0, none⟩) ∧ f 9 = vo ∧ f 34 = .int .i64 ((r : Nat) : Int) ∧ f 35 = .int .i64 ((j : Nat) : Int) ∧ Ext w w' ∧ Bx w' gD (Nb N 16) true D ∧ GrowR w' vo j (fun i => lowN (Go.Det.cr lb (augM lb M bg) i lb) D) (fun i => lowD (Go.Det.cr lb (augM lb M bg) i lb) D) ∧ ∀ b, some b = vo.ownBlock → w.heap.size ≤ b ∧ b ≠ gD)
        r ⟨0, .slice none 0 0, rfl, Nat.zero_le _, rfl, rfl, rfl, rfl, by rw [hrr]; rfl, rfl, hE04, hD, GrowR.nil, fun b hb => by cases hb⟩ ?_
      subst hrr
      clear hE04 hD hE03 hE02 hE1 hE2 hE3 hE4 hcd
      rintro m f w5 ⟨j, vo, rfl, hj, hf0, hf1, hf8, hf9, hf34, hf35, hE, hD, hG, hown⟩
      rw [ui hf0, ui hf1, ui hf8, ui hf9, ui hf34, ui hf35]
      clear hf0 hf1 hf8 hf9 hf34 hf35
      by_cases hlt : j < r
      rotate_left
      · refine gg ?_
        obtain rfl : j = r := by omega
        exact ⟨_, rfl, hE, hG⟩
      refine gg ?_
      refine R1_call2 (rcopy_ok va r r N M w5 (haS.ext hE) (by omega) hr1 (by omega) (by omega)) ?_
      rintro _ w6 ⟨hE6, gO, gs, cp, rfl, hgO, hgs0, hgs, hW⟩
      have hs6 : ∀ {c}, some c = vo.ownBlock → c < w5.heap.size := fun h => hG.lt h
      have hsD := hD.lt
      have hsE := hE.size
      have hw6 : GMat w6 gO gs cp r r false (fun _ _ => N) (colR M bg j 0) := hW.weak.congr fun a b _ _ => ⟨Nat.le_refl _, by unfold colR; rw [if_neg (by omega)]⟩
      have hG6 := hG.ext hE6
      have hD6 := hD.ext hE6
      have hE06 := hE.trans hE6
      clear hW
      refine gg ?_
      refine W_seqM (fun f w' => f 0 = va ∧ f 1 = vb ∧ f 8 = .pointer (some ⟨gD, 0, none⟩) ∧ f 9 = vo ∧ f 34 = .int .i64 ((r : Nat) : Int) ∧ f 35 = .int .i64 ((j : Nat) : Int) ∧ f 10 = .int .i64 ((j : Nat) : Int) ∧ f 11 = .slice (some ⟨gO, 0, none⟩) r r ∧ Ext w5 w' ∧ Bx w' gD (Nb N 16) true D ∧ GrowR w' vo j (fun i => lowN (Go.Det.cr r (augM r M bg) i r) D) (fun i => lowD (Go.Det.cr r (augM r M bg) i r) D) ∧ MatE (EI N) w' (.slice (some ⟨gO, 0, none⟩) r r) r (fun _ => r) (colR M bg j r)) ?_ ?_
      · refine gg ?_
        refine W_loop (fun m f w' => ∃ i, m = r - i ∧ i ≤ r ∧ f 0 = va ∧ f 1 = vb ∧ f 8 = .pointer (some ⟨gD, 0, none⟩) ∧ f 9 = vo ∧ f 34 = .int .i64 ((r : Nat) : Int) ∧ f 35 = .int .i64 ((j : Nat) : Int) ∧ f 10 = .int .i64 ((j : Nat) : Int) ∧ f 11 = .slice (some ⟨gO, 0, none⟩) r r ∧ f 41 = .int .i64 ((r : Nat) : Int) ∧ f 42 = .int .i64 ((i : Nat) : Int) ∧ Ext w5 w' ∧ Bx w' gD (Nb N 16) true D ∧ GrowR w' vo j (fun i => lowN (Go.Det.cr r (augM r M bg) i r) D) (fun i => lowD (Go.Det.cr r (augM r M bg) i r) D) ∧ GMat w' gO gs cp r r false (fun _ _ => N) (colR M bg j i))
          r ⟨0, rfl, Nat.zero_le _, rfl, rfl, rfl, rfl, rfl, rfl, rfl, rfl, rfl, rfl, hE6, hD6, hG6, hw6⟩ ?_
        clear hE6 hD6 hG6 hw6 hE06
        rintro m f w7 ⟨i, rfl, hi, hf0, hf1, hf8, hf9, hf34, hf35, hf10, hf11, hf41, hf42, hE7, hD7, hG7, hW⟩
        rw [ui hf0, ui hf1, ui hf8, ui hf9, ui hf34, ui hf35, ui hf10, ui hf11, ui hf41, ui hf42]
        clear hf0 hf1 hf8 hf9 hf34 hf35 hf10 hf11 hf41 hf42
        by_cases hil : i < r
        · refine gg ?_
          refine W_regD [(0, 3), (1, 3), (2, 3), (3, 0), (4, 3), (5, 3), (6, 3), (7, 3), (8, 0), (9, 3), (10, 2)] mixed (by kernel_rfl) (fun w8 hE8 _ => ?_)
          have hW8 := hW.ext hE8
          have k1 := hW8.at hil
          obtain ⟨ad, x, y, rfl, hx, hy, hv⟩ := hent i hil
          have hE58 := hE7.trans hE8
          have k2 := cell_ext (hE.trans hE58) hx
          have k3 := cell_ext (hE.trans hE58) hy
          have hv8 : EV w8 N false x y (bg i) := ⟨IV.ext hv (hE.trans hE58), fun e => by cases e⟩
          rw [hvb]
          refine gg ?_
          rw [← hvb]
          refine R1_storeG (.inl rfl) rfl rfl (hW8.row i hil) hlt hv8 ?_
          intro w9 hR9 hC9 hk9 hs9
          have hgi := hgs0 i hil
          have hW9 := hW8.put hil hR9 hC9 hk9
          have hn1 : gD ≠ gs i := by omega
          refine gg ?_
          refine ⟨_, ?_, i + 1, rfl, by omega, rfl, rfl, rfl, rfl, rfl, rfl, rfl, rfl, rfl, rfl, hC9.ext_of hE58 (fun b hb => by omega), (hD7.ext hE8).kp hk9 hC9 hn1, (hG7.ext hE8).kp hk9 hC9 (fun b hb e => by have := hs6 hb; omega), hW9.congr fun a b ha hb => ⟨?_, ?_⟩⟩
          · omega
          · simp only [set2]; split <;> exact Nat.le_refl _
          · simp only [set2, colR]
            by_cases e : a = i ∧ b = j
            · rw [if_pos e, if_pos ⟨e.2, by omega⟩, e.1]
            · rw [if_neg e]
              by_cases e2 : b = j ∧ a < i
              · rw [if_pos e2, if_pos ⟨e2.1, by omega⟩]
              · rw [if_neg e2, if_neg (by omega)]
        · refine gg ?_
          obtain rfl : i = r := by omega
          exact ⟨rfl, rfl, rfl, rfl, rfl, rfl, rfl, rfl, hE7, hD7, hG7, hW.read (by omega) (by omega)⟩
      clear hE6 hD6 hG6 hw6 hE06
      rintro f w7 ⟨hf0, hf1, hf8, hf9, hf34, hf35, hf10, hf11, hE7, hD7, hG7, hW⟩
      rw [ui hf0, ui hf1, ui hf8, ui hf9, ui hf34, ui hf35, ui hf10, ui hf11]
      clear hf0 hf1 hf8 hf9 hf34 hf35 hf10 hf11
      have bC : ∀ a b, a < r → b < r → Bd N (colR M bg j r a b) := fun a b ha hb => by
        unfold colR; split
        · exact bB a ha
        · exact bM a b ha hb
      have bdc : Bd (Nb N 16) (Go.Det.cr r (augM r M bg) j r) := by rw [← colR_cr hlt, ← detB_det]; exact (detB_bd hN1 bC).mono (Nb_le16 N r hr16)
      refine gg ?_
      refine W_seqG [(0, 3), (2, 0)] [(1, [], []), (7, [], []), (3, [(4, 3), (5, 3), (6, 3)], [1])] [(8, 2), (9, 3)] mixed (by kernel_rfl) (fun w8 hE8 _ => ?_)
      obtain ⟨u1, v1, hU1, hV1⟩ := hD7.ext hE8
      obtain ⟨p0, p1⟩ := blkP hU1
      refine gg ?_
      refine Rg_float [(1, []), (3, [(4, 3), (5, 3), (6, 3)])] [fA 7 13 55 (.agg #[.bool false, .slice none 0 0, .bool false, .slice none 0 0])] [58, 60, 56, 61, 62, 13] (by kernel_rfl) (fun a ha f' w' _ _ => by
        rcases List.mem_singleton.1 ha with rfl
        exact flt_alloc z_Rat rfl f' w') ?_
      refine Rc_cons (fun w9 hE9 => ?_)
      refine gg ?_
      have hE79 := hE8.trans hE9
      refine R1_call1 (rdet_ok _ r N (colR M bg j r) w9 (hW.ext hE79) hr16 hN1 hN) ?_
      rintro _ w10 ⟨hE10, c0, c1, rfl, hcc⟩
      rw [detB_det, colR_cr hlt] at hcc
      refine ⟨hE10, ?_⟩
      refine gg ?_
      refine Rc_cons (fun w11 hE11 => ?_)
      refine gg ?_
      refine R1_call1 (rratNew_ok _ _ _ _ _ _ (Nb N 16) w11 ((hcc.ext hE11).iv bdc) (hV1.1.ext (hE9.trans (hE10.trans hE11))) hNb hz) ?_
      rintro _ w12 ⟨_, rfl, hE12, n0, n1, n2, n3, rfl, hcn, hcd⟩
      refine ⟨hE12, ?_⟩
      refine gg ?_
      refine Rc_nil (fun w13 hE13 bs hbs _ => ?_)
      obtain ⟨hge, hB⟩ := hbs _ List.mem_cons_self
      have hge : w8.heap.size ≤ bs 13 := hge
      have hB : Blk w13 (bs 13) 55 #[.bool false, .slice none 0 0, .bool false, .slice none 0 0] := hB
      show Ro _ _ _ _ _ _ (upd _ 13 (.pointer (some ⟨bs 13, 0, none⟩))) _
      generalize bs 13 = gX at *
      clear hbs p0 p1
      have hE713 := hE79.trans (hE10.trans (hE11.trans (hE12.trans hE13)))
      have hcn := hcn.ext hE13
      have hcd := hcd.ext hE13
      refine gg ?_
      refine R1_store4 agg_Rat (.inl rfl) rfl rfl hcn.one0 hcn.one1 hcd.one0 hcd.one1 hB (by decide) ?_
      intro w14 hB14 hC14 hs14
      have hk14 := kp_ch hB (noInt4 ⟨_, rfl⟩ ⟨_, _, _, rfl⟩ ⟨_, rfl⟩ ⟨_, _, _, rfl⟩).noU hC14
      have hB14 : Blk w14 gX 55 #[n0, n1, n2, n3] := hB14
      have hs7 := hE7.size
      have hs8 := hE8.size
      have hsD := hD.lt
      have hD14 := (hD7.ext hE713).kp hk14 hC14 (by omega)
      have hG14 := (hG7.ext hE713).kp hk14 hC14 (fun b hb e => by have := hs6 hb; omega)
      have hE14 : Ext w w14 := hC14.ext_of (hE.trans (hE7.trans hE713)) (fun b hb => by omega)
      have hcn := hcn.kp hk14
      have hcd := hcd.kp hk14
      obtain ⟨q0, q1, q2, q3⟩ := blkQ hB14
      have hGX := hB14.lt
      refine gg ?_
      refine R1_load4F (by decide) agg_Rat rfl q0 q1 q2 q3 ?_
      refine gg ?_
      refine R1_sliceR1 (.inl rfl) rfl ?_
      intro w15 hB15 hE15 hs15
      obtain ⟨r0, r1, r2, r3⟩ := blkQ hB15
      refine gg ?_
      refine R1_appR (v := vo) (.inl rfl) rfl rfl (hG14.ext hE15) r0 r1 r2 r3 (hcn.ext hE15) (hcd.ext hE15) (by omega) ?_
      intro vo' w16 hG16 hk16 hC16 hown16
      refine gg ?_
      have hs15' := hE15.size
      have hs14' := hE14.size
      refine ⟨_, ?_, j + 1, vo', rfl, by omega, rfl, rfl, rfl, rfl, rfl, rfl, hC16.ext_of (hE14.trans hE15) (fun b hb => (hown b hb).1), (hD14.ext hE15).kp hk16 hC16 (fun e => (hown _ e).2 rfl), hG16.congr fun t ht => ?_, fun b hb => ?_⟩
      · omega
      · by_cases e : t = j
        · subst e; rw [if_pos rfl, if_pos rfl]; exact ⟨rfl, rfl⟩
        · rw [if_neg e, if_neg e]; exact ⟨rfl, rfl⟩
      · rcases hown16 with e | e
        · exact hown b (by rw [hb, e])
        · rw [e] at hb
          injection hb with hb
          have := hE7.size
          have := hE713.size
          omega
    rintro f w5 ⟨vo, h9, hE, hG⟩
    rw [ui h9]
    refine gg ?_
    refine ret2 rfl rfl rfl ⟨hE, .inr (.inr ⟨⟨rfl, rfl⟩, by rw [aug_det, ← hDD]; exact hz, _, rfl, ?_⟩)⟩
    rw [aug_det, ← hDD]
    exact hG
end Go.Proofs.Ytcjhcefnedonlaa
