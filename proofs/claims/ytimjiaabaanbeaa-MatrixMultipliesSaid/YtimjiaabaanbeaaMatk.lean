/- matrix.adjugate, Inverse. -/
import Derived.Test.YtimjiaabaanbeaaMatj
namespace Go.Proofs.Ytimjiaabaanbeaa
open Go Go.Eng Go.Num Go.Proofs

/-- Faddeev and Leverrier: one step, and the steps -/
def adjStep (n : Nat) (M : Nat → Nat → Int) (k : Nat) (P : Nat → Nat → Int) : Nat → Nat → Int :=
  fun i j => if i = j then mulM n M P i j + (sumTo n fun t => mulM n M P t t) / (-(k : Int)) else mulM n M P i j
def adjP (n : Nat) (M : Nat → Nat → Int) : Nat → Nat → Nat → Int
  | 0 => scal 1
  | k + 1 => adjStep n M (k + 1) (adjP n M k)
/-- the adjugate, as the program reckons it -/
def adjF (n : Nat) (M : Nat → Nat → Int) : Nat → Nat → Int := fun i j => if n % 2 = 0 then - adjP n M (n - 1) i j else adjP n M (n - 1) i j

theorem mulM_bd {n N N' i j : Nat} {X Y : Nat → Nat → Int} (hn : n ≤ 16) (hX : ∀ t, t < n → Bd N (X i t)) (hY : ∀ t, t < n → Bd N' (Y t j)) : Bd (N + N' + 1) (mulM n X Y i j) :=
  sumTo_bd (by omega) fun t ht => (hX t ht).mul (hY t ht)
theorem adjStep_bd {n N N' k : Nat} {M P : Nat → Nat → Int} (hn : n ≤ 16) (hM : ∀ i j, i < n → j < n → Bd N (M i j)) (hP : ∀ i j, i < n → j < n → Bd N' (P i j)) : ∀ i j, i < n → j < n → Bd (N + N' + 3) (adjStep n M k P i j) := by
  intro i j hi hj
  have h : ∀ i j, i < n → j < n → Bd (N + N' + 1) (mulM n M P i j) := fun i j hi hj => mulM_bd hn (fun t ht => hM i t hi ht) (fun t ht => hP t j ht hj)
  unfold adjStep
  split
  · have hs : Bd (N + N' + 1 + 1) (sumTo n fun t => mulM n M P t t) := sumTo_bd (by omega) fun t ht => h t t ht ht
    exact ((h i j hi hj).mono (by omega)).add hs.ediv
  · exact (h i j hi hj).mono (by omega)
theorem adjP_bd {n N : Nat} {M : Nat → Nat → Int} (hn : n ≤ 16) (hM : ∀ i j, i < n → j < n → Bd N (M i j)) : ∀ k i j, i < n → j < n → Bd (1 + k * (N + 3)) (adjP n M k i j) := by
  intro k
  induction k with
  | zero =>
    intro i j _ _
    rw [Nat.zero_mul, Nat.add_zero]
    unfold adjP scal Bd
    split <;> decide
  | succ k ih =>
    intro i j hi hj
    have := adjStep_bd (k := k + 1) hn hM ih i j hi hj
    rw [Nat.succ_mul]
    exact this.mono (by omega)
theorem okM_const {r c : Nat} (h1 : 1 ≤ r) (h2 : r ≤ 16) (h3 : 1 ≤ c) (h4 : c ≤ 16) : okM r (fun _ => c) = true := okM_iff.2 ⟨⟨h1, h2, h3, h4⟩, fun _ _ => rfl⟩

set_option maxHeartbeats 16000000 in
theorem adjugate_ok (v : Value) (n N : Nat) (M : Nat → Nat → Int) (w : World) (h : MatE (EI N) w v n (fun _ => n) M) (hn : 1 ≤ n) (hn2 : n ≤ 16) (hN1 : 1 ≤ N) (hN : N < 1048576) :
    Meets Try.prog 68 #[v] w (RM w n n (adjF n M)) := by
  obtain ⟨A, cap, rfl, _⟩ := id h
  have hbd := adjP_bd (N := N) (M := M) hn2 (fun i j hi hj => h.bd hi hj)
  refine fn_W (n := 78) Try.func68 rfl rfl (by kernel_rfl) (by simp) ?_
  refine gg ?_
  refine R1_call2 (small_ok 1 w (by omega) (by omega)) ?_
  rintro _ w1 ⟨hE1, x, y, rfl, hcv⟩
  refine gg ?_
  refine R1_call2 (scalar_ok n 1 x y 1 w1 (hcv.iv (by decide)) (by omega) (by omega) hcv.one0) ?_
  rintro _ w2 ⟨hE2, gO, gs, rfl, hg, hgs, hO⟩
  refine gg ?_
  have hw1 := hE1.size
  refine W_seqM (fun f w' => ∃ gO gs, f 3 = .int .i64 ((n : Nat) : Int) ∧ f 4 = .slice (some ⟨gO, 0, none⟩) n n ∧ Ext w w' ∧ w.heap.size ≤ gO ∧ (∀ i, i < n → w.heap.size ≤ gs i) ∧ OMat w' gO gs n n (adjP n M (n - 1))) ?_ ?_
  · refine gg ?_
    refine W_loop (fun m f w' => ∃ k gO gs, m = n - k ∧ 1 ≤ k ∧ k ≤ n ∧ f 0 = .slice A n cap ∧ f 3 = .int .i64 ((n : Nat) : Int) ∧ f 4 = .slice (some ⟨gO, 0, none⟩) n n ∧ f 5 = .int .i64 ((k : Nat) : Int) ∧
      Ext w w' ∧ w.heap.size ≤ gO ∧ (∀ i, i < n → w.heap.size ≤ gs i) ∧ OMat w' gO gs n n (adjP n M (k - 1)))
      (n - 1) ⟨1, gO, gs, rfl, Nat.le_refl _, hn, rfl, rfl, rfl, rfl, hE1.trans hE2, by omega, fun i hi => by have := hgs i hi; omega, hO⟩ ?_
    clear hO hgs hg hE2 hE1 hcv w2 hw1 gs gO
    rintro m f w1 ⟨k, gO, gs, rfl, hk1, hkn, hf0, hf3, hf4, hf5, hE, hg, hgs, hO⟩
    rw [ui hf0, ui hf3, ui hf4, ui hf5]
    clear hf0 hf3 hf4 hf5
    refine W_seq ?_
    by_cases hlt : k < n
    · have hNk : (k - 1) * (N + 3) ≤ 15 * 1048579 := Nat.mul_le_mul (by omega) (by omega)
      obtain ⟨Np, hNp⟩ : ∃ Np, Np = N + 1 + (k - 1) * (N + 3) := ⟨_, rfl⟩
      obtain ⟨P, hP⟩ : ∃ P, P = adjP n M (k - 1) := ⟨_, rfl⟩
      have hPb : ∀ i j, i < n → j < n → Bd Np (P i j) := fun i j hi hj => by rw [hP]; exact (hbd (k - 1) i j hi hj).mono (by omega)
      have hMb : ∀ i j, i < n → j < n → Bd Np (M i j) := fun i j hi hj => (h.bd hi hj).mono (by omega)
      rw [← hP] at hO
      have hok : okMul n n (fun _ => n) (fun _ => n) = true := by simp [okMul, okM_const hn hn2 hn hn2]
      refine gg ?_
      refine R1_call2 (mul2_ok _ _ n n Np (fun _ => n) (fun _ => n) M P w1 ((h.ext hE).mono (by omega)) (hO.read (fun i j hi hj => hPb i j hi hj) (by omega) (by omega)) (by omega)) ?_
      intro v w2 hv
      unfold RMB at hv
      rw [if_pos hok] at hv
      obtain ⟨u, rfl, hE2, gO', gs', rfl, hg', hgs', hO'⟩ := hv
      clear hO hg hgs gs
      have hw1 := hE.size
      have hE' := hE.trans hE2
      have hQb : ∀ i j, i < n → j < n → Bd (Np + Np + 1) (mulM n M P i j) := fun i j hi hj => mulM_bd hn2 (fun t ht => hMb i t hi ht) (fun t ht => hPb t j ht hj)
      obtain ⟨Q, hQ⟩ : ∃ Q, Q = mulM n M P := ⟨_, rfl⟩
      rw [← hQ] at hO' hQb
      refine gg ?_
      refine R1_bld0 b0_Int ?_
      refine gg ?_
      refine R1_alloc (.inl rfl) z_Int ?_
      intro w3 hB3 hE3 hs3
      have hT3 : Bx w3 w2.heap.size 1 false 0 := Bx.zero false hB3
      obtain ⟨gT, hgT⟩ : ∃ g, g = w2.heap.size := ⟨_, rfl⟩
      rw [← hgT] at hT3 ⊢
      refine gg ?_
      refine R1_storeBx (N' := Np + Np + 1 + 1) (.inl rfl) rfl rfl hT3 ((CV.zero w3).ev false (Bd.zero _)) ?_
      intro w4 hT4 hC4 hk4 hs4
      have hrl : ∀ i, i < n → gs' i < gT := fun i hi => by have := (hO'.row i hi).lt; omega
      have hol : gO' < gT := by have := hO'.outer.lt; omega
      have hW2 := hO'.wm true hQb
      have hW4 := (hW2.ext hE3).kp hk4 hC4 (by omega) (fun i hi => by have := hrl i hi; omega)
      have hE4 : Ext w w4 := hC4.ext_of (hE'.trans hE3) (fun b hb => by have := hE'.size; omega)
      have hgO2 : w.heap.size ≤ gO' := by omega
      have hgs2 : ∀ i, i < n → w.heap.size ≤ gs' i := fun i hi => by have := hgs' i hi; omega
      have hgT2 : w.heap.size ≤ gT := by have := hE'.size; omega
      clear hk4 hC4 hs4 hT3 hB3 hE3 hs3 hW2 hO' hgT hg' hgs' hE' hE2 hw1 hE w1 w2 w3
      refine gg ?_
      refine W_seqM (fun f w' => f 0 = .slice A n cap ∧ f 3 = .int .i64 ((n : Nat) : Int) ∧ f 4 = .slice (some ⟨gO', 0, none⟩) n n ∧ f 5 = .int .i64 ((k : Nat) : Int) ∧ f 6 = .pointer (some ⟨gT, 0, none⟩) ∧
        Ext w w' ∧ WMat w' gO' gs' n n true (fun _ _ => Np + Np + 1) Q ∧ Bx w' gT (Np + Np + 1 + 1) false (sumTo n fun t => Q t t)) ?_ ?_
      · refine gg ?_
        refine W_loop (fun m f w' => ∃ i, m = n - i ∧ i ≤ n ∧ f 0 = .slice A n cap ∧ f 3 = .int .i64 ((n : Nat) : Int) ∧ f 4 = .slice (some ⟨gO', 0, none⟩) n n ∧ f 5 = .int .i64 ((k : Nat) : Int) ∧ f 6 = .pointer (some ⟨gT, 0, none⟩) ∧ f 29 = .int .i64 ((n : Nat) : Int) ∧ f 30 = .int .i64 ((i : Nat) : Int) ∧
          Ext w w' ∧ WMat w' gO' gs' n n true (fun _ _ => Np + Np + 1) Q ∧ Bx w' gT (Np + Np + 1 + 1) false (sumTo i fun t => Q t t))
          n ⟨0, rfl, Nat.zero_le _, rfl, rfl, rfl, rfl, rfl, rfl, rfl, hE4, hW4, hT4⟩ ?_
        clear hE4 hW4 hT4 w4
        rintro m f w1 ⟨i, rfl, hi, hf0, hf3, hf4, hf5, hf6, hf29, hf30, hE, hW, hT⟩
        rw [ui hf0, ui hf3, ui hf4, ui hf5, ui hf6, ui hf29, ui hf30]
        clear hf0 hf3 hf4 hf5 hf6 hf29 hf30
        by_cases hil : i < n
        · refine gg ?_
          refine W_regD [(0, 0), (1, 3), (2, 3), (3, 3), (4, 0), (5, 3), (6, 3), (7, 0), (8, 1), (9, 2)] mixed (by kernel_rfl) (fun w2 hE2 _ => ?_)
          have hW2 := hW.ext hE2
          have hx := hW2.at hil
          obtain ⟨x1, y1, hx1, hy1, hv1⟩ := (hW2.row i hil).at hil
          obtain ⟨tx, ty, hTB, hTv⟩ := hT.ext hE2
          obtain ⟨ht1, ht2⟩ := blkP hTB
          refine gg ?_
          refine R1_call1 (add_ok _ _ _ _ _ _ (Np + Np + 1 + 1) w2 hTv.1 (hv1.mono (by omega)).1 (by omega)) ?_
          rintro _ w3 ⟨hE3, a1, b1, rfl, hc1⟩
          refine ⟨hE3, ?_⟩
          refine gg ?_
          refine R1_storeBx (.inl rfl) rfl rfl (hT.ext (hE2.trans hE3)) (hc1.ev false (sumTo_bd (n := i + 1) (by omega) (fun t ht => hQb t t (by omega) (by omega)))) ?_
          intro w4 hT4 hC4 hk4 hs4
          refine gg ?_
          refine ⟨_, ?_, i + 1, rfl, by omega, rfl, rfl, rfl, rfl, rfl, rfl, rfl, hC4.ext_of (hE.trans (hE2.trans hE3)) (fun b hb => by omega), (hW2.ext hE3).kp hk4 hC4 (by omega) (fun i hi => by have := hrl i hi; omega), hT4⟩
          omega
        · refine gg ?_
          have : i = n := by omega
          subst this
          exact ⟨rfl, rfl, rfl, rfl, rfl, hE, hW, hT⟩
      clear hE4 hW4 hT4 w4
      rintro f w1 ⟨hf0, hf3, hf4, hf5, hf6, hE, hW, hT⟩
      rw [ui hf0, ui hf3, ui hf4, ui hf5, ui hf6]
      clear hf0 hf3 hf4 hf5 hf6
      refine W_seqG [(0, 0), (1, 3), (2, 3)] [(3, [], []), (9, [], []), (10, [], []), (4, [(5, 3), (6, 3), (7, 3), (8, 3)], [3])] [(11, 2), (12, 2), (13, 3)] mixed (by kernel_rfl) (fun w2 hE2 _ => ?_)
      obtain ⟨tx, ty, hTB, hTv⟩ := hT.ext hE2
      obtain ⟨ht1, ht2⟩ := blkP hTB
      refine gg ?_
      refine R1_neg_z rfl (by omega) (by omega) ?_
      refine gg ?_
      refine Rg_float [(3, []), (4, [(5, 3), (6, 3), (7, 3), (8, 3)])] [fA 9 8 35 (.agg #[.bool false, .slice none 0 0]), fA 10 9 35 (.agg #[.bool false, .slice none 0 0])] [47, 48, 43, 49, 50, 51, 8, 9] (by kernel_rfl) (fun a ha f' w' _ _ => by
        rcases List.mem_cons.1 ha with rfl | ha
        · exact flt_alloc z_Int rfl f' w'
        · rcases List.mem_singleton.1 ha with rfl
          exact flt_alloc z_Int rfl f' w') ?_
      refine Rc_cons (fun w3 hE3 => ?_)
      refine gg ?_
      refine R1_call1 (small_ok (0 - (k : Int)) w3 (by omega) (by omega)) ?_
      rintro _ w4 ⟨hE4, a1, b1, rfl, hc1⟩
      refine ⟨hE4, ?_⟩
      refine gg ?_
      refine Rc_cons (fun w5 hE5 => ?_)
      have hb2 : Bd 2 (0 - (k : Int)) := bd_i64 (by omega) (by omega)
      refine gg ?_
      refine R1_call1 (divMod_ok _ _ _ _ _ _ (Np + Np + 1 + 1) w5 (hTv.ext (hE3.trans (hE4.trans hE5))).1 ((hc1.ext hE5).iv (hb2.mono (by omega))) (by omega) (by omega)) ?_
      rintro _ w6 ⟨hE6, qx, qy, rx, ry, rfl, hq, hr⟩
      refine ⟨hE6, ?_⟩
      refine gg ?_
      refine Rc_nil (fun w7 hE7 bs hbs hdis => ?_)
      obtain ⟨hge8, hB8⟩ := hbs _ List.mem_cons_self
      obtain ⟨hge9, hB9⟩ := hbs _ (List.mem_cons_of_mem _ List.mem_cons_self)
      have hne : bs 8 ≠ bs 9 := hdis _ _ List.mem_cons_self (List.mem_cons_of_mem _ List.mem_cons_self) (show (8 : Nat) ≠ 9 by decide)
      have hM8 : Bx w7 (bs 8) 1 false 0 := Bx.zero false hB8
      have hM9 : Bx w7 (bs 9) 1 false 0 := Bx.zero false hB9
      have hge8 : w2.heap.size ≤ bs 8 := hge8
      have hge9 : w2.heap.size ≤ bs 9 := hge9
      have hE27 : Ext w2 w7 := hE3.trans (hE4.trans (hE5.trans (hE6.trans hE7)))
      show Ro _ _ _ _ _ _ (upd (upd _ 9 (.pointer (some ⟨bs 9, 0, none⟩))) 8 (.pointer (some ⟨bs 8, 0, none⟩))) _
      generalize bs 8 = g8 at *
      generalize bs 9 = g9 at *
      clear hB8 hB9 hbs hdis
      have hqb : Bd (Np + Np + 1 + 1) ((sumTo n fun t => Q t t) / (0 - (k : Int))) := hTv.bd.ediv
      have hrb : Bd (Np + Np + 1 + 1) ((sumTo n fun t => Q t t) % (0 - (k : Int))) := by
        have h1 := Int.emod_nonneg (sumTo n fun t => Q t t) (show (0 - (k : Int)) ≠ 0 by omega)
        have h2 := Int.emod_lt (sumTo n fun t => Q t t) (show (0 - (k : Int)) ≠ 0 by omega)
        refine Bd.mono (N := 1) ?_ (by omega)
        unfold Bd
        have : B ^ 1 = 4294967296 := by decide
        omega
      refine gg ?_
      refine R1_storeBx (.inl rfl) rfl rfl hM8 ((hq.ext hE7).ev false hqb) ?_
      intro w8 h88 hC8 hk8 hs8
      refine gg ?_
      refine R1_storeBx (.inl rfl) rfl rfl (hM9.kp hk8 hC8 hne.symm) (((hr.ext hE7).kp hk8).ev false hrb) ?_
      intro w9 h99 hC9 hk9 hs9
      have hW2 := hW.ext hE2
      have hr2 : ∀ i, i < n → gs' i < w2.heap.size := fun i hi => (hW2.row i hi).lt
      have ho2 := hW2.lt
      have hc98 := h88.kp hk9 hC9 hne
      have hW9 := ((hW2.ext hE27).kp hk8 hC8 (by omega) (fun i hi => by have := hr2 i hi; omega)).kp hk9 hC9 (by omega) (fun i hi => by have := hr2 i hi; omega)
      have hE2' := hE.trans hE2
      have hw2 := hE2'.size
      have hE9 : Ext w w9 := hC9.ext_of (hC8.ext_of (hE2'.trans hE27) (fun b hb => by omega)) (fun b hb => by omega)
      have hr8 : ∀ i, i < n → gs' i < g8 := fun i hi => by have := hr2 i hi; omega
      have ho8 : gO' < g8 := by omega
      obtain ⟨cf, hcf⟩ : ∃ cf, cf = (sumTo n fun t => Q t t) / (0 - (k : Int)) := ⟨_, rfl⟩
      rw [← hcf] at hc98 hqb
      clear hE2' h99 hk9 hC9 hs9 hk8 hC8 hs8 h88 hM8 hM9 hge8 hge9 hE27 hne hE7 hE6 hE5 hE4 hE3 hq hr hTB hTv ht1 ht2 hW hT hE hW2 hr2 ho2 hw2
      refine gg ?_
      refine W_loop (fun m f w' => ∃ i, m = n - i ∧ i ≤ n ∧ f 0 = .slice A n cap ∧ f 3 = .int .i64 ((n : Nat) : Int) ∧ f 4 = .slice (some ⟨gO', 0, none⟩) n n ∧ f 5 = .int .i64 ((k : Nat) : Int) ∧ f 8 = .pointer (some ⟨g8, 0, none⟩) ∧ f 52 = .int .i64 ((n : Nat) : Int) ∧ f 53 = .int .i64 ((i : Nat) : Int) ∧
        Ext w w' ∧ WMat w' gO' gs' n n true (fun a b => if a = b ∧ a < i then Np + Np + 1 + 1 + 1 else Np + Np + 1) (fun a b => if a = b ∧ a < i then Q a b + cf else Q a b) ∧ Bx w' g8 (Np + Np + 1 + 1) false cf)
        n ⟨0, rfl, Nat.zero_le _, rfl, rfl, rfl, rfl, rfl, rfl, rfl, hE9, hW9.congr (fun a b _ _ => ⟨by simp, by simp⟩), hc98⟩ ?_
      clear hE9 hW9 hc98 w9
      rintro m f w1 ⟨i, rfl, hi, hf0, hf3, hf4, hf5, hf8, hf52, hf53, hE, hW, hT⟩
      rw [ui hf0, ui hf3, ui hf4, ui hf5, ui hf8, ui hf52, ui hf53]
      clear hf0 hf3 hf4 hf5 hf8 hf52 hf53
      by_cases hil : i < n
      · refine gg ?_
        refine W_regD [(0, 3), (1, 3), (2, 3), (3, 0), (4, 3), (5, 3), (6, 3), (7, 3), (8, 0), (9, 3), (10, 3), (11, 0), (12, 0), (13, 1), (14, 3), (15, 2)] mixed (by kernel_rfl) (fun w2 hE2 _ => ?_)
        have hW2 := hW.ext hE2
        have hx := hW2.at hil
        obtain ⟨x1, y1, hx1, hy1, hv1⟩ := (hW2.row i hil).at hil
        simp only at hv1
        rw [if_neg (by omega), if_neg (by omega)] at hv1
        obtain ⟨tx, ty, hTB, hTv⟩ := hT.ext hE2
        obtain ⟨ht1, ht2⟩ := blkP hTB
        refine gg ?_
        refine R1_call1 (add_ok _ _ _ _ _ _ (Np + Np + 1 + 1) w2 (hv1.mono (by omega)).1 hTv.1 (by omega)) ?_
        rintro _ w3 ⟨hE3, a1, b1, rfl, hc1⟩
        refine ⟨hE3, ?_⟩
        refine gg ?_
        refine R1_storeE (.inl rfl) rfl rfl ((hW2.ext hE3).row i hil) hil (hc1.ev true (N := Np + Np + 1 + 1 + 1) ((hv1.bd.mono (by omega)).add hqb)) ?_
        intro w4 hR4 hC4 hk4 hs4
        have hW4 := (hW2.ext hE3).put hil hR4 hC4 hk4
        have hgi := hgs2 i hil
        have hr8i := hr8 i hil
        refine gg ?_
        refine ⟨_, ?_, i + 1, rfl, by omega, rfl, rfl, rfl, rfl, rfl, rfl, rfl, hC4.ext_of (hE.trans (hE2.trans hE3)) (fun b hb => by omega), hW4.congr (fun a b ha hb => ⟨?_, ?_⟩), (hT.ext (hE2.trans hE3)).kp hk4 hC4 (by omega)⟩
        · omega
        · simp only [set2]
          by_cases e : a = i ∧ b = i
          · rw [if_pos e, if_pos (by omega)]; exact Nat.le_refl _
          · rw [if_neg e]
            by_cases e2 : a = b ∧ a < i
            · rw [if_pos e2, if_pos (by omega)]; exact Nat.le_refl _
            · rw [if_neg e2, if_neg (by omega)]; exact Nat.le_refl _
        · simp only [set2]
          by_cases e : a = i ∧ b = i
          · obtain ⟨rfl, rfl⟩ := e
            rw [if_pos ⟨rfl, rfl⟩, if_pos (by omega)]
          · rw [if_neg e]
            by_cases e2 : a = b ∧ a < i
            · rw [if_pos e2, if_pos (by omega)]
            · rw [if_neg e2, if_neg (by omega)]
      · refine gg ?_
        refine ⟨_, ?_, k + 1, gO', gs', rfl, by omega, by omega, rfl, rfl, rfl, rfl, hE, hgO2, hgs2, ?_⟩
        · omega
        · refine (hW.congr (bn' := fun _ _ => Np + Np + 1 + 1 + 1) (M' := adjP n M (k + 1 - 1)) (fun a b ha hb => ⟨by split <;> omega, ?_⟩)).o
          obtain ⟨k, rfl⟩ : ∃ k', k = k' + 1 := ⟨k - 1, by omega⟩
          simp only [Nat.add_sub_cancel] at hP ⊢
          rw [adjP, adjStep, ← hP, ← hQ]
          by_cases e : a = b
          · rw [if_pos ⟨e, by omega⟩, if_pos e, hcf, Int.zero_sub]
          · rw [if_neg (fun h => e h.1), if_neg e]
    · refine gg ?_
      have : k = n := by omega
      subst this
      exact ⟨gO, gs, rfl, rfl, hE, hg, hgs, hO⟩
  clear hO hgs hg hE2 hE1 hcv w1 w2 hw1 gs gO
  rintro f w1 ⟨gO, gs, hf3, hf4, hE, hg, hgs, hO⟩
  rw [ui hf3, ui hf4]
  clear hf3 hf4
  refine W_seq ?_
  by_cases he : n % 2 = 0
  · refine gg ?_
    refine R1_rem_i64_c rfl (by decide) ?_
    refine gg ?_
    have hNk : (n - 1) * (N + 3) ≤ 15 * 1048579 := Nat.mul_le_mul (by omega) (by omega)
    refine R1_call2 (negated_ok _ n n (1 + (n - 1) * (N + 3)) _ w1 (hO.read (fun i j hi hj => hbd (n - 1) i j hi hj) (by omega) (by omega)) hn (by omega) (by omega) (by omega)) ?_
    rintro _ w2 ⟨hE2, gO', gs', rfl, hg', hgs', hO'⟩
    refine gg ?_
    have := hE.size
    refine ret1 (v := .slice _ _ _) rfl rfl ⟨hE.trans hE2, gO', gs', rfl, by omega, fun i hi => by have := hgs' i hi; omega, ?_⟩
    have e : (fun i j => - adjP n M (n - 1) i j) = adjF n M := by funext i j; rw [adjF, if_pos he]
    rw [← e]; exact hO'
  · refine gg ?_
    refine R1_rem_i64_c rfl (by decide) ?_
    refine gg ?_
    refine ret1 (v := .slice _ _ _) rfl rfl ⟨hE, gO, gs, rfl, hg, hgs, ?_⟩
    have e : adjP n M (n - 1) = adjF n M := by funext i j; rw [adjF, if_neg he]
    rw [← e]; exact hO
end Go.Proofs.Ytimjiaabaanbeaa
