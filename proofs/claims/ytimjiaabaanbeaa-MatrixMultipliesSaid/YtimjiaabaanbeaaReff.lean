/- The reference's integers: low, double, divide. -/
import Derived.Test.YtimjiaabaanbeaaRefe
namespace Go.Proofs.Ytimjiaabaanbeaa
open Go Go.Eng Go.Num Go.Proofs

set_option maxHeartbeats 4000000 in
theorem low_ok (A : Option Addr) (n c : Nat) (l : List Nat) (w : World) (h : Mag w A l) (hn : l.length = n) (hl : n < 1099511627776) :
    Meets Try.prog 114 #[.slice A n c] w fun v w' => w = w' ∧ v = .int .u64 ((val (l.take 2) : Nat) : Int) := by
  subst hn
  refine fn_W (n := 26) Try.func114 rfl rfl (by kernel_rfl) (by simp) ?_
  refine gg ?_
  refine W_seq ?_
  refine gg ?_
  refine W_loop (fun m f w' => ∃ i, m = 2 - i ∧ i ≤ 2 ∧ i ≤ l.length ∧ f 0 = .slice A l.length c ∧ f 3 = .int .u64 ((val (l.take i) : Nat) : Int) ∧ f 4 = .int .i64 ((i : Nat) : Int) ∧ w = w')
    2 ⟨0, rfl, by omega, by omega, rfl, rfl, rfl, rfl⟩ ?_
  rintro m f w1 ⟨i, rfl, hi, hil, hf0, hf3, hf4, rfl⟩
  rw [ui hf0, ui hf3, ui hf4]
  refine W_seq ?_
  by_cases hlt : i < l.length
  · by_cases h2 : i < 2
    · obtain ⟨ad, rfl, hc⟩ := h.at (j := i) (by omega)
      have hx := hc i (by omega)
      have bx := h.lim.getD i
      have hor := or_step i (val (l.take i)) (l.getD i 0) (by omega) (val_take_lt h.lim i) bx
      refine gg ?_
      refine R1_shl_u64 rfl rfl (by omega) ?_
      refine gg ?_
      refine R1_or_u64 rfl rfl hor.2.2 (Nat.mod_lt _ (by decide)) ?_
      refine gg ?_
      refine ⟨_, ?_, i + 1, rfl, by omega, by omega, rfl, ?_, rfl, rfl⟩
      · omega
      · rw [val_take_succ l i (by omega), ← hor.1]; rfl
    · refine gg ?_
      refine ret1 (v := .int _ _) rfl rfl ⟨rfl, ?_⟩
      rw [show i = 2 by omega]
  · refine gg ?_
    refine ret1 (v := .int _ _) rfl rfl ⟨rfl, ?_⟩
    rw [List.take_of_length_le (by omega), List.take_of_length_le (by omega)]

theorem or_bit (y b : Nat) (hb : b ≤ 1) : (y * 2 ^ 1) % 4294967296 ||| b = (y * 2) % 4294967296 + b := by
  have e : (y * 2 ^ 1) % 4294967296 = 2 ^ 1 * (y % 2147483648) := by omega
  rw [e, ← Nat.two_pow_add_eq_or_of_lt (i := 1) (by omega)]

set_option maxHeartbeats 8000000 in
theorem double_ok (A : Option Addr) (n c b : Nat) (l : List Nat) (w : World) (h : Mag w A l) (hn : l.length = n) (hl : n < 1099511627776) (hb : b ≤ 1) :
    Meets Try.prog 115 #[.slice A n c, .int .u32 ((b : Nat) : Int)] w fun v w' => Ext w w' ∧ LimV w' v (n + 1) (2 * val l + b) := by
  subst hn
  refine fn_W (n := 28) Try.func115 rfl rfl (by kernel_rfl) (by simp) ?_
  refine gg ?_
  refine W_seq ?_
  refine gg ?_
  refine W_loop (fun m f w' => ∃ i v r c1, m = l.length - i ∧ i ≤ l.length ∧ f 1 = .int .u32 ((c1 : Nat) : Int) ∧ f 5 = v ∧ f 8 = .slice A l.length c ∧ f 9 = .int .i64 ((l.length : Nat) : Int) ∧ f 10 = .int .i64 ((i : Nat) : Int) ∧ Ext w w' ∧ OwL w' w.heap.size v r ∧ r.length = i ∧ c1 ≤ 1 ∧
    val r + c1 * B ^ i = 2 * val (l.take i) + b) l.length ⟨0, _, [], b, rfl, by omega, rfl, rfl, rfl, rfl, rfl, Ext.refl _, OwL.nil _ _, rfl, hb, by simp [val]⟩ ?_
  rintro m f w1 ⟨i, v, r, c1, rfl, hi, hf1, hf5, hf8, hf9, hf10, hE, hO, hr, hc1, hv⟩
  rw [ui hf1, ui hf5, ui hf8, ui hf9, ui hf10]
  clear hf1 hf5 hf8 hf9 hf10
  by_cases hlt : i < l.length
  · obtain ⟨ad, rfl, hc⟩ := (h.ext hE).at (j := i) (by omega)
    have hx := hc i (by omega)
    have bx := h.lim.getD i
    have hor := or_bit (l.getD i 0) c1 hc1
    refine gg ?_
    refine R1_shl_u32_c rfl (by decide) ?_
    refine gg ?_
    refine R1_or_u32 rfl rfl (Nat.mod_lt _ (by decide)) (by omega) ?_
    refine gg ?_
    refine R1_build1 sl_u32 rfl (.inl rfl) rfl rfl ?_
    intro w2 hB2 hE2 hs2
    refine gg ?_
    refine R1_push rfl rfl (hO.ext hE2) rfl hB2 (by rw [show (OfNat.ofNat 1 : Nat) = 1 from rfl, hor]; omega) (by omega) (by have := hE.size; omega) ?_
    intro v' w3 hO3 hC3
    refine gg ?_
    refine R1_shr_u32_c rfl (by decide) ?_
    refine gg ?_
    refine ⟨_, ?_, i + 1, v', _, _, rfl, by omega, rfl, rfl, rfl, rfl, rfl, hC3.ext_of (hE.trans hE2) (fun b hb => hO.blk hb), hO3, by simp [hr], ?_, ?_⟩
    · omega
    · have : (2 : Nat) ^ (OfNat.ofNat 31) = 2147483648 := rfl
      rw [this]; omega
    · have e1 : (2 : Nat) ^ (OfNat.ofNat 31) = 2147483648 := rfl
      rw [e1, show (OfNat.ofNat 1 : Nat) = 1 from rfl, hor, val_snoc, hr, val_take_succ l i hlt, Nat.pow_succ]
      have e := add_step (B ^ i) (val r) c1 _ (l.getD i 0) (l.getD i 0) hv
      have e2 : (c1 + (l.getD i 0 + l.getD i 0)) % B = l.getD i 0 * 2 % 4294967296 + c1 := by show _ % 4294967296 = _; omega
      have e3 : (c1 + (l.getD i 0 + l.getD i 0)) / B = l.getD i 0 / 2147483648 := by show _ / 4294967296 = _; omega
      rw [e2, e3] at e
      rw [e]
      omega
  · refine gg ?_
    have : i = l.length := by omega
    subst this
    refine R1_build1 sl_u32 rfl (.inl rfl) rfl rfl ?_
    intro w2 hB2 hE2 hs2
    refine gg ?_
    refine R1_push rfl rfl (hO.ext hE2) rfl hB2 (by omega) (by omega) (by have := hE.size; omega) ?_
    intro v' w3 hO3 hC3
    refine gg ?_
    refine ret1 (v := v') rfl rfl ⟨hC3.ext_of (hE.trans hE2) (fun b hb => hO.blk hb), ?_⟩
    have := hO3.limV (N := l.length + 1) (by simp; omega)
    rw [val_snoc, hr, Nat.mul_comm, hv, val_take_all] at this
    exact this

/-! plain: bits -/
theorem getD_val {l : List Nat} (hl : Lim l) {j : Nat} (hj : j < l.length) : l.getD j 0 = val l / B ^ j % B := by
  rw [val_split l j (by omega), drop_cons l j hj]
  have h1 := val_take_lt hl j
  have hp : 0 < B ^ j := Nat.pow_pos (by decide)
  rw [Nat.add_mul_div_left _ _ hp, Nat.div_eq_of_lt h1, Nat.zero_add]
  simp only [val]
  rw [Nat.add_mul_mod_self_left]
  exact (Nat.mod_eq_of_lt (hl.getD j)).symm
theorem B_pow (j : Nat) : B ^ j = 2 ^ (32 * j) := by rw [Nat.pow_mul]; rfl
theorem bit_of {l : List Nat} (hl : Lim l) {i : Nat} (hi : i / 32 < l.length) : l.getD (i / 32) 0 / 2 ^ (i % 32) % 2 = val l / 2 ^ i % 2 := by
  rw [getD_val hl hi]
  have e : B = 2 ^ (i % 32) * 2 ^ (32 - i % 32) := by rw [← Nat.pow_add, show i % 32 + (32 - i % 32) = 32 by omega]; rfl
  have e2 : 2 ^ (32 - i % 32) = 2 * 2 ^ (31 - i % 32) := by rw [← Nat.pow_succ', show (31 - i % 32).succ = 32 - i % 32 by omega]
  have e3 : val l / B ^ (i / 32) % B / 2 ^ (i % 32) = val l / B ^ (i / 32) / 2 ^ (i % 32) % 2 ^ (32 - i % 32) := by
    conv => lhs; rw [show (val l / B ^ (i / 32) % B) = val l / B ^ (i / 32) % (2 ^ (i % 32) * 2 ^ (32 - i % 32)) by rw [← e]]
    rw [Nat.mod_mul_right_div_self]
  rw [e3, e2, Nat.mod_mul_right_mod, Nat.div_div_eq_div_mul, B_pow, ← Nat.pow_add, show 32 * (i / 32) + i % 32 = i by omega]
theorem val_set' (L : List Nat) (j x d : Nat) (hj : j < L.length) (hx : x = L.getD j 0 + d) : val (L.set j x) = val L + B ^ j * d := by
  have e := val_set L j x hj
  rw [hx, Nat.mul_add] at e
  rw [hx]; omega
/-- the bit that is set was not set -/
theorem or_free {L : List Nat} (hl : Lim L) {i q : Nat} (hi : i / 32 < L.length) (hv : val L = q * 2 ^ (i + 1)) :
    L.getD (i / 32) 0 ||| (1 * 2 ^ (i % 32)) % 4294967296 = L.getD (i / 32) 0 + 2 ^ (i % 32) ∧ L.getD (i / 32) 0 + 2 ^ (i % 32) < 4294967296 := by
  have hb := hl.getD (i / 32)
  have e : val L / B ^ (i / 32) = q * 2 ^ (i % 32 + 1) := by
    rw [hv, B_pow, show i + 1 = 32 * (i / 32) + (i % 32 + 1) by omega, Nat.pow_add, ← Nat.mul_assoc, Nat.mul_comm q, Nat.mul_assoc, Nat.mul_div_cancel_left _ (Nat.pow_pos (by decide))]
  have hd : L.getD (i / 32) 0 = 2 ^ (i % 32 + 1) * (q % 2 ^ (31 - i % 32)) := by
    rw [getD_val hl hi, e]
    have eB : B = 2 ^ (i % 32 + 1) * 2 ^ (31 - i % 32) := by rw [← Nat.pow_add, show i % 32 + 1 + (31 - i % 32) = 32 by omega]; rfl
    rw [eB, Nat.mul_comm q, Nat.mul_mod_mul_left]
  have hlt : 2 ^ (i % 32) < 2 ^ (i % 32 + 1) := Nat.pow_lt_pow_right (by decide) (by omega)
  have h1 : (1 * 2 ^ (i % 32)) % 4294967296 = 2 ^ (i % 32) := by
    rw [Nat.one_mul]
    exact Nat.mod_eq_of_lt (Nat.lt_of_lt_of_le (Nat.pow_lt_pow_right (a := 2) (n := 32) (by decide) (Nat.mod_lt _ (by decide))) (by decide))
  have hq : q % 2 ^ (31 - i % 32) + 1 ≤ 2 ^ (31 - i % 32) := Nat.mod_lt _ (Nat.pow_pos (by decide))
  have h32 : 2 ^ (i % 32 + 1) * 2 ^ (31 - i % 32) = 4294967296 := by rw [← Nat.pow_add, show i % 32 + 1 + (31 - i % 32) = 32 by omega]
  have hmul := Nat.mul_le_mul_left (2 ^ (i % 32 + 1)) hq
  rw [Nat.mul_add, Nat.mul_one, h32] at hmul
  refine ⟨?_, by omega⟩
  rw [h1]
  conv => lhs; rw [hd]
  rw [← Nat.two_pow_add_eq_or_of_lt hlt, ← hd]
theorem div_step (X V b r : Nat) (hV : 0 < V) (hr : r = X % V) : (2 * X + b) / V = 2 * (X / V) + (2 * r + b) / V ∧ (2 * X + b) % V = (2 * r + b) % V := by
  have e := Nat.div_add_mod X V
  have e2 : 2 * X + b = (2 * r + b) + V * (2 * (X / V)) := by
    have : V * (2 * (X / V)) = 2 * (V * (X / V)) := Nat.mul_left_comm _ _ _
    omega
  rw [e2, Nat.add_mul_div_left _ _ hV, Nat.add_mul_mod_self_left]
  exact ⟨by omega, rfl⟩

theorem CV.natV {w : World} {x y : Value} {m : Nat} (h : CV w x y (m : Int)) : NatV w y m := by
  obtain ⟨neg, A, l, c, rfl, rfl, h1, h2, h3, h4, h5, h6⟩ := h
  refine ⟨A, l, c, rfl, h1, h2, h3, h4, ?_⟩
  have := congrArg Int.natAbs h6
  rw [sg_abs] at this
  simpa using this.symm
theorem val_take2 {l : List Nat} (h : l.length ≤ 2) : val (l.take 2) = val l := by rw [List.take_of_length_le h]
theorem val_lt2 {l : List Nat} (hl : Lim l) (h : l.length ≤ 2) : val l < 18446744073709551616 := by
  have a := val_lt l hl
  have b : B ^ l.length ≤ B ^ 2 := Nat.pow_le_pow_right (by decide) h
  have c : B ^ 2 = 18446744073709551616 := by decide
  omega

set_option maxHeartbeats 16000000 in
theorem divide_ok (A1 A2 : Option Addr) (n1 n2 c1 c2 : Nat) (l1 l2 : List Nat) (w : World) (h1 : Mag w A1 l1) (h2 : Mag w A2 l2) (hn1 : l1.length = n1) (hn2 : l2.length = n2) (hl1 : n1 < 137438953472) (hl2 : n2 < 137438953472) (t2 : Trimd l2) (hV : 0 < val l2) :
    Meets Try.prog 112 #[.slice A1 n1 c1, .slice A2 n2 c2] w fun v w' => Ext w w' ∧ ∃ q r, v = .tuple #[q, r] ∧ NatV w' q (val l1 / val l2) ∧ NatV w' r (val l1 % val l2) := by
  subst hn1 hn2
  refine fn_W (n := 75) Try.func112 rfl rfl (by kernel_rfl) (by simp) ?_
  refine gg ?_
  by_cases hsm : l1.length ≤ 2 ∧ l2.length ≤ 2
  · obtain ⟨s1, s2⟩ := hsm
    have v1 := val_lt2 h1.lim s1
    have v2 := val_lt2 h2.lim s2
    refine W_seq ?_
    refine gg ?_
    refine R1_call2 (low_ok _ _ _ l1 w h1 rfl (by omega)) ?_
    rintro _ _ ⟨rfl, rfl⟩
    rw [val_take2 s1]
    refine gg ?_
    refine R1_call2 (low_ok _ _ _ l2 w h2 rfl (by omega)) ?_
    rintro _ _ ⟨rfl, rfl⟩
    rw [val_take2 s2]
    refine gg ?_
    refine W_seqD [(0, 3), (1, 3), (2, 3), (5, 3), (6, 3), (7, 3), (3, 1), (4, 3), (8, 1), (9, 3), (10, 3), (11, 3)] mixed (by kernel_rfl) (fun w1 hE1 _ => ?_)
    refine gg ?_
    refine R1_quo_u64 rfl rfl v1 hV ?_
    refine gg ?_
    refine R1_rem_u64 rfl rfl hV ?_
    refine gg ?_
    refine R1_call1 (rword_ok false _ w1 (Nat.lt_of_le_of_lt (Nat.div_le_self _ _) v1)) ?_
    rintro _ w2 ⟨hE2, x, y, rfl, hcv⟩
    refine ⟨hE2, ?_⟩
    refine gg ?_
    refine R1_magV rfl ?_
    refine gg ?_
    refine R1_call1 (rword_ok false _ w2 (Nat.lt_of_le_of_lt (Nat.mod_le _ _) v1)) ?_
    rintro _ w3 ⟨hE3, x', y', rfl, hcv'⟩
    refine ⟨hE3, ?_⟩
    refine gg ?_
    refine R1_magV rfl ?_
    refine gg ?_
    rw [sg_false] at hcv hcv'
    exact ret2 (v := y) (v' := y') rfl rfl rfl ⟨hE1.trans (hE2.trans hE3), y, y', rfl, (hcv.natV).ext hE3, hcv'.natV⟩
  · refine W_seqM (fun f w' => w = w' ∧ f 0 = .slice A1 l1.length c1 ∧ f 1 = .slice A2 l2.length c2 ∧ f 5 = .slice none 0 0) ?_ ?_
    · refine W_seq ?_
      by_cases s1 : l1.length ≤ 2
      · have s2 : ¬ l2.length ≤ 2 := fun h => hsm ⟨s1, h⟩
        refine gg ?_
        exact ⟨rfl, rfl, rfl, rfl⟩
      · refine gg ?_
        exact ⟨rfl, rfl, rfl, rfl⟩
    rintro f w' ⟨rfl, hf0, hf1, hf5⟩
    rw [ui hf0, ui hf1, ui hf5]
    clear hf0 hf1 hf5 hsm
    refine gg ?_
    refine R1_make sl_u32 (.inl rfl) rfl rfl (Nat.le_refl _) (by omega) (by omega) ?_
    intro w1 hB hE hsz
    rw [cells_made] at hB
    obtain ⟨gQ, hgQ⟩ : ∃ g, g = w.heap.size := ⟨_, rfl⟩
    rw [← hgQ] at hB ⊢
    have hx0 : val l1 / 2 ^ (32 * l1.length) = 0 := Nat.div_eq_of_lt (by rw [← B_pow]; exact val_lt l1 h1.lim)
    refine gg ?_
    refine W_seq ?_
    refine gg ?_
    refine W_loop (fun m f w' => ∃ s R L, m = s ∧ s ≤ 32 * l1.length ∧ f 0 = .slice A1 l1.length c1 ∧ f 1 = .slice A2 l2.length c2 ∧ f 4 = .slice (some ⟨gQ, 0, none⟩) l1.length l1.length ∧ f 5 = R ∧ f 8 = .int .i64 ((s : Int) - 1) ∧
      Ext w w' ∧ Blk w' gQ 54 (cells L) ∧ L.length = l1.length ∧ Lim L ∧ NatV w' R (val l1 / 2 ^ s % val l2) ∧ val L = val l1 / 2 ^ s / val l2 * 2 ^ s)
      (32 * l1.length) ⟨32 * l1.length, _, _, rfl, Nat.le_refl _, rfl, rfl, rfl, rfl, ?_, hE, hB, by simp, lim_replicate _, by rw [hx0, Nat.zero_mod]; exact natV_nil w1, by rw [hx0, Nat.zero_div, Nat.zero_mul, val_zeros]⟩ ?_
    · rfl
    clear hB hE hsz hx0 w1
    rintro m f w1 ⟨s, R, L, rfl, hs, hf0, hf1, hf4, hf5, hf8, hE, hB, hL, hLim, hR, hQ⟩
    rcases m with _ | i
    · rw [ui hf0, ui hf1, ui hf4, ui hf5, ui hf8]
      clear hf0 hf1 hf4 hf5 hf8
      refine W_seq ?_
      refine gg ?_
      refine R1_call2 (rtrim_ok _ _ _ L w1 (mag_of_blk hB hLim) hL (Nat.le_refl _) (by omega)) ?_
      rintro q w2 ⟨hE2, hq⟩
      refine gg ?_
      rw [Nat.pow_zero, Nat.div_one] at hR hQ
      rw [hQ, Nat.mul_one] at hq
      exact ret2 (v := q) (v' := R) rfl rfl rfl ⟨hE.trans hE2, q, R, rfl, hq, hR.ext hE2⟩
    · have hf8' : f 8 = .int .i64 ((i : Nat) : Int) := by rw [hf8]; congr 1; omega
      rw [ui hf0, ui hf1, ui hf4, ui hf5, ui hf8']
      clear hf0 hf1 hf4 hf5 hf8 hf8'
      have hij : i / 32 < l1.length := by omega
      obtain ⟨ad, rfl, hc⟩ := (h1.ext hE).at (j := i / 32) hij
      have hx := hc (i / 32) hij
      have bx := h1.lim.getD (i / 32)
      have hbit := bit_of h1.lim hij
      have hX : val l1 / 2 ^ i = 2 * (val l1 / 2 ^ (i + 1)) + val l1 / 2 ^ i % 2 := by
        rw [Nat.pow_succ, ← Nat.div_div_eq_div_mul]; omega
      have hlim := Nat.div_le_self (l1.getD (i / 32) 0) (2 ^ (i % 32))
      refine W_seq ?_
      refine gg ?_
      refine R1_quo_i64_c rfl (by omega) (by decide) ?_
      refine gg ?_
      refine R1_rem_i64_c rfl (by decide) ?_
      refine gg ?_
      refine R1_shr_u32 rfl rfl (Nat.mod_lt _ (by decide)) ?_
      refine gg ?_
      refine R1_and_u32_c rfl (by show l1.getD (i / 32) 0 / 2 ^ (i % 32) < _; omega) (by decide) ?_
      have eb : (l1.getD (i / (OfNat.ofNat 32)) 0 / 2 ^ (i % (OfNat.ofNat 32)) &&& (OfNat.ofNat 1) : Nat) = val l1 / 2 ^ i % 2 := by
        rw [← hbit]; exact Nat.and_one_is_mod _
      rw [eb]
      obtain ⟨TR, tr, dr, rfl, hdr1, hdr2, hTR, htr, hvr⟩ := hR
      have hlr : tr.length ≤ l2.length := len_le h2.lim htr (by rw [hvr]; exact Nat.le_of_lt (Nat.mod_lt _ hV))
      refine gg ?_
      refine R1_call2 (double_ok _ _ _ _ tr w1 hTR rfl (by omega) (by omega)) ?_
      rintro _ w2 ⟨hE2, A, l, c, rfl, hlc, hcm, hM, hlN, hv⟩
      refine gg ?_
      refine R1_call2 (rtrim_ok _ _ _ l w2 hM rfl hlc (by omega)) ?_
      rintro _ w3 ⟨hE3, hV3⟩
      obtain ⟨T3, t3, d3, rfl, hd31, hd32, hT3, ht3, hv3⟩ := hV3
      have hl3 : t3.length ≤ l2.length + 1 := by have := len_le hM.lim ht3 (Nat.le_of_eq hv3); omega
      rw [hv, hvr] at hv3
      have hds := div_step (val l1 / 2 ^ (i + 1)) (val l2) (val l1 / 2 ^ i % 2) (val l1 / 2 ^ (i + 1) % val l2) hV rfl
      rw [← hX] at hds
      have hE13 := hE2.trans hE3
      have hlt2 : 2 * (val l1 / 2 ^ (i + 1) % val l2) + val l1 / 2 ^ i % 2 < 2 * val l2 := by
        have := Nat.mod_lt (val l1 / 2 ^ (i + 1)) hV
        have := Nat.mod_lt (val l1 / 2 ^ i) (show 0 < 2 by decide)
        omega
      refine gg ?_
      refine R1_call2 (rcmp_ok _ _ _ _ _ _ t3 l2 w3 hT3 (h2.ext (hE.trans hE13)) rfl rfl (by omega) (by omega) ht3 t2) ?_
      rintro _ w4 ⟨hE4, rfl⟩
      have hE14 := hE13.trans hE4
      by_cases hge : val l2 ≤ val t3
      · have hcz : (0 : Int) ≤ cmpZ (val t3) (val l2) := by unfold cmpZ; rw [if_neg (by omega)]; split <;> decide
        refine gg ?_
        refine R1_call2 (rdifference_ok _ _ _ _ _ _ t3 l2 w4 (hT3.ext hE4) (h2.ext (hE.trans hE14)) rfl rfl (by omega) (len_le hT3.lim t2 hge) hge) ?_
        rintro _ w5 ⟨hE5, A', l', c', rfl, hlc', hcm', hM', hlN', hv'⟩
        refine gg ?_
        refine R1_call2 (rtrimF_ok _ _ _ l' w5 hM' rfl hlc' (by omega)) ?_
        rintro R' w6 ⟨hE6, hV6, hfresh⟩
        have hE16 := hE14.trans (hE5.trans hE6)
        refine gg ?_
        refine W_regD [(0, 3), (1, 3), (2, 3), (3, 3), (4, 0), (5, 3), (6, 3), (7, 3), (8, 3), (9, 3), (10, 2)] mixed (by kernel_rfl) (fun w7 hE7 _ => ?_)
        have hB7 := hB.ext (hE16.trans hE7)
        have hq1 := cells_at hB7 (j := i / 32) (by omega)
        have hor := or_free hLim (i := i) (q := val l1 / 2 ^ (i + 1) / val l2) (by omega) hQ
        have bq := hLim.getD (i / 32)
        have hq : w7.cell? ⟨gQ, 0 + i / (OfNat.ofNat 32) * 1, none⟩ = some (.int .u32 ((L.getD (i / 32) 0 : Nat) : Int)) := hq1
        refine gg ?_
        refine R1_quo_i64_c rfl (by omega) (by decide) ?_
        have hlt32 : i / (OfNat.ofNat 32) < l1.length := hij
        refine gg ?_
        refine R1_rem_i64_c rfl (by decide) ?_
        refine gg ?_
        refine R1_shl_u32_l rfl (Nat.mod_lt _ (by decide)) ?_
        refine gg ?_
        refine R1_or_u32 rfl rfl bq (Nat.mod_lt _ (by decide)) ?_
        have eo : (L.getD (i / 32) 0 ||| (OfNat.ofNat 1 * 2 ^ (i % (OfNat.ofNat 32))) % 4294967296 : Nat) = L.getD (i / 32) 0 + 2 ^ (i % 32) := hor.1
        rw [eo]
        refine gg ?_
        refine R1_storeI (one_of rfl) (.inl rfl) rfl rfl hB7 (by rw [cells_size]; show 0 + i / 32 * 1 < _; omega) ?_
        intro w8 hB8 hC8 hs8
        have hB8 : Blk w8 gQ 54 ((cells L).setIfInBounds (0 + i / 32 * 1) (.int .u32 ((L.getD (i / 32) 0 + 2 ^ (i % 32) : Nat) : Int))) := hB8
        rw [cells_set] at hB8
        have hE8 : Ext w w8 := hC8.ext_of (hE.trans (hE16.trans hE7)) (fun b hb => by omega)
        refine gg ?_
        have hdv : (2 * (val l1 / 2 ^ (i + 1) % val l2) + val l1 / 2 ^ i % 2) / val l2 = 1 := by
          refine Nat.div_eq_of_lt_le (by omega) (by omega)
        refine ⟨i, by omega, i, R', _, rfl, by omega, rfl, rfl, rfl, rfl, rfl, hE8, hB8, by simpa using hL, hLim.set hor.2, ?_, ?_⟩
        · have e : val l1 / 2 ^ i % val l2 = val l' := by
            rw [hv', hds.2, ← hv3, Nat.mod_eq_sub_mod hge]
            exact Nat.mod_eq_of_lt (by omega)
          rw [e]
          have h6 := hV6.ext hE7
          obtain ⟨A6, l6, c6, e6, p1, p2, p3, p4, p5⟩ := h6
          refine ⟨A6, l6, c6, e6, p1, p2, p3.ch hC8 (fun ad had hb => ?_), p4, p5⟩
          subst had
          have := hfresh ad.block (by rw [e6]; rfl)
          have := hB.lt
          have := (hE14.trans hE5).size
          omega
        · rw [val_set' L (i / 32) _ (2 ^ (i % 32)) (by omega) rfl, hQ, hds.1, hdv]
          generalize val l1 / 2 ^ (i + 1) / val l2 = q
          rw [Nat.add_mul, Nat.one_mul, B_pow, ← Nat.pow_add, show 32 * (i / 32) + i % 32 = i by omega, Nat.pow_succ, Nat.mul_comm (2 ^ i) 2, ← Nat.mul_assoc, Nat.mul_comm q 2]
      · have hcz : ¬ (0 : Int) ≤ cmpZ (val t3) (val l2) := by unfold cmpZ; rw [if_pos (by omega)]; decide
        refine gg ?_
        have hdv : (2 * (val l1 / 2 ^ (i + 1) % val l2) + val l1 / 2 ^ i % 2) / val l2 = 0 := Nat.div_eq_of_lt (by omega)
        refine ⟨i, by omega, i, _, L, rfl, by omega, rfl, rfl, rfl, rfl, rfl, hE.trans hE14, hB.ext hE14, hL, hLim, ?_, ?_⟩
        · have e : val l1 / 2 ^ i % val l2 = val t3 := by rw [hds.2, ← hv3]; exact Nat.mod_eq_of_lt (by omega)
          rw [e]
          exact ⟨T3, t3, d3, rfl, hd31, hd32, hT3.ext hE4, ht3, rfl⟩
        · rw [hQ, hds.1, hdv]
          generalize val l1 / 2 ^ (i + 1) / val l2 = q
          rw [Nat.add_zero (2 * q), Nat.pow_succ, Nat.mul_comm (2 ^ i) 2, ← Nat.mul_assoc, Nat.mul_comm q 2]
end Go.Proofs.Ytimjiaabaanbeaa
