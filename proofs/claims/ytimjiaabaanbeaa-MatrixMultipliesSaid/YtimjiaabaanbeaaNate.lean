/- The program's natural numbers: shiftRight, bits.Len32, bits.LeadingZeros32. -/
import Derived.Test.YtimjiaabaanbeaaNatd
namespace Go.Proofs.Ytimjiaabaanbeaa
open Go Go.Eng Go.Num Go.Proofs

set_option maxHeartbeats 8000000 in
theorem shiftRight_ok (g n c s : Nat) (L : List Nat) (w : World) (hL : Lb w g L) (hlim : Lim L) (hn : L.length = n) (hl : n < 2199023255552) (hs : s < 32) :
    Meets Try.prog 111 #[.slice (some ⟨g, 0, none⟩) n c, .int .i64 ((s : Nat) : Int)] w fun _ w' => Ch (fun q => q = g) w w' ∧ w'.heap.size = w.heap.size ∧ Lb w' g (sr s L) := by
  subst hn
  refine fn_W (n := 38) Try.func111 rfl rfl (by kernel_rfl) (by simp) ?_
  refine gg ?_
  refine W_loop (fun m f w' => ∃ i L', m = L.length - i ∧ i ≤ L.length ∧ f 0 = .slice (some ⟨g, 0, none⟩) L.length c ∧ f 1 = .int .i64 ((s : Nat) : Int) ∧ f 7 = .int .i64 ((L.length : Nat) : Int) ∧ f 8 = .int .i64 ((i : Nat) : Int) ∧
    Ch (fun q => q = g) w w' ∧ w'.heap.size = w.heap.size ∧ Lb w' g L' ∧ L'.length = L.length ∧ (∀ j, j < i → L'.getD j 0 = (sr s L).getD j 0) ∧ (∀ j, i ≤ j → L'.getD j 0 = L.getD j 0))
    L.length ⟨0, L, rfl, Nat.zero_le _, rfl, rfl, rfl, rfl, Ch.refl _ _, rfl, hL, rfl, fun j hj => absurd hj (by omega), fun _ _ => rfl⟩ ?_
  rintro m f w1 ⟨i, L', rfl, hi, hf0, hf1, hf7, hf8, hC, hsz, hL', hlen, hdone, hsame⟩
  rw [ui hf0, ui hf1, ui hf7, ui hf8]
  clear hf0 hf1 hf7 hf8
  by_cases hlt : i < L.length
  · have hx := hL'.at (j := i) (by omega)
    rw [hsame i (Nat.le_refl i)] at hx
    have bx := hlim.getD i
    refine gg ?_
    by_cases hi2 : i + 1 < L.length
    · have hy := hL'.at (j := i + 1) (by omega)
      rw [hsame (i + 1) (by omega)] at hy
      have bY := hlim.getD (i + 1)
      have hso := shl_or (L.getD (i + 1) 0) (L.getD i 0) bY bx
      have hg := sr_get2 s L i hi2
      refine W_seq ?_
      refine gg ?_
      refine R1_or_u64 rfl rfl (by omega) (Nat.mod_lt _ (by decide)) ?_
      rw [Nat.or_comm, show L.getD (i + 1) 0 * 2 ^ (OfNat.ofNat 32) % 18446744073709551616 ||| L.getD i 0 = L.getD (i + 1) 0 * 4294967296 + L.getD i 0 from hso.1]
      refine gg ?_
      refine R1_shr_u64 rfl rfl (by omega) ?_
      refine gg ?_
      obtain ⟨sp, hB⟩ := hL'
      refine R1_storeI (one_of rfl) (.inl rfl) rfl rfl hB (by rw [Array.size_append, cells_size]; omega) ?_
      intro w3 hB3 hC3 hs3
      refine gg ?_
      refine ⟨_, ?_, i + 1, _, rfl, by omega, rfl, rfl, rfl, rfl, hC.trans hC3, hs3.trans hsz, Lb.set (by omega) hB3, by simpa using hlen, fun j hj => ?_, fun j hj => by rw [Num.getD_set_ne (by omega)]; exact hsame j (by omega)⟩
      · omega
      · by_cases e : j = i
        · subst e
          have hjl : j < L'.length := by omega
          rw [hg, getD_set_self hjl]
        · rw [Num.getD_set_ne (by omega)]; exact hdone j (by omega)
    · have hg := sr_get1 s L i hlt hi2
      refine W_seq ?_
      refine gg ?_
      refine R1_shr_u64 rfl rfl (by omega) ?_
      refine gg ?_
      obtain ⟨sp, hB⟩ := hL'
      refine R1_storeI (one_of rfl) (.inl rfl) rfl rfl hB (by rw [Array.size_append, cells_size]; omega) ?_
      intro w3 hB3 hC3 hs3
      refine gg ?_
      refine ⟨_, ?_, i + 1, _, rfl, by omega, rfl, rfl, rfl, rfl, hC.trans hC3, hs3.trans hsz, Lb.set (by omega) hB3, by simpa using hlen, fun j hj => ?_, fun j hj => by rw [Num.getD_set_ne (by omega)]; exact hsame j (by omega)⟩
      · omega
      · by_cases e : j = i
        · subst e
          have hjl : j < L'.length := by omega
          have hsmall : L.getD j 0 / 2 ^ s < 4294967296 := Nat.lt_of_le_of_lt (Nat.div_le_self _ _) bx
          rw [hg, Nat.mod_eq_of_lt hsmall, getD_set_self hjl]
        · rw [Num.getD_set_ne (by omega)]; exact hdone j (by omega)
  · refine gg ?_
    have : i = L.length := by omega
    subst this
    have e : L' = sr s L := ext_getD (by rw [sr_len, hlen]) (fun j hj => hdone j (by omega))
    subst e
    exact ret0 rfl ⟨hC, hsz, hL'⟩

theorem R1_indexTab {P : Program} {n : Nat} {S : World → World → Prop} {k : Nat} {K : Fr → World → Prop} {f : Fr} {w : World} {d ty t : Nat} {x y : Operand} {pos : String} {aft : Array Edge} {gd : Option (Nat × Bool)} {s : ByteArray} {kk : IntKind} {j : Nat}
    (hT : TyD P t .string) (hx : ev n f x = .string s) (hy : ev n f y = .int kk ((j : Nat) : Int)) (htab : tabOk s = true) (hj : j < 256) (h : ∀ b : Nat, okLen j b = true → b ≤ 8 → K (upd f d (.int .u8 ((b : Nat) : Int))) w) :
    R1 P n S k ⟨some d, .index t x y, ty, pos, aft, gd⟩ K f w := by
  obtain ⟨b, hb, h1, h2⟩ := tab_at htab hj
  exact R1_indexStr hT hx hy hb (h _ h1 h2)

set_option maxHeartbeats 8000000 in
theorem len32_ok (x : Nat) (w : World) (hx : x < 4294967296) :
    Meets Try.prog 113 #[.int .u32 ((x : Nat) : Int)] w fun v w' => w = w' ∧ ∃ b : Nat, v = .int .i64 ((b : Nat) : Int) ∧ okLen x b = true ∧ b ≤ 32 := by
  refine fn_W (n := 19) Try.func113 rfl rfl (by kernel_rfl) (by simp) ?_
  refine gg ?_
  refine W_seqM (fun f w' => w = w' ∧ ∃ y k : Nat, f 0 = .int .u32 ((y : Nat) : Int) ∧ f 2 = .int .i64 ((k : Nat) : Int) ∧ (k = 0 ∨ k = 16) ∧ y < 65536 ∧ y = x / 2 ^ k ∧ (k = 16 → 2 ^ k ≤ x)) ?_ ?_
  · by_cases h : 65536 ≤ x
    · refine gg ?_
      refine R1_geq_u32_c rfl ?_
      refine gg ?_
      refine R1_shr_u32_c rfl (by omega) ?_
      refine gg ?_
      exact ⟨rfl, _, 16, rfl, rfl, .inr rfl, by omega, rfl, fun _ => by omega⟩
    · refine gg ?_
      refine R1_geq_u32_c rfl ?_
      refine gg ?_
      exact ⟨rfl, x, 0, rfl, rfl, .inl rfl, by omega, by simp, fun h => absurd h (by omega)⟩
  · rintro f w' ⟨rfl, y, k, hf0, hf2, hk, hy, hyx, hkx⟩
    rw [ui hf0, ui hf2]
    refine W_seqM (fun f w' => w = w' ∧ ∃ y k : Nat, f 0 = .int .u32 ((y : Nat) : Int) ∧ f 2 = .int .i64 ((k : Nat) : Int) ∧ k ≤ 24 ∧ y < 256 ∧ y = x / 2 ^ k ∧ (k ≠ 0 → 2 ^ k ≤ x)) ?_ ?_
    · by_cases h : 256 ≤ y
      · refine gg ?_
        refine R1_geq_u32_c rfl ?_
        refine gg ?_
        refine R1_shr_u32_c rfl (by omega) ?_
        refine gg ?_
        refine ⟨rfl, _, k + 8, rfl, rfl, by omega, by omega, ?_, fun _ => ?_⟩
        · subst hyx; rw [Nat.pow_add, Nat.div_div_eq_div_mul]
        · subst hyx
          have hp : 0 < 2 ^ k := Nat.two_pow_pos k
          have := (Nat.le_div_iff_mul_le hp).1 h
          rw [Nat.pow_add, Nat.mul_comm]; exact this
      · refine gg ?_
        refine R1_geq_u32_c rfl ?_
        refine gg ?_
        exact ⟨rfl, y, k, rfl, rfl, by omega, by omega, hyx, fun h => hkx (by omega)⟩
    · clear hf0 hf2 hk hy hyx hkx f y k
      rintro f w' ⟨rfl, y, k, hf0, hf2, hk, hy, hyx, hkx⟩
      rw [ui hf0, ui hf2]
      refine gg ?_
      refine R1_u32_u8 ty_u32 ty_u8 rfl ?_
      rw [Nat.mod_eq_of_lt hy]
      refine gg ?_
      refine R1_indexTab ty_str rfl rfl (by kernel_rfl) hy ?_
      intro b hb hb8
      refine gg ?_
      refine ret1 (v := .int _ _) rfl rfl ⟨rfl, _, rfl, ?_, by omega⟩
      by_cases hk0 : k = 0
      · subst hk0
        simp at hyx
        subst hyx
        simpa using hb
      · exact okLen_shift x k b (hkx hk0) (by rw [← hyx]; exact hb)

set_option maxHeartbeats 8000000 in
theorem leadingZeros_ok (x : Nat) (w : World) (hx : x < 4294967296) (h0 : 0 < x) :
    Meets Try.prog 108 #[.int .u32 ((x : Nat) : Int)] w fun v w' => w = w' ∧ ∃ s : Nat, v = .int .i64 ((s : Nat) : Int) ∧ s < 32 ∧ 2147483648 ≤ x * 2 ^ s ∧ x * 2 ^ s < 4294967296 := by
  refine fn_W (n := 6) Try.func108 rfl rfl (by kernel_rfl) (by simp) ?_
  refine gg ?_
  refine R1_call2 (len32_ok x w hx) ?_
  rintro v w' ⟨rfl, b, rfl, hb, hb2⟩
  refine gg ?_
  unfold okLen at hb
  rw [if_neg (by omega)] at hb
  simp only [decide_eq_true_eq] at hb
  refine ret1 (v := .int _ _) rfl rfl ⟨rfl, _, rfl, ?_, ?_, ?_⟩
  · show 32 - b < 32; omega
  · show 2147483648 ≤ x * 2 ^ (32 - b)
    have : 2 ^ (b - 1) * 2 ^ (32 - b) ≤ x * 2 ^ (32 - b) := Nat.mul_le_mul_right _ hb.2.1
    rw [← Nat.pow_add, show b - 1 + (32 - b) = 31 by omega] at this
    exact this
  · show x * 2 ^ (32 - b) < 4294967296
    have : x * 2 ^ (32 - b) < 2 ^ b * 2 ^ (32 - b) := Nat.mul_lt_mul_of_pos_right hb.2.2 (Nat.two_pow_pos _)
    rw [← Nat.pow_add, show b + (32 - b) = 32 by omega] at this
    exact this
end Go.Proofs.Ytimjiaabaanbeaa
