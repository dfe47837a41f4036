/- The reference's integers: sum, difference, Add, Sub. -/
import Derived.Test.YtimjiaabaanbeaaRefb
namespace Go.Proofs.Ytimjiaabaanbeaa
open Go Go.Eng Go.Num Go.Proofs

theorem val_take_succ' (l : List Nat) (k : Nat) : val (l.take (k + 1)) = val (l.take k) + B ^ k * l.getD k 0 := by
  by_cases h : k < l.length
  · exact val_take_succ l k h
  · rw [val_take_ge _ _ (by omega), val_take_ge _ _ (by omega)]
    simp [List.getD, h]
theorem val_snoc (l : List Nat) (x : Nat) : val (l ++ [x]) = val l + B ^ l.length * x := by rw [val_append]; simp [val]
theorem lim_snoc {l : List Nat} (h : Lim l) {x : Nat} (hx : x < 4294967296) : Lim (l ++ [x]) := by
  intro y hy
  rcases List.mem_append.1 hy with h' | h'
  · exact h y h'
  · simp at h'; rw [h']; exact hx

/-- a list of limbs of the call's own that is appended to -/
def OwL (w : World) (base : Nat) (v : Value) (l : List Nat) : Prop := Lim l ∧ w.ownsRow base 54 1 v l.length (l.map fun x => Value.int .u32 ((x : Nat) : Int))
theorem OwL.nil (w : World) (base : Nat) : OwL w base (.slice none 0 0) [] := ⟨(fun _ h => by cases h), World.ownsRow_nil _ _ _ _⟩
theorem OwL.ext {w w' : World} {base : Nat} {v : Value} {l : List Nat} (h : OwL w base v l) (hE : Ext w w') : OwL w' base v l := by
  refine ⟨h.1, h.2.1, ?_⟩
  rcases h.2.2 with h' | ⟨g, cap, cur, h1, h2, h3, h4⟩
  · exact .inl h'
  · have hb : Blk w g 54 cur := h3
    exact .inr ⟨g, cap, cur, h1, h2, hb.ext hE, h4⟩
theorem OwL.blk {w : World} {base : Nat} {v : Value} {l : List Nat} (h : OwL w base v l) {b : Nat} (hb : some b = v.ownBlock) : base ≤ b := by
  rcases h.2.2 with ⟨rfl, _⟩ | ⟨g, cap, cur, rfl, h2, _⟩
  · simp [Value.ownBlock] at hb
  · simp [Value.ownBlock] at hb; omega
/-- limbs, with at most N of them, for the number m -/
def LimV (w : World) (v : Value) (N m : Nat) : Prop := ∃ A l c, v = .slice A l.length c ∧ l.length ≤ c ∧ c < 9223372036854775808 ∧ Mag w A l ∧ l.length ≤ N ∧ val l = m
theorem OwL.limV {w : World} {base N : Nat} {v : Value} {l : List Nat} (h : OwL w base v l) (hN : l.length ≤ N) : LimV w v N (val l) := by
  rcases own_lb h.2 with ⟨rfl, rfl⟩ | ⟨g, c, rfl, _, h1, h2, h3⟩
  · exact ⟨none, [], 0, rfl, Nat.le_refl _, by omega, Mag.nil _ _, by simp, rfl⟩
  · exact ⟨_, l, c, rfl, h1, by omega, h3.mag h.1, hN, rfl⟩
theorem NatV.limV {w : World} {N : Nat} {v : Value} {m : Nat} (h : NatV w v m) (hm : m < B ^ N) : LimV w v N m := by
  obtain ⟨A, l, c, h1, h2, h3, h4, h5, h6⟩ := h
  refine ⟨A, l, c, h1, h2, h3, h4, ?_, h6⟩
  rcases Nat.lt_or_ge N l.length with h' | h'
  · exfalso
    have hne : l ≠ [] := by rintro rfl; simp at h'
    have a := val_top hne h5
    have b : B ^ N ≤ B ^ (l.length - 1) := Nat.pow_le_pow_right (by decide) (by omega)
    omega
  · exact h'

section
variable {n : Nat} {S : World → World → Prop} {k : Nat} {K : Fr → World → Prop} {f : Fr} {w : World}
  {d ty t t2 : Nat} {x y : Operand} {pos : String} {aft : Array Edge} {gd : Option (Nat × Bool)}
/-- append(x, limb), the limb being in a slice of one -/
theorem R1_push {base g a : Nat} {v : Value} {l : List Nat} (hk : k = 2) (hx : ev n f x = v) (hown : OwL w base v l) (hy : ev n f y = .slice (some ⟨g, 0, none⟩) 1 1) (hb : Blk w g 54 #[.int .u32 ((a : Nat) : Int)]) (ha : a < 4294967296)
    (hl : l.length < 4398046511104) (hbase : base ≤ w.heap.size)
    (h : ∀ v' w', OwL w' base v' (l ++ [a]) → Ch (fun b => some b = v.ownBlock) w w' → K (upd f d v') w') :
    R1 Try.prog n S k ⟨some d, .call { callee := .builtin .append, args := #[x, y], argTypes := #[33, 33] }, ty, pos, aft, gd⟩ K f w := by
  refine R1_append (base := base) (m0 := l.length) (m := 1) (news := [.int .u32 ((a : Nat) : Int)]) (v := v) sl_u32 rfl (by decide) (.inl hk) hx hown.2 hy rfl (fun j u hj => ?_) (fun u hu => by simp at hu; subst hu; rfl) (by omega) (by omega) hbase ?_
  · match j, hj with
    | 0, hj => simp at hj; subst hj; exact ⟨_, rfl, by rw [add_lit, hb.cell]; rfl⟩
    | j + 1, hj => simp at hj
  · intro v' w' ho hC _
    refine h v' w' ⟨lim_snoc hown.1 ha, ?_⟩ hC
    rw [List.length_append, List.map_append]
    exact ho
end

set_option maxHeartbeats 8000000 in
theorem rsum_ok (A1 A2 : Option Addr) (n1 n2 c1 c2 : Nat) (l1 l2 : List Nat) (w : World) (h1 : Mag w A1 l1) (h2 : Mag w A2 l2) (hn1 : l1.length = n1) (hn2 : l2.length = n2) (hl1 : n1 < 1099511627776) (hl2 : n2 < 1099511627776) :
    Meets Try.prog 93 #[.slice A1 n1 c1, .slice A2 n2 c2] w fun v w' => Ext w w' ∧ LimV w' v (n1 + n2 + 1) (val l1 + val l2) := by
  subst hn1 hn2
  refine fn_W (n := 54) Try.func93 rfl rfl (by kernel_rfl) (by simp) ?_
  refine gg ?_
  refine W_seqM (fun f w' => ∃ v l c, f 5 = v ∧ f 6 = .int .u64 ((c : Nat) : Int) ∧ Ext w w' ∧ OwL w' w.heap.size v l ∧ l.length ≤ l1.length + l2.length ∧ c ≤ 1 ∧ val l + c * B ^ l.length = val l1 + val l2) ?_ ?_
  · refine gg ?_
    refine W_loop (fun m f w' => ∃ i v l c, m = l1.length + l2.length - i ∧ f 0 = .slice A1 l1.length c1 ∧ f 1 = .slice A2 l2.length c2 ∧ f 5 = v ∧ f 6 = .int .u64 ((c : Nat) : Int) ∧ f 7 = .int .i64 ((i : Nat) : Int) ∧ Ext w w' ∧ OwL w' w.heap.size v l ∧ l.length = i ∧ i ≤ l1.length + l2.length ∧ c ≤ 1 ∧
      val l + c * B ^ i = val (l1.take i) + val (l2.take i)) (l1.length + l2.length) ⟨0, _, [], 0, rfl, rfl, rfl, rfl, rfl, rfl, Ext.refl _, OwL.nil _ _, rfl, by omega, by omega, by simp [val]⟩ ?_
    rintro m f w1 ⟨i, v, l, c, rfl, hf0, hf1, hf5, hf6, hf7, hE, hO, hl, hi, hc, hv⟩
    rw [ui hf0, ui hf1, ui hf5, ui hf6, ui hf7]
    clear hf0 hf1 hf5 hf6 hf7
    refine W_seq ?_
    have bx := h1.lim.getD i
    have bY := h2.lim.getD i
    by_cases hcont : i < l1.length ∨ i < l2.length
    · by_cases hi1 : i < l1.length
      · obtain ⟨ad, rfl, hc1⟩ := (h1.ext hE).at (j := i) (by omega)
        have hx := hc1 i (by omega)
        refine gg ?_
        refine W_seqM (fun f w' => w1 = w' ∧ f 0 = .slice (some ad) l1.length c1 ∧ f 1 = .slice A2 l2.length c2 ∧ f 5 = v ∧ f 6 = .int .u64 ((c + l1.getD i 0 : Nat) : Int) ∧ f 7 = .int .i64 ((i : Nat) : Int)) ?_ ?_
        · refine W_seq ?_
          refine gg ?_
          exact ⟨rfl, rfl, rfl, rfl, rfl, rfl⟩
        rintro f w' ⟨rfl, hf0, hf1, hf5, hf6, hf7⟩
        rw [ui hf0, ui hf1, ui hf5, ui hf6, ui hf7]
        clear hf0 hf1 hf5 hf6 hf7 hx
        refine W_seqM (fun f w' => w1 = w' ∧ f 0 = .slice (some ad) l1.length c1 ∧ f 1 = .slice A2 l2.length c2 ∧ f 5 = v ∧ f 6 = .int .u64 ((c + l1.getD i 0 + l2.getD i 0 : Nat) : Int) ∧ f 7 = .int .i64 ((i : Nat) : Int)) ?_ ?_
        · refine W_seq ?_
          by_cases hi2 : i < l2.length
          · obtain ⟨ad', rfl, hc2⟩ := (h2.ext hE).at (j := i) (by omega)
            have hy := hc2 i (by omega)
            refine gg ?_
            exact ⟨rfl, rfl, rfl, rfl, rfl, rfl⟩
          · have : l2.getD i 0 = 0 := by simp [List.getD, hi2]
            refine gg ?_
            exact ⟨rfl, rfl, rfl, rfl, by rw [this]; rfl, rfl⟩
        rintro f w' ⟨rfl, hf0, hf1, hf5, hf6, hf7⟩
        rw [ui hf0, ui hf1, ui hf5, ui hf6, ui hf7]
        clear hf0 hf1 hf5 hf6 hf7
        refine gg ?_
        refine R1_build1 sl_u32 rfl (.inl rfl) rfl rfl ?_
        intro w2 hB2 hE2 hs2
        refine gg ?_
        refine R1_push rfl rfl (hO.ext hE2) rfl hB2 (Nat.mod_lt _ (by decide)) (by omega) (by have := hE.size; omega) ?_
        intro v' w3 hO3 hC3
        refine gg ?_
        refine ⟨_, ?_, i + 1, v', _, _, rfl, rfl, rfl, rfl, rfl, rfl, hC3.ext_of (hE.trans hE2) (fun b hb => hO.blk hb), hO3, by simp [hl], by omega, ?_, ?_⟩
        · omega
        · omega
        · have e := add_step (B ^ i) (val l) c _ (l1.getD i 0) (l2.getD i 0) hv
          rw [val_snoc, hl, val_take_succ' l1, val_take_succ' l2, Nat.pow_succ, Nat.add_assoc c]
          refine e.trans ?_
          omega
      · have hi2 : i < l2.length := by omega
        have hx0 : l1.getD i 0 = 0 := by simp [List.getD, hi1]
        obtain ⟨ad', rfl, hc2⟩ := (h2.ext hE).at (j := i) (by omega)
        have hy := hc2 i (by omega)
        refine gg ?_
        refine W_seq ?_
        refine W_seq ?_
        refine gg ?_
        refine W_seq ?_
        refine W_seq ?_
        refine gg ?_
        refine R1_build1 sl_u32 rfl (.inl rfl) rfl rfl ?_
        intro w2 hB2 hE2 hs2
        refine gg ?_
        refine R1_push rfl rfl (hO.ext hE2) rfl hB2 (Nat.mod_lt _ (by decide)) (by omega) (by have := hE.size; omega) ?_
        intro v' w3 hO3 hC3
        refine gg ?_
        refine ⟨_, ?_, i + 1, v', _, _, rfl, rfl, rfl, rfl, rfl, rfl, hC3.ext_of (hE.trans hE2) (fun b hb => hO.blk hb), hO3, by simp [hl], by omega, ?_, ?_⟩
        · omega
        · omega
        · have e := add_step1 (B ^ i) (val l) c _ (l2.getD i 0) hv
          rw [val_snoc, hl, val_take_succ' l1, val_take_succ' l2, Nat.pow_succ, hx0, Nat.mul_zero, Nat.add_zero]
          refine e.trans ?_
          omega
    · refine gg ?_
      rw [val_take_ge l1 i (by omega), val_take_ge l2 i (by omega)] at hv
      exact ⟨v, l, c, rfl, rfl, hE, hO, by omega, hc, by rw [hl]; exact hv⟩
  · rintro f w1 ⟨v, l, c, hf5, hf6, hE, hO, hl, hc, hv⟩
    rw [ui hf5, ui hf6]
    clear hf5 hf6
    refine gg ?_
    refine R1_build1 sl_u32 rfl (.inl rfl) rfl rfl ?_
    intro w2 hB2 hE2 hs2
    refine gg ?_
    refine R1_push rfl rfl (hO.ext hE2) rfl hB2 (Nat.mod_lt _ (by decide)) (by omega) (by have := hE.size; omega) ?_
    intro v' w3 hO3 hC3
    refine gg ?_
    refine ret1 (v := v') rfl rfl ⟨hC3.ext_of (hE.trans hE2) (fun b hb => hO.blk hb), ?_⟩
    have := hO3.limV (N := l1.length + l2.length + 1) (by simp; omega)
    rw [val_snoc, Nat.mod_eq_of_lt (by omega), Nat.mul_comm, hv] at this
    exact this
end Go.Proofs.Ytimjiaabaanbeaa
