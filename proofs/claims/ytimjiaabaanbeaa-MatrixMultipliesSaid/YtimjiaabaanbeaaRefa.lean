/- The reference's integers: trim, Make, Normalize, Abs, Neg, word, Small, cmp, Same. -/
import Derived.Test.YtimjiaabaanbeaaIntd
namespace Go.Proofs.Ytimjiaabaanbeaa
open Go Go.Eng Go.Num Go.Proofs

theorem natV_own {w : World} {base : Nat} {v : Value} {l : List Nat} (hl : Lim l) (ht : Trimd l) (h : w.ownsRow base 54 1 v l.length (l.map fun x => Value.int .u32 ((x : Nat) : Int))) : NatV w v (val l) := by
  rcases own_lb h with ⟨rfl, rfl⟩ | ⟨g, c, rfl, _, h1, h2, h3⟩
  · exact natV_nil w
  · exact ⟨_, l, c, rfl, h1, by omega, h3.mag hl, ht, rfl⟩

set_option maxHeartbeats 8000000 in
theorem rtrimF_ok (A : Option Addr) (n c : Nat) (l : List Nat) (w : World) (h : Mag w A l) (hn : l.length = n) (hc : n ≤ c) (hl : n < 1099511627776) :
    Meets Try.prog 92 #[.slice A n c] w fun v w' => Ext w w' ∧ NatV w' v (val l) ∧ ∀ b, v.ownBlock = some b → w.heap.size ≤ b := by
  subst hn
  refine fn_W (n := 22) Try.func92 rfl rfl (by kernel_rfl) (by simp) ?_
  refine gg ?_
  refine W_seqM (fun f w' => w = w' ∧ ∃ m, m ≤ l.length ∧ f 0 = .slice A l.length c ∧ f 3 = .int .i64 ((m : Nat) : Int) ∧ Trimd (l.take m) ∧ val (l.take m) = val l) ?_ ?_
  · refine W_block ?_
    refine W_loop (fun m f w' => w = w' ∧ m ≤ l.length ∧ f 0 = .slice A l.length c ∧ f 3 = .int .i64 ((m : Nat) : Int) ∧ val (l.take m) = val l) l.length ⟨rfl, Nat.le_refl _, rfl, rfl, by simp⟩ ?_
    rintro m f w' ⟨rfl, hm, h0, h3, hv⟩
    rw [ui h0, ui h3]
    refine W_seq ?_
    rcases m with _ | m
    · refine gg ?_
      exact ⟨rfl, 0, by omega, rfl, rfl, by simp [Trimd.nil], hv⟩
    · obtain ⟨ad, rfl, hcell⟩ := h.at (j := m) (by omega)
      have hcm := hcell m (by omega)
      refine gg ?_
      refine W_cond rfl (fun hc => ?_) (fun hc => ?_)
      · refine gg ?_
        refine ⟨m, by omega, rfl, by omega, rfl, rfl, ?_⟩
        have h0 : l.getD m 0 = 0 := by simpa using hc
        rw [← hv, val_take_succ l m (by omega), h0, Nat.mul_zero, Nat.add_zero]
      · refine gg ?_
        exact ⟨rfl, m + 1, by omega, rfl, rfl, trimd_take (by omega) (by simpa using hc), hv⟩
  · rintro f w' ⟨rfl, m, hm, hf0, hf3, htr, hv⟩
    rw [ui hf0, ui hf3]
    refine gg ?_
    refine R1_append (base := w.heap.size) (m0 := 0) (xs := []) (news := (l.take m).map fun x => Value.int .u32 ((x : Nat) : Int)) (v := .slice _ _ _) sl_u32 rfl (by decide) (.inl rfl) rfl (World.ownsRow_nil _ _ _ _) rfl (by rw [List.length_map, List.length_take_of_le hm, Nat.mul_one]) (mag_src (h.take m)) (limbs_one _) (by omega) (by omega) (Nat.le_refl _) ?_
    intro v' w' hown hC _
    refine gg ?_
    rw [Nat.zero_add, List.nil_append] at hown
    have hown' : w'.ownsRow w.heap.size 54 1 v' (l.take m).length ((l.take m).map fun x => Value.int .u32 ((x : Nat) : Int)) := by rw [List.length_take_of_le hm]; exact hown
    refine ret1 (v := v') rfl rfl ⟨hC.ext_of (Ext.refl _) (fun b hb => by simp [Value.ownBlock] at hb), ?_, ?_⟩
    · rw [← hv]; exact natV_own (h.lim.take m) htr hown'
    · intro b hb
      rcases own_lb hown' with ⟨rfl, _⟩ | ⟨g, c', rfl, h1, _⟩
      · simp [Value.ownBlock] at hb
      · simp [Value.ownBlock] at hb; omega
theorem rtrim_ok (A : Option Addr) (n c : Nat) (l : List Nat) (w : World) (h : Mag w A l) (hn : l.length = n) (hc : n ≤ c) (hl : n < 1099511627776) :
    Meets Try.prog 92 #[.slice A n c] w fun v w' => Ext w w' ∧ NatV w' v (val l) :=
  (rtrimF_ok A n c l w h hn hc hl).mono fun _ _ hp => ⟨hp.1, hp.2.1⟩

set_option maxHeartbeats 8000000 in
theorem make_ok (neg : Bool) (A : Option Addr) (n c : Nat) (l : List Nat) (w : World) (h : Mag w A l) (hn : l.length = n) (hc : n ≤ c) (hl : n < 1099511627776) :
    Meets Try.prog 77 #[.bool neg, .slice A n c] w (RI w (sg neg (val l))) := by
  subst hn
  refine fn_W (n := 16) Try.func77 rfl rfl (by kernel_rfl) (by simp) ?_
  refine gg ?_
  refine R1_alloc (.inl rfl) z_Int ?_
  intro w1 hB hE hs
  refine gg ?_
  refine R1_call2 (rtrim_ok _ _ _ _ w1 (h.ext hE) rfl hc hl) ?_
  rintro v w2 ⟨hE2, A', l', c', rfl, hc', hd', hM', ht', hv'⟩
  by_cases hx : neg = true ∧ 0 < l'.length
  · obtain ⟨rfl, hpos⟩ := hx
    refine gg ?_
    refine R1_bld2 (v0 := .bool (decide _)) (v1 := .slice _ _ _) b2_Int rfl rfl rfl rfl ?_
    rw [decide_eq_true hpos]
    refine gg ?_
    refine R1_store2 agg_Int (.inl rfl) rfl rfl rfl rfl (hB.ext hE2) (by decide) ?_
    intro w3 hB3 hC3 hs3
    refine gg ?_
    have hE3 := hC3.ext_of (hE.trans hE2) (fun b hb => by omega)
    refine retC rfl agg_Int rfl hB3 ⟨hE3, _, _, rfl, true, A', l', c', rfl, rfl, hc', hd', hM'.keep (hB.ext hE2) noInt2 hC3, ht', fun e => absurd hpos (by rw [e]; simp), by rw [hv']⟩
  · have hb : (neg && decide (0 < l'.length)) = false := by cases neg <;> simp_all
    cases neg
    · refine gg ?_
      refine R1_bld2 (v0 := .bool _) (v1 := .slice _ _ _) b2_Int rfl rfl rfl rfl ?_
      refine gg ?_
      refine R1_store2 agg_Int (.inl rfl) rfl rfl rfl rfl (hB.ext hE2) (by decide) ?_
      intro w3 hB3 hC3 hs3
      refine gg ?_
      have hE3 := hC3.ext_of (hE.trans hE2) (fun b hb => by omega)
      refine retC rfl agg_Int rfl hB3 ⟨hE3, _, _, rfl, false, A', l', c', rfl, rfl, hc', hd', hM'.keep (hB.ext hE2) noInt2 hC3, ht', fun _ => rfl, by rw [hv']⟩
    · have hz : ¬ 0 < l'.length := fun h => hx ⟨rfl, h⟩
      have hl' : l' = [] := List.eq_nil_of_length_eq_zero (by omega)
      refine gg ?_
      refine R1_bld2 (v0 := .bool (decide _)) (v1 := .slice _ _ _) b2_Int rfl rfl rfl rfl ?_
      rw [decide_eq_false hz]
      refine gg ?_
      refine R1_store2 agg_Int (.inl rfl) rfl rfl rfl rfl (hB.ext hE2) (by decide) ?_
      intro w3 hB3 hC3 hs3
      refine gg ?_
      have hE3 := hC3.ext_of (hE.trans hE2) (fun b hb => by omega)
      refine retC rfl agg_Int rfl hB3 ⟨hE3, _, _, rfl, false, A', l', c', rfl, rfl, hc', hd', hM'.keep (hB.ext hE2) noInt2 hC3, ht', fun _ => rfl, ?_⟩
      rw [← hv', hl']; rfl
end Go.Proofs.Ytimjiaabaanbeaa
