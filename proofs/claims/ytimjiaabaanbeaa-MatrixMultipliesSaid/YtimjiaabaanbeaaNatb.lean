/- The program's natural numbers: word, fromWord, slices.Clone. -/
import Derived.Test.YtimjiaabaanbeaaNata
namespace Go.Proofs.Ytimjiaabaanbeaa
open Go Go.Eng Go.Num Go.Proofs

theorem or_step (i a x : Nat) (hi : i ≤ 1) (ha : a < B ^ i) (hx : x < 4294967296) : a ||| (x * 2 ^ (32 * i)) % 18446744073709551616 = a + B ^ i * x ∧ a + B ^ i * x < 18446744073709551616 ∧ a < 18446744073709551616 := by
  have hB : B = 4294967296 := rfl
  rcases (by omega : i = 0 ∨ i = 1) with rfl | rfl
  · simp only [Nat.pow_zero] at ha
    have : a = 0 := by omega
    subst this
    simp; omega
  · rw [hB, Nat.pow_one] at *
    have e : x * 2 ^ (32 * 1) % 18446744073709551616 = 2 ^ 32 * x := by omega
    have e2 := Nat.two_pow_add_eq_or_of_lt (i := 32) (b := a) (by omega) x
    rw [e, Nat.or_comm, ← e2]
    omega

set_option maxHeartbeats 4000000 in
theorem word_ok (A : Option Addr) (n c : Nat) (l : List Nat) (w : World) (h : Mag w A l) (hn : l.length = n) (hl : n ≤ 2) :
    Meets Try.prog 95 #[.slice A n c] w fun v w' => w = w' ∧ v = .int .u64 ((val l : Nat) : Int) := by
  subst hn
  refine fn_W (n := 22) Try.func95 rfl rfl (by kernel_rfl) (by simp) ?_
  refine gg ?_
  refine W_seq ?_
  refine gg ?_
  refine W_loop (fun m f w' => ∃ i, m = l.length - i ∧ i ≤ l.length ∧ f 3 = .int .u64 ((val (l.take i) : Nat) : Int) ∧ f 6 = .slice A l.length c ∧ f 7 = .int .i64 ((l.length : Nat) : Int) ∧ f 8 = .int .i64 ((i : Nat) : Int) ∧ w = w')
    l.length ⟨0, rfl, Nat.zero_le _, rfl, rfl, rfl, rfl, rfl⟩ ?_
  rintro m f w1 ⟨i, rfl, hi, hf3, hf6, hf7, hf8, rfl⟩
  rw [ui hf3, ui hf6, ui hf7, ui hf8]
  by_cases hlt : i < l.length
  · obtain ⟨ad, rfl, hc⟩ := h.at (j := i) (by omega)
    have hx := hc i (by omega)
    have bx := h.lim.getD i
    have hor := or_step i (val (l.take i)) (l.getD i 0) (by omega) (val_take_lt h.lim i) bx
    refine gg ?_
    refine R1_shl_u64 rfl rfl (by omega) ?_
    refine gg ?_
    refine R1_or_u64 rfl rfl hor.2.2 (Nat.mod_lt _ (by decide)) ?_
    refine gg ?_
    refine ⟨_, ?_, i + 1, rfl, by omega, ?_, rfl, rfl, rfl, rfl⟩
    · omega
    · rw [val_take_succ l i (by omega), ← hor.1]; rfl
  · refine gg ?_
    refine ret1 (v := .int _ _) rfl rfl ⟨rfl, ?_⟩
    rw [List.take_of_length_le (by omega)]

set_option maxHeartbeats 4000000 in
theorem fromWord_ok (x : Nat) (w : World) (hx : x < 18446744073709551616) :
    Meets Try.prog 100 #[.int .u64 ((x : Nat) : Int)] w fun v w' => Ext w w' ∧ NatV w' v x := by
  refine fn_W (n := 10) Try.func100 rfl rfl (by kernel_rfl) (by simp) ?_
  refine gg ?_
  refine R1_build2 (v0 := .int _ _) (v1 := .int _ _) sl_u32 rfl (.inl rfl) rfl rfl rfl rfl ?_
  intro w1 hB hE hsz
  have hB' : Blk w1 w.heap.size 54 (cells [x % 4294967296, x / 2 ^ 32 % 4294967296]) := hB
  have hl : Lim [x % 4294967296, x / 2 ^ 32 % 4294967296] := by
    intro y hy
    simp at hy
    omega
  refine gg ?_
  refine R1_call2 (trim_ok _ _ _ _ w1 (mag_of_blk hB' hl) rfl (Nat.le_refl _) (by omega)) ?_
  rintro v w4 ⟨rfl, m, hm4, rfl, htr, hval⟩
  refine gg ?_
  refine ret1 (v := .slice _ _ _) rfl rfl ⟨hE, natV_trim (mag_of_blk hB' hl) hm4 (by simp) (by omega) htr hval ?_⟩
  simp only [val, B]
  omega

/-- limbs of the call's own: block g begins with these cells -/
def Lb (w : World) (g : Nat) (L : List Nat) : Prop := ∃ sp, Blk w g 54 (cells L ++ sp)
theorem Lb.of {w : World} {g : Nat} {L : List Nat} (h : Blk w g 54 (cells L)) : Lb w g L := ⟨#[], by simpa using h⟩
theorem Lb.at {w : World} {g : Nat} {L : List Nat} (h : Lb w g L) {j : Nat} (hj : j < L.length) : w.cell? ⟨g, 0 + j * 1, none⟩ = some (.int .u32 ((L.getD j 0 : Nat) : Int)) := by
  obtain ⟨sp, hb⟩ := h
  rw [hb.cell, Array.getElem?_append_left (by rw [cells_size]; omega)]
  simp [cells, hj, List.getD]
theorem Lb.mag {w : World} {g : Nat} {L : List Nat} (h : Lb w g L) (hl : Lim L) : Mag w (some ⟨g, 0, none⟩) L :=
  ⟨hl, fun j hj => ⟨_, rfl, by rw [add_lit]; exact h.at hj⟩⟩
theorem Lb.ext {w w' : World} {g : Nat} {L : List Nat} (h : Lb w g L) (hE : Ext w w') : Lb w' g L := by
  obtain ⟨sp, hb⟩ := h; exact ⟨sp, hb.ext hE⟩
theorem Lb.lt {w : World} {g : Nat} {L : List Nat} (h : Lb w g L) : g < w.heap.size := by
  obtain ⟨sp, hb⟩ := h; exact hb.lt
theorem Lb.set {w : World} {g : Nat} {L : List Nat} {sp : Array Value} {i x : Nat} (hi : i < L.length) (h : Blk w g 54 ((cells L ++ sp).setIfInBounds (0 + i * 1) (.int .u32 ((x : Nat) : Int)))) : Lb w g (L.set i x) := by
  refine ⟨sp, ?_⟩
  have e : (cells L ++ sp).setIfInBounds (0 + i * 1) (.int .u32 ((x : Nat) : Int)) = cells (L.set i x) ++ sp := by
    rw [← cells_set]
    apply Array.toList_inj.1
    simp [cells, hi]
  rw [← e]; exact h

theorem own_lb {w : World} {base : Nat} {v : Value} {l : List Nat} (h : w.ownsRow base 54 1 v l.length (l.map fun x => Value.int .u32 ((x : Nat) : Int))) :
    (v = .slice none 0 0 ∧ l = []) ∨ ∃ g c, v = .slice (some ⟨g, 0, none⟩) l.length c ∧ base ≤ g ∧ l.length ≤ c ∧ c ≤ 9223372036854775807 ∧ Lb w g l := by
  rcases h.2 with ⟨rfl, h0⟩ | ⟨g, cap, cur, rfl, hb, hg, hnc, hcm, hcs, htake⟩
  · exact .inl ⟨rfl, List.eq_nil_of_length_eq_zero h0⟩
  · refine .inr ⟨g, cap, rfl, hb, hnc, hcm, ⟨(cur.toList.drop l.length).toArray, ?_⟩⟩
    unfold Blk
    rw [hg]
    congr 2
    apply Array.toList_inj.1
    rw [Nat.mul_one] at htake
    simp only [cells, Array.toList_append]
    rw [← htake]
    simp

theorem mag_src {w : World} {A : Option Addr} {l : List Nat} (h : Mag w A l) : ∀ j u, (l.map fun x => Value.int .u32 ((x : Nat) : Int))[j]? = some u → ∃ ad, A = some ad ∧ w.cell? (ad.add j) = some u := by
  intro j u hu
  rw [List.getElem?_map] at hu
  rcases hj : l[j]? with _ | x
  · rw [hj] at hu; cases hu
  · rw [hj] at hu
    have hlt : j < l.length := by
      rcases Nat.lt_or_ge j l.length with h' | h'
      · exact h'
      · rw [List.getElem?_eq_none h'] at hj; cases hj
    obtain ⟨ad, e, hc⟩ := h.cell j hlt
    refine ⟨ad, e, ?_⟩
    rw [Nat.mul_one] at hc
    rw [hc, ← hu]
    simp [List.getD, hj]
theorem limbs_one (l : List Nat) : ∀ u ∈ (l.map fun x => Value.int .u32 ((x : Nat) : Int)), u.oneCell' = true := by
  intro u hu
  obtain ⟨x, _, rfl⟩ := List.mem_map.1 hu
  rfl

set_option maxHeartbeats 4000000 in
theorem clone_ok (A : Option Addr) (n c : Nat) (l : List Nat) (w : World) (h : Mag w A l) (hn : l.length = n) (hl : n < 1099511627776) (hz : A = none → n = 0) :
    Meets Try.prog 101 #[.slice A n c] w fun v w' => Ext w w' ∧ ((v = .slice none 0 0 ∧ l = []) ∨ ∃ g c', v = .slice (some ⟨g, 0, none⟩) n c' ∧ w.heap.size ≤ g ∧ n ≤ c' ∧ c' ≤ 9223372036854775807 ∧ Lb w' g l) := by
  subst hn
  refine fn_W (n := 8) Try.func101 rfl rfl (by kernel_rfl) (by simp) ?_
  refine gg ?_
  refine W_seq ?_
  refine gg ?_
  refine R1_eqnil sl_u32 rfl ?_
  refine gg ?_
  rcases A with _ | ad
  · refine W_true rfl ?_
    refine gg ?_
    exact ret1 (v := .slice _ _ _) rfl rfl ⟨Ext.refl _, .inl ⟨rfl, List.eq_nil_of_length_eq_zero (hz rfl)⟩⟩
  · refine W_false rfl ?_
    refine gg ?_
    refine R1_build0 sl_u32 (.inl rfl) ?_
    intro w1 hB hE hsz
    refine gg ?_
    refine R1_append (base := w.heap.size) (m0 := 0) (xs := []) (news := l.map fun x => Value.int .u32 ((x : Nat) : Int)) (v := .slice _ _ _) sl_u32 rfl (by decide) (.inl rfl) rfl ⟨rfl, .inr ⟨_, _, _, rfl, Nat.le_refl _, hB, Nat.le_refl _, by decide, rfl, rfl⟩⟩ rfl (by simp) (mag_src (h.ext hE)) (limbs_one l) (by omega) (by omega) (by omega) ?_
    intro v' w' hown hC _
    refine gg ?_
    refine ret1 (v := v') rfl rfl ⟨hC.ext_of hE (fun b hb => by simp [Value.ownBlock] at hb; omega), ?_⟩
    rw [Nat.zero_add, List.nil_append] at hown
    rcases own_lb hown with ⟨rfl, rfl⟩ | ⟨g, c', rfl, hg, hc1, hc2, hb⟩
    · exact .inl ⟨rfl, rfl⟩
    · exact .inr ⟨g, c', rfl, hg, hc1, hc2, hb⟩
end Go.Proofs.Ytimjiaabaanbeaa
