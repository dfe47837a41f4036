/- The program's natural numbers: contracts of trim, .. -/
import Derived.Test.YtimjiaabaanbeaaTy
import Derived.Test.YtimjiaabaanbeaaNum
namespace Go.Proofs.Ytimjiaabaanbeaa
open Go Go.Eng Go.Num Go.Proofs

/-- the slice with this address holds these limbs -/
structure Mag (w : World) (A : Option Addr) (l : List Nat) : Prop where
  lim : Lim l
  cell : ∀ j, j < l.length → ∃ ad, A = some ad ∧ w.cell? (ad.add (j * 1)) = some (.int .u32 ((l.getD j 0 : Nat) : Int))

theorem Mag.at {w : World} {A : Option Addr} {l : List Nat} (h : Mag w A l) {j : Nat} (hj : j < l.length) : ∃ ad, A = some ad ∧ ∀ i, i < l.length → w.cell? (ad.add (i * 1)) = some (.int .u32 ((l.getD i 0 : Nat) : Int)) := by
  obtain ⟨ad, rfl, _⟩ := h.cell j hj
  refine ⟨ad, rfl, fun i hi => ?_⟩
  obtain ⟨ad', e, h'⟩ := h.cell i hi
  injection e with e; subst e; exact h'

theorem Mag.ext {w w' : World} {A : Option Addr} {l : List Nat} (h : Mag w A l) (hE : Ext w w') : Mag w' A l :=
  ⟨h.lim, fun j hj => by obtain ⟨ad, e, hc⟩ := h.cell j hj; exact ⟨ad, e, cell_ext hE hc⟩⟩
theorem Mag.ch {w w' : World} {M : Nat → Prop} {A : Option Addr} {l : List Nat} (h : Mag w A l) (hC : Ch M w w') (hn : ∀ ad, A = some ad → ¬ M ad.block) : Mag w' A l :=
  ⟨h.lim, fun j hj => by
    obtain ⟨ad, e, hc⟩ := h.cell j hj
    refine ⟨ad, e, ?_⟩
    rw [← hc]
    refine cell_ch hC ?_ ?_
    · exact World.block_lt_of_cell? w _ hc
    · rw [block_add]; exact hn ad e⟩
theorem Mag.none_len {w : World} {A : Option Addr} {l : List Nat} (h : Mag w A l) (e : A = none) : l.length = 0 := by
  rcases Nat.eq_zero_or_pos l.length with h0 | h0
  · exact h0
  · obtain ⟨ad, e', _⟩ := h.cell 0 h0; rw [e] at e'; cases e'
theorem Mag.nil (w : World) (A : Option Addr) : Mag w A [] := ⟨(fun _ h => by cases h), (fun j h => by simp at h)⟩
theorem Mag.take {w : World} {A : Option Addr} {l : List Nat} (h : Mag w A l) (k : Nat) : Mag w A (l.take k) :=
  ⟨h.lim.take k, fun j hj => by
    rw [List.length_take] at hj
    obtain ⟨ad, e, hc⟩ := h.cell j (by omega)
    have hjk : j < k := by omega
    exact ⟨ad, e, by rw [hc]; simp [List.getD, hjk]⟩⟩

/-- limbs as cells -/
def cells (L : List Nat) : Array Value := (L.map fun x => Value.int .u32 ((x : Nat) : Int)).toArray
theorem cells_size (L : List Nat) : (cells L).size = L.length := by simp [cells]
theorem cells_set (L : List Nat) (i x : Nat) : (cells L).setIfInBounds (0 + i * 1) (.int .u32 ((x : Nat) : Int)) = cells (L.set i x) := by
  simp [cells, List.map_set]
theorem cells_made (m : Nat) : madeCells (Value.int .u32 0).cells (m * 1) = cells (List.replicate m 0) := by
  apply Array.toList_inj.1
  simp only [Value.cells, Nat.mul_one, toList_madeCells_one, cells, List.map_replicate]; rfl
theorem cells_at {w : World} {g : Nat} {T : TypeId} {L : List Nat} (hb : Blk w g T (cells L)) {j : Nat} (hj : j < L.length) : w.cell? ⟨g, 0 + j * 1, none⟩ = some (.int .u32 ((L.getD j 0 : Nat) : Int)) := by
  rw [hb.cell]; simp [cells, hj, List.getD]
theorem mag_of_blk {w : World} {g : Nat} {T : TypeId} {L : List Nat} (hb : Blk w g T (cells L)) (hl : Lim L) : Mag w (some ⟨g, 0, none⟩) L :=
  ⟨hl, fun j hj => ⟨_, rfl, by rw [add_lit]; exact cells_at hb hj⟩⟩

theorem trim_ok (A : Option Addr) (n c : Nat) (l : List Nat) (w : World) (h : Mag w A l) (hn : l.length = n) (hc : n ≤ c) (hc2 : c < 9223372036854775808) :
    Meets Try.prog 82 #[.slice A n c] w fun v w' => w = w' ∧ ∃ m, m ≤ l.length ∧ v = .slice A m c ∧ Trimd (l.take m) ∧ val (l.take m) = val l := by
  subst hn
  refine fn_W (n := 21) Try.func82 rfl rfl (by kernel_rfl) (by simp) ?_
  refine gg ?_
  refine W_seq ?_
  refine W_block ?_
  refine W_loop (fun m f w' => w' = w ∧ m ≤ l.length ∧ f 0 = .slice A m c ∧ val (l.take m) = val l) l.length ⟨rfl, Nat.le_refl _, rfl, by simp⟩ ?_
  rintro m f w' ⟨rfl, hm, h0, hv⟩
  rw [ui h0]
  refine W_seq ?_
  rcases m with _ | m
  · refine gg ?_
    refine ret1 rfl rfl ⟨rfl, 0, by omega, rfl, by simp [Trimd.nil], hv⟩
  · obtain ⟨ad, rfl, hcell⟩ := h.at (j := m) (by omega)
    have hcm := hcell m (by omega)
    refine gg ?_
    refine W_cond rfl (fun hc => ?_) (fun hc => ?_)
    · refine gg ?_
      refine ⟨m, by omega, rfl, by omega, rfl, ?_⟩
      have h0 : l.getD m 0 = 0 := by simpa using hc
      rw [← hv, val_take_succ l m (by omega), h0]; simp
    · refine gg ?_
      refine ret1 rfl rfl ⟨rfl, m + 1, by omega, rfl, trimd_take (by omega) (by simpa using hc), hv⟩

/-- a result: new limbs, no zero at the end -/
def NatV (w : World) (v : Value) (m : Nat) : Prop := ∃ A l c, v = .slice A l.length c ∧ l.length ≤ c ∧ c < 9223372036854775808 ∧ Mag w A l ∧ Trimd l ∧ val l = m

theorem natV_trim {w : World} {A : Option Addr} {c m N : Nat} {l : List Nat} (h : Mag w A l) (hm : m ≤ l.length) (hc : l.length ≤ c) (hc2 : c < 9223372036854775808) (ht : Trimd (l.take m)) (hv : val (l.take m) = val l) (hN : val l = N) : NatV w (.slice A m c) N :=
  ⟨A, l.take m, c, by rw [List.length_take_of_le hm], by rw [List.length_take_of_le hm]; omega, hc2, h.take m, ht, hv.trans hN⟩

set_option maxHeartbeats 4000000 in
theorem addNat_ok (A1 A2 : Option Addr) (c1 c2 : Nat) (l1 l2 : List Nat) (w : World) (h1 : Mag w A1 l1) (h2 : Mag w A2 l2) (hl1 : l1.length < 1099511627776) (hl2 : l2.length < 1099511627776) :
    Meets Try.prog 102 #[.slice A1 l1.length c1, .slice A2 l2.length c2] w fun v w' => Ext w w' ∧ NatV w' v (val l1 + val l2) := by
  refine fn_W (n := 83) Try.func102 rfl rfl (by kernel_rfl) (by simp) ?_
  refine gg ?_
  refine W_seqM (fun f w' => w = w' ∧ ∃ (A A' : Option Addr) (c c' : Nat) (l l' : List Nat), f 0 = .slice A l.length c ∧ f 1 = .slice A' l'.length c' ∧ Mag w A l ∧ Mag w A' l' ∧ l'.length ≤ l.length ∧ l.length < 1099511627776 ∧ val l + val l' = val l1 + val l2) ?_ ?_
  · refine gg ?_
    refine W_cond rfl (fun hc => ?_) (fun hc => ?_)
    · have hc : l1.length < l2.length := by simpa using hc
      refine gg ?_
      exact ⟨rfl, A2, A1, c2, c1, l2, l1, rfl, rfl, h2, h1, by omega, by omega, Nat.add_comm _ _⟩
    · have hc : ¬ l1.length < l2.length := by simpa using hc
      refine gg ?_
      exact ⟨rfl, A1, A2, c1, c2, l1, l2, rfl, rfl, h1, h2, by omega, by omega, rfl⟩
  · rintro f w0 ⟨rfl, A, A', c, c', l, l', hf0, hf1, hm, hm', hle, hlt, hsum⟩
    rw [ui hf0, ui hf1]
    refine gg ?_
    refine R1_make sl_u32 (.inl rfl) rfl rfl (Nat.le_refl _) (by omega) (by omega) ?_
    intro w1 hB hE hsz
    rw [cells_made] at hB
    refine gg ?_
    refine W_seqM (fun f w' => ∃ cy L, f 0 = .slice A l.length c ∧ f 1 = .slice A' l'.length c' ∧ f 5 = .slice (some ⟨w.heap.size, 0, none⟩) (l.length + 1) (l.length + 1) ∧ f 6 = .int .u64 ((cy : Nat) : Int) ∧
      Ext w w' ∧ Blk w' w.heap.size 54 (cells L) ∧ L.length = l.length + 1 ∧ Lim L ∧ cy ≤ 1 ∧ val (L.take l'.length) + cy * B ^ l'.length = val (l.take l'.length) + val (l'.take l'.length)) ?_ ?_
    · refine gg ?_
      refine W_loop (fun m f w' => ∃ i cy L, m = l'.length - i ∧ i ≤ l'.length ∧ f 0 = .slice A l.length c ∧ f 1 = .slice A' l'.length c' ∧ f 5 = .slice (some ⟨w.heap.size, 0, none⟩) (l.length + 1) (l.length + 1) ∧ f 6 = .int .u64 ((cy : Nat) : Int) ∧
        f 21 = .int .i64 ((l'.length : Nat) : Int) ∧ f 22 = .int .i64 ((i : Nat) : Int) ∧ Ext w w' ∧ Blk w' w.heap.size 54 (cells L) ∧ L.length = l.length + 1 ∧ Lim L ∧ cy ≤ 1 ∧ val (L.take i) + cy * B ^ i = val (l.take i) + val (l'.take i))
        l'.length ⟨0, 0, _, rfl, Nat.zero_le _, rfl, rfl, rfl, rfl, rfl, rfl, hE, hB, by simp, lim_replicate _, by omega, by simp [val]⟩ ?_
      clear hB hE hsz w1
      rintro m f w1 ⟨i, cy, L, rfl, hi, hf0, hf1, hf5, hf6, hf21, hf22, hE, hB, hL, hLim, hcy, hv⟩
      rw [ui hf0, ui hf1, ui hf5, ui hf6, ui hf21, ui hf22]
      by_cases hlt : i < l'.length
      · refine gg ?_
        refine W_seqD [(0, 3), (1, 3), (2, 3), (3, 3), (4, 0), (5, 3), (6, 3), (7, 3), (8, 3), (9, 0), (10, 3), (11, 3), (12, 3), (13, 3)] mixed (by kernel_rfl) (fun w2 hE2 _ => ?_)
        obtain ⟨ad, rfl, hc1⟩ := (hm.ext (hE.trans hE2)).at (j := i) (by omega)
        obtain ⟨ad', rfl, hc2⟩ := (hm'.ext (hE.trans hE2)).at (j := i) (by omega)
        have hx := hc1 i (by omega)
        have hy := hc2 i (by omega)
        have bx := hm.lim.getD i
        have bY := hm'.lim.getD i
        refine gg ?_
        refine R1_storeI (one_of rfl) (.inl rfl) rfl rfl (hB.ext hE2) (by rw [cells_size]; omega) ?_
        intro w3 hB3 hC3 hs3
        rw [cells_set] at hB3
        refine gg ?_
        refine ⟨_, ?_, i + 1, _, _, rfl, by omega, rfl, rfl, rfl, rfl, rfl, rfl, hC3.ext_of (hE.trans hE2) (fun b hb => by omega), hB3, by simpa using hL, hLim.set (Nat.mod_lt _ (by decide)), ?_, ?_⟩
        · omega
        · omega
        · rw [val_set_succ _ _ _ (by omega), val_take_succ _ _ (by omega), val_take_succ _ _ (by omega), Nat.pow_succ]
          exact (add_step _ _ _ _ _ _ hv).trans (by omega)
      · refine gg ?_
        have : i = l'.length := by omega
        subst this
        exact ⟨cy, L, rfl, rfl, rfl, rfl, hE, hB, hL, hLim, hcy, hv⟩
    · clear hB hE hsz w1
      rintro f w1 ⟨cy, L, hf0, hf1, hf5, hf6, hE, hB, hL, hLim, hcy, hv⟩
      rw [ui hf0, ui hf1, ui hf5, ui hf6]
      refine W_seqM (fun f w' => ∃ cy L, f 0 = .slice A l.length c ∧ f 5 = .slice (some ⟨w.heap.size, 0, none⟩) (l.length + 1) (l.length + 1) ∧ f 6 = .int .u64 ((cy : Nat) : Int) ∧
        Ext w w' ∧ Blk w' w.heap.size 54 (cells L) ∧ L.length = l.length + 1 ∧ Lim L ∧ cy ≤ 1 ∧ val (L.take l.length) + cy * B ^ l.length = val l + val l') ?_ ?_
      · refine gg ?_
        refine W_loop (fun m f w' => ∃ i cy L, m = l.length - l'.length - i ∧ i ≤ l.length - l'.length ∧ f 0 = .slice A l.length c ∧ f 1 = .slice A' l'.length c' ∧ f 5 = .slice (some ⟨w.heap.size, 0, none⟩) (l.length + 1) (l.length + 1) ∧ f 6 = .int .u64 ((cy : Nat) : Int) ∧
          f 50 = .int .i64 ((l.length - l'.length : Nat) : Int) ∧ f 51 = .int .i64 ((i : Nat) : Int) ∧ Ext w w' ∧ Blk w' w.heap.size 54 (cells L) ∧ L.length = l.length + 1 ∧ Lim L ∧ cy ≤ 1 ∧ val (L.take (l'.length + i)) + cy * B ^ (l'.length + i) = val (l.take (l'.length + i)) + val l')
          (l.length - l'.length) ⟨0, _, _, rfl, Nat.zero_le _, rfl, rfl, rfl, rfl, rfl, rfl, hE, hB, hL, hLim, hcy, by rw [val_take_all] at hv; exact hv⟩ ?_
        clear hv hB hE hL hLim hcy w1 hf0 hf1 hf5 hf6 f cy L
        rintro m f w1 ⟨i, cy, L, rfl, hi, hf0, hf1, hf5, hf6, hf50, hf51, hE, hB, hL, hLim, hcy, hv⟩
        rw [ui hf0, ui hf1, ui hf5, ui hf6, ui hf50, ui hf51]
        by_cases hlt : i < l.length - l'.length
        · obtain ⟨ad, rfl, hc1⟩ := (hm.ext hE).at (j := l'.length + i) (by omega)
          have hx := hc1 (l'.length + i) (by omega)
          have bx := hm.lim.getD (l'.length + i)
          refine gg ?_
          refine R1_storeI (one_of rfl) (.inl rfl) rfl rfl hB (by rw [cells_size]; omega) ?_
          intro w3 hB3 hC3 hs3
          rw [cells_set] at hB3
          refine gg ?_
          refine ⟨_, ?_, i + 1, _, _, rfl, by omega, rfl, rfl, rfl, rfl, rfl, rfl, hC3.ext_of hE (fun b hb => by omega), hB3, by simpa using hL, hLim.set (Nat.mod_lt _ (by decide)), ?_, ?_⟩
          · omega
          · omega
          · rw [← Nat.add_assoc, val_set_succ _ _ _ (by omega), val_take_succ _ _ (by omega), Nat.pow_succ]
            exact (add_step1 _ _ _ _ _ hv).trans (by omega)
        · refine gg ?_
          have e : l'.length + i = l.length := by omega
          rw [e, val_take_all] at hv
          exact ⟨cy, L, rfl, rfl, rfl, hE, hB, hL, hLim, hcy, hv⟩
      · clear hv hB hE hL hLim hcy w1 hf0 hf1 hf5 hf6 f cy L
        rintro f w1 ⟨cy, L, hf0, hf5, hf6, hE, hB, hL, hLim, hcy, hv⟩
        rw [ui hf0, ui hf5, ui hf6]
        refine gg ?_
        refine R1_storeI (one_of rfl) (.inl rfl) rfl rfl hB (by rw [cells_size]; omega) ?_
        intro w3 hB3 hC3 hs3
        rw [cells_set] at hB3
        refine gg ?_
        have hE3 := hC3.ext_of hE (fun b hb => by omega)
        refine R1_call2 (trim_ok _ _ _ _ w3 (mag_of_blk hB3 (hLim.set (Nat.mod_lt _ (by decide)))) (by simpa using hL) (Nat.le_refl _) (by omega)) ?_
        rintro v w4 ⟨rfl, m, hm4, rfl, htr, hval⟩
        refine gg ?_
        refine ret1 (v := .slice _ _ _) rfl rfl ⟨hE3, natV_trim (mag_of_blk hB3 (hLim.set (Nat.mod_lt _ (by decide)))) hm4 ?_ ?_ htr hval ?_⟩
        · simp; omega
        · omega
        · have e : L.set l.length (cy % 4294967296) = (L.set l.length (cy % 4294967296)).take (l.length + 1) := by rw [List.take_of_length_le]; simp; omega
          rw [e, val_set_succ _ _ _ (by omega), Nat.mod_eq_of_lt (by omega), ← hsum, ← hv, Nat.mul_comm]
end Go.Proofs.Ytimjiaabaanbeaa
