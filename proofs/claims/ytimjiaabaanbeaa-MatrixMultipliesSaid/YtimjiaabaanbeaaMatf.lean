/- Rows of rows that are being made; the reference's Zero, Identity, SameList, Same; matrix.Identity. -/
import Derived.Test.YtimjiaabaanbeaaMate
namespace Go.Proofs.Ytimjiaabaanbeaa
open Go Go.Eng Go.Num Go.Proofs

/-- a list of rows, the first i of which are there -/
def Outer (T : Nat) (w : World) (gO r i c : Nat) (gs : Nat → Nat) : Prop :=
  ∃ h, Blk w gO T (arr r h) ∧ (∀ k, k < r → ∃ A m cc, h k = .slice A m cc) ∧ ∀ k, k < i → h k = .slice (some ⟨gs k, 0, none⟩) c c
section
variable {T : Nat} {w w' : World} {gO r i c : Nat} {gs : Nat → Nat}
theorem Outer.kp {MM : Nat → Prop} (h : Outer T w gO r i c gs) (hC : Ch MM w w') (hn : ¬ MM gO) : Outer T w' gO r i c gs := by
  obtain ⟨h, hb, h1, h2⟩ := h
  exact ⟨h, hb.ch hC hn, h1, h2⟩
theorem Outer.ext (h : Outer T w gO r i c gs) (hE : Ext w w') : Outer T w' gO r i c gs := h.kp hE id
theorem Outer.lt (h : Outer T w gO r i c gs) : gO < w.heap.size := by obtain ⟨h, hb, h1, h2⟩ := h; exact hb.lt
theorem Outer.at (h : Outer T w gO r i c gs) {k : Nat} (hk : k < i) (hr : k < r) : w.cell? ⟨gO, 0 + k * 1, none⟩ = some (.slice (some ⟨gs k, 0, none⟩) c c) := by
  obtain ⟨h, hb, h1, h2⟩ := h
  rw [hb.cell, arr_at (by omega), Nat.zero_add, Nat.mul_one, h2 k hk]
theorem outer_made {gs : Nat → Nat} (h : Blk w gO T (madeCells (Value.slice none 0 0).cells (r * 1))) : Outer T w gO r 0 c gs := by
  rw [arr_made, Nat.mul_one] at h
  exact ⟨_, h, fun k _ => ⟨none, 0, 0, by simp [Value.cells, Nat.mod_one]⟩, fun k hk => absurd hk (by omega)⟩
theorem Outer.full (h : Outer T w gO r r c gs) : Blk w gO T (arr r fun i => .slice (some ⟨gs i, 0, none⟩) c c) := by
  obtain ⟨h, hb, h1, h2⟩ := h
  rw [arr_congr h2] at hb
  exact hb
theorem outer_full (h : Blk w gO T (arr r fun i => .slice (some ⟨gs i, 0, none⟩) c c)) : Outer T w gO r r c gs := ⟨_, h, fun _ _ => ⟨_, _, _, rfl⟩, fun _ _ => rfl⟩
end
section
variable {P : Program} {n : Nat} {S : World → World → Prop} {k : Nat} {K : Fr → World → Prop} {f : Fr} {w : World}
  {d ty t t2 : Nat} {x y : Operand} {pos : String} {aft : Array Edge} {gd : Option (Nat × Bool)}
/-- a store of a row -/
theorem R1_storeRow {T gO r i j c g : Nat} {gs : Nat → Nat} (ht : oneTy P t = true) (h0 : k = 2 ∨ k = 1 ∧ ∀ w', Ch (fun b => b = gO) w w' → S w w') (hx : ev n f x = .pointer (some ⟨gO, 0 + j * 1, none⟩)) (hy : ev n f y = .slice (some ⟨g, 0, none⟩) c c) (hO : Outer T w gO r i c gs) (hj : j < r)
    (h : ∀ w', (Outer T w' gO r i c (setN gs j g) ∧ (j = i → Outer T w' gO r (i + 1) c (setN gs j g))) → Ch (fun b => b = gO) w w' → Kp w w' → w'.heap.size = w.heap.size → K f w') :
    R1 P n S k ⟨none, .store t x y, ty, pos, aft, gd⟩ K f w := by
  obtain ⟨hh, hb, h1, h2⟩ := hO
  refine R1_storeS ht h0 hx hy hb (by rw [arr_size]; omega) ?_
  intro w' hB' hC hs
  rw [arr_set, Nat.zero_add, Nat.mul_one] at hB'
  have a : ∀ k, k < r → ∃ A m cc, upd hh j (.slice (some ⟨g, 0, none⟩) c c) k = .slice A m cc := fun k hk => by
    by_cases e : k = j
    · subst e; exact ⟨_, _, _, upd_self _ _ _⟩
    · rw [upd_ne _ _ e]; exact h1 k hk
  have b : ∀ k, k < i ∨ k = j → upd hh j (.slice (some ⟨g, 0, none⟩) c c) k = .slice (some ⟨setN gs j g k, 0, none⟩) c c := fun k hk => by
    by_cases e : k = j
    · subst e; rw [upd_self]; simp [setN]
    · rw [upd_ne _ _ e]; simp only [setN, if_neg e]; exact h2 k (by omega)
  exact h w' ⟨⟨_, hB', a, fun k hk => b k (.inl hk)⟩, fun e => ⟨_, hB', a, fun k hk => b k (by omega)⟩⟩ hC (kp_ch hb (noInt_rows h1).noU hC) hs
end

set_option maxHeartbeats 8000000 in
theorem zero_ok (r c : Nat) (w : World) (hr : r < 1073741824) (hc : c < 1073741824) :
    Meets Try.prog 54 #[.int .i64 ((r : Nat) : Int), .int .i64 ((c : Nat) : Int)] w (RM w r c fun _ _ => 0) := by
  refine fn_W (n := 21) Try.func54 rfl rfl (by kernel_rfl) (by simp) ?_
  refine gg ?_
  refine R1_make sl_sInt (.inl rfl) rfl rfl (Nat.le_refl _) (by omega) (by omega) ?_
  intro w1 hB hE hsz
  refine gg ?_
  refine W_seq ?_
  refine gg ?_
  refine W_loop (fun m f w' => ∃ i gs, m = r - i ∧ i ≤ r ∧ f 1 = .int .i64 ((c : Nat) : Int) ∧ f 5 = .slice (some ⟨w.heap.size, 0, none⟩) r r ∧ f 10 = .int .i64 ((r : Nat) : Int) ∧ f 11 = .int .i64 ((i : Nat) : Int) ∧
      Ext w w' ∧ Outer 53 w' w.heap.size r i c gs ∧ (∀ k, k < i → RowB w' (gs k) c true (fun _ => 0) (fun _ => 0) ∧ w.heap.size < gs k) ∧ (∀ k k', k < i → k' < i → gs k = gs k' → k = k'))
      r ⟨0, fun _ => 0, rfl, Nat.zero_le _, rfl, rfl, rfl, rfl, hE, outer_made hB, fun k hk => absurd hk (by omega), fun k k' hk => absurd hk (by omega)⟩ ?_
  clear hB hE hsz w1
  rintro m f w1 ⟨i, gs, rfl, hi, hf1, hf5, hf10, hf11, hE, hO, hrow, hinj⟩
  rw [ui hf1, ui hf5, ui hf10, ui hf11]
  clear hf1 hf5 hf10 hf11
  by_cases hlt : i < r
  · refine gg ?_
    refine R1_make sl_Int (.inl rfl) rfl rfl (Nat.le_refl _) (by omega) (by omega) ?_
    intro w2 hB2 hE2 hs2
    refine gg ?_
    refine R1_storeRow (one_of rfl) (.inl rfl) rfl rfl (hO.ext hE2) hlt ?_
    intro w3 ⟨_, hO3⟩ hC3 hk3 hs3
    have hg := hO.lt
    refine gg ?_
    refine ⟨_, ?_, i + 1, setN gs i w1.heap.size, rfl, by omega, rfl, rfl, rfl, rfl, hC3.ext_of (hE.trans hE2) (fun b hb => by omega), hO3 rfl, fun k hk => ?_, fun k k' hk hk' e => ?_⟩
    · omega
    · by_cases e : k = i
      · subst e
        simp only [setN, if_true]
        exact ⟨(rowB_made true 0 hB2).kp hk3 hC3 (by omega), by omega⟩
      · simp only [setN, if_neg e]
        obtain ⟨h1, h2⟩ := hrow k (by omega)
        exact ⟨(h1.ext hE2).kp hk3 hC3 (by omega), h2⟩
    · have hl : ∀ k, k < i → gs k < w1.heap.size := fun k hk => (hrow k hk).1.lt
      simp only [setN] at e
      split at e <;> split at e
      · omega
      · have := hl k' (by omega); omega
      · have := hl k (by omega); omega
      · exact hinj k k' (by omega) (by omega) e
  · refine gg ?_
    have : i = r := by omega
    subst this
    refine ret1 (v := .slice _ _ _) rfl rfl ⟨hE, _, gs, rfl, Nat.le_refl _, fun k hk => Nat.le_of_lt (hrow k hk).2, ?_⟩
    exact (WMat.mk (bn := fun _ _ => 0) hO.full (fun k hk => (hrow k hk).1) (fun k hk => by have := (hrow k hk).2; omega) hinj).o

/-- an identity matrix, or nothing -/
def idOk (z : Int) : Bool := decide (1 ≤ z ∧ z ≤ 16)
/-- what a function that returns a matrix and a bool leaves -/
def RMB (w : World) (ok : Bool) (r c : Nat) (M : Nat → Nat → Int) (v : Value) (w' : World) : Prop :=
  if ok then ∃ u, v = .tuple #[u, .bool true] ∧ RM w r c M u w' else Ext w w' ∧ v = .tuple #[.slice none 0 0, .bool false]

set_option maxHeartbeats 8000000 in
theorem identity_ok (z : Int) (w : World) (h1 : -9223372036854775808 ≤ z) (h2 : z < 9223372036854775808) :
    Meets Try.prog 34 #[.int .i64 z] w (RMB w (idOk z) z.toNat z.toNat (scal 1)) := by
  refine fn_W (n := 13) Try.func34 rfl rfl (by kernel_rfl) (by simp) ?_
  refine gg ?_
  refine W_seq ?_
  by_cases hz : z < 1
  · refine gg ?_
    refine ret2 (v := .slice _ _ _) (v' := .bool _) rfl rfl rfl ?_
    unfold RMB idOk
    rw [if_neg (by simp; omega)]
    exact ⟨Ext.refl _, rfl⟩
  by_cases hz' : 16 < z
  · refine gg ?_
    refine ret2 (v := .slice _ _ _) (v' := .bool _) rfl rfl rfl ?_
    unfold RMB idOk
    rw [if_neg (by simp; omega)]
    exact ⟨Ext.refl _, rfl⟩
  obtain ⟨m, rfl⟩ : ∃ m : Nat, z = m := ⟨z.toNat, by omega⟩
  refine gg ?_
  refine R1_call2 (small_ok 1 w (by omega) (by omega)) ?_
  rintro _ w1 ⟨hE1, x, y, rfl, hcv⟩
  refine gg ?_
  refine R1_call2 (scalar_ok m 1 x y 1 w1 (hcv.iv (by decide)) (by omega) (by omega) hcv.one0) ?_
  rintro v w2 ⟨hE2, gO, gs, rfl, hg, hgs, hO⟩
  refine gg ?_
  refine ret2 (v := .slice _ _ _) (v' := .bool _) rfl rfl rfl ?_
  unfold RMB idOk
  rw [if_pos (by simp; omega)]
  have := hE1.size
  exact ⟨_, rfl, hE1.trans hE2, gO, gs, rfl, by omega, fun i hi => by have := hgs i hi; omega, hO⟩
end Go.Proofs.Ytimjiaabaanbeaa
