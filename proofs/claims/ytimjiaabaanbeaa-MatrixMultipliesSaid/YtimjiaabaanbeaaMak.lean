/- quadformmake: Tape, Grid. -/
import Derived.Test.YtimjiaabaanbeaaMatg
import Derived.Test.YtimjiaabaanbeaaRefg
namespace Go.Proofs.Ytimjiaabaanbeaa
open Go Go.Eng Go.Num Go.Proofs

section
variable {P : Program} {n : Nat} {k : Nat} {K : Fr → World → Prop} {f : Fr} {w : World}
  {d ty t t2 : Nat} {x y : Operand} {pos : String} {aft : Array Edge} {gd : Option (Nat × Bool)}
/-- a load of one cell, where the blocks in M may change -/
theorem R1_load1M {M : Nat → Prop} {p : Addr} {v : Value} (h3 : k ≠ 3) (ht : oneTy P t = true) (hx : ev n f x = .pointer (some p)) (hc : w.cell? p = some v) (hn : ¬ M p.block) (h : K (upd f d v) w) :
    R1 P n (Ch M) k ⟨some d, .load t x, ty, pos, aft, gd⟩ K f w := by
  refine R1_read h3 (v := v) (fun w' hw => ?_) h
  have hc' : w'.cell? p = some v := by
    rcases hw with hw | rfl
    · rw [cell_ch hw (World.block_lt_of_cell? w _ hc) hn]; exact hc
    · exact hc
  simp only [execOp, hx, Sem.run_bind, run_load_one ht hc', Result.andThen_ok, Sem.run_pure]
theorem W_regDM {Q : Exit → Fr → World → Prop} {id : Nat} {ops : Array Oper} (M : Nat → Prop) (ord : List (Nat × Nat)) (hm : P.follows .mixedOrders = true)
    (hlen : (ord.length == ops.size && Region.noSelect ops && ordOk ops (hot ord) ord (Array.replicate ops.size false)) = true)
    (h : ∀ w', Ext w w' → w'.heap = w.heap → Ro P n ops (Ch M) (Q .normal) ord f w') : W P n (.region id ops true) Q f w :=
  W_draw (Ch M) (Ch_trans M) ord hm hlen (h _ (ch_drew w) rfl)
theorem R1_i8_i64 {a : Int} (hs : TyD P t (.int .i8)) (ht : TyD P t2 (.int .i64)) (hx : ev n f x = .int .i8 a) (h1 : -128 ≤ a) (h2 : a < 128) {S : World → World → Prop} (h : K (upd f d (.int .i64 a)) w) : R1 P n S k ⟨some d, .convert t t2 x, ty, pos, aft, gd⟩ K f w :=
  R1_conv hs ht hx (wrap_i64 (by omega) (by omega)) h
end

/-- numbers of 8 bits, read -/
structure Nums (w : World) (A : Option Addr) (n : Nat) (ns : Nat → Int) : Prop where
  cell : ∀ i, i < n → ∃ ad, A = some ad ∧ w.cell? (ad.add (i * 1)) = some (.int .i8 (ns i)) ∧ -128 ≤ ns i ∧ ns i < 128
  small : n ≤ 140737488355328
theorem Nums.ext {w w' : World} {A : Option Addr} {n : Nat} {ns : Nat → Int} (h : Nums w A n ns) (hE : Ext w w') : Nums w' A n ns :=
  ⟨fun i hi => by obtain ⟨ad, e, hc, hr⟩ := h.cell i hi; exact ⟨ad, e, cell_ext hE hc, hr⟩, h.small⟩
/-- the k-th number of a tape -/
def tp (n : Nat) (ns : Nat → Int) (k : Nat) : Int := if k < n then ns k else 0
theorem tp_range {w : World} {A : Option Addr} {n : Nat} {ns : Nat → Int} (h : Nums w A n ns) (k : Nat) : -128 ≤ tp n ns k ∧ tp n ns k < 128 := by
  unfold tp
  split
  · rename_i hk; obtain ⟨_, _, _, h⟩ := h.cell k hk; exact h
  · decide
/-- a tape of the call's own from which k numbers were taken -/
def TapeB (w : World) (g : Nat) (A : Option Addr) (n c k : Nat) : Prop := Blk w g 80 #[.slice A n c, .int .i64 ((min k n : Nat) : Int)]
theorem noU_tape {A : Option Addr} {n c : Nat} {z : Int} : NoU #[.slice A n c, .int .i64 z] := by
  intro i z'
  match i with
  | 0 => simp
  | 1 => simp
  | i + 2 => simp

set_option maxHeartbeats 8000000 in
theorem next_ok (g : Nat) (A : Option Addr) (n c k : Nat) (ns : Nat → Int) (w0 w : World) (hE0 : Ext w0 w) (hN : Nums w0 A n ns) (hg : w0.heap.size ≤ g) (hB : TapeB w g A n c k) :
    Meets Try.prog 66 #[.pointer (some ⟨g, 0, none⟩)] w fun v w' => v = .int .i64 (tp n ns k) ∧ TapeB w' g A n c (k + 1) ∧ Ch (fun b => b = g) w w' ∧ Kp w w' := by
  refine fn_W (n := 32) Try.func66 rfl rfl (by kernel_rfl) (by simp) ?_
  have hsm := hN.small
  unfold TapeB at hB
  by_cases hk : k < n
  · rw [show min k n = k by omega] at hB
    refine gg ?_
    refine W_seq ?_
    refine W_seqD [(0, 3), (1, 3), (2, 3), (3, 0), (4, 3), (5, 3), (6, 3), (7, 0), (8, 3), (9, 3)] mixed (by kernel_rfl) (fun w1 hE1 _ => ?_)
    have hB1 := hB.ext hE1
    have f0 := blk0 hB1
    have f1 := blk1 hB1
    obtain ⟨ad, rfl, hc, hr1, hr2⟩ := (hN.ext (hE0.trans hE1)).cell k hk
    refine gg ?_
    refine R1_storeI (one_of rfl) (.inl rfl) rfl rfl hB1 (by simp) ?_
    intro w2 hB2 hC2 hs2
    have hk2 := kp_ch hB1 noU_tape hC2
    refine gg ?_
    refine W_seqD [(0, 3), (1, 3), (2, 3), (3, 0), (4, 3), (5, 3), (6, 3), (7, 0), (8, 3), (9, 3), (10, 0), (11, 3), (12, 3)] mixed (by kernel_rfl) (fun w3 hE3 _ => ?_)
    have hB3 : Blk w3 g 80 #[.slice (some ad) n c, .int .i64 ((k + 1 : Nat) : Int)] := hB2.ext hE3
    have f0 := blk0 hB3
    have f1 := blk1 hB3
    have hE03 : Ext w0 w3 := (hC2.ext_of (hE0.trans hE1) (fun b hb => by omega)).trans hE3
    obtain ⟨ad', e, hc, _⟩ := (hN.ext hE03).cell k hk
    injection e with e; subst e
    have hc' : w3.cell? (ad.add ((k + 1 - 1) * 1)) = some (.int .i8 (ns k)) := hc
    refine gg ?_
    refine R1_i8_i64 ty_i8 ty_i64 rfl hr1 hr2 ?_
    refine gg ?_
    refine ret1 (v := .int _ _) rfl rfl ⟨by rw [tp, if_pos hk], ?_, (hE1.ch.trans hC2).trans hE3.ch, (kp_ext hE1).trans (hk2.trans (kp_ext hE3))⟩
    unfold TapeB
    rw [show min (k + 1) n = k + 1 by omega]
    exact hB3
  · rw [show min k n = n by omega] at hB
    refine gg ?_
    refine W_seq ?_
    refine W_seqD [(0, 3), (1, 3), (2, 3), (3, 0), (4, 3), (5, 3), (6, 3), (7, 0), (8, 3), (9, 3)] mixed (by kernel_rfl) (fun w1 hE1 _ => ?_)
    have hB1 := hB.ext hE1
    have f0 := blk0 hB1
    have f1 := blk1 hB1
    refine gg ?_
    refine ret1 (v := .int _ _) rfl rfl ⟨by rw [tp, if_neg hk]; rfl, ?_, hE1.ch, kp_ext hE1⟩
    unfold TapeB
    rw [show min (k + 1) n = n by omega]
    exact hB1

/-- a row of int64 of the call's own -/
def RowW (w : World) (g c : Nat) (M : Nat → Int) : Prop := Blk w g 2 (arr c fun j => .int .i64 (M j))
theorem noU_i64 {c : Nat} {h : Nat → Value} (hh : ∀ j, j < c → ∃ z, h j = .int .i64 z) : NoU (arr c h) := by
  intro i z hz
  by_cases hi : i < c
  · rw [arr_at hi] at hz
    obtain ⟨z', e⟩ := hh i hi
    rw [e] at hz; cases hz
  · simp [arr, hi] at hz
theorem rowW_made {w : World} {g c : Nat} (h : Blk w g 2 (madeCells (Value.int .i64 0).cells (c * 1))) : RowW w g c (fun _ => 0) := by
  rw [arr_made, Nat.mul_one] at h
  unfold RowW
  have e : arr c (fun k => (Value.int IntKind.i64 0).cells[k % (Value.int IntKind.i64 0).cells.size]!) = arr c fun _ => .int .i64 0 := arr_congr fun k _ => by simp [Value.cells, Nat.mod_one]
  rw [e] at h
  exact h
theorem RowW.congr {w : World} {g c : Nat} {M M' : Nat → Int} (h : RowW w g c M) (e : ∀ j, j < c → M j = M' j) : RowW w g c M' := by
  unfold RowW at *
  rw [arr_congr (fun j hj => by rw [← e j hj])]
  exact h
theorem RowW.set {w' : World} {g c j : Nat} {M : Nat → Int} {z : Int} (h : Blk w' g 2 ((arr c fun j => .int .i64 (M j)).setIfInBounds (0 + j * 1) (.int .i64 z))) : RowW w' g c (setZ M j z) := by
  unfold RowW
  rw [arr_set, Nat.zero_add, Nat.mul_one] at h
  rw [arr_congr (fun k _ => ?_)]
  · exact h
  · by_cases e : k = j
    · subst e; rw [upd_self]; simp [setZ]
    · rw [upd_ne _ _ e]; simp [setZ, e]
/-- a matrix of int64 of the call's own -/
structure ZMat (w : World) (gO : Nat) (gs : Nat → Nat) (r c : Nat) (M : Nat → Nat → Int) : Prop where
  outer : Blk w gO 66 (arr r fun i => .slice (some ⟨gs i, 0, none⟩) c c)
  row : ∀ i, i < r → RowW w (gs i) c (M i)
  ne : ∀ i, i < r → gs i ≠ gO
  inj : ∀ i j, i < r → j < r → gs i = gs j → i = j
theorem ZMat.ext {w w' : World} {gO : Nat} {gs : Nat → Nat} {r c : Nat} {M : Nat → Nat → Int} (h : ZMat w gO gs r c M) (hE : Ext w w') : ZMat w' gO gs r c M :=
  ⟨h.outer.ext hE, fun i hi => Blk.ext (h.row i hi) hE, h.ne, h.inj⟩
theorem ZMat.read {w : World} {gO : Nat} {gs : Nat → Nat} {r c : Nat} {M : Nat → Nat → Int} (h : ZMat w gO gs r c M) (hM : ∀ i j, i < r → j < c → -9223372036854775808 ≤ M i j ∧ M i j < 9223372036854775808) (hr : r < 9223372036854775808) (hc : c < 9223372036854775808) :
    MatZ w (.slice (some ⟨gO, 0, none⟩) r r) r (fun _ => c) M := by
  refine ⟨_, _, rfl, Nat.le_refl _, hr, fun i hi => ⟨_, _, rfl, by rw [add_lit, h.outer.cell, arr_at (by omega), Nat.zero_add, Nat.mul_one], _, _, rfl, Nat.le_refl _, hc, fun j hj => ⟨_, rfl, ?_, hM i j hi hj⟩⟩⟩
  have hb : Blk w (gs i) 2 (arr c fun j => .int .i64 (M i j)) := h.row i hi
  have hj : j < c := hj
  rw [add_lit, hb.cell, arr_at (by omega), Nat.zero_add, Nat.mul_one]

/-- what a function that returns a new matrix of int64 leaves -/
def RZ (w : World) (r c : Nat) (M : Nat → Nat → Int) (v : Value) (w' : World) : Prop :=
  Ext w w' ∧ ∃ gO gs, v = .slice (some ⟨gO, 0, none⟩) r r ∧ w.heap.size ≤ gO ∧ (∀ i, i < r → w.heap.size ≤ gs i) ∧ ZMat w' gO gs r c M
/-- a grid's cells -/
def GridV (w : World) (v : Value) (r c n : Nat) (ns : Nat → Int) : Prop := ∃ A cap, v = .agg #[.int .u8 ((r : Nat) : Int), .int .u8 ((c : Nat) : Int), .slice A n cap] ∧ r < 256 ∧ c < 256 ∧ n ≤ cap ∧ Nums w A n ns
theorem blk30 {w : World} {g T : Nat} {x y z : Value} (h : Blk w g T #[x, y, z]) : w.cell? ⟨g, 0 + 0, none⟩ = some x := by rw [h.cell]; rfl
theorem blk31 {w : World} {g T : Nat} {x y z : Value} (h : Blk w g T #[x, y, z]) : w.cell? ⟨g, 0 + 1, none⟩ = some y := by rw [h.cell]; rfl
theorem blk32 {w : World} {g T : Nat} {x y z : Value} (h : Blk w g T #[x, y, z]) : w.cell? ⟨g, 0 + 2, none⟩ = some z := by rw [h.cell]; rfl
/-- the matrix that a grid stands for -/
def gridM (c n : Nat) (ns : Nat → Int) : Nat → Nat → Int := fun i j => tp n ns (i * c + j)

set_option maxHeartbeats 16000000 in
theorem ints_ok (v : Value) (r c n m : Nat) (ns : Nat → Int) (w : World) (h : GridV w v r c n ns) (hm : 0 < m) (hm2 : m ≤ 256) :
    Meets Try.prog 56 #[v, .int .i64 ((m : Nat) : Int)] w (RZ w (1 + r % m) (1 + c % m) (gridM (1 + c % m) n ns)) := by
  obtain ⟨A, cap, rfl, hr, hc, hcap, hN⟩ := h
  refine fn_W (n := 54) Try.func56 rfl rfl (by kernel_rfl) (by simp) ?_
  have hrm := Nat.mod_lt r hm
  have hcm := Nat.mod_lt c hm
  obtain ⟨R, hR⟩ : ∃ R, R = 1 + r % m := ⟨_, rfl⟩
  obtain ⟨C, hC⟩ : ∃ C, C = 1 + c % m := ⟨_, rfl⟩
  refine gg ?_
  refine R1_box (v := .agg _) (.inl rfl) rfl ?_
  intro w1 hB1 hE1 hs1
  have hG1 : Blk w1 w.heap.size 25 #[.int .u8 ((r : Nat) : Int), .int .u8 ((c : Nat) : Int), .slice A n cap] := hB1
  have f0 := blk30 hG1
  have f2 := blk32 hG1
  refine gg ?_
  refine R1_bldTape rfl ?_
  refine gg ?_
  refine R1_box (v := .agg _) (.inl rfl) rfl ?_
  intro w2 hB2 hE2 hs2
  have hT2 : TapeB w2 w1.heap.size A n cap 0 := by unfold TapeB; rw [Nat.zero_min]; exact hB2
  have f0 := cell_ext hE2 f0
  refine gg ?_
  refine R1_rem_i64 rfl rfl hm ?_
  refine gg ?_
  rw [show (OfNat.ofNat 1 + r % m : Nat) = R from hR.symm]
  refine R1_make sl_si64 (.inl rfl) rfl rfl (Nat.le_refl _) (by omega) (by omega) ?_
  intro w3 hB3 hE3 hs3
  have hG3 := hG1.ext (hE2.trans hE3)
  have hT3 : TapeB w3 w1.heap.size A n cap 0 := hT2.ext hE3
  obtain ⟨gG, hgG⟩ : ∃ g, g = w.heap.size := ⟨_, rfl⟩
  obtain ⟨gT, hgT⟩ : ∃ g, g = w1.heap.size := ⟨_, rfl⟩
  obtain ⟨gO, hgO⟩ : ∃ g, g = w2.heap.size := ⟨_, rfl⟩
  rw [← hgO] at hB3 ⊢
  rw [← hgT] at hT3 ⊢
  rw [← hgG] at hG3 ⊢
  have hE03 := hE1.trans (hE2.trans hE3)
  have hord : gG < gT ∧ gT < gO ∧ w.heap.size ≤ gG := by omega
  obtain ⟨ho1, ho2, ho3⟩ := hord
  have hO3 : Outer 66 w3 gO R 0 C (fun _ => 0) := outer_made hB3
  have hRC : (∃ k, k = R * C) := ⟨_, rfl⟩
  clear f0 f2 hB1 hB2 hB3 hT2 hG1 hE1 hE2 hE3 hs1 hs2 hs3 hgG hgT hgO hRC
  refine gg ?_
  refine W_seq ?_
  refine gg ?_
  refine W_loop (fun q f w' => ∃ i gs, q = R - i ∧ i ≤ R ∧ f 1 = .int .i64 ((m : Nat) : Int) ∧ f 2 = .pointer (some ⟨gG, 0, none⟩) ∧ f 5 = .pointer (some ⟨gT, 0, none⟩) ∧ f 6 = .slice (some ⟨gO, 0, none⟩) R R ∧ f 21 = .int .i64 ((R : Nat) : Int) ∧ f 22 = .int .i64 ((i : Nat) : Int) ∧
      Ext w w' ∧ Blk w' gG 25 #[.int .u8 ((r : Nat) : Int), .int .u8 ((c : Nat) : Int), .slice A n cap] ∧ TapeB w' gT A n cap (i * C) ∧ Outer 66 w' gO R i C gs ∧ (∀ k, k < i → RowW w' (gs k) C (gridM C n ns k) ∧ gO < gs k) ∧ (∀ k k', k < i → k' < i → gs k = gs k' → k = k'))
      R ⟨0, fun _ => 0, rfl, Nat.zero_le _, rfl, rfl, rfl, rfl, rfl, rfl, hE03, hG3, by rw [Nat.zero_mul]; exact hT3, hO3, fun k hk => absurd hk (by omega), fun k k' hk => absurd hk (by omega)⟩ ?_
  clear hE03 hG3 hT3 hO3 w3
  rintro q f w3 ⟨i, gs, rfl, hi, hf1, hf2, hf5, hf6, hf21, hf22, hE, hG, hT, hO, hrow, hinj⟩
  rw [ui hf1, ui hf2, ui hf5, ui hf6, ui hf21, ui hf22]
  clear hf1 hf2 hf5 hf6 hf21 hf22
  by_cases hlt : i < R
  · have f1 := blk31 hG
    refine gg ?_
    refine R1_rem_i64 rfl rfl hm ?_
    refine gg ?_
    rw [show (OfNat.ofNat 1 + c % m : Nat) = C from hC.symm]
    refine R1_make sl_i64 (.inl rfl) rfl rfl (Nat.le_refl _) (by omega) (by omega) ?_
    intro w4 hB4 hE4 hs4
    have hr4 := rowW_made hB4
    obtain ⟨g, hg⟩ : ∃ g, g = w3.heap.size := ⟨_, rfl⟩
    rw [← hg] at hr4 ⊢
    have hOl := hO.lt
    refine gg ?_
    refine R1_storeRow (one_of rfl) (.inl rfl) rfl rfl (hO.ext hE4) hlt ?_
    intro w5 ⟨_, hO5⟩ hC5 hk5 hs5
    have hO5 := hO5 rfl
    have hx5 := hO5.at (k := i) (by omega) hlt
    rw [show setN gs i g i = g by simp [setN]] at hx5
    have hE5 : Ext w w5 := hC5.ext_of (hE.trans hE4) (fun b hb => by omega)
    have hG5 := (hG.ext hE4).ch hC5 (by omega)
    have hT5 : TapeB w5 gT A n cap (i * C) := Blk.ch (Blk.ext hT hE4) hC5 (by omega)
    have hr5 : RowW w5 g C (fun _ => 0) := Blk.ch hr4 hC5 (by omega)
    have hrow5 : ∀ k, k < i → RowW w5 (gs k) C (gridM C n ns k) ∧ gO < gs k ∧ gs k < g := fun k hk => by
      obtain ⟨h1, h2⟩ := hrow k hk
      have := Blk.lt h1
      exact ⟨Blk.ch (Blk.ext h1 hE4) hC5 (by omega), h2, by omega⟩
    have hgO : gO < g := by omega
    clear hC5 hk5 hs5 hr4 hB4 hE4 hs4 hG hT hO hrow hE f1
    refine gg ?_
    refine W_loop (fun q f w' => ∃ j, q = C - j ∧ j ≤ C ∧ f 1 = .int .i64 ((m : Nat) : Int) ∧ f 2 = .pointer (some ⟨gG, 0, none⟩) ∧ f 5 = .pointer (some ⟨gT, 0, none⟩) ∧ f 6 = .slice (some ⟨gO, 0, none⟩) R R ∧ f 7 = .int .i64 ((i : Nat) : Int) ∧ f 21 = .int .i64 ((R : Nat) : Int) ∧ f 22 = .int .i64 ((i : Nat) : Int) ∧ f 39 = .int .i64 ((C : Nat) : Int) ∧ f 40 = .int .i64 ((j : Nat) : Int) ∧
      Ext w w' ∧ Blk w' gG 25 #[.int .u8 ((r : Nat) : Int), .int .u8 ((c : Nat) : Int), .slice A n cap] ∧ TapeB w' gT A n cap (i * C + j) ∧ Outer 66 w' gO R (i + 1) C (setN gs i g) ∧ (∀ k, k < i → RowW w' (gs k) C (gridM C n ns k)) ∧ RowW w' g C (fun b => if b < j then gridM C n ns i b else 0))
      C ⟨0, rfl, Nat.zero_le _, rfl, rfl, rfl, rfl, rfl, rfl, rfl, rfl, rfl, hE5, hG5, hT5, hO5, fun k hk => (hrow5 k hk).1, hr5.congr fun b _ => by simp⟩ ?_
    have hrow6 : ∀ k, k < i → gO < gs k ∧ gs k < g := fun k hk => (hrow5 k hk).2
    have hwg : w.heap.size < g := by have := hE5.size; omega
    clear hE5 hG5 hT5 hO5 hrow5 hr5 hx5 f
    rintro q f w6 ⟨j, rfl, hj, hf1, hf2, hf5, hf6, hf7, hf21, hf22, hf39, hf40, hE, hG, hT, hO, hrow, hr⟩
    rw [ui hf1, ui hf2, ui hf5, ui hf6, ui hf7, ui hf21, ui hf22, ui hf39, ui hf40]
    clear hf1 hf2 hf5 hf6 hf7 hf21 hf22 hf39 hf40
    by_cases hjc : j < C
    · refine gg ?_
      refine W_regDM (fun b => b = gT) [(0, 3), (1, 3), (2, 3), (3, 0), (4, 3), (5, 3), (6, 1), (7, 3), (8, 2)] mixed (by kernel_rfl) (fun w7 hE7 _ => ?_)
      have hx7 := (hO.ext hE7).at (k := i) (by omega) hlt
      rw [show setN gs i g i = g by simp [setN]] at hx7
      refine gg ?_
      refine R1_load1M (by decide) (one_of rfl) rfl hx7 (by show ¬ gO = gT; omega) ?_
      refine gg ?_
      refine R1_callS (next_ok gT A n cap (i * C + j) ns w w7 (hE.trans hE7) hN (by omega) (hT.ext hE7)) ?_
      rintro _ w8 ⟨rfl, hT8, hC8, hk8⟩
      refine ⟨hC8, ?_⟩
      have hr8 : RowW w8 g C _ := Blk.ch (Blk.ext hr hE7) hC8 (by omega)
      refine gg ?_
      refine R1_storeI (one_of rfl) (.inl rfl) rfl rfl hr8 (by rw [arr_size]; omega) ?_
      intro w9 hB9 hC9 hs9
      have hr9 := RowW.set hB9
      refine gg ?_
      refine ⟨_, ?_, j + 1, rfl, by omega, rfl, rfl, rfl, rfl, rfl, rfl, rfl, rfl, rfl, hC9.ext_of (hC8.ext_of (hE.trans hE7) (fun b hb => by omega)) (fun b hb => by omega), ((hG.ext hE7).ch hC8 (by omega)).ch hC9 (by omega), Blk.ch hT8 hC9 (by omega), ((hO.ext hE7).kp hC8 (by omega)).kp hC9 (by omega), fun k hk => ?_, hr9.congr fun b hb => ?_⟩
      · omega
      · have := hrow6 k hk
        exact Blk.ch (Blk.ch (Blk.ext (hrow k hk) hE7) hC8 (by omega)) hC9 (by omega)
      · simp only [setZ]
        by_cases e : b = j
        · subst e; rw [if_pos rfl, if_pos (by omega), gridM]
        · rw [if_neg e]
          by_cases e2 : b < j
          · rw [if_pos e2, if_pos (by omega)]
          · rw [if_neg e2, if_neg (by omega)]
    · refine gg ?_
      have : j = C := by omega
      subst this
      refine ⟨_, ?_, i + 1, setN gs i g, rfl, by omega, rfl, rfl, rfl, rfl, rfl, rfl, hE, hG, by rw [Nat.succ_mul]; exact hT, hO, fun k hk => ?_, fun k k' hk hk' e => ?_⟩
      · omega
      · by_cases e : k = i
        · subst e
          simp only [setN, if_true]
          exact ⟨hr.congr fun b hb => by rw [if_pos hb], hgO⟩
        · simp only [setN, if_neg e]
          exact ⟨hrow k (by omega), (hrow6 k (by omega)).1⟩
      · simp only [setN] at e
        split at e <;> split at e
        · omega
        · have := hrow6 k' (by omega); omega
        · have := hrow6 k (by omega); omega
        · exact hinj k k' (by omega) (by omega) e
  · refine gg ?_
    have : i = R := by omega
    subst this
    refine ret1 (v := .slice _ _ _) rfl rfl ?_
    rw [← hC]
    exact ⟨hE, gO, gs, rfl, by omega, fun k hk => by have := (hrow k hk).2; omega, hO.full, fun k hk => (hrow k hk).1, fun k hk => by have := (hrow k hk).2; omega, hinj⟩

theorem gridM_range {w : World} {A : Option Addr} {n : Nat} {ns : Nat → Int} (h : Nums w A n ns) (c i j : Nat) : -128 ≤ gridM c n ns i j ∧ gridM c n ns i j < 128 := tp_range h _
theorem gridM_bd {w : World} {A : Option Addr} {n : Nat} {ns : Nat → Int} (h : Nums w A n ns) (c i j : Nat) : Bd 1 (gridM c n ns i j) := by
  have := gridM_range h c i j
  unfold Bd
  have : B ^ 1 = 4294967296 := by decide
  omega
theorem GridV.ext {w w' : World} {v : Value} {r c n : Nat} {ns : Nat → Int} (h : GridV w v r c n ns) (hE : Ext w w') : GridV w' v r c n ns := by
  obtain ⟨A, cap, h1, h2, h3, h4, h5⟩ := h
  exact ⟨A, cap, h1, h2, h3, h4, h5.ext hE⟩
theorem GridV.bd {w : World} {v : Value} {r c n : Nat} {ns : Nat → Int} (h : GridV w v r c n ns) (c' i j : Nat) : Bd 1 (gridM c' n ns i j) := by
  obtain ⟨A, cap, h1, h2, h3, h4, h5⟩ := h
  exact gridM_bd h5 c' i j
theorem blkT {w : World} {g T : Nat} {x y z : Value} (h : Blk w g T #[x, y, z]) : w.cell? ⟨g, 0, none⟩ = some x ∧ w.cell? ((⟨g, 0, none⟩ : Addr).add 1) = some y ∧ w.cell? ((⟨g, 0, none⟩ : Addr).add 2) = some z := by
  refine ⟨by rw [h.cell]; rfl, by rw [add_lit, h.cell]; rfl, by rw [add_lit, h.cell]; rfl⟩

set_option maxHeartbeats 8000000 in
theorem gridMatrix_ok (v : Value) (r c n m : Nat) (ns : Nat → Int) (w : World) (h : GridV w v r c n ns) (hm : 0 < m) (hm2 : m ≤ 16) :
    Meets Try.prog 19 #[v, .int .i64 ((m : Nat) : Int)] w (RM w (1 + r % m) (1 + c % m) (gridM (1 + c % m) n ns)) := by
  have hG := h
  obtain ⟨A, cap, rfl, hr, hc, hcap, hN⟩ := h
  refine fn_W (n := 9) Try.func19 rfl rfl (by kernel_rfl) (by simp) ?_
  have hrm := Nat.mod_lt r hm
  have hcm := Nat.mod_lt c hm
  refine gg ?_
  refine R1_box (v := .agg _) (.inl rfl) rfl ?_
  intro w1 hB1 hE1 hs1
  obtain ⟨f0, f1, f2⟩ := blkT (show Blk w1 w.heap.size 25 #[.int .u8 ((r : Nat) : Int), .int .u8 ((c : Nat) : Int), .slice A n cap] from hB1)
  refine gg ?_
  refine R1_load3F (by decide) agg_Grid rfl f0 f1 f2 ?_
  refine gg ?_
  refine R1_call2 (ints_ok _ r c n m ns w1 (hG.ext hE1) hm (by omega)) ?_
  rintro _ w2 ⟨hE2, gO, gs, rfl, _, _, hZ⟩
  refine gg ?_
  refine R1_call2 (rof_ok _ (1 + r % m) (fun _ => 1 + c % m) _ w2 (hZ.read (fun i j _ _ => by have := gridM_range hN (1 + c % m) i j; omega) (by omega) (by omega))) ?_
  intro v w3 hv
  obtain ⟨hE3, gO', gs', rfl, hg, hgs, hO⟩ := hv.get (okM_iff.2 ⟨⟨by omega, by omega, by omega, by omega⟩, fun _ _ => rfl⟩)
  refine gg ?_
  have := (hE1.trans hE2).size
  exact ret1 (v := .slice _ _ _) rfl rfl ⟨(hE1.trans hE2).trans hE3, gO', gs', rfl, by omega, fun i hi => by have := hgs i hi; omega, hO⟩

set_option maxHeartbeats 8000000 in
theorem gridSquare_ok (v : Value) (r c n m : Nat) (ns : Nat → Int) (w : World) (h : GridV w v r c n ns) (hm : 0 < m) (hm2 : m ≤ 16) :
    Meets Try.prog 22 #[v, .int .i64 ((m : Nat) : Int)] w (RM w (1 + r % m) (1 + r % m) (gridM (1 + r % m) n ns)) := by
  obtain ⟨A, cap, rfl, hr, hc, hcap, hN⟩ := h
  refine fn_W (n := 11) Try.func22 rfl rfl (by kernel_rfl) (by simp) ?_
  refine gg ?_
  refine R1_box (v := .agg _) (.inl rfl) rfl ?_
  intro w1 hB1 hE1 hs1
  have hG1 : Blk w1 w.heap.size 25 #[.int .u8 ((r : Nat) : Int), .int .u8 ((c : Nat) : Int), .slice A n cap] := hB1
  have f0 := blk30 hG1
  refine gg ?_
  refine R1_storeI (one_of rfl) (.inl rfl) rfl rfl hG1 (by simp) ?_
  intro w2 hB2 hC2 hs2
  have hE2 : Ext w w2 := hC2.ext_of hE1 (fun b hb => by omega)
  obtain ⟨f0, f1, f2⟩ := blkT (show Blk w2 w.heap.size 25 #[.int .u8 ((r : Nat) : Int), .int .u8 ((r : Nat) : Int), .slice A n cap] from hB2)
  refine gg ?_
  refine R1_load3F (by decide) agg_Grid rfl f0 f1 f2 ?_
  refine gg ?_
  refine R1_call2 (gridMatrix_ok _ r r n m ns w2 ⟨A, cap, rfl, hr, hr, hcap, hN.ext hE2⟩ hm hm2) ?_
  rintro _ w3 ⟨hE3, gO', gs', rfl, hg, hgs, hO⟩
  refine gg ?_
  have := hE2.size
  exact ret1 (v := .slice _ _ _) rfl rfl ⟨hE2.trans hE3, gO', gs', rfl, by omega, fun i hi => by have := hgs i hi; omega, hO⟩
end Go.Proofs.Ytimjiaabaanbeaa
