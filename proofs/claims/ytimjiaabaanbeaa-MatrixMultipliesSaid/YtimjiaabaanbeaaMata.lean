/- Matrices of Ints in memory. -/
import Derived.Test.YtimjiaabaanbeaaInte
import Derived.Test.YtimjiaabaanbeaaGrp
namespace Go.Proofs.Ytimjiaabaanbeaa
open Go Go.Eng Go.Num Go.Proofs

theorem R1_func0 {P : Program} {n : Nat} {S : World → World → Prop} {k : Nat} {K : Fr → World → Prop} {f : Fr} {w : World} {d ty : Nat} {pos : String} {aft : Array Edge} {gd : Option (Nat × Bool)} {g : Fn} {l : List Operand}
    (h : K (upd f d (.func g #[] (l.map (ev n f)).toArray)) w) : R1 P n S k ⟨some d, .makeFunc g #[] l.toArray, ty, pos, aft, gd⟩ K f w :=
  R1_func (by simpa using h)
/-- a call of a function value with two arguments -/
theorem R1_callv2 {P : Program} {n : Nat} {S : World → World → Prop} {k : Nat} {K : Fr → World → Prop} {f : Fr} {w : World} {d ty : Nat} {pos : String} {aft : Array Edge} {gd : Option (Nat × Bool)} {g : FuncId} {x a0 a1 : Operand} {ats : Array TypeId} {cap : List Value} {v0 v1 : Value} {post : Value → World → Prop}
    (h0 : k = 2 ∨ k = 1) (hx : ev n f x = .func (.func g) #[] cap.toArray) (e0 : ev n f a0 = v0) (e1 : ev n f a1 = v1) (hc : Meets P g (v0 :: v1 :: cap).toArray w post)
    (h : ∀ v w', post v w' → (k = 1 → S w w') ∧ K (upd f d v) w') : R1 P n S k ⟨some d, .call { callee := .value x, args := #[a0, a1], argTypes := ats }, ty, pos, aft, gd⟩ K f w :=
  R1_callv h0 hx (by simp [e0, e1]) hc h
/-- a block's cells, as a function -/
def arr (n : Nat) (h : Nat → Value) : Array Value := (Array.range n).map h
theorem arr_size (n : Nat) (h : Nat → Value) : (arr n h).size = n := by simp [arr]
theorem arr_at {n i : Nat} {h : Nat → Value} (hi : i < n) : (arr n h)[i]? = some (h i) := by simp [arr, hi]
theorem arr_made (z : Array Value) (n : Nat) : madeCells z n = arr n (fun k => z[k % z.size]!) := rfl
theorem upd_self (h : Nat → Value) (i : Nat) (v : Value) : upd h i v i = v := by simp [upd]
theorem upd_ne (h : Nat → Value) {i j : Nat} (v : Value) (hn : j ≠ i) : upd h i v j = h j := by
  have : Nat.beq j i = false := by
    cases hb : Nat.beq j i
    · rfl
    · exact absurd (Nat.eq_of_beq_eq_true hb) hn
  simp [upd, this]
theorem arr_set (n i : Nat) (h : Nat → Value) (v : Value) : (arr n h).setIfInBounds i v = arr n (upd h i v) := by
  apply Array.ext_getElem?
  intro j
  rw [Array.getElem?_setIfInBounds]
  by_cases hj : j < n
  · rw [arr_at hj]
    by_cases hij : i = j
    · subst hij
      rw [if_pos rfl, if_pos (by rw [arr_size]; exact hj), arr_at hj, upd_self]
    · rw [if_neg hij, arr_at hj, upd_ne h v (Ne.symm hij)]
  · have e1 : (arr n h)[j]? = none := by simp [arr, hj]
    have e2 : (arr n (upd h i v))[j]? = none := by simp [arr, hj]
    rw [e1, e2]
    split
    · rw [if_neg (by rw [arr_size]; omega)]
    · rfl

def setZ (M : Nat → Int) (j : Nat) (z : Int) : Nat → Int := fun k => if k = j then z else M k
/-- a row of the call's own: c canonical Ints -/
def ORow (w : World) (g c : Nat) (M : Nat → Int) : Prop := ∃ h, Blk w g 35 (arr (c * 2) h) ∧ ∀ j, j < c → CV w (h (j * 2)) (h (j * 2 + 1)) (M j)
theorem CV.zero (w : World) : CV w (.bool false) (.slice none 0 0) 0 := ⟨false, none, [], 0, rfl, rfl, Nat.le_refl _, by omega, Mag.nil _ _, Trimd.nil, fun _ => rfl, rfl⟩
theorem orow_made {w : World} {g c : Nat} (h : Blk w g 35 (madeCells (Value.agg #[.bool false, .slice none 0 0]).cells (c * 2))) : ORow w g c (fun _ => 0) := by
  refine ⟨_, by rw [arr_made] at h; exact h, fun j hj => ?_⟩
  have e0 : j * 2 % 2 = 0 := by omega
  have e1 : (j * 2 + 1) % 2 = 1 := by omega
  have : (Value.agg #[.bool false, .slice none 0 0]).cells = #[.bool false, .slice none 0 0] := rfl
  simp only [this]
  show CV w (#[Value.bool false, .slice none 0 0][j * 2 % 2]!) (#[Value.bool false, .slice none 0 0][(j * 2 + 1) % 2]!) 0
  rw [e0, e1]
  exact CV.zero w
theorem ORow.ext {w w' : World} {g c : Nat} {M : Nat → Int} (h : ORow w g c M) (hE : Ext w w') : ORow w' g c M := by
  obtain ⟨h, hb, hc⟩ := h
  exact ⟨h, hb.ext hE, fun j hj => (hc j hj).ext hE⟩
theorem ORow.noInt {w : World} {c : Nat} {h : Nat → Value} {M : Nat → Int} (hc : ∀ j, j < c → CV w (h (j * 2)) (h (j * 2 + 1)) (M j)) : NoInt (arr (c * 2) h) := by
  intro i k z hz
  by_cases hi : i < c * 2
  · rw [arr_at hi] at hz
    have hz := Option.some.inj hz
    obtain ⟨neg, A, l, cc, e0, e1, _⟩ := hc (i / 2) (by omega)
    rcases Nat.mod_two_eq_zero_or_one i with hm | hm
    · rw [show i / 2 * 2 = i by omega] at e0; rw [e0] at hz; cases hz
    · rw [show i / 2 * 2 + 1 = i by omega] at e1; rw [e1] at hz; cases hz
  · simp [arr, hi] at hz
theorem ORow.congr {w : World} {g c : Nat} {M M' : Nat → Int} (h : ORow w g c M) (e : ∀ j, j < c → M j = M' j) : ORow w g c M' := by
  obtain ⟨h, hb, hc⟩ := h
  exact ⟨h, hb, fun j hj => by rw [← e j hj]; exact hc j hj⟩
theorem ORow.lt {w : World} {g c : Nat} {M : Nat → Int} (h : ORow w g c M) : g < w.heap.size := by
  obtain ⟨h, hb, hc⟩ := h
  exact hb.lt
theorem arr_congr {n : Nat} {h h' : Nat → Value} (e : ∀ k, k < n → h k = h' k) : arr n h = arr n h' := by
  apply Array.ext_getElem?
  intro j
  by_cases hj : j < n
  · rw [arr_at hj, arr_at hj, e j hj]
  · simp [arr, hj]
/-- an own row, kept where another block without numbers is changed -/
theorem ORow.keep {w w' : World} {g c G T : Nat} {cs : Array Value} {M : Nat → Int} (h : ORow w g c M) (hb : Blk w G T cs) (hn : NoInt cs) (hC : Ch (fun b => b = G) w w') (hne : g ≠ G) : ORow w' g c M := by
  obtain ⟨h, hbb, hc⟩ := h
  exact ⟨h, hbb.ch hC hne, fun j hj => (hc j hj).keep hb hn hC⟩
/-- .. with an entry set -/
theorem ORow.set {w w' : World} {g c j : Nat} {h : Nat → Value} {M : Nat → Int} {x y : Value} {z : Int} (hb : Blk w g 35 (arr (c * 2) h)) (hc : ∀ j, j < c → CV w (h (j * 2)) (h (j * 2 + 1)) (M j))
    (hv : CV w x y z) (hC : Ch (fun b => b = g) w w') (hb' : Blk w' g 35 (((arr (c * 2) h).setIfInBounds (0 + j * 2) x).setIfInBounds (0 + j * 2 + 1) y)) : ORow w' g c (setZ M j z) := by
  refine ⟨_, by rw [arr_set, arr_set] at hb'; exact hb', fun k hk => ?_⟩
  have hn := ORow.noInt hc
  by_cases hkj : k = j
  · subst hkj
    rw [Nat.zero_add, upd_ne _ _ (show k * 2 ≠ k * 2 + 1 by omega), upd_self, upd_self]
    simp only [setZ, if_true]
    exact hv.keep hb hn hC
  · rw [Nat.zero_add, upd_ne _ _ (by omega), upd_ne _ _ (by omega), upd_ne _ _ (by omega), upd_ne _ _ (by omega)]
    simp only [setZ, if_neg hkj]
    exact (hc k hk).keep hb hn hC
theorem noInt_rows {r : Nat} {h : Nat → Value} (hs : ∀ i, i < r → ∃ A m c, h i = .slice A m c) : NoInt (arr r h) := by
  intro i k z hz
  by_cases hi : i < r
  · rw [arr_at hi] at hz
    obtain ⟨A, m, c, e⟩ := hs i hi
    rw [e] at hz; cases hz
  · simp [arr, hi] at hz

/-- a matrix of the call's own: r rows of c canonical Ints -/
structure OMat (w : World) (gO : Nat) (gs : Nat → Nat) (r c : Nat) (M : Nat → Nat → Int) : Prop where
  outer : Blk w gO 53 (arr r fun i => .slice (some ⟨gs i, 0, none⟩) c c)
  row : ∀ i, i < r → ORow w (gs i) c (M i)
  ne : ∀ i, i < r → gs i ≠ gO
  inj : ∀ i j, i < r → j < r → gs i = gs j → i = j
theorem OMat.ext {w w' : World} {gO : Nat} {gs : Nat → Nat} {r c : Nat} {M : Nat → Nat → Int} (h : OMat w gO gs r c M) (hE : Ext w w') : OMat w' gO gs r c M :=
  ⟨h.outer.ext hE, fun i hi => (h.row i hi).ext hE, h.ne, h.inj⟩
theorem OMat.noInt {w : World} {gO : Nat} {gs : Nat → Nat} {r c : Nat} {M : Nat → Nat → Int} (_ : OMat w gO gs r c M) : NoInt (arr r fun i => Value.slice (some ⟨gs i, 0, none⟩) c c) :=
  noInt_rows fun _ _ => ⟨_, _, _, rfl⟩

/-- what a function that returns a new matrix leaves -/
def RM (w : World) (r c : Nat) (M : Nat → Nat → Int) (v : Value) (w' : World) : Prop :=
  Ext w w' ∧ ∃ gO gs, v = .slice (some ⟨gO, 0, none⟩) r r ∧ w.heap.size ≤ gO ∧ (∀ i, i < r → w.heap.size ≤ gs i) ∧ OMat w' gO gs r c M

/-- a row, read: its entries satisfy E -/
def RowE (E : World → Value → Value → Int → Prop) (w : World) (v : Value) (c : Nat) (g : Nat → Int) : Prop :=
  ∃ A cap, v = .slice A c cap ∧ c ≤ cap ∧ cap < 9223372036854775808 ∧ ∀ j, j < c → ∃ ad x y, A = some ad ∧ w.cell? (ad.add (j * 2)) = some x ∧ w.cell? ((ad.add (j * 2)).add 1) = some y ∧ E w x y (g j)
/-- a matrix, read; the i-th row has len i entries -/
def MatE (E : World → Value → Value → Int → Prop) (w : World) (v : Value) (r : Nat) (len : Nat → Nat) (M : Nat → Nat → Int) : Prop :=
  ∃ A cap, v = .slice A r cap ∧ r ≤ cap ∧ cap < 9223372036854775808 ∧ ∀ i, i < r → ∃ ad u, A = some ad ∧ w.cell? (ad.add (i * 1)) = some u ∧ RowE E w u (len i) (M i)
def EI (N : Nat) : World → Value → Value → Int → Prop := fun w x y z => IV w N x y z
theorem RowE.ext {w w' : World} {N c : Nat} {v : Value} {g : Nat → Int} (h : RowE (EI N) w v c g) (hE : Ext w w') : RowE (EI N) w' v c g := by
  obtain ⟨A, cap, rfl, h1, h2, h3⟩ := h
  refine ⟨A, cap, rfl, h1, h2, fun j hj => ?_⟩
  obtain ⟨ad, x, y, e, hx, hy, hi⟩ := h3 j hj
  exact ⟨ad, x, y, e, cell_ext hE hx, cell_ext hE hy, IV.ext hi hE⟩
theorem MatE.ext {w w' : World} {N r : Nat} {len : Nat → Nat} {v : Value} {M : Nat → Nat → Int} (h : MatE (EI N) w v r len M) (hE : Ext w w') : MatE (EI N) w' v r len M := by
  obtain ⟨A, cap, rfl, h1, h2, h3⟩ := h
  refine ⟨A, cap, rfl, h1, h2, fun j hj => ?_⟩
  obtain ⟨ad, u, e, hu, hr⟩ := h3 j hj
  exact ⟨ad, u, e, cell_ext hE hu, hr.ext hE⟩
theorem ORow.read {w : World} {g c N : Nat} {M : Nat → Int} (h : ORow w g c M) (hN : ∀ j, j < c → (M j).natAbs < B ^ N) (hc : c < 9223372036854775808) : RowE (EI N) w (.slice (some ⟨g, 0, none⟩) c c) c M := by
  obtain ⟨h, hb, hv⟩ := h
  refine ⟨_, _, rfl, Nat.le_refl _, hc, fun j hj => ⟨_, h (j * 2), h (j * 2 + 1), rfl, ?_, ?_, (hv j hj).iv (hN j hj)⟩⟩
  · rw [add_lit, hb.cell, arr_at (by omega), Nat.zero_add]
  · rw [add_lit, add_lit, hb.cell, arr_at (by omega), Nat.zero_add]
theorem OMat.read {w : World} {gO : Nat} {gs : Nat → Nat} {r c N : Nat} {M : Nat → Nat → Int} (h : OMat w gO gs r c M) (hN : ∀ i j, i < r → j < c → (M i j).natAbs < B ^ N) (hr : r < 9223372036854775808) (hc : c < 9223372036854775808) :
    MatE (EI N) w (.slice (some ⟨gO, 0, none⟩) r r) r (fun _ => c) M :=
  ⟨_, _, rfl, Nat.le_refl _, hr, fun i hi => ⟨_, _, rfl, by rw [add_lit, h.outer.cell, arr_at (by omega), Nat.zero_add, Nat.mul_one], (h.row i hi).read (fun j hj => hN i j hi hj) hc⟩⟩
end Go.Proofs.Ytimjiaabaanbeaa
