/- Joined: Uni, Oph. -/
import Derived.Test.YtcjhcefnedonlaaQf
import Derived.Test.YtcjhcefnedonlaaQh
/- quadformmake: Below, Unimodular. -/
namespace Go.Proofs.Ytcjhcefnedonlaa
open Go Go.Eng Go.Num Go.Proofs

/-! column operations, plainly -/
def uop (i j : Nat) (c : Int) (U : Nat → Nat → Int) : Nat → Nat → Int := fun r q =>
  if i = j then (if c < 0 then (if q = i then -U r q else U r q) else U r q)
  else if c = 0 then (if q = i then U r j else if q = j then U r i else U r q)
  else (if q = i then U r i + c * U r j else U r q)
theorem det_uop {n i j : Nat} (c : Int) (U : Nat → Nat → Int) (hi : i < n) (hj : j < n) (h : Go.Det.det n U = 1 ∨ Go.Det.det n U = -1) : Go.Det.det n (uop i j c U) = 1 ∨ Go.Det.det n (uop i j c U) = -1 := by
  have hma := Go.Det.ma_det n
  have ht : ∀ A, Go.Det.det n (Go.Det.tr A) = Go.Det.det n A := Go.Det.det_tr n
  rw [← ht] at h
  rw [← ht (uop i j c U)]
  by_cases e : i = j
  · by_cases hc : c < 0
    · have : Go.Det.tr (uop i j c U) = Go.Det.setR (Go.Det.tr U) i fun q => -1 * Go.Det.tr U i q := by
        funext a b
        simp only [Go.Det.tr, uop, Go.Det.setR, if_pos e, if_pos hc]
        split
        · rename_i h'; subst h'; omega
        · rfl
      rw [this, hma.smul _ i _ _ hi, Go.Det.setR_self]; omega
    · have : uop i j c U = U := by funext a b; simp only [uop, if_pos e, if_neg hc]
      rw [this]; exact h
  · by_cases hc : c = 0
    · have : Go.Det.tr (uop i j c U) = Go.Det.swp2 i j (Go.Det.tr U) := by
        funext a b
        simp only [Go.Det.tr, uop, Go.Det.swp2, if_neg e, if_pos hc]
        split
        · rfl
        · split <;> rfl
      rw [this, hma.swap _ i j hi hj e]; omega
    · have : Go.Det.tr (uop i j c U) = Go.Det.setR (Go.Det.tr U) i fun q => Go.Det.tr U i q + c * Go.Det.tr U j q := by
        funext a b
        simp only [Go.Det.tr, uop, Go.Det.setR, if_neg e, if_neg hc]
      rw [this, hma.addRow _ i j c hi hj e]; exact h
theorem abs_mul_le {a c : Int} {N : Nat} (ha : a.natAbs ≤ N) (hc : -2 ≤ c ∧ c ≤ 2) : (c * a).natAbs ≤ 2 * N := by
  rw [Int.natAbs_mul]
  have : c.natAbs ≤ 2 := by omega
  exact Nat.mul_le_mul this ha
theorem uop_le {i j n N : Nat} {c : Int} {U : Nat → Nat → Int} (hi : i < n) (hj : j < n) (hc : -2 ≤ c ∧ c ≤ 2) (h : ∀ a b, a < n → b < n → (U a b).natAbs ≤ N) : ∀ a b, a < n → b < n → (uop i j c U a b).natAbs ≤ 3 * N := fun a b ha hb => by
  have h1 := h a b ha hb
  have h2 := h a i ha hi
  have h3 := h a j ha hj
  have h4 := abs_mul_le h3 hc
  unfold uop
  split
  · split
    · split <;> omega
    · omega
  · split
    · split
      · omega
      · split <;> omega
    · split <;> omega

theorem ZMat.put {w w' : World} {gO : Nat} {gs : Nat → Nat} {r c i j : Nat} {M : Nat → Nat → Int} {z : Int} (h : ZMat w gO gs r c M) (hi : i < r) (hB : RowW w' (gs i) c (setZ (M i) j z)) (hC : Ch (fun b => b = gs i) w w') : ZMat w' gO gs r c (set2 M i j z) := by
  refine ⟨h.outer.ch hC (Ne.symm (h.ne i hi)), fun a ha => ?_, h.ne, h.inj⟩
  by_cases e : a = i
  · subst e; rw [set2_row]; exact hB
  · rw [set2_ne _ _ _ e]
    exact Blk.ch (h.row a ha) hC (fun e' => e (h.inj a i ha hi e'))
theorem ZMat.ch {w w' : World} {gO : Nat} {gs : Nat → Nat} {r c : Nat} {M : Nat → Nat → Int} {MM : Nat → Prop} (h : ZMat w gO gs r c M) (hC : Ch MM w w') (hn : ¬ MM gO) (hr : ∀ i, i < r → ¬ MM (gs i)) : ZMat w' gO gs r c M :=
  ⟨h.outer.ch hC hn, fun i hi => Blk.ch (h.row i hi) hC (hr i hi), h.ne, h.inj⟩
theorem ZMat.congr {w : World} {gO : Nat} {gs : Nat → Nat} {r c : Nat} {M M' : Nat → Nat → Int} (h : ZMat w gO gs r c M) (e : ∀ i j, i < r → j < c → M i j = M' i j) : ZMat w gO gs r c M' :=
  ⟨h.outer, fun i hi => (h.row i hi).congr fun j hj => e i j hi hj, h.ne, h.inj⟩
theorem ZMat.at {w : World} {gO : Nat} {gs : Nat → Nat} {r c i : Nat} {M : Nat → Nat → Int} (h : ZMat w gO gs r c M) (hi : i < r) : w.cell? ⟨gO, 0 + i * 1, none⟩ = some (.slice (some ⟨gs i, 0, none⟩) c c) := by
  rw [h.outer.cell, arr_at (by omega), Nat.zero_add, Nat.mul_one]
theorem RowW.at {w : World} {g c j : Nat} {M : Nat → Int} (h : RowW w g c M) (hj : j < c) : w.cell? ⟨g, 0 + j * 1, none⟩ = some (.int .i64 (M j)) := by
  unfold RowW at h; rw [h.cell, arr_at (by omega), Nat.zero_add, Nat.mul_one]
theorem tapeB_at {w : World} {g : Nat} {A : Option Addr} {n c k : Nat} (h : TapeB w g A n c k) : w.cell? ⟨g, 0 + 0, none⟩ = some (.slice A n c) ∧ w.cell? ⟨g, 0 + 1, none⟩ = some (.int .i64 ((min k n : Nat) : Int)) := ⟨blk0 h, blk1 h⟩

/-- what Unimodular leaves -/
def RU (w : World) (n : Nat) (v : Value) (w' : World) : Prop :=
  Ext w w' ∧ ∃ gO gs U, v = .slice (some ⟨gO, 0, none⟩) n n ∧ w.heap.size ≤ gO ∧ (∀ i, i < n → w.heap.size ≤ gs i) ∧ ZMat w' gO gs n n U ∧ (∀ i j, i < n → j < n → (U i j).natAbs ≤ 531441) ∧ (Go.Det.det n U = 1 ∨ Go.Det.det n U = -1)
theorem noU_rowW {c : Nat} {M : Nat → Int} : NoU (arr c fun j => .int .i64 (M j)) := noU_i64 fun _ _ => ⟨_, rfl⟩
theorem noU_outer {r c : Nat} {gs : Nat → Nat} : NoU (arr r fun i => Value.slice (some ⟨gs i, 0, none⟩) c c) := (noInt_rows fun _ _ => ⟨_, _, _, rfl⟩).noU

end Go.Proofs.Ytcjhcefnedonlaa

/- More openers: lists of int8, bytes, lists of Ints. -/
namespace Go.Proofs.Ytcjhcefnedonlaa
open Go Go.Eng Go.Num Go.Proofs

/-- a list of int8 -/
def NumsV (w : World) (v : Value) (m : Nat) (ns : Nat → Int) : Prop := ∃ A cap, v = .slice A m cap ∧ m ≤ cap ∧ Nums w A m ns
/-- a byte -/
def ByteV (v : Value) (a : Nat) : Prop := v = .int .u8 ((a : Nat) : Int) ∧ a < 256
section
variable {H : Type} {enc : TypeId × Value → H} {w : World} {sp : Nat → Bool} {hd : Bool}
theorem open_nums {v : Value} {d : DataW H} {ps : List MemPlace} (h : DataW.Trod enc Try.prog w 0 sp hd 22 v d ps) (hw : Wt 22 d) (hv : v.cells.toList = [v]) : ∃ m ns, NumsV w v m ns := by
  obtain ⟨fuel, h⟩ := h
  rw [hv] at h
  obtain ⟨A, n, c, ns, e, hc, hN⟩ := open_i8s h hw
  injection e with e
  subst e
  exact ⟨n, ns, A, c, rfl, hc, hN⟩
theorem int_cells {P : Program} {W : World} {r : Reach} {b t : Nat} {k : IntKind} {v : Value} (hu : P.underlying t = some (.int k)) (h : Value.okWide P W r b t v) : v.cells.toList = [v] := by
  cases v <;> simp [Value.okWide, hu, Cell.okWide, Cell.ok] at h
  rfl
theorem open_byte {v : Value} {d : DataW H} {ps : List MemPlace} (h : DataW.Trod enc Try.prog w 0 sp hd 5 v d ps) (hv : v.cells.toList = [v]) : ∃ a, ByteV v a := by
  obtain ⟨fuel, h⟩ := h
  rw [hv] at h
  obtain ⟨r, e, hr⟩ := open_u8 h
  exact ⟨r, e, hr⟩
theorem open_vec {v : Value} {d : DataW H} {ps : List MemPlace} (h : DataW.Trod enc Try.prog w 0 sp hd 30 v d ps) (hw : Wt 30 d) (hv : v.cells.toList = [v]) : ∃ c M L, RowL w v c M L := by
  obtain ⟨fuel, h⟩ := h
  rw [hv] at h
  obtain ⟨u, c, M, L, e, hr⟩ := open_row h hw
  injection e with e
  subst e
  exact ⟨c, M, L, hr⟩
end
end Go.Proofs.Ytcjhcefnedonlaa
