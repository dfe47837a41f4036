/- Steps that append; slices held against nil. Over any program. -/
import Derived.Test.YtimjiaabaanbeaaMem
import Derived.Maps.AppendAt
import Derived.Lib.SliceRun
namespace Go.Eng
open Go Go.RowKit

section
variable {P : Program} {n : Nat} {S : World → World → Prop} {k : Nat} {K : Fr → World → Prop} {f : Fr} {w : World}
  {d ty t t2 : Nat} {x y : Operand} {pos : String} {aft : Array Edge} {gd : Option (Nat × Bool)}

theorem run_append_none (base : Nat) (t ty e : TypeId) (i : TypeInfo) (size : Nat) (ht : P.underlying t = some (.slice e)) (hi : P.info? e = some i)
    (v : Value) (m : Nat) (xs : List Value) (hown : w.ownsRow base e size v m xs) (c : Nat) : (Builtin.append_ #[t, t] ty #[v, .slice none 0 c]).run P w = .ok v w := by
  rcases hown.2 with ⟨rfl, rfl⟩ | ⟨g, cap, cur, rfl, _, _, hnc, _⟩
  · simp [Builtin.append_, run_underlying ht, sizeOf, typeInfo, hi, Builtin.lenOf, Builtin.firstCells]
  · simp [Builtin.append_, run_underlying ht, sizeOf, typeInfo, hi, Builtin.lenOf, Builtin.firstCells, hnc, storeCells]

theorem ch_grown {w w' : World} {row : Option Nat} (h : w.grownBy w' row) : Ch (fun b => some b = row) w w' := ⟨h.os, h.tape, h.output, h.size, fun b hb hn => h.block b hb hn⟩

/-- append(x, y...) onto a row of the call's own -/
theorem R1_append {base e sz bytes m m0 c : Nat} {z v : Value} {xs news : List Value} {A : Option Addr} (hT : SliceTy P t e sz bytes z) (hzs : z.cells.size = sz) (hsz : 0 < sz)
    (hk : k = 2 ∨ k = 1 ∧ ∀ w', Ch (fun b => some b = v.ownBlock) w w' → S w w') (hx : ev n f x = v) (hown : w.ownsRow base e sz v m0 xs) (hy : ev n f y = .slice A m c)
    (hl : news.length = m * sz) (hnews : ∀ j u, news[j]? = some u → ∃ ad, A = some ad ∧ w.cell? (ad.add j) = some u) (h1 : ∀ u ∈ news, u.oneCell' = true)
    (h63 : m0 + m ≤ 9223372036854775807) (hbytes : (m0 + m) * bytes ≤ 140737488355328) (hbase : base ≤ w.heap.size)
    (h : ∀ v' w', w'.ownsRow base e sz v' (m0 + m) (xs ++ news) → Ch (fun b => some b = v.ownBlock) w w' → (v'.ownBlock = v.ownBlock ∨ v'.ownBlock = some w.heap.size) → K (upd f d v') w') :
    R1 P n S k ⟨some d, .call { callee := .builtin .append, args := #[x, y], argTypes := #[t, t] }, ty, pos, aft, gd⟩ K f w := by
  have key : ∃ v' w', (Builtin.append_ #[t, t] ty #[v, .slice A m c]).run P w = .ok v' w' ∧ w'.ownsRow base e sz v' (m0 + m) (xs ++ news) ∧ Ch (fun b => some b = v.ownBlock) w w' ∧ (v'.ownBlock = v.ownBlock ∨ v'.ownBlock = some w.heap.size) := by
    obtain ⟨hu, hinfo⟩ := hT
    cases hi : P.info? e with
    | none => rw [hi] at hinfo; simp at hinfo
    | some i =>
      rw [hi] at hinfo
      simp at hinfo
      obtain ⟨hz, hs, hby⟩ := hinfo
      rcases A with _ | ad
      · have hn : news = [] := by
          rcases news with _ | ⟨u, r⟩
          · rfl
          · obtain ⟨ad, h, _⟩ := hnews 0 u rfl; cases h
        subst hn
        have hm : m = 0 := by
          rcases Nat.eq_zero_or_pos m with h0 | h0
          · exact h0
          · have := Nat.mul_pos h0 hsz; simp at hl; omega
        subst hm
        exact ⟨v, w, run_append_none base t ty e i sz hu hi v m0 xs hown c, by simpa using hown, Ch.refl _ _, .inl rfl⟩
      · obtain ⟨v', w', hrun, h2, h3, _, h5⟩ := run_append_own_at (P := P) w base t ty e i z sz bytes hu hi hz hs hby hzs hsz v m0 xs hown ad m c news hl
          (fun j u hj => by obtain ⟨ad', e, hc⟩ := hnews j u hj; injection e with e; subst e; exact hc) h1 (by simp only [maxLen]; exact h63) hbytes hbase
        exact ⟨v', w', hrun, h2, ch_grown h3, h5⟩
  obtain ⟨v', w', hrun, h2, h3, h4⟩ := key
  refine R1_loud (w' := w') (v := v') (hk.imp id fun h => ⟨h.1, h.2 _ h3⟩) ?_ (h v' w' h2 h3 h4)
  simp only [execOp, resolve, invoke, builtin, Sem.run_bind, Sem.run_pure, Result.andThen_ok, List.map_toArray, List.map_cons, List.map_nil, hx, hy, hrun]

/-- the empty slice literal -/
theorem R1_build0 {e sz bytes : Nat} {z : Value} (hT : SliceTy P t e sz bytes z) (hS : k = 2 ∨ k = 1 ∧ ∀ w', Ext w w' → S w w')
    (h : ∀ w', Blk w' w.heap.size e #[] → Ext w w' → w'.heap.size = w.heap.size + 1 → K (upd f d (.slice (some ⟨w.heap.size, 0, none⟩) 0 0)) w') : R1 P n S k ⟨some d, .buildSlice t 0 #[], ty, pos, aft, gd⟩ K f w := by
  refine R1_new (T := e) (cs := #[]) (v := .slice (some ⟨w.heap.size, 0, none⟩) 0 0) hS ?_ h
  obtain ⟨hu, hinfo⟩ := hT
  cases hi : P.info? e with
  | none => rw [hi] at hinfo; simp at hinfo
  | some i => simp [execOp, Instr.buildSlice, run_underlying hu, sizeOf, typeInfo, hi, Instr.fill, newRow, Array.range]; congr 2; exact Array.eq_empty_of_size_eq_zero (by simp)
theorem set_one (xs : Array Value) (h : xs.size = 1) {v0 : Value} : xs.setIfInBounds 0 v0 = #[v0] := by
  obtain ⟨l⟩ := xs
  match l, h with
  | [_], _ => rfl
/-- a slice literal of one one-cell element -/
theorem R1_build1 {e bytes : Nat} {z v0 : Value} {y0 : Operand} (hT : SliceTy P t e 1 bytes z) (hz : z.oneCell' = true) (hS : k = 2 ∨ k = 1 ∧ ∀ w', Ext w w' → S w w') (h0 : ev n f y0 = v0) (o0 : v0.oneCell' = true)
    (h : ∀ w', Blk w' w.heap.size e #[v0] → Ext w w' → w'.heap.size = w.heap.size + 1 → K (upd f d (.slice (some ⟨w.heap.size, 0, none⟩) 1 1)) w') : R1 P n S k ⟨some d, .buildSlice t 1 #[(0, y0)], ty, pos, aft, gd⟩ K f w := by
  refine R1_new (T := e) (cs := #[v0]) (v := .slice (some ⟨w.heap.size, 0, none⟩) 1 1) hS ?_ h
  obtain ⟨hu, hinfo⟩ := hT
  cases hi : P.info? e with
  | none => rw [hi] at hinfo; simp at hinfo
  | some i =>
    rw [hi] at hinfo
    simp at hinfo
    obtain ⟨hz', hsz, hby⟩ := hinfo
    simp [execOp, Instr.buildSlice, run_underlying hu, sizeOf, typeInfo, hi, hsz, zeroValue, hz', h0, Instr.fill, oneCell_cells o0, oneCell_cells hz, newRow, Array.range]
    rw [set_one _ (by simp [hsz])]
/-- 'x == nil' -/
theorem R1_eqnil {e sz bytes m c : Nat} {z : Value} {A : Option Addr} (hT : SliceTy P t e sz bytes z) (hx : ev n f x = .slice A m c) (h : K (upd f d (.bool A.isNone)) w) :
    R1 P n S k ⟨some d, .binOp .eql t x (.const (.slice none 0 0)) t2, ty, pos, aft, gd⟩ K f w :=
  R1_bin hx rfl (fun _ => by simp [eqGuard, go_sem]) (fun w => Lib.run_eql_slice_nil w t e A m c 0 0 hT.und) h
end
end Go.Eng
