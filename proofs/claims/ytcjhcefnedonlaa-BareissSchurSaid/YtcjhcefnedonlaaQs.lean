/- Joined: Opv. -/
import Derived.Test.YtcjhcefnedonlaaQo
import Derived.Test.YtcjhcefnedonlaaQn
/- Openers: five parameters; lists and matrices of int64, lists of int. -/
namespace Go.Proofs.Ytcjhcefnedonlaa
open Go Go.Eng Go.Num Go.Proofs

section
open Go.ChangeShapes
variable {H : Type} {enc : TypeId × Value → H} {P : Program} {w : World} {base : Nat} {spare : Nat → Bool} {held : Bool}
theorem trodAll_five {t t' t'' t3 t4 : TypeId} {args : Array Value} {ds : List (DataW H)} {ps : List MemPlace} (h : DataW.TrodAll enc P w base spare held [t, t', t'', t3, t4] args.toList ds ps) :
    ∃ v v' v'' v3 v4 d d' d'' d3 d4 p p' p'' p3 p4, args = #[v, v', v'', v3, v4] ∧ ds = [d, d', d'', d3, d4] ∧ ps = p ++ p' ++ p'' ++ p3 ++ p4 ∧ DataW.Trod enc P w base spare held t v d p ∧ DataW.Trod enc P w base spare held t' v' d' p' ∧ DataW.Trod enc P w base spare held t'' v'' d'' p'' ∧ DataW.Trod enc P w base spare held t3 v3 d3 p3 ∧ DataW.Trod enc P w base spare held t4 v4 d4 p4 := by
  obtain ⟨v, vs, d, ds', p, q, hargs, rfl, rfl, hd, hrest⟩ := trodAll_cons h
  obtain ⟨v', vs', d', ds'', p', q', rfl, rfl, rfl, hd', hrest'⟩ := trodAll_cons hrest
  obtain ⟨v'', vs'', d'', ds''', p'', q'', rfl, rfl, rfl, hd'', hrest''⟩ := trodAll_cons hrest'
  obtain ⟨v3, vs3, d3, ds3, p3, q3, rfl, rfl, rfl, hd3, hrest3⟩ := trodAll_cons hrest''
  obtain ⟨v4, vs4, d4, ds4, p4, q4, rfl, rfl, rfl, hd4, hrest4⟩ := trodAll_cons hrest3
  obtain ⟨rfl, rfl, rfl⟩ := trodAll_nil hrest4
  exact ⟨v, v', v'', v3, v4, d, d', d'', d3, d4, p, p', p'', p3, p4, by cases args; simp_all, rfl, by simp, hd, hd', hd'', hd3, hd4⟩
end

section
variable {H : Type} {enc : TypeId × Value → H} {w : World} {sp : Nat → Bool} {hd : Bool}
theorem cells_i64 : Try.prog.cellsOf 2 = 1 := by kernel_rfl
theorem cells_int : Try.prog.cellsOf 3 = 1 := by kernel_rfl
theorem cells_si64 : Try.prog.cellsOf 81 = 1 := by kernel_rfl
theorem bytes_i64 : Try.prog.bytesOf 2 = 8 := by kernel_rfl
theorem bytes_si64 : Try.prog.bytesOf 81 = 24 := by kernel_rfl
theorem i64_of_wf' {a : Int} (h : (Lit.int .i64 a).wf = true) : -9223372036854775808 ≤ a ∧ a < 9223372036854775808 := by
  simp [Lit.wf, IntKind.min, IntKind.max, IntKind.signed, IntKind.bits] at h
  omega
theorem open_i64s {fuel : Nat} {cs : List Value} {x : DataW H × List MemPlace} (h : DataW.trod enc Try.prog w 0 sp hd fuel 81 cs = some x) : ∃ v c g, cs = [v] ∧ RowZ w v c g := by
  rcases ChangeShapes.open_ints Try.underlying81 Try.underlying2 cells_i64 h with ⟨rfl, rfl⟩ | ⟨a, len, cap, zs, rfl, _, hl, hm, hz, rfl, hc, hwf⟩
  · exact ⟨_, 0, fun _ => 0, rfl, none, 0, rfl, Nat.le_refl _, by decide, fun j hj => absurd hj (by omega)⟩
  · have hlen : len ≤ zs.length := by rw [hz]; split <;> omega
    refine ⟨_, len, fun j => zs.getD j 0, rfl, some a, cap, rfl, hl, by have : maxLen = 9223372036854775807 := rfl; omega, fun j hj => ⟨a, rfl, ?_, ?_⟩⟩
    · rw [Nat.mul_one, hc j (by omega)]
    · have : zs.getD j 0 ∈ zs := by
        have hi' : j < zs.length := by omega
        simp [List.getD, hi']
      exact i64_of_wf' (hwf _ this)
theorem open_zmat {v : Value} {d : DataW H} {ps : List MemPlace} (h : DataW.Trod enc Try.prog w 0 sp hd 82 v d ps) (hv : v.cells.toList = [v]) : ∃ r len M, MatZ w v r len M := by
  obtain ⟨fuel, h⟩ := h
  rw [hv] at h
  rcases Deep.open_slice1 Try.underlying82 cells_si64 h with ⟨e, e2⟩ | ⟨a, len, cap, m, n, V, D, Pl, e, _, hl, hm, hmm, e2, hx⟩
  · injection e with e
    subst e
    exact ⟨0, fun _ => 0, fun _ _ => 0, none, 0, rfl, Nat.le_refl _, by decide, fun j hj => absurd hj (by omega)⟩
  · injection e with e
    subst e
    have hlm : len ≤ m := by rw [hmm]; split <;> omega
    have hc : maxLen = 9223372036854775807 := rfl
    have each : ∀ j, j < len → ∃ q : Nat × (Nat → Int), ∃ u, w.cell? (a.add (j * 1)) = some u ∧ RowZ w u q.1 q.2 := fun j hj => by
      obtain ⟨h1, h2⟩ := hx j (by omega)
      obtain ⟨u, c, g, e, hr⟩ := open_i64s h2
      injection e with e
      refine ⟨(c, g), u, ?_, hr⟩
      rw [Nat.mul_one, h1, e]
    obtain ⟨q, hq⟩ := Deep.choose_lt each
    refine ⟨len, fun i => (q i).1, fun i => (q i).2, some a, cap, rfl, hl, by omega, fun i hi => ?_⟩
    obtain ⟨u, h1, h2⟩ := hq i hi
    exact ⟨a, u, rfl, h1, h2⟩
theorem open_jlist {v : Value} {d : DataW H} {ps : List MemPlace} (h : DataW.Trod enc Try.prog w 0 sp hd 71 v d ps) (hv : v.cells.toList = [v]) : ∃ c g, IntsE w v c g := by
  obtain ⟨fuel, h⟩ := h
  rw [hv] at h
  rcases ChangeShapes.open_ints Try.underlying71 Try.underlying3 cells_int h with ⟨e, _⟩ | ⟨a, len, cap, zs, e, _, hl, hm, hz, _, hc, hwf⟩
  · injection e with e
    subst e
    exact ⟨0, fun _ => 0, none, 0, rfl, Nat.le_refl _, by decide, fun j hj => absurd hj (by omega)⟩
  · injection e with e
    subst e
    have hlen : len ≤ zs.length := by rw [hz]; split <;> omega
    exact ⟨len, fun j => zs.getD j 0, some a, cap, rfl, hl, by have : maxLen = 9223372036854775807 := rfl; omega, fun j hj => ⟨a, rfl, by rw [Nat.mul_one, hc j (by omega)]⟩⟩
end
end Go.Proofs.Ytcjhcefnedonlaa
