/- What a grid reads as, opened. -/
import Derived.Test.YtimjiaabaanbeaaOpn
import Derived.Test.YtimjiaabaanbeaaMak
import Derived.Deep.Strs
import Derived.WideShapes
namespace Go.Proofs.Ytimjiaabaanbeaa
open Go Go.Eng Go.Num Go.Proofs

section
variable {H : Type} {enc : TypeId × Value → H} {w : World} {sp : Nat → Bool} {hd : Bool}
theorem cells_u8 : Try.prog.cellsOf 5 = 1 := by kernel_rfl
theorem cells_i8 : Try.prog.cellsOf 98 = 1 := by kernel_rfl
theorem cells_si8 : Try.prog.cellsOf 23 = 1 := by kernel_rfl
theorem cells_Grid : Try.prog.cellsOf 25 = 3 := by kernel_rfl
theorem u8_of_wf {a : Int} (h : (Lit.int .u8 a).wf = true) : 0 ≤ a ∧ a < 256 := by
  simp [Lit.wf, IntKind.min, IntKind.max, IntKind.signed, IntKind.bits] at h
  omega
theorem i8_of_wf {a : Int} (h : (Lit.int .i8 a).wf = true) : -128 ≤ a ∧ a < 128 := by
  simp [Lit.wf, IntKind.min, IntKind.max, IntKind.signed, IntKind.bits] at h
  omega
theorem bytes_i8 : Try.prog.bytesOf 98 = 1 := by kernel_rfl
theorem open_i8s {fuel : Nat} {cs : List Value} {x : DataW H × List MemPlace} (h : DataW.trod enc Try.prog w 0 sp hd fuel 23 cs = some x) (hw : Wt 23 x.1) :
    ∃ A n c ns, cs = [.slice A n c] ∧ n ≤ c ∧ Nums w A n ns := by
  rcases ChangeShapes.open_ints Try.underlying23 Try.underlying98 cells_i8 h with ⟨rfl, rfl⟩ | ⟨a, len, cap, zs, rfl, _, hl, hm, hz, rfl, hc, hwf⟩
  · exact ⟨none, 0, 0, fun _ => 0, rfl, Nat.le_refl _, fun j hj => absurd hj (by omega), by decide⟩
  · have hlen : len ≤ zs.length := by rw [hz]; split <;> omega
    have hlim : ∀ i, i < len → -128 ≤ zs.getD i 0 ∧ zs.getD i 0 < 128 := fun i hi => by
      have : zs.getD i 0 ∈ zs := by
        have hi' : i < zs.length := by omega
        simp [List.getD, hi']
      exact i8_of_wf (hwf _ this)
    have hww := (wt_slice Try.underlying23 hw).1
    rw [bytes_i8] at hww
    have hle : (ChangeShapes.lits (H := H) .i8 (zs.take len)).length = len := by simp [ChangeShapes.lits, Nat.min_eq_left hlen]
    rw [hle] at hww
    refine ⟨some a, len, cap, fun i => zs.getD i 0, rfl, hl, fun j hj => ⟨a, rfl, ?_, hlim j hj⟩, by omega⟩
    rw [Nat.mul_one]; exact hc j (by omega)
theorem three_of_len {l : List Value} (h : l.length = 3) : ∃ a b c, l = [a, b, c] := by
  match l, h with
  | [a, b, c], _ => exact ⟨a, b, c, rfl⟩
theorem open_u8 {fuel : Nat} {a : Value} {x : DataW H × List MemPlace} (h : DataW.trod enc Try.prog w 0 sp hd fuel 5 [a] = some x) : ∃ r : Nat, a = .int .u8 ((r : Nat) : Int) ∧ r < 256 := by
  cases fuel with
  | zero => simp [DataW.trod] at h
  | succ n =>
    cases a <;> simp [DataW.trod, Try.underlying5] at h
    rename_i z
    obtain ⟨⟨rfl, hf⟩, hx⟩ := h
    have := u8_of_wf hf
    exact ⟨z.toNat, by rw [Int.toNat_of_nonneg this.1], by omega⟩
theorem agg_of {P : Program} {W : World} {r : Reach} {b t : Nat} {v : Value} {fs : Array Field} (hu : P.underlying t = some (.struct fs)) (h : Value.okWide P W r b t v) : ∃ cs, v = .agg cs := by
  simp only [Value.okWide, hu] at h
  obtain ⟨cs, e, _⟩ := h
  exact ⟨cs, e⟩
theorem open_grid {v : Value} {d : DataW H} {ps : List MemPlace} (h : DataW.Trod enc Try.prog w 0 sp hd 25 v d ps) (hw : Wt 25 d) (hv : ∃ cs, v = .agg cs) :
    ∃ r c n ns, GridV w v r c n ns := by
  obtain ⟨cs, rfl⟩ := hv
  obtain ⟨fuel, h⟩ := h
  obtain ⟨y0, y1, y2, n, e, hl, h0, h1, h2⟩ := Deep.trod_struct3 Try.underlying25 h
  rw [cells_Grid] at hl
  obtain ⟨a, b, c, e3⟩ := three_of_len hl
  rw [e3] at h0 h1 h2
  have h0 : DataW.trod enc Try.prog w 0 sp hd n 5 (([a, b, c].drop 0).take (Try.prog.cellsOf 5)) = some y0 := h0
  have h1 : DataW.trod enc Try.prog w 0 sp hd n 5 (([a, b, c].drop 1).take (Try.prog.cellsOf 5)) = some y1 := h1
  have h2 : DataW.trod enc Try.prog w 0 sp hd n 23 (([a, b, c].drop 2).take (Try.prog.cellsOf 23)) = some y2 := h2
  rw [cells_u8] at h0 h1
  rw [cells_si8] at h2
  have h0 : DataW.trod enc Try.prog w 0 sp hd n 5 [a] = some y0 := h0
  have h1 : DataW.trod enc Try.prog w 0 sp hd n 5 [b] = some y1 := h1
  have h2 : DataW.trod enc Try.prog w 0 sp hd n 23 [c] = some y2 := h2
  injection e with e _
  subst e
  have hw1 : Wt 23 y2.1 := fun m hm => hw m (by
    have e : DataW.weights Try.prog 25 (.agg [y0.1, y1.1, y2.1]) = DataW.weights Try.prog 5 y0.1 ++ (DataW.weights Try.prog 5 y1.1 ++ (DataW.weights Try.prog 23 y2.1 ++ [])) := by rw [DataW.weights, Try.underlying25]; rfl
    rw [e]
    exact List.mem_append_right _ (List.mem_append_right _ (List.mem_append_left _ hm)))
  obtain ⟨A, m, cap, ns, e, hc, hN⟩ := open_i8s h2 hw1
  injection e with e
  obtain ⟨ra, rfl, hra⟩ := open_u8 h0
  obtain ⟨rb, rfl, hrb⟩ := open_u8 h1
  subst e
  have e4 : cs = #[.int .u8 ((ra : Nat) : Int), .int .u8 ((rb : Nat) : Int), .slice A m cap] := by
    cases cs with | mk l => exact congrArg Array.mk e3
  exact ⟨ra, rb, m, ns, A, cap, by rw [e4], hra, hrb, hc, hN⟩
end
theorem cells_slice {P : Program} {W : World} {r : Reach} {b t e : Nat} {v : Value} (hu : P.underlying t = some (.slice e)) (h : Value.okWide P W r b t v) : v.cells.toList = [v] := by
  cases v <;> simp [Value.okWide, hu, Cell.okWide, Cell.ok] at h
  rfl
theorem wt_of {H : Type} {ts : List TypeId} {ds : List (DataW H)} (h : (DataW.weightsEach Try.prog ts ds).all (· ≤ reachBytes) = true) {j : Nat} {t : TypeId} {d : DataW H} (ht : ts[j]? = some t) (hd : ds[j]? = some d) : Wt t d := fun n hn => by
  have := List.all_eq_true.1 h _ (DataW.weights_mem_each ht hd n hn)
  simpa using this

end Go.Proofs.Ytimjiaabaanbeaa
