/- What an argument reads as, opened: matrices of Ints, grids. -/
import Derived.Test.YtimjiaabaanbeaaMate
import Derived.ProofKit
import Derived.SizedLaws
import Derived.Deep.Slices
namespace Go.Proofs.Ytimjiaabaanbeaa
open Go Go.Eng Go.Num Go.Proofs

/-- two cells that are an Int with exactly n limbs -/
def IVL (w : World) (n : Nat) (x y : Value) (z : Int) : Prop := ∃ neg A l c, x = .bool neg ∧ y = .slice A l.length c ∧ l.length ≤ c ∧ c < 9223372036854775808 ∧ Mag w A l ∧ l.length = n ∧ n ≤ 140737488355328 ∧ z = sg neg (val l)
theorem IVL.iv {w : World} {n N : Nat} {x y : Value} {z : Int} (h : IVL w n x y z) (hN : n ≤ N) : IV w N x y z := by
  obtain ⟨neg, A, l, c, h1, h2, h3, h4, h5, h6, h7, h8⟩ := h
  exact ⟨neg, A, l, c, h1, h2, h3, h4, h5, by omega, h8⟩
def RowL (w : World) (v : Value) (c : Nat) (M : Nat → Int) (L : Nat → Nat) : Prop :=
  ∃ A cap, v = .slice A c cap ∧ c ≤ cap ∧ cap < 9223372036854775808 ∧ c ≤ 140737488355328 ∧ ∀ j, j < c → ∃ ad x y, A = some ad ∧ w.cell? (ad.add (j * 2)) = some x ∧ w.cell? ((ad.add (j * 2)).add 1) = some y ∧ IVL w (L j) x y (M j)
def MatL (w : World) (v : Value) (r : Nat) (len : Nat → Nat) (M : Nat → Nat → Int) (L : Nat → Nat → Nat) : Prop :=
  ∃ A cap, v = .slice A r cap ∧ r ≤ cap ∧ cap < 9223372036854775808 ∧ r ≤ 140737488355328 ∧ ∀ i, i < r → ∃ ad u, A = some ad ∧ w.cell? (ad.add (i * 1)) = some u ∧ RowL w u (len i) (M i) (L i)
theorem RowL.e {w : World} {v : Value} {c N : Nat} {M : Nat → Int} {L : Nat → Nat} (h : RowL w v c M L) (hL : ∀ j, j < c → L j ≤ N) : RowE (EI N) w v c M := by
  obtain ⟨A, cap, rfl, h1, h2, _, h3⟩ := h
  refine ⟨A, cap, rfl, h1, h2, fun j hj => ?_⟩
  obtain ⟨ad, x, y, e, hx, hy, hv⟩ := h3 j hj
  exact ⟨ad, x, y, e, hx, hy, hv.iv (hL j hj)⟩
theorem MatL.e {w : World} {v : Value} {r N : Nat} {len : Nat → Nat} {M : Nat → Nat → Int} {L : Nat → Nat → Nat} (h : MatL w v r len M L) (hL : ∀ i, i < r → ∀ j, j < len i → L i j ≤ N) : MatE (EI N) w v r len M := by
  obtain ⟨A, cap, rfl, h1, h2, _, h3⟩ := h
  refine ⟨A, cap, rfl, h1, h2, fun i hi => ?_⟩
  obtain ⟨ad, u, e, hu, hr⟩ := h3 i hi
  exact ⟨ad, u, e, hu, hr.e (hL i hi)⟩

section
variable {H : Type} {enc : TypeId × Value → H} {w : World} {sp : Nat → Bool} {hd : Bool}
theorem u32_of_wf {a : Int} (h : (Lit.int .u32 a).wf = true) : 0 ≤ a ∧ a < 4294967296 := by
  simp [Lit.wf, IntKind.min, IntKind.max, IntKind.signed, IntKind.bits] at h
  omega
theorem cells_u32 : Try.prog.cellsOf 54 = 1 := by kernel_rfl
theorem cells_Int : Try.prog.cellsOf 35 = 2 := by kernel_rfl
theorem cells_bool : Try.prog.cellsOf 4 = 1 := by kernel_rfl
theorem cells_su32 : Try.prog.cellsOf 33 = 1 := by kernel_rfl
theorem cells_sInt : Try.prog.cellsOf 53 = 1 := by kernel_rfl
theorem bytes_u32 : Try.prog.bytesOf 54 = 4 := by kernel_rfl
theorem bytes_Int : Try.prog.bytesOf 35 = 32 := by kernel_rfl
theorem bytes_sInt : Try.prog.bytesOf 53 = 24 := by kernel_rfl
def Wt (t : Nat) (d : DataW H) : Prop := ∀ n ∈ d.weights Try.prog t, n ≤ reachBytes

theorem mem_weightsAll {e : Nat} {d : DataW H} {n : Nat} (hn : n ∈ d.weights Try.prog e) : ∀ {l : List (DataW H)}, d ∈ l → n ∈ DataW.weightsAll Try.prog e l
  | x :: l, h => by
    simp only [DataW.weightsAll, List.mem_append]
    rcases List.mem_cons.1 h with rfl | h
    · exact .inl hn
    · exact .inr (mem_weightsAll hn h)
theorem wt_slice {t e : Nat} {els spare : List (DataW H)} (hu : Try.prog.underlying t = some (.slice e)) (h : Wt t (.slice els spare)) : (els.length + spare.length) * Try.prog.bytesOf e ≤ 140737488351232 ∧ ∀ d ∈ els, Wt e d := by
  have hd : DataW.weights Try.prog t (.slice els spare) = (els.length + spare.length) * Try.prog.bytesOf e :: (DataW.weightsAll Try.prog e els ++ DataW.weightsAll Try.prog e spare) := by rw [DataW.weights, hu]
  unfold Wt at h
  rw [hd] at h
  refine ⟨h _ List.mem_cons_self, fun d hdm n hn => h n ?_⟩
  exact List.mem_cons_of_mem _ (List.mem_append_left _ (mem_weightsAll hn hdm))

theorem open_mag {fuel : Nat} {cs : List Value} {x : DataW H × List MemPlace} (h : DataW.trod enc Try.prog w 0 sp hd fuel 33 cs = some x) (hw : Wt 33 x.1) :
    ∃ A l c, cs = [.slice A l.length c] ∧ l.length ≤ c ∧ c < 9223372036854775808 ∧ Mag w A l ∧ l.length ≤ 140737488355328 := by
  rcases ChangeShapes.open_ints Try.underlying33 Try.underlying54 cells_u32 h with ⟨rfl, rfl⟩ | ⟨a, len, cap, zs, rfl, _, hl, hm, hz, rfl, hc, hwf⟩
  · exact ⟨none, [], 0, rfl, Nat.le_refl _, by decide, Mag.nil _ _, by simp⟩
  · have hlen : len ≤ zs.length := by rw [hz]; split <;> omega
    have hlim : ∀ i, i < len → 0 ≤ zs.getD i 0 ∧ zs.getD i 0 < 4294967296 := fun i hi => by
      have : zs.getD i 0 ∈ zs := by
        have hi' : i < zs.length := by omega
        simp [List.getD, hi']
      exact u32_of_wf (hwf _ this)
    have hww := (wt_slice Try.underlying33 hw).1
    rw [bytes_u32] at hww
    have hle : (ChangeShapes.lits (H := H) .u32 (zs.take len)).length = len := by simp [ChangeShapes.lits, Nat.min_eq_left hlen]
    rw [hle] at hww
    refine ⟨some a, (List.range len).map (fun i => (zs.getD i 0).toNat), cap, by simp, by simpa using hl, by have : maxLen = 9223372036854775807 := rfl; omega, ⟨?_, ?_⟩, ?_⟩
    · intro y hy
      obtain ⟨i, hi, rfl⟩ := List.mem_map.1 hy
      have := hlim i (by simpa using hi)
      omega
    · intro j hj
      have hj : j < len := by simpa using hj
      refine ⟨a, rfl, ?_⟩
      have hg : ((List.range len).map (fun i => (zs.getD i 0).toNat)).getD j 0 = (zs.getD j 0).toNat := by
        rw [List.getD_eq_getElem?_getD, List.getElem?_map, List.getElem?_range hj]; rfl
      rw [Nat.mul_one, hc j (by omega), hg, Int.toNat_of_nonneg (hlim j hj).1]
    · rw [List.length_map, List.length_range]; omega

theorem two_of_len {l : List Value} (h : l.length = 2) : ∃ a b, l = [a, b] := by
  match l, h with
  | [a, b], _ => exact ⟨a, b, rfl⟩
theorem open_Int {fuel : Nat} {cs : List Value} {x : DataW H × List MemPlace} (h : DataW.trod enc Try.prog w 0 sp hd fuel 35 cs = some x) (hw : Wt 35 x.1) :
    ∃ a b n z, cs = [a, b] ∧ IVL w n a b z := by
  obtain ⟨y0, y1, n, rfl, hl, h0, h1⟩ := ChangeShapes.trod_struct2 Try.underlying35 h
  rw [cells_Int] at hl
  obtain ⟨a, b, rfl⟩ := two_of_len hl
  have h0 : DataW.trod enc Try.prog w 0 sp hd n 4 (([a, b].drop 0).take (Try.prog.cellsOf 4)) = some y0 := h0
  have h1 : DataW.trod enc Try.prog w 0 sp hd n 33 (([a, b].drop 1).take (Try.prog.cellsOf 33)) = some y1 := h1
  rw [cells_bool] at h0
  rw [cells_su32] at h1
  have h0 : DataW.trod enc Try.prog w 0 sp hd n 4 [a] = some y0 := h0
  have h1 : DataW.trod enc Try.prog w 0 sp hd n 33 [b] = some y1 := h1
  have hw1 : Wt 33 y1.1 := fun m hm => hw m (by
    have e : DataW.weights Try.prog 35 (.agg [y0.1, y1.1]) = DataW.weights Try.prog 4 y0.1 ++ (DataW.weights Try.prog 33 y1.1 ++ []) := by rw [DataW.weights, Try.underlying35]; rfl
    rw [e]
    exact List.mem_append_right _ (List.mem_append_left _ hm))
  obtain ⟨A, l, c, e, h2, h3, h4, h5⟩ := open_mag h1 hw1
  obtain ⟨b0, rfl⟩ : ∃ b0, a = .bool b0 := by
    cases n with
    | zero => simp [DataW.trod] at h0
    | succ n =>
      clear h1 hw1 h4
      cases a <;> simp [DataW.trod, Try.underlying4] at h0
      exact ⟨_, rfl⟩
  injection e with e
  exact ⟨_, _, l.length, _, rfl, b0, A, l, c, rfl, e, h2, h3, h4, rfl, h5, rfl⟩

theorem open_row {fuel : Nat} {cs : List Value} {x : DataW H × List MemPlace} (h : DataW.trod enc Try.prog w 0 sp hd fuel 53 cs = some x) (hw : Wt 53 x.1) :
    ∃ v c M L, cs = [v] ∧ RowL w v c M L := by
  rcases Deep.open_slice Try.underlying53 h with ⟨rfl, rfl⟩ | ⟨a, len, cap, m, n, D, Pl, rfl, _, hl, hm, hmm, rfl, hx⟩
  · exact ⟨_, 0, fun _ => 0, fun _ => 0, rfl, none, 0, rfl, Nat.le_refl _, by decide, by decide, fun j hj => absurd hj (by omega)⟩
  · have hlm : len ≤ m := by rw [hmm]; split <;> omega
    obtain ⟨hww, hwe⟩ := wt_slice Try.underlying53 hw
    rw [bytes_Int, List.length_map, List.length_range] at hww
    have hc : maxLen = 9223372036854775807 := rfl
    have each : ∀ j, j < len → ∃ q : Int × Nat, ∃ x y, w.cell? (a.add (j * 2)) = some x ∧ w.cell? ((a.add (j * 2)).add 1) = some y ∧ IVL w q.2 x y q.1 := fun j hj => by
      obtain ⟨cs', h1, h2⟩ := hx j (by omega)
      rw [cells_Int] at h1
      obtain ⟨x, y, n, z, rfl, hv⟩ := open_Int h2 (hwe _ (List.mem_map.2 ⟨j, by simpa using hj, rfl⟩))
      obtain ⟨_, _, h3⟩ := World.cells?_some h1
      exact ⟨(z, n), x, y, h3 0 (by decide), h3 1 (by decide), hv⟩
    obtain ⟨q, hq⟩ := Deep.choose_lt each
    refine ⟨_, len, fun j => (q j).1, fun j => (q j).2, rfl, some a, cap, rfl, hl, by omega, by omega, fun j hj => ?_⟩
    obtain ⟨x, y, h1, h2, h3⟩ := hq j hj
    exact ⟨a, x, y, rfl, h1, h2, h3⟩

theorem open_mat {v : Value} {d : DataW H} {ps : List MemPlace} (h : DataW.Trod enc Try.prog w 0 sp hd 22 v d ps) (hw : Wt 22 d) (hv : v.cells.toList = [v]) :
    ∃ r len M L, MatL w v r len M L := by
  obtain ⟨fuel, h⟩ := h
  rw [hv] at h
  rcases Deep.open_slice1 Try.underlying22 cells_sInt h with ⟨e, e2⟩ | ⟨a, len, cap, m, n, V, D, Pl, e, _, hl, hm, hmm, e2, hx⟩
  · injection e with e
    subst e
    exact ⟨0, fun _ => 0, fun _ _ => 0, fun _ _ => 0, none, 0, rfl, Nat.le_refl _, by decide, by decide, fun j hj => absurd hj (by omega)⟩
  · injection e with e
    subst e
    have hlm : len ≤ m := by rw [hmm]; split <;> omega
    injection e2 with e2 e3
    subst e2
    obtain ⟨hww, hwe⟩ := wt_slice Try.underlying22 hw
    rw [bytes_sInt, List.length_map, List.length_range] at hww
    have hc : maxLen = 9223372036854775807 := rfl
    have each : ∀ j, j < len → ∃ q : Nat × (Nat → Int) × (Nat → Nat), ∃ u, w.cell? (a.add (j * 1)) = some u ∧ RowL w u q.1 q.2.1 q.2.2 := fun j hj => by
      obtain ⟨h1, h2⟩ := hx j (by omega)
      obtain ⟨u, c, M, L, e, hr⟩ := open_row h2 (hwe _ (List.mem_map.2 ⟨j, by simpa using hj, rfl⟩))
      injection e with e
      refine ⟨(c, M, L), u, ?_, hr⟩
      rw [Nat.mul_one, h1, e]
    obtain ⟨q, hq⟩ := Deep.choose_lt each
    refine ⟨len, fun j => (q j).1, fun j => (q j).2.1, fun j => (q j).2.2, some a, cap, rfl, hl, by omega, by omega, fun j hj => ?_⟩
    obtain ⟨u, h1, h2⟩ := hq j hj
    exact ⟨a, u, rfl, h1, h2⟩
end
end Go.Proofs.Ytimjiaabaanbeaa
