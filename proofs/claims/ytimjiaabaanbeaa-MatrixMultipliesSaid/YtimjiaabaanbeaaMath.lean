/- copy of a row; the plain form of the elimination. -/
import Derived.Test.YtimjiaabaanbeaaMatg
import Derived.Laws.CopyRow
namespace Go.Proofs.Ytimjiaabaanbeaa
open Go Go.Eng Go.Num Go.Proofs

section
variable {n : Nat} {S : World → World → Prop} {k : Nat} {K : Fr → World → Prop} {f : Fr} {w : World}
  {d ty t t2 : Nat} {x y : Operand} {pos : String} {aft : Array Edge} {gd : Option (Nat × Bool)}
theorem ch_setRow (w : World) (g : Nat) (cs : Array Value) : Ch (fun b => b = g) w (w.setRow g cs) :=
  ⟨rfl, rfl, rfl, by simp [World.setRow], fun b _ hn => setRow_other w g b cs hn⟩
/-- copy of a whole row of Ints into a row of the call's own -/
theorem R1_copyE {g c N : Nat} {cn : Bool} {bn : Nat → Nat} {M0 M : Nat → Int} {u : Value} (hx : ev n f x = .slice (some ⟨g, 0, none⟩) c c) (hy : ev n f y = u) (hr : RowB w g c cn bn M0) (hs : RowE (EI N) w u c M) (hc : 0 < c)
    (h : ∀ w', RowB w' g c false (fun _ => N) M → Ch (fun b => b = g) w w' → Kp w w' → w'.heap.size = w.heap.size → K (upd f d (.int .i64 ((c : Nat) : Int))) w') :
    R1 Try.prog n S 2 ⟨some d, .call { callee := .builtin .copy, args := #[x, y], argTypes := #[53, 53] }, ty, pos, aft, gd⟩ K f w := by
  obtain ⟨hh, hB, hcc⟩ := hr
  obtain ⟨A, cap, rfl, hcap, hcap2, hsr⟩ := hs
  obtain ⟨ad, _, _, rfl, _⟩ := hsr 0 hc
  have hsr' : ∀ j, j < c → ∃ x y, w.cell? (ad.add (j * 2)) = some x ∧ w.cell? (ad.add (j * 2 + 1)) = some y ∧ IV w N x y (M j) := fun j hj => by
    obtain ⟨ad', a, b, e, h1, h2, h3⟩ := hsr j hj
    injection e with e; subst e
    rw [add_add] at h2
    exact ⟨a, b, h1, h2, h3⟩
  let h' : Nat → Value := fun k => (w.cell? (ad.add k)).getD undef
  have hget : ∀ k, k < c * 2 → w.cell? (ad.add k) = some (h' k) ∧ (h' k).oneCell' = true := fun k hk => by
    obtain ⟨a, b, h1, h2, h3⟩ := hsr' (k / 2) (by omega)
    rcases Nat.mod_two_eq_zero_or_one k with hm | hm
    · rw [show k / 2 * 2 = k by omega] at h1
      have : h' k = a := by simp [h', h1]
      rw [this]; exact ⟨h1, h3.one0⟩
    · rw [show k / 2 * 2 + 1 = k by omega] at h2
      have : h' k = b := by simp [h', h2]
      rw [this]; exact ⟨h2, h3.one1⟩
  have hl := run_loadCells_list (P := Try.prog) w ad ((List.range (c * 2)).map h') (fun j v hj => by
    simp only [List.getElem?_map] at hj
    by_cases hjc : j < c * 2
    · rw [List.getElem?_range hjc] at hj
      simp at hj
      rw [← hj]; exact (hget j hjc).1
    · rw [List.getElem?_eq_none (by simp; omega)] at hj; simp at hj)
  have hst := run_storeCells_at Try.prog g 0 35 ((List.range (c * 2)).map h') 0 (arr (c * 2) hh) w hB (by simp [arr_size]) (fun v hv => by
    obtain ⟨k, hk, rfl⟩ := List.mem_map.1 hv
    exact (hget k (by simpa using hk)).2)
  have hcs : (((arr (c * 2) hh).toList.take (0 + 0) ++ (List.range (c * 2)).map h' ++ (arr (c * 2) hh).toList.drop (0 + 0 + ((List.range (c * 2)).map h').length)).toArray) = arr (c * 2) h' := by
    have : (arr (c * 2) hh).toList.drop (0 + 0 + ((List.range (c * 2)).map h').length) = [] := List.drop_eq_nil_of_le (by simp [arr_size])
    rw [this]
    apply Array.ext_getElem?
    intro i
    by_cases hi : i < c * 2
    · rw [arr_at hi]; simp [hi]
    · simp [arr, hi]
  rw [hcs] at hst
  have hk := kp_ch hB (rowB_noInt hcc).noU (ch_setRow w g (arr (c * 2) h'))
  obtain ⟨hu, hinfo⟩ := sl_Int
  cases hi : Try.prog.info? 35 with
  | none => rw [hi] at hinfo; simp at hinfo
  | some i =>
    rw [hi] at hinfo
    simp at hinfo
    obtain ⟨hz, hsz, hby⟩ := hinfo
    have hmin : Nat.min c c = c := Nat.min_self c
    simp only [List.length_map, List.length_range] at hl
    refine R1_loud (v := .int .i64 ((c : Nat) : Int)) (w' := w.setRow g (arr (c * 2) h')) (.inl rfl) ?_ (h _ ⟨h', setRow_heap w g _ _ _ _ hB, fun j hj => ?_⟩ (ch_setRow _ _ _) hk (by simp [World.setRow]))
    · simp [execOp, resolve, invoke, builtin, hx, hy, Builtin.copy_, run_underlying hu, Builtin.lenOf, Builtin.firstCells, sizeOf, typeInfo, hi, hsz, hl, hst, goInt]
    · obtain ⟨a, b, h1, h2, h3⟩ := hsr' j hj
      have e1 : h' (j * 2) = a := by simp [h', h1]
      have e2 : h' (j * 2 + 1) = b := by simp [h', h2]
      rw [e1, e2]
      exact ⟨h3.kp hk, fun e => by cases e⟩
end

/-! The elimination without fractions, plainly. -/
/-- one step: the entries behind the pivot -/
def elim (k : Nat) (last : Int) (M : Nat → Nat → Int) : Nat → Nat → Int := fun i j => if k < i ∧ k < j then (M k k * M i j - M i k * M k j) / last else M i j
/-- rows exchanged -/
def swp {α : Type} (k p : Nat) (M : Nat → α) : Nat → α := fun i => if i = k then M p else if i = p then M k else M i
/-- the first row from p on with an entry in column k -/
def findP (n k : Nat) (M : Nat → Nat → Int) : Nat → Nat → Nat
  | 0, p => p
  | fuel + 1, p => if p < n ∧ M p k = 0 then findP n k M fuel (p + 1) else p
def pivot (n k : Nat) (M : Nat → Nat → Int) : Nat := findP n k M (n - k) k
def detGo (n : Nat) : Nat → Nat → (Nat → Nat → Int) → Bool → Int → Int
  | 0, _, _, neg, last => if neg then -last else last
  | m + 1, k, M, neg, last =>
    if pivot n k M = n then 0 else
      detGo n m (k + 1) (elim k last (swp k (pivot n k M) M)) (neg != decide (pivot n k M ≠ k)) (swp k (pivot n k M) M k k)
/-- the determinant, as the program reckons it -/
def detB (n : Nat) (M : Nat → Nat → Int) : Int := detGo n n 0 M false 1

theorem findP_step {n k : Nat} {M : Nat → Nat → Int} {p : Nat} (h : p < n ∧ M p k = 0) : findP n k M (n - p) p = findP n k M (n - (p + 1)) (p + 1) := by
  obtain ⟨m, hm⟩ : ∃ m, n - p = m + 1 := ⟨n - p - 1, by omega⟩
  rw [hm, show n - (p + 1) = m by omega, findP, if_pos h]
theorem findP_stop {n k : Nat} {M : Nat → Nat → Int} {p : Nat} (h : ¬ (p < n ∧ M p k = 0)) : findP n k M (n - p) p = p := by
  cases n - p with
  | zero => rfl
  | succ m => rw [findP, if_neg h]
/-- the bounds of the entries at step k -/
def Nb (N : Nat) : Nat → Nat
  | 0 => N
  | k + 1 => 2 * Nb N k + 1
theorem Nb_mono (N k : Nat) : Nb N k ≤ Nb N (k + 1) := by simp only [Nb]; omega
theorem Nb_le (N k : Nat) : Nb N k + 1 = 2 ^ k * (N + 1) := by
  induction k with
  | zero => simp [Nb]
  | succ k ih => simp only [Nb]; rw [Nat.pow_succ, Nat.mul_comm (2 ^ k) 2, Nat.mul_assoc, ← ih]; omega
theorem Nb_big {N k : Nat} (hN : N < 1048576) (hk : k ≤ 16) : Nb N k < 68719476736 := by
  have h := Nb_le N k
  have h2 : 2 ^ k ≤ 2 ^ 16 := Nat.pow_le_pow_right (by decide) hk
  have h3 : 2 ^ k * (N + 1) ≤ 2 ^ 16 * 1048576 := Nat.mul_le_mul h2 (by omega)
  omega
theorem elim_bd {N k i j : Nat} {last : Int} {M : Nat → Nat → Int} (h : ∀ i j, Bd N (M i j)) : Bd (2 * N + 1) (elim k last M i j) := by
  unfold elim
  split
  · have a := (h k k).mul (h i j)
    have b := (h i k).mul (h k j)
    have := (a.sub b).ediv (b := last)
    rwa [← Nat.two_mul] at this
  · exact (h i j).mono (by omega)
end Go.Proofs.Ytimjiaabaanbeaa
