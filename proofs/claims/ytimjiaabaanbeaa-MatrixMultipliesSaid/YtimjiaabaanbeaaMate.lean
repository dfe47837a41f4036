/- Matrices of Ints that are changed in place. -/
import Derived.Test.YtimjiaabaanbeaaMatd
import Derived.Test.YtimjiaabaanbeaaFlt
namespace Go.Proofs.Ytimjiaabaanbeaa
open Go Go.Eng Go.Num Go.Proofs

/-- limbs stay -/
def Kp (w w' : World) : Prop := ∀ p z, w.cell? p = some (.int .u32 z) → w'.cell? p = some (.int .u32 z)
theorem Kp.refl (w : World) : Kp w w := fun _ _ h => h
theorem Kp.trans {w w' w'' : World} (h : Kp w w') (k : Kp w' w'') : Kp w w'' := fun p z hp => k p z (h p z hp)
theorem kp_ext {w w' : World} (h : Ext w w') : Kp w w' := fun _ _ hp => cell_ext h hp
/-- no limbs lie among these cells -/
def NoU (cs : Array Value) : Prop := ∀ (i : Nat) (z : Int), cs[i]? ≠ some (.int .u32 z)
theorem NoInt.noU {cs : Array Value} (h : NoInt cs) : NoU cs := fun i z => h i .u32 z
theorem kp_ch {w w' : World} {g T : Nat} {cs : Array Value} (hb : Blk w g T cs) (hn : NoU cs) (hC : Ch (fun b => b = g) w w') : Kp w w' := fun p z hp => by
  rw [← hp]
  refine cell_ch hC (World.block_lt_of_cell? w _ hp) (fun hg => ?_)
  obtain ⟨i, hi⟩ := cell_blk hb hg hp
  exact hn _ _ hi
theorem Mag.kp {w w' : World} {A : Option Addr} {l : List Nat} (h : Mag w A l) (hk : Kp w w') : Mag w' A l :=
  ⟨h.lim, fun j hj => by obtain ⟨ad, e, hc⟩ := h.cell j hj; exact ⟨ad, e, hk _ _ hc⟩⟩
theorem IV.kp {w w' : World} {N : Nat} {x y : Value} {z : Int} (h : IV w N x y z) (hk : Kp w w') : IV w' N x y z := by
  obtain ⟨neg, A, l, c, h1, h2, h3, h4, h5, h6, h7⟩ := h
  exact ⟨neg, A, l, c, h1, h2, h3, h4, h5.kp hk, h6, h7⟩
theorem CV.kp {w w' : World} {x y : Value} {z : Int} (h : CV w x y z) (hk : Kp w w') : CV w' x y z := by
  obtain ⟨neg, A, l, c, h1, h2, h3, h4, h5, h6, h7⟩ := h
  exact ⟨neg, A, l, c, h1, h2, h3, h4, h5.kp hk, h6, h7⟩

/-- an Int with at most N limbs; where cn, canonical -/
def EV (w : World) (N : Nat) (cn : Bool) (x y : Value) (z : Int) : Prop := IV w N x y z ∧ (cn = true → CV w x y z)
theorem EV.kp {w w' : World} {N : Nat} {cn : Bool} {x y : Value} {z : Int} (h : EV w N cn x y z) (hk : Kp w w') : EV w' N cn x y z := ⟨h.1.kp hk, fun e => (h.2 e).kp hk⟩
theorem EV.ext {w w' : World} {N : Nat} {cn : Bool} {x y : Value} {z : Int} (h : EV w N cn x y z) (hE : Ext w w') : EV w' N cn x y z := h.kp (kp_ext hE)
theorem EV.mono {w : World} {N N' : Nat} {cn : Bool} {x y : Value} {z : Int} (h : EV w N cn x y z) (hN : N ≤ N') : EV w N' cn x y z := ⟨h.1.mono hN, h.2⟩
theorem CV.ev {w : World} {N : Nat} {x y : Value} {z : Int} (cn : Bool) (h : CV w x y z) (hz : Bd N z) : EV w N cn x y z := ⟨h.iv hz, fun _ => h⟩
theorem IV.one0 {w : World} {N : Nat} {x y : Value} {z : Int} (h : IV w N x y z) : x.oneCell' = true := by obtain ⟨neg, A, l, c, rfl, _⟩ := h; rfl
theorem IV.one1 {w : World} {N : Nat} {x y : Value} {z : Int} (h : IV w N x y z) : y.oneCell' = true := by obtain ⟨neg, A, l, c, _, rfl, _⟩ := h; rfl
theorem IV.noU {w : World} {N : Nat} {x y : Value} {z : Int} (h : IV w N x y z) : NoU #[x, y] := by
  obtain ⟨neg, A, l, c, rfl, rfl, _⟩ := h; exact noInt2.noU
theorem IV.bd {w : World} {N : Nat} {x y : Value} {z : Int} (h : IV w N x y z) : Bd N z := h.abs
theorem EV.bd {w : World} {N : Nat} {cn : Bool} {x y : Value} {z : Int} (h : EV w N cn x y z) : Bd N z := h.1.abs

/-- a box that holds an Int -/
def Bx (w : World) (g N : Nat) (cn : Bool) (z : Int) : Prop := ∃ x y, Blk w g 35 #[x, y] ∧ EV w N cn x y z
theorem Bx.kp {w w' : World} {g N : Nat} {cn : Bool} {z : Int} {M : Nat → Prop} (h : Bx w g N cn z) (hk : Kp w w') (hC : Ch M w w') (hn : ¬ M g) : Bx w' g N cn z := by
  obtain ⟨x, y, hb, hv⟩ := h
  exact ⟨x, y, hb.ch hC hn, hv.kp hk⟩
theorem Bx.ext {w w' : World} {g N : Nat} {cn : Bool} {z : Int} (h : Bx w g N cn z) (hE : Ext w w') : Bx w' g N cn z := h.kp (kp_ext hE) hE id
theorem Bx.lt {w : World} {g N : Nat} {cn : Bool} {z : Int} (h : Bx w g N cn z) : g < w.heap.size := by obtain ⟨x, y, hb, _⟩ := h; exact hb.lt
theorem Bx.zero {w : World} {g N : Nat} (cn : Bool) (h : Blk w g 35 (Value.agg #[.bool false, .slice none 0 0]).cells) : Bx w g N cn 0 :=
  ⟨_, _, h, (CV.zero w).ev cn (Bd.zero N)⟩
theorem Bx.mono {w : World} {g N N' : Nat} {cn : Bool} {z : Int} (h : Bx w g N cn z) (hN : N ≤ N') : Bx w g N' cn z := by
  obtain ⟨x, y, hb, hv⟩ := h
  exact ⟨x, y, hb, hv.mono hN⟩
theorem Bx.bd {w : World} {g N : Nat} {cn : Bool} {z : Int} (h : Bx w g N cn z) : Bd N z := by obtain ⟨x, y, hb, hv⟩ := h; exact hv.bd

section
variable {n : Nat} {S : World → World → Prop} {k : Nat} {K : Fr → World → Prop} {f : Fr} {w : World}
  {d ty t t2 : Nat} {x y : Operand} {pos : String} {aft : Array Edge} {gd : Option (Nat × Bool)}
/-- a store into a box -/
theorem R1_storeBx {g N N' : Nat} {cn : Bool} {z z' : Int} {a b : Value} (h0 : k = 2 ∨ k = 1 ∧ ∀ w', Ch (fun b => b = g) w w' → S w w') (hx : ev n f x = .pointer (some ⟨g, 0, none⟩)) (hy : ev n f y = .agg #[a, b]) (hb : Bx w g N cn z) (hv : EV w N' cn a b z')
    (h : ∀ w', Bx w' g N' cn z' → Ch (fun b => b = g) w w' → Kp w w' → w'.heap.size = w.heap.size → K f w') :
    R1 Try.prog n S k ⟨none, .store 35 x y, ty, pos, aft, gd⟩ K f w := by
  obtain ⟨u, v, hB, hu⟩ := hb
  refine R1_store2 agg_Int h0 hx hy hv.1.one0 hv.1.one1 hB (by simp) ?_
  intro w' hB' hC hs
  have hk := kp_ch hB hu.1.noU hC
  exact h w' ⟨a, b, hB', hv.kp hk⟩ hC hk hs
end

def setN (b : Nat → Nat) (j N : Nat) : Nat → Nat := fun k => if k = j then N else b k
/-- a row of the call's own: c Ints, the j-th with at most bn j limbs -/
def RowB (w : World) (g c : Nat) (cn : Bool) (bn : Nat → Nat) (M : Nat → Int) : Prop :=
  ∃ h, Blk w g 35 (arr (c * 2) h) ∧ ∀ j, j < c → EV w (bn j) cn (h (j * 2)) (h (j * 2 + 1)) (M j)
theorem RowB.lt {w : World} {g c : Nat} {cn : Bool} {bn : Nat → Nat} {M : Nat → Int} (h : RowB w g c cn bn M) : g < w.heap.size := by obtain ⟨_, hb, _⟩ := h; exact hb.lt
theorem RowB.kp {w w' : World} {g c : Nat} {cn : Bool} {bn : Nat → Nat} {M : Nat → Int} {MM : Nat → Prop} (h : RowB w g c cn bn M) (hk : Kp w w') (hC : Ch MM w w') (hn : ¬ MM g) : RowB w' g c cn bn M := by
  obtain ⟨h, hb, hc⟩ := h
  exact ⟨h, hb.ch hC hn, fun j hj => (hc j hj).kp hk⟩
theorem RowB.ext {w w' : World} {g c : Nat} {cn : Bool} {bn : Nat → Nat} {M : Nat → Int} (h : RowB w g c cn bn M) (hE : Ext w w') : RowB w' g c cn bn M := h.kp (kp_ext hE) hE id
theorem RowB.congr {w : World} {g c : Nat} {cn : Bool} {bn bn' : Nat → Nat} {M M' : Nat → Int} (h : RowB w g c cn bn M) (e : ∀ j, j < c → bn j ≤ bn' j ∧ M j = M' j) : RowB w g c cn bn' M' := by
  obtain ⟨h, hb, hc⟩ := h
  exact ⟨h, hb, fun j hj => by rw [← (e j hj).2]; exact (hc j hj).mono (e j hj).1⟩
theorem rowB_noInt {w : World} {c : Nat} {cn : Bool} {h : Nat → Value} {bn : Nat → Nat} {M : Nat → Int} (hc : ∀ j, j < c → EV w (bn j) cn (h (j * 2)) (h (j * 2 + 1)) (M j)) : NoInt (arr (c * 2) h) := by
  intro i k z hz
  by_cases hi : i < c * 2
  · rw [arr_at hi] at hz
    have hz := Option.some.inj hz
    obtain ⟨neg, A, l, cc, e0, e1, _⟩ := (hc (i / 2) (by omega)).1
    rcases Nat.mod_two_eq_zero_or_one i with hm | hm
    · rw [show i / 2 * 2 = i by omega] at e0; rw [e0] at hz; cases hz
    · rw [show i / 2 * 2 + 1 = i by omega] at e1; rw [e1] at hz; cases hz
  · simp [arr, hi] at hz
/-- an entry, read -/
theorem RowB.at {w : World} {g c j : Nat} {cn : Bool} {bn : Nat → Nat} {M : Nat → Int} (h : RowB w g c cn bn M) (hj : j < c) :
    ∃ x y, w.cell? ⟨g, 0 + j * 2, none⟩ = some x ∧ w.cell? ((⟨g, 0 + j * 2, none⟩ : Addr).add 1) = some y ∧ EV w (bn j) cn x y (M j) := by
  obtain ⟨h, hb, hc⟩ := h
  refine ⟨_, _, ?_, ?_, hc j hj⟩
  · rw [hb.cell, arr_at (by omega), Nat.zero_add]
  · rw [add_lit, hb.cell, arr_at (by omega), Nat.zero_add]
theorem rowB_made {w : World} {g c : Nat} (cn : Bool) (N : Nat) (h : Blk w g 35 (madeCells (Value.agg #[.bool false, .slice none 0 0]).cells (c * 2))) : RowB w g c cn (fun _ => N) (fun _ => 0) := by
  obtain ⟨h, hb, hc⟩ := orow_made h
  exact ⟨h, hb, fun j hj => (hc j hj).ev cn (Bd.zero N)⟩

section
variable {n : Nat} {S : World → World → Prop} {k : Nat} {K : Fr → World → Prop} {f : Fr} {w : World}
  {d ty t t2 : Nat} {x y : Operand} {pos : String} {aft : Array Edge} {gd : Option (Nat × Bool)}
/-- a store of an entry -/
theorem R1_storeE {g c j N : Nat} {cn : Bool} {bn : Nat → Nat} {M : Nat → Int} {z : Int} {a b : Value} (h0 : k = 2 ∨ k = 1 ∧ ∀ w', Ch (fun b => b = g) w w' → S w w') (hx : ev n f x = .pointer (some ⟨g, 0 + j * 2, none⟩)) (hy : ev n f y = .agg #[a, b]) (hr : RowB w g c cn bn M) (hj : j < c) (hv : EV w N cn a b z)
    (h : ∀ w', RowB w' g c cn (setN bn j N) (setZ M j z) → Ch (fun b => b = g) w w' → Kp w w' → w'.heap.size = w.heap.size → K f w') :
    R1 Try.prog n S k ⟨none, .store 35 x y, ty, pos, aft, gd⟩ K f w := by
  obtain ⟨hh, hB, hc⟩ := hr
  refine R1_store2 agg_Int h0 hx hy hv.1.one0 hv.1.one1 hB (by rw [arr_size]; omega) ?_
  intro w' hB' hC hs
  have hk := kp_ch hB (rowB_noInt hc).noU hC
  refine h w' ⟨_, by rw [arr_set, arr_set] at hB'; exact hB', fun q hq => ?_⟩ hC hk hs
  by_cases hqj : q = j
  · subst hqj
    rw [Nat.zero_add, upd_ne _ _ (show q * 2 ≠ q * 2 + 1 by omega), upd_self, upd_self]
    simp only [setZ, setN, if_true]
    exact hv.kp hk
  · rw [Nat.zero_add, upd_ne _ _ (by omega), upd_ne _ _ (by omega), upd_ne _ _ (by omega), upd_ne _ _ (by omega)]
    simp only [setZ, setN, if_neg hqj]
    exact (hc q hq).kp hk
end

def set2 {α : Type} (M : Nat → Nat → α) (i j : Nat) (z : α) : Nat → Nat → α := fun a b => if a = i ∧ b = j then z else M a b
theorem set2_row {α : Type} (M : Nat → Nat → α) (i j : Nat) (z : α) : set2 M i j z i = fun b => if b = j then z else M i b := by funext b; simp [set2]
theorem set2_ne {α : Type} (M : Nat → Nat → α) {i a : Nat} (j : Nat) (z : α) (h : a ≠ i) : set2 M i j z a = M a := by funext b; simp [set2, h]

/-- a matrix of the call's own, the first r' rows of which are there -/
structure WMat (w : World) (gO : Nat) (gs : Nat → Nat) (r c : Nat) (cn : Bool) (bn : Nat → Nat → Nat) (M : Nat → Nat → Int) : Prop where
  outer : Blk w gO 53 (arr r fun i => .slice (some ⟨gs i, 0, none⟩) c c)
  row : ∀ i, i < r → RowB w (gs i) c cn (bn i) (M i)
  ne : ∀ i, i < r → gs i ≠ gO
  inj : ∀ i j, i < r → j < r → gs i = gs j → i = j
section
variable {w w' : World} {gO r c : Nat} {gs : Nat → Nat} {cn : Bool} {bn bn' : Nat → Nat → Nat} {M M' : Nat → Nat → Int}
theorem WMat.kp {MM : Nat → Prop} (h : WMat w gO gs r c cn bn M) (hk : Kp w w') (hC : Ch MM w w') (hn : ¬ MM gO) (hr : ∀ i, i < r → ¬ MM (gs i)) : WMat w' gO gs r c cn bn M :=
  ⟨h.outer.ch hC hn, fun i hi => (h.row i hi).kp hk hC (hr i hi), h.ne, h.inj⟩
theorem WMat.ext (h : WMat w gO gs r c cn bn M) (hE : Ext w w') : WMat w' gO gs r c cn bn M := h.kp (kp_ext hE) hE id (fun _ _ => id)
theorem WMat.congr (h : WMat w gO gs r c cn bn M) (e : ∀ i j, i < r → j < c → bn i j ≤ bn' i j ∧ M i j = M' i j) : WMat w gO gs r c cn bn' M' :=
  ⟨h.outer, fun i hi => (h.row i hi).congr (fun j hj => e i j hi hj), h.ne, h.inj⟩
theorem WMat.at (h : WMat w gO gs r c cn bn M) {i : Nat} (hi : i < r) : w.cell? ⟨gO, 0 + i * 1, none⟩ = some (.slice (some ⟨gs i, 0, none⟩) c c) := by
  rw [h.outer.cell, arr_at (by omega), Nat.zero_add, Nat.mul_one]
theorem WMat.lt (h : WMat w gO gs r c cn bn M) : gO < w.heap.size := h.outer.lt
theorem WMat.noInt (_ : WMat w gO gs r c cn bn M) : NoInt (arr r fun i => Value.slice (some ⟨gs i, 0, none⟩) c c) := noInt_rows fun _ _ => ⟨_, _, _, rfl⟩
/-- behind a store into row i -/
theorem WMat.put {i j N : Nat} {z : Int} (h : WMat w gO gs r c cn bn M) (hi : i < r) (hr : RowB w' (gs i) c cn (setN (bn i) j N) (setZ (M i) j z)) (hC : Ch (fun b => b = gs i) w w') (hk : Kp w w') :
    WMat w' gO gs r c cn (set2 bn i j N) (set2 M i j z) := by
  refine ⟨h.outer.ch hC (Ne.symm (h.ne i hi)), fun a ha => ?_, h.ne, h.inj⟩
  by_cases e : a = i
  · subst e
    rw [set2_row, set2_row]
    exact hr
  · rw [set2_ne _ _ _ e, set2_ne _ _ _ e]
    exact (h.row a ha).kp hk hC (fun e' => e (h.inj a i ha hi e'))
theorem OMat.wm (h : OMat w gO gs r c M) (cn : Bool) {N : Nat} (hN : ∀ i j, i < r → j < c → Bd N (M i j)) : WMat w gO gs r c cn (fun _ _ => N) M :=
  ⟨h.outer, fun i hi => by obtain ⟨hh, hb, hc⟩ := h.row i hi; exact ⟨hh, hb, fun j hj => (hc j hj).ev cn (hN i j hi hj)⟩, h.ne, h.inj⟩
theorem WMat.o (h : WMat w gO gs r c true bn M) : OMat w gO gs r c M :=
  ⟨h.outer, fun i hi => by obtain ⟨hh, hb, hc⟩ := h.row i hi; exact ⟨hh, hb, fun j hj => (hc j hj).2 rfl⟩, h.ne, h.inj⟩
end

/-- canonical entries, with at most N limbs -/
def EC (N : Nat) : World → Value → Value → Int → Prop := fun w x y z => CV w x y z ∧ Bd N z
theorem RowE.imp {E E' : World → Value → Value → Int → Prop} {w w' : World} {c : Nat} {v : Value} {g : Nat → Int} (h : RowE E w v c g) (hc : ∀ p u, w.cell? p = some u → w'.cell? p = some u) (hE : ∀ x y z, E w x y z → E' w' x y z) : RowE E' w' v c g := by
  obtain ⟨A, cap, rfl, h1, h2, h3⟩ := h
  refine ⟨A, cap, rfl, h1, h2, fun j hj => ?_⟩
  obtain ⟨ad, x, y, e, hx, hy, hi⟩ := h3 j hj
  exact ⟨ad, x, y, e, hc _ _ hx, hc _ _ hy, hE _ _ _ hi⟩
theorem MatE.imp {E E' : World → Value → Value → Int → Prop} {w w' : World} {r : Nat} {len : Nat → Nat} {v : Value} {M : Nat → Nat → Int} (h : MatE E w v r len M) (hc : ∀ p u, w.cell? p = some u → w'.cell? p = some u) (hE : ∀ x y z, E w x y z → E' w' x y z) : MatE E' w' v r len M := by
  obtain ⟨A, cap, rfl, h1, h2, h3⟩ := h
  refine ⟨A, cap, rfl, h1, h2, fun j hj => ?_⟩
  obtain ⟨ad, u, e, hu, hr⟩ := h3 j hj
  exact ⟨ad, u, e, hc _ _ hu, hr.imp hc hE⟩
theorem RowE.extC {w w' : World} {N c : Nat} {v : Value} {g : Nat → Int} (h : RowE (EC N) w v c g) (hE : Ext w w') : RowE (EC N) w' v c g :=
  h.imp (fun _ _ hp => cell_ext hE hp) fun _ _ _ hc => ⟨hc.1.ext hE, hc.2⟩
theorem MatE.extC {w w' : World} {N r : Nat} {len : Nat → Nat} {v : Value} {M : Nat → Nat → Int} (h : MatE (EC N) w v r len M) (hE : Ext w w') : MatE (EC N) w' v r len M :=
  h.imp (fun _ _ hp => cell_ext hE hp) fun _ _ _ hc => ⟨hc.1.ext hE, hc.2⟩
theorem RowE.ei {w : World} {N c : Nat} {v : Value} {g : Nat → Int} (h : RowE (EC N) w v c g) : RowE (EI N) w v c g :=
  h.imp (fun _ _ hp => hp) fun _ _ _ hc => hc.1.iv hc.2
theorem MatE.ei {w : World} {N r : Nat} {len : Nat → Nat} {v : Value} {M : Nat → Nat → Int} (h : MatE (EC N) w v r len M) : MatE (EI N) w v r len M :=
  h.imp (fun _ _ hp => hp) fun _ _ _ hc => hc.1.iv hc.2
theorem ORow.readC {w : World} {g c N : Nat} {M : Nat → Int} (h : ORow w g c M) (hN : ∀ j, j < c → Bd N (M j)) (hc : c < 9223372036854775808) : RowE (EC N) w (.slice (some ⟨g, 0, none⟩) c c) c M := by
  obtain ⟨h, hb, hv⟩ := h
  refine ⟨_, _, rfl, Nat.le_refl _, hc, fun j hj => ⟨_, h (j * 2), h (j * 2 + 1), rfl, ?_, ?_, hv j hj, hN j hj⟩⟩
  · rw [add_lit, hb.cell, arr_at (by omega), Nat.zero_add]
  · rw [add_lit, add_lit, hb.cell, arr_at (by omega), Nat.zero_add]
theorem OMat.readC {w : World} {gO : Nat} {gs : Nat → Nat} {r c N : Nat} {M : Nat → Nat → Int} (h : OMat w gO gs r c M) (hN : ∀ i j, i < r → j < c → Bd N (M i j)) (hr : r < 9223372036854775808) (hc : c < 9223372036854775808) :
    MatE (EC N) w (.slice (some ⟨gO, 0, none⟩) r r) r (fun _ => c) M :=
  ⟨_, _, rfl, Nat.le_refl _, hr, fun i hi => ⟨_, _, rfl, by rw [add_lit, h.outer.cell, arr_at (by omega), Nat.zero_add, Nat.mul_one], (h.row i hi).readC (fun j hj => hN i j hi hj) hc⟩⟩
theorem matC_nil (w : World) (N : Nat) (len : Nat → Nat) (M : Nat → Nat → Int) : MatE (EC N) w (.slice none 0 0) 0 len M := ⟨none, 0, rfl, Nat.le_refl _, by omega, fun i hi => absurd hi (by omega)⟩
end Go.Proofs.Ytimjiaabaanbeaa
