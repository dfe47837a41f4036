/- Memory: how worlds change (Ch, Ext), blocks that are known whole (Blk), and the steps of a walk that touch memory. Over any program. -/
import Derived.Test.YtimjiaabaanbeaaOps
import Derived.Laws.MakeOwn
import Derived.Laws.AppendOwn
import Derived.Laws.OwnMore
namespace Go.Eng
open Go Go.RowKit

/-- only blocks in M may have changed; new ones may have come -/
structure Ch (M : Nat → Prop) (w w' : World) : Prop where
  os : w'.os = w.os
  tape : w'.tape = w.tape
  output : w'.output = w.output
  size : w.heap.size ≤ w'.heap.size
  block : ∀ b, b < w.heap.size → ¬ M b → w'.heap[b]? = w.heap[b]?
def Ext (w w' : World) : Prop := Ch (fun _ => False) w w'

section
variable {M M' : Nat → Prop} {w w' w'' : World} {g b : Nat} {t : TypeId} {cs : Array Value} {p : Addr}
theorem Ch.refl (M : Nat → Prop) (w : World) : Ch M w w := ⟨rfl, rfl, rfl, Nat.le_refl _, fun _ _ _ => rfl⟩
theorem Ch.trans (h : Ch M w w') (k : Ch M w' w'') : Ch M w w'' :=
  ⟨k.os.trans h.os, k.tape.trans h.tape, k.output.trans h.output, Nat.le_trans h.size k.size, fun b hb hn => (k.block b (Nat.lt_of_lt_of_le hb h.size) hn).trans (h.block b hb hn)⟩
theorem Ch.mono (h : Ch M w w') (hm : ∀ b, b < w.heap.size → M b → M' b) : Ch M' w w' := ⟨h.os, h.tape, h.output, h.size, fun b hb hn => h.block b hb fun hm' => hn (hm b hb hm')⟩
theorem Ext.refl (w : World) : Ext w w := Ch.refl _ w
theorem Ext.trans (h : Ext w w') (k : Ext w' w'') : Ext w w'' := Ch.trans h k
theorem Ext.ch (h : Ext w w') : Ch M w w' := Ch.mono h fun _ _ h => h.elim
theorem Ext.size (h : Ext w w') : w.heap.size ≤ w'.heap.size := Ch.size h
theorem Ext.blk (h : Ext w w') (hb : b < w.heap.size) : w'.heap[b]? = w.heap[b]? := Ch.block h b hb id
/-- what changed lies from w0's end on: then w0 is as it was -/
theorem Ch.ext_of (h0 : Ext w w') (h : Ch M w' w'') (hm : ∀ b, M b → w.heap.size ≤ b) : Ext w w'' :=
  ⟨h.os.trans h0.os, h.tape.trans h0.tape, h.output.trans h0.output, Nat.le_trans h0.size h.size,
    fun b hb _ => (h.block b (Nat.lt_of_lt_of_le hb h0.size) fun hm' => absurd (hm b hm') (by omega)).trans (h0.blk hb)⟩

/-- block g is just these cells -/
def Blk (w : World) (g : Nat) (t : TypeId) (cs : Array Value) : Prop := w.heap[g]? = some (.cells cs t (0, 0))
theorem Blk.lt (h : Blk w g t cs) : g < w.heap.size := by
  rcases Nat.lt_or_ge g w.heap.size with hlt | hge
  · exact hlt
  · unfold Blk at h; rw [Array.getElem?_eq_none hge] at h; cases h
theorem Blk.cell (h : Blk w g t cs) (i : Nat) : w.cell? ⟨g, i, none⟩ = cs[i]? := by unfold Blk at h; simp [World.cell?, h]
theorem Blk.frozen (h : Blk w g t cs) (i : Nat) : w.frozen? ⟨g, i, none⟩ = false := by unfold Blk at h; simp [World.frozen?, h]
theorem Blk.ch (h : Blk w g t cs) (hc : Ch M w w') (hn : ¬ M g) : Blk w' g t cs := (hc.block g h.lt hn).trans h
theorem Blk.ext (h : Blk w g t cs) (hc : Ext w w') : Blk w' g t cs := Blk.ch h hc id
theorem cell_ch (hc : Ch M w w') (hb : p.block < w.heap.size) (hn : ¬ M p.block) : w'.cell? p = w.cell? p := World.cell?_of_block (w := w) (hc.block p.block hb hn)
theorem cell_ext {v : Value} (hc : Ext w w') (h : w.cell? p = some v) : w'.cell? p = some v :=
  (cell_ch hc (World.block_lt_of_cell? w p h) id).trans h

theorem ch_alloc (w : World) (o : Obj) : Ext w (w.alloc o) := ⟨rfl, rfl, rfl, by simp, fun b hb _ => Below.heap_alloc w o b hb⟩
theorem ch_drew (w : World) : Ext w { w with drawn := w.drawn + 1 } := ⟨rfl, rfl, rfl, Nat.le_refl _, fun _ _ _ => rfl⟩
theorem ch_setCell (w : World) (p : Addr) (v : Value) : Ch (fun b => b = p.block) w (w.setCell p v) :=
  ⟨rfl, rfl, rfl, by simp [World.setCell], fun b _ hn => Below.heap_setCell w p v b hn⟩
theorem size_setCell (w : World) (p : Addr) (v : Value) : (w.setCell p v).heap.size = w.heap.size := by simp [World.setCell]
theorem Blk.new (w : World) (t : TypeId) (cs : Array Value) : Blk (w.alloc (.cells cs t)) w.heap.size t cs := heap_alloc_new w _
theorem Blk.set (h : Blk w g t cs) (i : Nat) (u : Value) : Blk (w.setCell ⟨g, i, none⟩ u) g t (cs.setIfInBounds i u) := by
  unfold Blk at h ⊢
  simp [World.setCell, Array.getElem?_modify, h]
theorem add_lit (g i j : Nat) : (⟨g, i, none⟩ : Addr).add j = ⟨g, i + j, none⟩ := by unfold Addr.add; split <;> simp_all
theorem add_add (a : Addr) (i j : Nat) : (a.add i).add j = a.add (i + j) := by
  unfold Addr.add
  by_cases hi : i = 0 <;> by_cases hj : j = 0 <;> simp [hi, hj, Nat.add_assoc]
theorem block_add (a : Addr) (n : Nat) : (a.add n).block = a.block := by unfold Addr.add; split <;> rfl

/-- a type of one cell -/
def oneTy (P : Program) (t : TypeId) : Bool := match P.underlying t with | some (.struct _) | some (.array _ _) | none => false | some _ => (P.info? t).any (·.size == 1)
/-- a type of m cells -/
def aggTy (P : Program) (t : TypeId) (m : Nat) : Bool := match P.underlying t with | some (.struct _) | some (.array _ _) => (P.info? t).any (·.size == m) | _ => false
def TyD (P : Program) (t : TypeId) (d : TypeDesc) : Prop := P.underlying t = some d
structure SliceTy (P : Program) (t e sz bytes : Nat) (z : Value) : Prop where
  und : P.underlying t = some (.slice e)
  info : (P.info? e).map (fun i => (i.zero, i.size, i.bytes)) = some (some z, sz, bytes)
def ZeroTy (P : Program) (t : TypeId) (z : Value) : Prop := (P.info? t).map (fun i => i.zero) = some (some z)

theorem run_isAgg_one {P : Program} {t : TypeId} (h : oneTy P t = true) (w : World) : (isAgg t).run P w = .ok false w := by
  unfold oneTy at h
  split at h
  · cases h
  · cases h
  · cases h
  · rename_i d hd1 hd2 hu
    unfold isAgg
    simp only [Sem.run_bind, run_underlying hu, Result.andThen_ok]
    cases d <;> first | rfl | (exfalso; simp_all; done)
theorem size_one {P : Program} {t : TypeId} (h : oneTy P t = true) (w : World) : (sizeOf t).run P w = .ok 1 w := by
  unfold oneTy at h
  split at h
  · cases h
  · cases h
  · cases h
  · cases hi : P.info? t with
    | none => rw [hi] at h; simp at h
    | some i => rw [hi] at h; simp at h; simp [sizeOf, typeInfo, hi, h]
theorem run_isAgg_agg {P : Program} {t : TypeId} {m : Nat} (h : aggTy P t m = true) (w : World) : (isAgg t).run P w = .ok true w := by
  unfold aggTy at h
  split at h
  · rename_i hu; simp [isAgg, run_underlying hu]
  · rename_i hu; simp [isAgg, run_underlying hu]
  · cases h
theorem size_agg {P : Program} {t : TypeId} {m : Nat} (h : aggTy P t m = true) (w : World) : (sizeOf t).run P w = .ok m w := by
  have h' : (P.info? t).any (·.size == m) = true := by
    unfold aggTy at h
    split at h
    · exact h
    · exact h
    · cases h
  cases hi : P.info? t with
  | none => rw [hi] at h'; simp at h'
  | some i => rw [hi] at h'; simp at h'; simp [sizeOf, typeInfo, hi, h']
end

section
variable {P : Program} {n : Nat} {S : World → World → Prop} {k : Nat} {K : Fr → World → Prop} {f : Fr} {w : World}
  {d ty t t2 : Nat} {x y : Operand} {pos : String} {aft : Array Edge} {gd : Option (Nat × Bool)}

theorem run_load_one (ht : oneTy P t = true) {p : Addr} {v : Value} (hc : w.cell? p = some v) : (Instr.loadAt t (.pointer (some p))).run P w = .ok v w := by
  simp [Instr.loadAt, Instr.sureAddr, loadVar, run_isAgg_one ht, load, Sem.run, hc]

theorem R1_load1F (h3 : k ≠ 3) (ht : oneTy P t = true) {p : Addr} {v : Value} (hx : ev n f x = .pointer (some p)) (hc : w.cell? p = some v) (h : K (upd f d v) w) :
    R1 P n (fun _ _ => False) k ⟨some d, .load t x, ty, pos, aft, gd⟩ K f w := by
  refine R1_read h3 (v := v) (fun w' hw => ?_) h
  obtain rfl := hw.resolve_left id
  simp only [execOp, hx, Sem.run_bind, run_load_one ht hc, Result.andThen_ok, Sem.run_pure]
theorem R1_load1E (h3 : k ≠ 3) (ht : oneTy P t = true) {p : Addr} {v : Value} (hx : ev n f x = .pointer (some p)) (hc : w.cell? p = some v) (h : K (upd f d v) w) :
    R1 P n Ext k ⟨some d, .load t x, ty, pos, aft, gd⟩ K f w := by
  refine R1_read h3 (v := v) (fun w' hw => ?_) h
  have hc' : w'.cell? p = some v := by
    rcases hw with hw | rfl
    · exact cell_ext hw hc
    · exact hc
  simp only [execOp, hx, Sem.run_bind, run_load_one ht hc', Result.andThen_ok, Sem.run_pure]

theorem add_zero (p : Addr) : p.add 0 = p := rfl
theorem run_load_two (ht : aggTy P t 2 = true) {p : Addr} {v0 v1 : Value} (h0 : w.cell? p = some v0) (h1 : w.cell? (p.add 1) = some v1) : (Instr.loadAt t (.pointer (some p))).run P w = .ok (.agg #[v0, v1]) w := by
  simp [Instr.loadAt, Instr.sureAddr, loadVar, run_isAgg_agg ht, size_agg ht, loadCells, loadCellsFrom, load, Sem.run, h0, h1, add_zero]
theorem run_load_three (ht : aggTy P t 3 = true) {p : Addr} {v0 v1 v2 : Value} (h0 : w.cell? p = some v0) (h1 : w.cell? (p.add 1) = some v1) (h2 : w.cell? (p.add 2) = some v2) : (Instr.loadAt t (.pointer (some p))).run P w = .ok (.agg #[v0, v1, v2]) w := by
  simp [Instr.loadAt, Instr.sureAddr, loadVar, run_isAgg_agg ht, size_agg ht, loadCells, loadCellsFrom, load, Sem.run, h0, h1, h2, add_zero]
theorem R1_load2F (h3 : k ≠ 3) (ht : aggTy P t 2 = true) {p : Addr} {v0 v1 : Value} (hx : ev n f x = .pointer (some p)) (h0 : w.cell? p = some v0) (h1 : w.cell? (p.add 1) = some v1) (h : K (upd f d (.agg #[v0, v1])) w) :
    R1 P n (fun _ _ => False) k ⟨some d, .load t x, ty, pos, aft, gd⟩ K f w := by
  refine R1_read h3 (v := .agg #[v0, v1]) (fun w' hw => ?_) h
  obtain rfl := hw.resolve_left id
  simp only [execOp, hx, Sem.run_bind, run_load_two ht h0 h1, Result.andThen_ok, Sem.run_pure]
theorem R1_load2E (h3 : k ≠ 3) (ht : aggTy P t 2 = true) {p : Addr} {v0 v1 : Value} (hx : ev n f x = .pointer (some p)) (h0 : w.cell? p = some v0) (h1 : w.cell? (p.add 1) = some v1) (h : K (upd f d (.agg #[v0, v1])) w) :
    R1 P n Ext k ⟨some d, .load t x, ty, pos, aft, gd⟩ K f w := by
  refine R1_read h3 (v := .agg #[v0, v1]) (fun w' hw => ?_) h
  have hc : w'.cell? p = some v0 ∧ w'.cell? (p.add 1) = some v1 := by
    rcases hw with hw | rfl
    · exact ⟨cell_ext hw h0, cell_ext hw h1⟩
    · exact ⟨h0, h1⟩
  simp only [execOp, hx, Sem.run_bind, run_load_two ht hc.1 hc.2, Result.andThen_ok, Sem.run_pure]
theorem R1_load3F (h3 : k ≠ 3) (ht : aggTy P t 3 = true) {p : Addr} {v0 v1 v2 : Value} (hx : ev n f x = .pointer (some p)) (h0 : w.cell? p = some v0) (h1 : w.cell? (p.add 1) = some v1) (h2 : w.cell? (p.add 2) = some v2) (h : K (upd f d (.agg #[v0, v1, v2])) w) :
    R1 P n (fun _ _ => False) k ⟨some d, .load t x, ty, pos, aft, gd⟩ K f w := by
  refine R1_read h3 (v := .agg #[v0, v1, v2]) (fun w' hw => ?_) h
  obtain rfl := hw.resolve_left id
  simp only [execOp, hx, Sem.run_bind, run_load_three ht h0 h1 h2, Result.andThen_ok, Sem.run_pure]
theorem R1_load3E (h3 : k ≠ 3) (ht : aggTy P t 3 = true) {p : Addr} {v0 v1 v2 : Value} (hx : ev n f x = .pointer (some p)) (h0 : w.cell? p = some v0) (h1 : w.cell? (p.add 1) = some v1) (h2 : w.cell? (p.add 2) = some v2) (h : K (upd f d (.agg #[v0, v1, v2])) w) :
    R1 P n Ext k ⟨some d, .load t x, ty, pos, aft, gd⟩ K f w := by
  refine R1_read h3 (v := .agg #[v0, v1, v2]) (fun w' hw => ?_) h
  have hc : w'.cell? p = some v0 ∧ w'.cell? (p.add 1) = some v1 ∧ w'.cell? (p.add 2) = some v2 := by
    rcases hw with hw | rfl
    · exact ⟨cell_ext hw h0, cell_ext hw h1, cell_ext hw h2⟩
    · exact ⟨h0, h1, h2⟩
  simp only [execOp, hx, Sem.run_bind, run_load_three ht hc.1 hc.2.1 hc.2.2, Result.andThen_ok, Sem.run_pure]

theorem run_store1 {a : Addr} {v u : Value} (ho : v.oneCell' = true) (hc : w.cell? a = some u) (hf : w.frozen? a = false) : (store a v).run P w = .ok () (w.setCell a v) := by
  cases v <;> simp_all [store, Sem.run, Value.oneCell']
theorem oneCell_cells {v : Value} (ho : v.oneCell' = true) : v.cells = #[v] := by cases v <;> simp_all [Value.oneCell', Value.cells]
theorem run_store_one (ht : oneTy P t = true) {p : Addr} {v u : Value} (ho : v.oneCell' = true) (hc : w.cell? p = some u) (hf : w.frozen? p = false) : (Instr.storeAt t (.pointer (some p)) v).run P w = .ok () (w.setCell p v) := by
  simp [Instr.storeAt, Instr.sureAddr, storeVar, size_one ht, oneCell_cells ho, storeCells, run_store1 ho hc hf, add_zero]

/-- a store of one cell into a block that is known whole -/
theorem R1_store1 (ht : oneTy P t = true) {g i : Nat} {T : TypeId} {cs : Array Value} {v : Value} (h0 : k = 2 ∨ k = 1 ∧ ∀ w', Ch (fun b => b = g) w w' → S w w') (hx : ev n f x = .pointer (some ⟨g, i, none⟩)) (hy : ev n f y = v) (ho : v.oneCell' = true) (hb : Blk w g T cs) (hi : i < cs.size)
    (h : ∀ w', Blk w' g T (cs.setIfInBounds i v) → Ch (fun b => b = g) w w' → w'.heap.size = w.heap.size → K f w') :
    R1 P n S k ⟨none, .store t x y, ty, pos, aft, gd⟩ K f w := by
  have hc : w.cell? ⟨g, i, none⟩ = some cs[i] := by rw [hb.cell]; simp [hi]
  have hch : Ch (fun b => b = g) w (w.setCell ⟨g, i, none⟩ v) := ch_setCell w ⟨g, i, none⟩ v
  refine R1_skip (w' := w.setCell ⟨g, i, none⟩ v) (h0.imp id fun h => ⟨h.1, h.2 _ hch⟩) rfl ?_ (h _ (hb.set i v) hch (size_setCell _ _ _))
  simp only [execOp, hx, hy, Sem.run_bind, run_store_one ht ho hc (hb.frozen i), Result.andThen_ok, Sem.run_pure]

theorem R1_storeI (ht : oneTy P t = true) {g i : Nat} {T : TypeId} {cs : Array Value} {kd : IntKind} {z : Int} (h0 : k = 2 ∨ k = 1 ∧ ∀ w', Ch (fun b => b = g) w w' → S w w') (hx : ev n f x = .pointer (some ⟨g, i, none⟩)) (hy : ev n f y = .int kd z) (hb : Blk w g T cs) (hi : i < cs.size)
    (h : ∀ w', Blk w' g T (cs.setIfInBounds i (.int kd z)) → Ch (fun b => b = g) w w' → w'.heap.size = w.heap.size → K f w') :
    R1 P n S k ⟨none, .store t x y, ty, pos, aft, gd⟩ K f w :=
  R1_store1 ht h0 hx hy rfl hb hi h
theorem R1_storeS (ht : oneTy P t = true) {g i : Nat} {T : TypeId} {cs : Array Value} {A : Option Addr} {m c : Nat} (h0 : k = 2 ∨ k = 1 ∧ ∀ w', Ch (fun b => b = g) w w' → S w w') (hx : ev n f x = .pointer (some ⟨g, i, none⟩)) (hy : ev n f y = .slice A m c) (hb : Blk w g T cs) (hi : i < cs.size)
    (h : ∀ w', Blk w' g T (cs.setIfInBounds i (.slice A m c)) → Ch (fun b => b = g) w w' → w'.heap.size = w.heap.size → K f w') :
    R1 P n S k ⟨none, .store t x y, ty, pos, aft, gd⟩ K f w :=
  R1_store1 ht h0 hx hy rfl hb hi h
theorem R1_storeB (ht : oneTy P t = true) {g i : Nat} {T : TypeId} {cs : Array Value} {b : Bool} (h0 : k = 2 ∨ k = 1 ∧ ∀ w', Ch (fun b => b = g) w w' → S w w') (hx : ev n f x = .pointer (some ⟨g, i, none⟩)) (hy : ev n f y = .bool b) (hb : Blk w g T cs) (hi : i < cs.size)
    (h : ∀ w', Blk w' g T (cs.setIfInBounds i (.bool b)) → Ch (fun b => b = g) w w' → w'.heap.size = w.heap.size → K f w') :
    R1 P n S k ⟨none, .store t x y, ty, pos, aft, gd⟩ K f w :=
  R1_store1 ht h0 hx hy rfl hb hi h
theorem R1_storeP (ht : oneTy P t = true) {g i : Nat} {T : TypeId} {cs : Array Value} {q : Option Addr} (h0 : k = 2 ∨ k = 1 ∧ ∀ w', Ch (fun b => b = g) w w' → S w w') (hx : ev n f x = .pointer (some ⟨g, i, none⟩)) (hy : ev n f y = .pointer q) (hb : Blk w g T cs) (hi : i < cs.size)
    (h : ∀ w', Blk w' g T (cs.setIfInBounds i (.pointer q)) → Ch (fun b => b = g) w w' → w'.heap.size = w.heap.size → K f w') :
    R1 P n S k ⟨none, .store t x y, ty, pos, aft, gd⟩ K f w :=
  R1_store1 ht h0 hx hy rfl hb hi h
theorem run_store_two (ht : aggTy P t 2 = true) {g i : Nat} {T : TypeId} {cs : Array Value} {v0 v1 : Value} (o0 : v0.oneCell' = true) (o1 : v1.oneCell' = true) (hb : Blk w g T cs) (hi : i + 1 < cs.size) :
    (Instr.storeAt t (.pointer (some ⟨g, i, none⟩)) (.agg #[v0, v1])).run P w = .ok () ((w.setCell ⟨g, i, none⟩ v0).setCell ⟨g, i + 1, none⟩ v1) := by
  have hc : w.cell? ⟨g, i, none⟩ = some cs[i] := by rw [hb.cell]; simp
  have hb1 := hb.set i v0
  have hc1 : (w.setCell ⟨g, i, none⟩ v0).cell? ⟨g, i + 1, none⟩ = some cs[i + 1] := by rw [hb1.cell]; simp [hi]
  simp [Instr.storeAt, Instr.sureAddr, storeVar, size_agg ht, Value.cells, storeCells, run_store1 o0 hc (hb.frozen i), add_zero, add_lit, run_store1 o1 hc1 (hb1.frozen (i + 1))]
theorem R1_store2 (ht : aggTy P t 2 = true) {g i : Nat} {T : TypeId} {cs : Array Value} {v0 v1 : Value} (h0 : k = 2 ∨ k = 1 ∧ ∀ w', Ch (fun b => b = g) w w' → S w w') (hx : ev n f x = .pointer (some ⟨g, i, none⟩)) (hy : ev n f y = .agg #[v0, v1]) (o0 : v0.oneCell' = true) (o1 : v1.oneCell' = true) (hb : Blk w g T cs) (hi : i + 1 < cs.size)
    (h : ∀ w', Blk w' g T ((cs.setIfInBounds i v0).setIfInBounds (i + 1) v1) → Ch (fun b => b = g) w w' → w'.heap.size = w.heap.size → K f w') :
    R1 P n S k ⟨none, .store t x y, ty, pos, aft, gd⟩ K f w := by
  have hch : Ch (fun b => b = g) w ((w.setCell ⟨g, i, none⟩ v0).setCell ⟨g, i + 1, none⟩ v1) := (ch_setCell w ⟨g, i, none⟩ v0).trans (ch_setCell _ ⟨g, i + 1, none⟩ v1)
  refine R1_skip (w' := (w.setCell ⟨g, i, none⟩ v0).setCell ⟨g, i + 1, none⟩ v1) (h0.imp id fun h => ⟨h.1, h.2 _ hch⟩) rfl ?_ (h _ ((hb.set i v0).set (i + 1) v1) hch (by rw [size_setCell, size_setCell]))
  simp only [execOp, hx, hy, Sem.run_bind, run_store_two ht o0 o1 hb hi, Result.andThen_ok, Sem.run_pure]

/-- a new block -/
theorem R1_new {o : Oper} {T : TypeId} {cs : Array Value} {v : Value} (hS : k = 2 ∨ k = 1 ∧ ∀ w', Ext w w' → S w w') (hr : (execOp (ev n f) o).run P w = .ok (.value v) (w.alloc (.cells cs T)))
    (h : ∀ w', Blk w' w.heap.size T cs → Ext w w' → w'.heap.size = w.heap.size + 1 → K (updO f o.dst v) w') : R1 P n S k o K f w :=
  R1_loud (hS.imp id fun h => ⟨h.1, h.2 _ (ch_alloc w _)⟩) hr (h _ (Blk.new w T cs) (ch_alloc w _) (by simp))
theorem R1_alloc {z : Value} (hS : k = 2 ∨ k = 1 ∧ ∀ w', Ext w w' → S w w') (hz : ZeroTy P t z)
    (h : ∀ w', Blk w' w.heap.size t z.cells → Ext w w' → w'.heap.size = w.heap.size + 1 → K (upd f d (.pointer (some ⟨w.heap.size, 0, none⟩))) w') : R1 P n S k ⟨some d, .alloc t, ty, pos, aft, gd⟩ K f w := by
  refine R1_new (T := t) (cs := z.cells) (v := .pointer (some ⟨w.heap.size, 0, none⟩)) hS ?_ h
  unfold ZeroTy at hz
  cases hi : P.info? t with
  | none => rw [hi] at hz; simp at hz
  | some i =>
    rw [hi] at hz
    simp at hz
    simp [execOp, Instr.alloc, zeroValue, typeInfo, hi, hz, newVar, newRow]
theorem R1_box {v : Value} (hS : k = 2 ∨ k = 1 ∧ ∀ w', Ext w w' → S w w') (hx : ev n f x = v)
    (h : ∀ w', Blk w' w.heap.size t v.cells → Ext w w' → w'.heap.size = w.heap.size + 1 → K (upd f d (.pointer (some ⟨w.heap.size, 0, none⟩))) w') : R1 P n S k ⟨some d, .box t x, ty, pos, aft, gd⟩ K f w := by
  refine R1_new (T := t) (cs := v.cells) (v := .pointer (some ⟨w.heap.size, 0, none⟩)) hS ?_ h
  simp [execOp, Instr.box, hx, newVar, newRow]
theorem R1_make {e sz bytes m c : Nat} {z : Value} (hT : SliceTy P t e sz bytes z) (hS : k = 2 ∨ k = 1 ∧ ∀ w', Ext w w' → S w w') (hx : ev n f x = .int .i64 ((m : Nat) : Int)) (hy : ev n f y = .int .i64 ((c : Nat) : Int)) (hmc : m ≤ c) (hb : bytes * c ≤ 281474976710656) (hc : c ≤ 9223372036854775807)
    (h : ∀ w', Blk w' w.heap.size e (madeCells z.cells (c * sz)) → Ext w w' → w'.heap.size = w.heap.size + 1 → K (upd f d (.slice (some ⟨w.heap.size, 0, none⟩) m c)) w') : R1 P n S k ⟨some d, .makeSlice t x y, ty, pos, aft, gd⟩ K f w := by
  refine R1_new (T := e) (cs := madeCells z.cells (c * sz)) (v := .slice (some ⟨w.heap.size, 0, none⟩) m c) hS ?_ h
  obtain ⟨hu, hinfo⟩ := hT
  cases hi : P.info? e with
  | none => rw [hi] at hinfo; simp at hinfo
  | some i =>
    rw [hi] at hinfo
    simp at hinfo
    obtain ⟨hz, hsz, hby⟩ := hinfo
    have hr := run_make (P := P) w t e i z hu hi hz .i64 .i64 (m : Int) (c : Int) (by omega) (by omega) (by rw [hby, ← Int.natCast_mul]; exact Int.ofNat_le.2 hb) (by omega)
    simp only [Int.toNat_natCast, hsz] at hr
    simp only [execOp, hx, hy, Sem.run_bind, hr, Result.andThen_ok, Sem.run_pure]

theorem set_two (xs : Array Value) (h : xs.size = 2) {v0 v1 : Value} : (xs.setIfInBounds 0 v0).setIfInBounds 1 v1 = #[v0, v1] := by
  obtain ⟨l⟩ := xs
  match l, h with
  | [_, _], _ => rfl
/-- a slice literal of two one-cell elements -/
theorem R1_build2 {e bytes : Nat} {z v0 v1 : Value} {y0 y1 : Operand} (hT : SliceTy P t e 1 bytes z) (hz : z.oneCell' = true) (hS : k = 2 ∨ k = 1 ∧ ∀ w', Ext w w' → S w w') (h0 : ev n f y0 = v0) (h1 : ev n f y1 = v1) (o0 : v0.oneCell' = true) (o1 : v1.oneCell' = true)
    (h : ∀ w', Blk w' w.heap.size e #[v0, v1] → Ext w w' → w'.heap.size = w.heap.size + 1 → K (upd f d (.slice (some ⟨w.heap.size, 0, none⟩) 2 2)) w') : R1 P n S k ⟨some d, .buildSlice t 2 #[(0, y0), (1, y1)], ty, pos, aft, gd⟩ K f w := by
  refine R1_new (T := e) (cs := #[v0, v1]) (v := .slice (some ⟨w.heap.size, 0, none⟩) 2 2) hS ?_ h
  obtain ⟨hu, hinfo⟩ := hT
  cases hi : P.info? e with
  | none => rw [hi] at hinfo; simp at hinfo
  | some i =>
    rw [hi] at hinfo
    simp at hinfo
    obtain ⟨hz', hsz, hby⟩ := hinfo
    simp [execOp, Instr.buildSlice, run_underlying hu, sizeOf, typeInfo, hi, hsz, zeroValue, hz', h0, h1, Instr.fill, oneCell_cells o0, oneCell_cells o1, oneCell_cells hz, newRow, Array.range]
    rw [set_two _ (by simp [hsz])]
theorem R1_len {e sz bytes m c : Nat} {z : Value} {A : Option Addr} (hT : SliceTy P t e sz bytes z) (hx : ev n f x = .slice A m c) (h : K (upd f d (.int .i64 ((m : Nat) : Int))) w) :
    R1 P n S k ⟨some d, .call { callee := .builtin .len, args := #[x], argTypes := #[t] }, ty, pos, aft, gd⟩ K f w := by
  refine R1_pure (v := .int .i64 ((m : Nat) : Int)) (fun w => ?_) h
  simp [execOp, resolve, invoke, builtin, Builtin.len_, run_underlying hT.und, hx, goInt]

theorem size_info {e sz bytes : Nat} {z : Value} (hinfo : (P.info? e).map (fun i => (i.zero, i.size, i.bytes)) = some (some z, sz, bytes)) (w : World) : (sizeOf e).run P w = .ok sz w := by
  cases hi : P.info? e with
  | none => rw [hi] at hinfo; simp at hinfo
  | some i =>
    rw [hi] at hinfo
    simp at hinfo
    simp [sizeOf, typeInfo, hi, hinfo.2.1]

theorem R1_index {e sz bytes m c j : Nat} {z : Value} {ad : Addr} (hT : SliceTy P t e sz bytes z) (hx : ev n f x = .slice (some ad) m c) (hy : ev n f y = .int .i64 ((j : Nat) : Int)) (hj : j < m)
    (h : K (upd f d (.pointer (some (ad.add (j * sz))))) w) : R1 P n S k ⟨some d, .indexAddr t x y, ty, pos, aft, gd⟩ K f w := by
  refine R1_pure (v := .pointer (some (ad.add (j * sz)))) (fun w => ?_) h
  have h1 : (0 : Int) ≤ (j : Int) ∧ (j : Int) < (m : Int) := by omega
  simp only [execOp, hx, hy, Instr.indexAt, asIntOf, Sem.run_bind, Sem.run_pure, Result.andThen_ok, run_underlying hT.und, h1, and_self, if_true, size_info hT.info, Int.toNat_natCast]
theorem R1_indexB {e sz bytes m c j G o : Nat} {z : Value} (hT : SliceTy P t e sz bytes z) (hx : ev n f x = .slice (some ⟨G, o, none⟩) m c) (hy : ev n f y = .int .i64 ((j : Nat) : Int)) (hj : j < m)
    (h : K (upd f d (.pointer (some ⟨G, o + j * sz, none⟩))) w) : R1 P n S k ⟨some d, .indexAddr t x y, ty, pos, aft, gd⟩ K f w :=
  R1_index hT hx hy hj (by rw [add_lit]; exact h)
theorem R1_index0 {e sz bytes m c : Nat} {z : Value} {ad : Addr} (hT : SliceTy P t e sz bytes z) (hx : ev n f x = .slice (some ad) m c) (hj : 0 < m)
    (h : K (upd f d (.pointer (some (ad.add (0 * sz))))) w) : R1 P n S k ⟨some d, .indexAddr t x (.const (.int .i64 0)), ty, pos, aft, gd⟩ K f w :=
  R1_index hT hx (j := 0) rfl hj h
theorem R1_index0B {e sz bytes m c G o : Nat} {z : Value} (hT : SliceTy P t e sz bytes z) (hx : ev n f x = .slice (some ⟨G, o, none⟩) m c) (hj : 0 < m)
    (h : K (upd f d (.pointer (some ⟨G, o + 0 * sz, none⟩))) w) : R1 P n S k ⟨some d, .indexAddr t x (.const (.int .i64 0)), ty, pos, aft, gd⟩ K f w :=
  R1_indexB hT hx (j := 0) rfl hj h
/-- x[lo:hi] -/
theorem R1_sliceLH {e sz bytes m c l r : Nat} {z : Value} {A : Option Addr} {lo hi : Operand} (hT : SliceTy P t e sz bytes z) (hx : ev n f x = .slice A m c) (hl : ev n f lo = .int .i64 ((l : Nat) : Int)) (hr : ev n f hi = .int .i64 ((r : Nat) : Int)) (hlr : l ≤ r) (hrc : r ≤ c)
    (h : K (upd f d (.slice (if c = l then A else A.map (·.add (l * sz))) (r - l) (c - l))) w) : R1 P n S k ⟨some d, .slice t x (some lo) (some hi) none, ty, pos, aft, gd⟩ K f w := by
  refine R1_pure (v := .slice (if c = l then A else A.map (·.add (l * sz))) (r - l) (c - l)) (fun w => ?_) h
  have h1 : (0 : Int) ≤ (r : Int) ∧ (r : Int) ≤ (c : Int) := by omega
  have h2 : (0 : Int) ≤ (l : Int) ∧ (l : Int) ≤ (r : Int) := by omega
  simp [execOp, hx, hl, hr, Instr.sliceAt, run_underlying hT.und, Instr.slice, Instr.sliceBounds, Instr.sliceBound, asIntOf, size_info hT.info, hlr, hrc]
/-- x[lo:hi] of a block of the call's own -/
theorem R1_sliceLHB {e sz bytes m c l r G o : Nat} {z : Value} {lo hi : Operand} (hT : SliceTy P t e sz bytes z) (hx : ev n f x = .slice (some ⟨G, o, none⟩) m c) (hl : ev n f lo = .int .i64 ((l : Nat) : Int)) (hr : ev n f hi = .int .i64 ((r : Nat) : Int)) (hlr : l ≤ r) (hrc : r ≤ c) (hlc : l < c)
    (h : K (upd f d (.slice (some ⟨G, o + l * sz, none⟩) (r - l) (c - l))) w) : R1 P n S k ⟨some d, .slice t x (some lo) (some hi) none, ty, pos, aft, gd⟩ K f w :=
  R1_sliceLH hT hx hl hr hlr hrc (by rw [if_neg (by omega), Option.map_some, add_lit]; exact h)
/-- x[:hi] -/
theorem R1_sliceH {e sz bytes m c r : Nat} {z : Value} {A : Option Addr} {hi : Operand} (hT : SliceTy P t e sz bytes z) (hx : ev n f x = .slice A m c) (hr : ev n f hi = .int .i64 ((r : Nat) : Int)) (hrc : r ≤ c)
    (h : K (upd f d (.slice A r c)) w) : R1 P n S k ⟨some d, .slice t x none (some hi) none, ty, pos, aft, gd⟩ K f w := by
  refine R1_pure (v := .slice A r c) (fun w => ?_) h
  have e1 : (if c = 0 then A else A.map (·.add (0 * sz))) = A := by
    split
    · rfl
    · cases A <;> simp [add_zero]
  simp [execOp, hx, hr, Instr.sliceAt, run_underlying hT.und, Instr.slice, Instr.sliceBounds, Instr.sliceBound, asIntOf, size_info hT.info, hrc]
  simpa using e1
/-- x[lo:] -/
theorem R1_sliceL {e sz bytes m c l : Nat} {z : Value} {A : Option Addr} {lo : Operand} (hT : SliceTy P t e sz bytes z) (hx : ev n f x = .slice A m c) (hl : ev n f lo = .int .i64 ((l : Nat) : Int)) (hlr : l ≤ m)
    (h : K (upd f d (.slice (if c = l then A else A.map (·.add (l * sz))) (m - l) (c - l))) w) : R1 P n S k ⟨some d, .slice t x (some lo) none none, ty, pos, aft, gd⟩ K f w := by
  refine R1_pure (v := .slice (if c = l then A else A.map (·.add (l * sz))) (m - l) (c - l)) (fun w => ?_) h
  simp [execOp, hx, hl, Instr.sliceAt, run_underlying hT.und, Instr.slice, Instr.sliceBounds, Instr.sliceBound, asIntOf, size_info hT.info, hlr]

theorem R1_extract {vs : Array Value} {i : Nat} {v : Value} (hx : ev n f x = .tuple vs) (hi : vs[i]? = some v) (h : K (upd f d v) w) : R1 P n S k ⟨some d, .extract x i, ty, pos, aft, gd⟩ K f w :=
  R1_pure (v := v) (fun _ => by simp [execOp, hx, Instr.extract, hi]) h
theorem R1_pickT {c b : Operand} {i : Nat} (hc : ev n f c = .bool true) (hi : Nat.blt i n = true) (h : K (mv f d i) w) : R1 P n S k ⟨some d, .pick c (.tmp i) b, ty, pos, aft, gd⟩ K f w := by
  refine R1_pure (v := ev n f (.tmp i)) (fun _ => by simp [execOp, hc, asBool]) ?_
  have e : updO f (some d) (ev n f (.tmp i)) = mv f d i := by funext j; simp [ev, hi, updO, mv, upd]
  rw [e]; exact h
theorem R1_pickF {c a : Operand} {i : Nat} (hc : ev n f c = .bool false) (hi : Nat.blt i n = true) (h : K (mv f d i) w) : R1 P n S k ⟨some d, .pick c a (.tmp i), ty, pos, aft, gd⟩ K f w := by
  refine R1_pure (v := ev n f (.tmp i)) (fun _ => by simp [execOp, hc, asBool]) ?_
  have e : updO f (some d) (ev n f (.tmp i)) = mv f d i := by funext j; simp [ev, hi, updO, mv, upd]
  rw [e]; exact h
theorem R1_pickTC {c b : Operand} {v : Value} (hc : ev n f c = .bool true) (h : K (upd f d v) w) : R1 P n S k ⟨some d, .pick c (.const v) b, ty, pos, aft, gd⟩ K f w :=
  R1_pure (v := v) (fun _ => by simp [execOp, hc, asBool, show ev n f (.const v) = v from rfl]) h
theorem R1_pickFC {c a : Operand} {v : Value} (hc : ev n f c = .bool false) (h : K (upd f d v) w) : R1 P n S k ⟨some d, .pick c a (.const v), ty, pos, aft, gd⟩ K f w :=
  R1_pure (v := v) (fun _ => by simp [execOp, hc, asBool, show ev n f (.const v) = v from rfl]) h
theorem R1_pickTD {c b : Operand} {i : Nat} {p : Prop} {inst : Decidable p} (hc : ev n f c = .bool (@decide p inst)) (hp : p) (hi : Nat.blt i n = true) (h : K (mv f d i) w) : R1 P n S k ⟨some d, .pick c (.tmp i) b, ty, pos, aft, gd⟩ K f w :=
  R1_pickT (by rw [hc, decide_eq_true hp]) hi h
theorem R1_pickFD {c a : Operand} {i : Nat} {p : Prop} {inst : Decidable p} (hc : ev n f c = .bool (@decide p inst)) (hp : ¬ p) (hi : Nat.blt i n = true) (h : K (mv f d i) w) : R1 P n S k ⟨some d, .pick c a (.tmp i), ty, pos, aft, gd⟩ K f w :=
  R1_pickF (by rw [hc, decide_eq_false hp]) hi h
theorem R1_pickTCD {c b : Operand} {v : Value} {p : Prop} {inst : Decidable p} (hc : ev n f c = .bool (@decide p inst)) (hp : p) (h : K (upd f d v) w) : R1 P n S k ⟨some d, .pick c (.const v) b, ty, pos, aft, gd⟩ K f w :=
  R1_pickTC (by rw [hc, decide_eq_true hp]) h
theorem R1_pickFCD {c a : Operand} {v : Value} {p : Prop} {inst : Decidable p} (hc : ev n f c = .bool (@decide p inst)) (hp : ¬ p) (h : K (upd f d v) w) : R1 P n S k ⟨some d, .pick c a (.const v), ty, pos, aft, gd⟩ K f w :=
  R1_pickFC (by rw [hc, decide_eq_false hp]) h
theorem R1_not {b : Bool} (hx : ev n f x = .bool b) (h : K (upd f d (.bool !b)) w) : R1 P n S k ⟨some d, .unOp .not t x, ty, pos, aft, gd⟩ K f w :=
  R1_pure (v := .bool !b) (fun _ => by simp [execOp, hx, Op.unary]) h
theorem R1_neg_z {a : Int} (hx : ev n f x = .int .i64 a) (h1 : -9223372036854775808 ≤ 0 - a) (h2 : 0 - a < 9223372036854775808) (h : K (upd f d (.int .i64 (0 - a))) w) : R1 P n S k ⟨some d, .unOp .neg t x, ty, pos, aft, gd⟩ K f w :=
  R1_pure (v := .int .i64 (0 - a)) (fun _ => by simp only [execOp, hx, Op.unary, Op.intArith, Sem.run_bind, Sem.run_pure, Result.andThen_ok, wrap_i64 h1 h2]) h
theorem R1_neg_u64 {a : Nat} (hx : ev n f x = .int .u64 (a : Int)) (ha : a ≤ 18446744073709551616) (h : K (upd f d (.int .u64 (((18446744073709551616 - a) % 18446744073709551616 : Nat) : Int))) w) : R1 P n S k ⟨some d, .unOp .neg t x, ty, pos, aft, gd⟩ K f w := by
  refine R1_pure (v := .int .u64 (((18446744073709551616 - a) % 18446744073709551616 : Nat) : Int)) (fun _ => ?_) h
  have e : IntKind.u64.wrap (0 - (a : Int)) = (((18446744073709551616 - a) % 18446744073709551616 : Nat) : Int) := by rw [wrap_u64]; omega
  simp only [execOp, hx, Op.unary, Op.intArith, Sem.run_bind, Sem.run_pure, Result.andThen_ok, e]

/-- conversions between integers -/
theorem R1_conv {sd : TypeDesc} {k1 k2 : IntKind} {a b : Int} (hs : TyD P t sd) (ht : TyD P t2 (.int k2)) (hx : ev n f x = .int k1 a) (hb : k2.wrap a = b) (h : K (upd f d (.int k2 b)) w) : R1 P n S k ⟨some d, .convert t t2 x, ty, pos, aft, gd⟩ K f w := by
  refine R1_pure (v := .int k2 b) (fun _ => ?_) h
  simp [execOp, hx, convert, run_underlying hs, run_underlying ht, Conv.intToInt, hb]

section
variable {a : Nat}
theorem R1_u32_u64 (hs : TyD P t (.int .u32)) (ht : TyD P t2 (.int .u64)) (hx : ev n f x = .int .u32 ((a : Nat) : Int)) (ha : a < 4294967296) (h : K (upd f d (.int .u64 ((a : Nat) : Int))) w) : R1 P n S k ⟨some d, .convert t t2 x, ty, pos, aft, gd⟩ K f w :=
  R1_conv hs ht hx (wrap_u64n (Nat.lt_trans ha (by decide))) h
theorem R1_u64_u32 (hs : TyD P t (.int .u64)) (ht : TyD P t2 (.int .u32)) (hx : ev n f x = .int .u64 ((a : Nat) : Int)) (h : K (upd f d (.int .u32 ((a % 4294967296 : Nat) : Int))) w) : R1 P n S k ⟨some d, .convert t t2 x, ty, pos, aft, gd⟩ K f w :=
  R1_conv hs ht hx (wrap_u32m _) h
theorem R1_i64_u64 (hs : TyD P t (.int .i64)) (ht : TyD P t2 (.int .u64)) {z : Int} (hx : ev n f x = .int .i64 z) (h : K (upd f d (.int .u64 ((z % 18446744073709551616).toNat : Int))) w) : R1 P n S k ⟨some d, .convert t t2 x, ty, pos, aft, gd⟩ K f w :=
  R1_conv hs ht hx (by rw [wrap_u64, Int.toNat_of_nonneg (Int.emod_nonneg _ (by decide))]) h
theorem R1_u64_i64 (hs : TyD P t (.int .u64)) (ht : TyD P t2 (.int .i64)) (hx : ev n f x = .int .u64 ((a : Nat) : Int)) {z : Int} (hz : IntKind.i64.wrap ((a : Nat) : Int) = z) (h : K (upd f d (.int .i64 z)) w) : R1 P n S k ⟨some d, .convert t t2 x, ty, pos, aft, gd⟩ K f w :=
  R1_conv hs ht hx hz h
end
theorem R1_u32_u8 {a : Nat} (hs : TyD P t (.int .u32)) (ht : TyD P t2 (.int .u8)) (hx : ev n f x = .int .u32 ((a : Nat) : Int)) (h : K (upd f d (.int .u8 ((a % 256 : Nat) : Int))) w) : R1 P n S k ⟨some d, .convert t t2 x, ty, pos, aft, gd⟩ K f w :=
  R1_conv hs ht hx (by rw [IntKind.wrap_u8]; omega) h
theorem R1_u8_i64 {a : Nat} (hs : TyD P t (.int .u8)) (ht : TyD P t2 (.int .i64)) (hx : ev n f x = .int .u8 ((a : Nat) : Int)) (ha : a < 256) (h : K (upd f d (.int .i64 ((a : Nat) : Int))) w) : R1 P n S k ⟨some d, .convert t t2 x, ty, pos, aft, gd⟩ K f w :=
  R1_conv hs ht hx (wrap_i64n (by omega)) h
/-- a byte of a constant string -/
theorem R1_indexStr {s : ByteArray} {b : UInt8} {kk : IntKind} {j : Nat} (hT : TyD P t .string) (hx : ev n f x = .string s) (hy : ev n f y = .int kk ((j : Nat) : Int)) (hb : s[j]? = some b) (h : K (upd f d (.int .u8 ((b.toNat : Nat) : Int))) w) :
    R1 P n S k ⟨some d, .index t x y, ty, pos, aft, gd⟩ K f w := by
  unfold TyD at hT
  refine R1_pure (v := .int .u8 ((b.toNat : Nat) : Int)) (fun w => ?_) h
  simp [execOp, hx, hy, Instr.index, asIntOf, run_underlying hT, hb]
theorem R1_func {fn : Fn} {first captured : Array Operand} (h : K (upd f d (.func fn (first.map (ev n f)) (captured.map (ev n f)))) w) : R1 P n S k ⟨some d, .makeFunc fn first captured, ty, pos, aft, gd⟩ K f w :=
  R1_pure (v := .func fn (first.map (ev n f)) (captured.map (ev n f))) (fun _ => rfl) h

/-- a struct's field, by value -/
theorem R1_field {m i : Nat} {fs : Array Field} {fl : Field} {cs : Array Value} {v : Value} (hT : TyD P t (.struct fs)) (hf : fs[i]? = some fl) (ho : oneTy P fl.type = true) (hm : fl.offset = m) (hx : ev n f x = .agg cs) (hv : cs[m]? = some v) (h : K (upd f d v) w) :
    R1 P n S k ⟨some d, .field t x i, ty, pos, aft, gd⟩ K f w := by
  refine R1_pure (v := v) (fun w => ?_) h
  simp [execOp, hx, Instr.field, run_underlying hT, hf, asAgg, part, run_isAgg_one ho, hm, hv]

/-- the address of a field lies off cells on -/
def FieldA (P : Program) (t i off : Nat) : Prop := ∀ a w, (Instr.fieldAt t (.pointer (some a)) i).run P w = .ok (.pointer (some (a.add off))) w
theorem R1_fieldAddr {i off G o : Nat} (hF : FieldA P t i off) (hx : ev n f x = .pointer (some ⟨G, o, none⟩)) (h : K (upd f d (.pointer (some ⟨G, o + off, none⟩))) w) : R1 P n S k ⟨some d, .fieldAddr t x i, ty, pos, aft, gd⟩ K f w := by
  refine R1_pure (v := .pointer (some ⟨G, o + off, none⟩)) (fun w => ?_) h
  simp only [execOp, hx, Sem.run_bind, hF _ w, Result.andThen_ok, Sem.run_pure, add_lit]
theorem R1_fieldAddrG {i off : Nat} {a : Addr} (hF : FieldA P t i off) (hx : ev n f x = .pointer (some a)) (h : K (upd f d (.pointer (some (a.add off)))) w) : R1 P n S k ⟨some d, .fieldAddr t x i, ty, pos, aft, gd⟩ K f w := by
  refine R1_pure (v := .pointer (some (a.add off))) (fun w => ?_) h
  simp only [execOp, hx, Sem.run_bind, hF _ w, Result.andThen_ok, Sem.run_pure]
def Build0 (P : Program) (t : Nat) (z : Value) : Prop := ∀ w, (Instr.build t #[]).run P w = .ok z w
def Build2 (P : Program) (t : Nat) : Prop := ∀ v0 v1 w, v0.oneCell' = true → v1.oneCell' = true → (Instr.build t #[(0, v0), (1, v1)]).run P w = .ok (.agg #[v0, v1]) w
theorem R1_bld0 {z : Value} (hB : Build0 P t z) (h : K (upd f d z) w) : R1 P n S k ⟨some d, .build t #[], ty, pos, aft, gd⟩ K f w := by
  refine R1_pure (v := z) (fun w => ?_) h
  have : (#[] : Array (Nat × Operand)).map (fun (i, x) => (i, ev n f x)) = #[] := by simp
  simp only [execOp, this, Sem.run_bind, hB w, Result.andThen_ok, Sem.run_pure]
theorem R1_bld2 {v0 v1 : Value} {y0 y1 : Operand} (hB : Build2 P t) (h0 : ev n f y0 = v0) (h1 : ev n f y1 = v1) (o0 : v0.oneCell' = true) (o1 : v1.oneCell' = true) (h : K (upd f d (.agg #[v0, v1])) w) : R1 P n S k ⟨some d, .build t #[(0, y0), (1, y1)], ty, pos, aft, gd⟩ K f w := by
  refine R1_pure (v := .agg #[v0, v1]) (fun w => ?_) h
  have : (#[(0, y0), (1, y1)] : Array (Nat × Operand)).map (fun (i, x) => (i, ev n f x)) = #[(0, v0), (1, v1)] := by simp [h0, h1]
  simp only [execOp, this, Sem.run_bind, hB v0 v1 w o0 o1, Result.andThen_ok, Sem.run_pure]
def BoolTy (P : Program) (t : Nat) : Prop := ∀ a b w, (binOp .eql t (.bool a) (.bool b)).run P w = .ok (.bool (a == b)) w ∧ (binOp .neq t (.bool a) (.bool b)).run P w = .ok (.bool (a != b)) w
theorem R1_eql_bool {a b : Bool} (hB : BoolTy P t) (hx : ev n f x = .bool a) (hy : ev n f y = .bool b) (h : K (upd f d (.bool (a == b))) w) : R1 P n S k ⟨some d, .binOp .eql t x y t2, ty, pos, aft, gd⟩ K f w :=
  R1_bin hx hy (fun _ => by simp [eqGuard, go_sem]) (fun w => (hB a b w).1) h
theorem R1_neq_bool {a b : Bool} (hB : BoolTy P t) (hx : ev n f x = .bool a) (hy : ev n f y = .bool b) (h : K (upd f d (.bool (a != b))) w) : R1 P n S k ⟨some d, .binOp .neq t x y t2, ty, pos, aft, gd⟩ K f w :=
  R1_bin hx hy (fun _ => by simp [eqGuard, go_sem]) (fun w => (hB a b w).2) h
theorem run_eq_bool (h : P.underlying t = some .bool) (dep : Nat) (a b : Bool) (w : World) : (Op.equalIn (dep + 1) t (.bool a) (.bool b)).run P w = .ok (a == b) w := by
  simp [Op.equalIn, run_underlying h]
theorem boolTy_of (h : TyD P t .bool) : BoolTy P t := by
  unfold TyD at h
  intro a b w
  constructor
  · simp only [binOp]
    simp [Op.equal, Op.maxDepth, run_eq_bool h 9999]
  · simp only [binOp]
    simp [Op.equal, Op.maxDepth, run_eq_bool h 9999]
    cases a <;> cases b <;> rfl

/-- a contract: the function can be entered, and the call returns a value -/
def Enters (P : Program) (g : FuncId) : Prop := ∀ args w, (callFunc g args).run P w = .ok (.enter g args) w
def Ret (post : Value → World → Prop) : Ending → World → Prop := fun e w' => ∃ v, e = .returned v ∧ post v w'
structure Meets (P : Program) (g : FuncId) (args : Array Value) (w : World) (post : Value → World → Prop) : Prop where
  enters : Enters P g
  calls : Calls P g args w (Ret post)
theorem Meets.mono {g : FuncId} {args : Array Value} {post post' : Value → World → Prop} (h : Meets P g args w post) (hp : ∀ v w', post v w' → post' v w') : Meets P g args w post' :=
  ⟨h.enters, h.calls.mono fun _ w' ⟨v, he, hq⟩ => ⟨v, he, hp v w' hq⟩⟩
theorem enters_of {g : FuncId} {fn : Func} {c : Code} (hf : P.funcs[g]? = some fn) (hb : fn.body = some c) (hn : (fn.name == "runtime.NumGoroutine") = false) : Enters P g := by
  intro args w
  have hn' : ¬ fn.name = "runtime.NumGoroutine" := by simpa using hn
  simp [callFunc, program, Sem.run, hf, hb, hn']
theorem R1_call {g : FuncId} {args : Array Operand} {ats : Array TypeId} {vs : Array Value} {post : Value → World → Prop} (h0 : k = 2 ∨ k = 1) (ha : args.map (ev n f) = vs) (hc : Meets P g vs w post)
    (h : ∀ v w', post v w' → (k = 1 → S w w') ∧ K (upd f d v) w') : R1 P n S k ⟨some d, .call { callee := .value (.func g), args := args, argTypes := ats }, ty, pos, aft, gd⟩ K f w := by
  refine R1_enter h0 (g := g) (args := vs) ?_ hc.calls fun e w' ⟨v, he, hp⟩ => ⟨v, he, h v w' hp⟩
  simp [execOp, resolve, ev, Deferred.ofValue, invoke, ha, hc.enters vs w]
theorem R1_call2 {g : FuncId} {l : List Operand} {ats : Array TypeId} {post : Value → World → Prop} (hc : Meets P g (l.map (ev n f)).toArray w post)
    (h : ∀ v w', post v w' → K (upd f d v) w') : R1 P n S 2 ⟨some d, .call { callee := .value (.func g), args := l.toArray, argTypes := ats }, ty, pos, aft, gd⟩ K f w :=
  R1_call (.inl rfl) (by simp) hc fun v w' hp => ⟨(fun h => absurd h (by decide)), h v w' hp⟩
theorem R1_call1 {g : FuncId} {l : List Operand} {ats : Array TypeId} {post : Value → World → Prop} (hc : Meets P g (l.map (ev n f)).toArray w post)
    (h : ∀ v w', post v w' → Ext w w' ∧ K (upd f d v) w') : R1 P n Ext 1 ⟨some d, .call { callee := .value (.func g), args := l.toArray, argTypes := ats }, ty, pos, aft, gd⟩ K f w :=
  R1_call (.inr rfl) (by simp) hc fun v w' hp => ⟨fun _ => (h v w' hp).1, (h v w' hp).2⟩
theorem R1_call0 {g : FuncId} {l : List Operand} {ats : Array TypeId} {post : Value → World → Prop} (hc : Meets P g (l.map (ev n f)).toArray w post)
    (h : ∀ v w', post v w' → K f w') : R1 P n S 2 ⟨none, .call { callee := .value (.func g), args := l.toArray, argTypes := ats }, ty, pos, aft, gd⟩ K f w := by
  refine R1_enter (.inl rfl) (g := g) (args := (l.map (ev n f)).toArray) ?_ hc.calls fun e w' ⟨v, he, hp⟩ => ⟨v, he, (fun h => absurd h (by decide)), h v w' hp⟩
  simp only [execOp, resolve, ev, Deferred.ofValue, invoke, Sem.run_bind, Sem.run_pure, Result.andThen_ok, List.map_toArray, Array.append_empty, Array.empty_append]
  exact hc.enters _ w
theorem R1_callv {g : FuncId} {x : Operand} {args : Array Operand} {ats : Array TypeId} {first captured vs : Array Value} {post : Value → World → Prop} (h0 : k = 2 ∨ k = 1) (hx : ev n f x = .func (.func g) first captured) (ha : first ++ args.map (ev n f) ++ captured = vs) (hc : Meets P g vs w post)
    (h : ∀ v w', post v w' → (k = 1 → S w w') ∧ K (upd f d v) w') : R1 P n S k ⟨some d, .call { callee := .value x, args := args, argTypes := ats }, ty, pos, aft, gd⟩ K f w := by
  refine R1_enter h0 (g := g) (args := vs) ?_ hc.calls fun e w' ⟨v, he, hp⟩ => ⟨v, he, h v w' hp⟩
  simp [execOp, resolve, hx, Deferred.ofValue, invoke, ha, hc.enters vs w]

/-! code: regions at the head of a sequence, the ends of ways -/
theorem W_seqR {Q : Exit → Fr → World → Prop} {id : Nat} {l : List Oper} {c : Code} (h : Rl P n l.toArray (W P n c Q) l f w) : W P n (.seq (.region id l.toArray false) c) Q f w :=
  W_seq (W_region (by rw [thenF_fun]; exact h))
theorem W_reg {Q : Exit → Fr → World → Prop} {id : Nat} {l : List Oper} (h : Rl P n l.toArray (Q .normal) l f w) : W P n (.region id l.toArray false) Q f w := W_region h
theorem Ext_trans : ∀ a b c : World, Ext a b → Ext b c → Ext a c := fun _ _ _ h k => h.trans k
theorem W_seqD {Q : Exit → Fr → World → Prop} {id : Nat} {ops : Array Oper} {c : Code} (ord : List (Nat × Nat)) (hm : P.follows .mixedOrders = true)
    (hlen : (ord.length == ops.size && Region.noSelect ops && ordOk ops (hot ord) ord (Array.replicate ops.size false)) = true)
    (h : ∀ w', Ext w w' → w'.heap = w.heap → Ro P n ops Ext (W P n c Q) ord f w') : W P n (.seq (.region id ops true) c) Q f w :=
  W_seq (W_draw Ext Ext_trans ord hm hlen (by rw [thenF_fun]; exact h _ (ch_drew w) rfl))
theorem W_regD {Q : Exit → Fr → World → Prop} {id : Nat} {ops : Array Oper} (ord : List (Nat × Nat)) (hm : P.follows .mixedOrders = true)
    (hlen : (ord.length == ops.size && Region.noSelect ops && ordOk ops (hot ord) ord (Array.replicate ops.size false)) = true)
    (h : ∀ w', Ext w w' → w'.heap = w.heap → Ro P n ops Ext (Q .normal) ord f w') : W P n (.region id ops true) Q f w :=
  W_draw Ext Ext_trans ord hm hlen (h _ (ch_drew w) rfl)

/-- the end of a function: one result in a slot -/
theorem ret1 {fn : Func} {t : Tmp} {post : Value → World → Prop} {v : Value} (hr : fn.results = #[.tmp t]) (hv : ev n f (.tmp t) = v) (h : post v w) : bodyPost P fn (Ret post) .ret (act n f) w := by
  refine bodyPost_ret (results_tmp hr _ _ _) rfl ⟨v, ?_, h⟩
  have := congrFun (act_eval n f) (.tmp t)
  simp only [Act.eval] at this
  rw [this, hv]
theorem retC {fn : Func} {t : Tmp} {T G : Nat} {post : Value → World → Prop} {x y : Value} (hr : fn.results = #[.cell t T]) (hT : aggTy P T 2 = true) (hv : ev n f (.tmp t) = .pointer (some ⟨G, 0, none⟩)) (hb : Blk w G T #[x, y]) (h : post (.agg #[x, y]) w) : bodyPost P fn (Ret post) .ret (act n f) w := by
  refine bodyPost_ret (v := .agg #[x, y]) ?_ rfl ⟨_, rfl, h⟩
  have e := congrFun (act_eval n f) (.tmp t)
  simp only [Act.eval] at e
  have h0 : w.cell? ⟨G, 0, none⟩ = some x := by rw [hb.cell]; rfl
  have h1 : w.cell? ((⟨G, 0, none⟩ : Addr).add 1) = some y := by rw [add_lit, hb.cell]; rfl
  have hl := run_load_two (P := P) hT h0 h1
  simp only [Instr.loadAt, Instr.sureAddr, Sem.run_bind, Sem.run_pure, Result.andThen_ok] at hl
  have e' : (act n f).tmps[t]?.getD undef = .pointer (some ⟨G, 0, none⟩) := by rw [← hv, ← e]; simp
  simp [results, hr, e', asAddr, hl]
theorem ret0 {fn : Func} {post : Value → World → Prop} (hr : fn.results = #[]) (h : post (.tuple #[]) w) : bodyPost P fn (Ret post) .normal (act n f) w :=
  bodyPost_end (results_none hr _ _ _) rfl ⟨_, rfl, h⟩
theorem ret2 {fn : Func} {t u : Tmp} {post : Value → World → Prop} {v v' : Value} (hr : fn.results = #[.tmp t, .tmp u]) (hv : ev n f (.tmp t) = v) (hv' : ev n f (.tmp u) = v') (h : post (.tuple #[v, v']) w) : bodyPost P fn (Ret post) .ret (act n f) w := by
  refine bodyPost_ret (results_tmp2 hr _ _ _) rfl ⟨_, ?_, h⟩
  have e1 := congrFun (act_eval n f) (.tmp t)
  have e2 := congrFun (act_eval n f) (.tmp u)
  simp only [Act.eval] at e1 e2
  rw [e1, e2, hv, hv']
/-- the start: the arguments lie in the first slots -/
theorem fn_W {g : FuncId} {fn : Func} {c : Code} {args : Array Value} {post : Value → World → Prop} (hf : P.funcs[g]? = some fn) (hb : fn.body = some c) (hn : fn.ntmps = n) (hnm : (fn.name == "runtime.NumGoroutine") = false) (ha : args.size ≤ n)
    (h : W P n c (fun e f w => bodyPost P fn (Ret post) e (act n f) w) (fun i => args.getD i undef) w) : Meets P g args w post :=
  ⟨enters_of hf hb hnm, calls_W hf hb hn ha h⟩

/-! which operation is it? -/
theorem R1_isR1 {o : Oper} (h : R1 P n S k o K f w) : R1 P n S k o K f w := h
theorem R1_isBin {op : BinOp} {dd : Option Nat} (h : R1 P n S k ⟨dd, .binOp op t x y t2, ty, pos, aft, gd⟩ K f w) : R1 P n S k ⟨dd, .binOp op t x y t2, ty, pos, aft, gd⟩ K f w := h
theorem R1_isLoad {dd : Option Nat} (h : R1 P n S k ⟨dd, .load t x, ty, pos, aft, gd⟩ K f w) : R1 P n S k ⟨dd, .load t x, ty, pos, aft, gd⟩ K f w := h
theorem R1_isIndex {dd : Option Nat} (h : R1 P n S k ⟨dd, .indexAddr t x y, ty, pos, aft, gd⟩ K f w) : R1 P n S k ⟨dd, .indexAddr t x y, ty, pos, aft, gd⟩ K f w := h
theorem R1_isFA {dd : Option Nat} {i : Nat} (h : R1 P n S k ⟨dd, .fieldAddr t x i, ty, pos, aft, gd⟩ K f w) : R1 P n S k ⟨dd, .fieldAddr t x i, ty, pos, aft, gd⟩ K f w := h
theorem R1_isConv {dd : Option Nat} (h : R1 P n S k ⟨dd, .convert t t2 x, ty, pos, aft, gd⟩ K f w) : R1 P n S k ⟨dd, .convert t t2 x, ty, pos, aft, gd⟩ K f w := h
theorem R1_isCall {dd : Option Nat} {c : Call} (h : R1 P n S k ⟨dd, .call c, ty, pos, aft, gd⟩ K f w) : R1 P n S k ⟨dd, .call c, ty, pos, aft, gd⟩ K f w := h
theorem R1_isSlice {dd : Option Nat} {a b c : Option Operand} (h : R1 P n S k ⟨dd, .slice t x a b c, ty, pos, aft, gd⟩ K f w) : R1 P n S k ⟨dd, .slice t x a b c, ty, pos, aft, gd⟩ K f w := h
theorem isRl {ops : Array Oper} {l : List Oper} (h : Rl P n ops K l f w) : Rl P n ops K l f w := h
theorem isRo {ops : Array Oper} {l : List (Nat × Nat)} (h : Ro P n ops S K l f w) : Ro P n ops S K l f w := h
theorem isW {c : Code} {Q : Exit → Fr → World → Prop} (h : W P n c Q f w) : W P n c Q f w := h
end
attribute [irreducible] oneTy aggTy TyD ZeroTy FieldA Build0 Build2 BoolTy
end Go.Eng
