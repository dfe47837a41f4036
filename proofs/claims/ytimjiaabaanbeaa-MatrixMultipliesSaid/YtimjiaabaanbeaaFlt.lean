/- Regions that draw their order, in which allocations float beside a chain of calls: the chain is walked once, with gaps, and the new blocks come at its end. Over any program. -/
import Derived.Test.YtimjiaabaanbeaaGrp
namespace Go.Eng
open Go

/-- an allocation that floats: its operation, its slot, the new block's type and cells, its value -/
structure Flt where
  i : Nat
  d : Nat
  T : Nat
  cs : Array Value
  vl : Nat → Value

def Ag (D : List Nat) (f f1 : Fr) : Prop := ∀ i, D.contains i = false → f i = f1 i
/-- the operation looks at none of these slots and sets none of them -/
def far (ops : Array Oper) (D : List Nat) (o : Oper) : Bool := D.all fun d => !(o.looksAt ops).contains d && o.dst != some d
def dstIn (E : List Nat) (o : Oper) : Bool := match o.dst with | none => true | some d => E.contains d
def farAt (ops : Array Oper) (D E : List Nat) (i : Nat) : Bool := match ops[i]? with | none => false | some o => far ops D o && dstIn E o
def AgN (n : Nat) (E : List Nat) (f f1 : Fr) : Prop := ∀ i, i < n → E.contains i = false → f i = f1 i

section
variable {P : Program} {n : Nat} {ops : Array Oper} {D E : List Nat} {f f1 : Fr} {w w' : World} {o : Oper} {K : Fr → World → Prop}

theorem Ag.refl (D : List Nat) (f : Fr) : Ag D f f := fun _ _ => rfl
theorem far_look (hf : far ops D o = true) {t : Nat} (ht : t ∈ o.looksAt ops) : D.contains t = false := by
  cases hc : D.contains t with
  | false => rfl
  | true =>
    exfalso
    simp only [far, List.all_eq_true, Bool.and_eq_true, Bool.not_eq_true'] at hf
    have h1 := (hf t (by simpa using hc)).1
    have h2 : (o.looksAt ops).contains t = true := by simpa using ht
    rw [h2] at h1; cases h1
theorem far_dst (hf : far ops D o = true) {t : Nat} (ht : o.dst = some t) : D.contains t = false := by
  cases hc : D.contains t with
  | false => rfl
  | true =>
    exfalso
    simp only [far, List.all_eq_true, Bool.and_eq_true, Bool.not_eq_true'] at hf
    have h1 := (hf t (by simpa using hc)).2
    rw [ht] at h1; simp at h1
theorem far_eval (hs : ∀ cs b, o.op ≠ .select cs b) (hf : far ops D o = true) (hA : Ag D f f1) : execOp (ev n f) o = execOp (ev n f1) o := by
  refine execOp_congr o hs fun x hx => ?_
  cases x with
  | tmp t =>
    have : D.contains t = false := far_look hf (List.mem_append_left _ (List.mem_filterMap.2 ⟨.tmp t, by simpa using hx, rfl⟩))
    simp only [ev]; rw [hA t this]
  | const v => rfl
  | global g => rfl
  | func g => rfl
theorem far_want (hf : far ops D o = true) (hA : Ag D f f1) : want n ops f o = want n ops f1 o := by
  unfold want Region.wanted
  cases hg : o.guard with
  | none => rfl
  | some gw =>
    obtain ⟨g, wt⟩ := gw
    have hy : yielded ops (act n f).tmps g = yielded ops (act n f1).tmps g := by
      unfold yielded
      cases ht : (ops[g]?).bind (·.dst) with
      | none => rfl
      | some t =>
        have : D.contains t = false := far_look hf (by simp [Oper.looksAt, hg, ht])
        by_cases hn : t < n
        · simp [act, hn, hA t this]
        · simp [act, hn]
    simp only [hy]
theorem Ag.upd (hA : Ag D f f1) (d : Option Nat) (v : Value) : Ag D (updO f d v) (updO f1 d v) := by
  intro i hi
  cases d with
  | none => exact hA i hi
  | some d =>
    simp only [updO]
    by_cases h : i = d
    · subst h; rw [upd_same, upd_same]
    · rw [upd_ne f v h, upd_ne f1 v h]; exact hA i hi
theorem far_keep (hf : far ops D o = true) (v : Value) {d : Nat} (hd : D.contains d = true) : updO f o.dst v d = f d := by
  cases h : o.dst with
  | none => rfl
  | some t =>
    have := far_dst hf h
    refine upd_ne f v ?_
    rintro rfl
    rw [hd] at this; cases this

theorem AgN.refl (n : Nat) (E : List Nat) (f : Fr) : AgN n E f f := fun _ _ _ => rfl
theorem AgN.trans {f2 : Fr} (h : AgN n E f f1) (k : AgN n E f1 f2) : AgN n E f f2 := fun i hi hE => (h i hi hE).trans (k i hi hE)
theorem dst_keep (hf : dstIn E o = true) (v : Value) {i : Nat} (hi : E.contains i = false) : updO f o.dst v i = f i := by
  cases h : o.dst with
  | none => rfl
  | some t =>
    refine upd_ne f v ?_
    rintro rfl
    simp only [dstIn, h] at hf
    rw [hi] at hf; cases hf
def Aft (n : Nat) (D E : List Nat) (f : Fr) (w : World) (K : Fr → World → Prop) (f' : Fr) (w' : World) : Prop :=
  Ext w w' ∧ (∀ d, D.contains d = true → f' d = f d) ∧ AgN n E f' f ∧ ∃ f1', Ag D f' f1' ∧ K f1' w'

theorem R1_ag {k : Nat} (hk : k ≠ 2) (hs : ∀ cs b, o.op ≠ .select cs b) (hf : far ops D o = true) (hE : dstIn E o = true) (hA : Ag D f f1) (h : R1 P n Ext k o K f1 w) : R1 P n Ext k o (Aft n D E f w K) f w := by
  have he := far_eval (n := n) hs hf hA
  unfold R1 at h ⊢
  by_cases h0 : k = 0
  · rw [if_pos h0] at h ⊢
    obtain ⟨v, hv, hK⟩ := h
    exact ⟨v, fun w' hw' => by rw [he]; exact hv w' hw', Ext.refl _, fun d hd => far_keep hf v hd, fun i _ hi => dst_keep hE v hi, _, hA.upd o.dst v, hK⟩
  by_cases h3 : k = 3
  · rw [if_neg h0, if_pos h3] at h ⊢
    obtain ⟨v, hv, hK⟩ := h
    exact ⟨v, fun w' => by rw [he]; exact hv w', Ext.refl _, fun d hd => far_keep hf v hd, fun i _ hi => dst_keep hE v hi, _, hA.upd o.dst v, hK⟩
  · rw [if_neg h0, if_neg h3] at h ⊢
    unfold Oper.wp at h ⊢
    rw [act_eval] at h ⊢
    rw [he]
    have fin : ∀ v w', (∃ f', act n (updO f1 o.dst v) = act n f' ∧ (k = 2 ∨ w' = w ∨ Ext w w') ∧ K f' w') → ∃ f', act n (updO f o.dst v) = act n f' ∧ (k = 2 ∨ w' = w ∨ Ext w w') ∧ Aft n D E f w K f' w' := by
      rintro v w' ⟨f', e, hw, hK⟩
      have gt : ∀ i, D.contains i = true → (bif D.contains i then f i else f' i) = f i := fun i hi => by rw [hi]; rfl
      have gf : ∀ i, D.contains i = false → (bif D.contains i then f i else f' i) = f' i := fun i hi => by rw [hi]; rfl
      have e3 : ∀ i, i < n → updO f o.dst v i = bif D.contains i then f i else f' i := fun i hi => by
        have e2 : updO f1 o.dst v i = f' i := by
          have := congrArg (fun a => a.tmps[i]?) e
          simpa [act, hi] using this
        cases hd : D.contains i with
        | true => exact far_keep hf v hd
        | false => exact ((hA.upd o.dst v) i hd).trans e2
      refine ⟨fun i => bif D.contains i then f i else f' i, ?_, hw, ?_, gt, fun i hi hEi => (e3 i hi).symm.trans (dst_keep hE v hEi), f', gf, hK⟩
      · unfold act
        congr 1
        apply Array.ext_getElem?
        intro i
        by_cases hi : i < n
        · rw [Array.getElem?_ofFn, Array.getElem?_ofFn, dif_pos hi, dif_pos hi, e3 i hi]
        · rw [Array.getElem?_ofFn, Array.getElem?_ofFn, dif_neg hi, dif_neg hi]
      · rcases hw with hw | rfl | hw
        · omega
        · exact Ext.refl _
        · exact hw
    generalize (execOp (ev n f1) o).run P w = r at *
    cases r with
    | ok nx w' =>
      cases nx <;> simp only [Oper.upon] at h ⊢
      case value v => rw [act_put] at h ⊢; exact fin v w' h
      case skip => rw [act_put] at h ⊢; exact fin _ w' h
      case defer d =>
        exfalso
        obtain ⟨f', e, _⟩ := h
        have := congrArg (fun a => a.defers) e
        cases hd : o.dst <;> simp [act, hd, Act.put] at this
      case enter g args =>
        refine Calls.mono h fun e w'' hh => ?_
        cases e with
        | returned u => simp only [] at hh ⊢; rw [act_put] at hh ⊢; exact fin u w'' hh
        | panicked c => exact hh
        | outgrown => obtain ⟨a, w, hq⟩ := hh; exact hq.elim
      case row row args => exact Rows.mono h fun u w'' hh => by rw [act_put] at hh ⊢; exact fin u w'' hh
    | halt x w' =>
      cases x <;> simp only [Oper.upon] at h ⊢
      case panic => exact h

theorem R1_mono {k : Nat} {K' : Fr → World → Prop} (hK : ∀ f w, K f w → K' f w) (h : R1 P n Ext k o K f w) : R1 P n Ext k o K' f w := by
  unfold R1 at h ⊢
  split
  · rename_i h0
    rw [if_pos h0] at h
    obtain ⟨v, hv, hk⟩ := h
    exact ⟨v, hv, hK _ _ hk⟩
  rename_i h0
  rw [if_neg h0] at h
  split
  · rename_i h3
    rw [if_pos h3] at h
    obtain ⟨v, hv, hk⟩ := h
    exact ⟨v, hv, hK _ _ hk⟩
  · rename_i h3
    rw [if_neg h3] at h
    exact Oper.wp_mono (fun a' w' ⟨f', e, hw, hk⟩ => ⟨f', e, hw, hK _ _ hk⟩) h

theorem Ro_mono {K' : Fr → World → Prop} (hK : ∀ f w, K f w → K' f w) : ∀ (ord : List (Nat × Nat)) (f : Fr) (w : World), Ro P n ops Ext K ord f w → Ro P n ops Ext K' ord f w := by
  intro ord
  induction ord with
  | nil => intro f w h; unfold Ro at h ⊢; exact hK f w h
  | cons ik rest ih =>
    obtain ⟨i, k⟩ := ik
    intro f w h
    unfold Ro at h ⊢
    obtain ⟨o, ho, h⟩ := h
    refine ⟨o, ho, ?_⟩
    split
    · rename_i hw; rw [if_pos hw] at h; exact R1_mono ih h
    · rename_i hw; rw [if_neg hw] at h; exact ih _ _ h

theorem Ro_ag (hsel : Region.noSelect ops = true) : ∀ (ord : List (Nat × Nat)) (f f1 : Fr) (w : World), (ord.all fun q => farAt ops D E q.1 && q.2 != 2) = true → Ag D f f1 → Ro P n ops Ext K ord f1 w → Ro P n ops Ext (Aft n D E f w K) ord f w := by
  intro ord
  induction ord with
  | nil =>
    intro f f1 w _ hA h
    unfold Ro at h ⊢
    exact ⟨Ext.refl _, fun _ _ => rfl, AgN.refl _ _ _, f1, hA, h⟩
  | cons ik rest ih =>
    obtain ⟨i, k⟩ := ik
    intro f f1 w hfar hA h
    simp only [List.all_cons, Bool.and_eq_true] at hfar
    obtain ⟨⟨hfi, hk⟩, hrest⟩ := hfar
    unfold Ro at h ⊢
    obtain ⟨o, ho, h⟩ := h
    have hfo : far ops D o = true ∧ dstIn E o = true := by simpa [farAt, ho] using hfi
    obtain ⟨hfo, hEo⟩ := hfo
    have hk : k ≠ 2 := by simpa using hk
    have hs : ∀ cs b, o.op ≠ .select cs b := fun cs b => Region.noSelect_spec hsel i o cs b ho
    refine ⟨o, ho, ?_⟩
    rw [far_want hfo hA]
    split
    · rename_i hw
      rw [if_pos hw] at h
      refine R1_mono ?_ (R1_ag hk hs hfo hEo hA h)
      rintro f' w' ⟨hE, hd, hN, f1', hA', hK⟩
      refine Ro_mono ?_ rest f' w' (ih f' f1' w' (by simpa using hrest) hA' hK)
      rintro f'' w'' ⟨hE', hd', hN', f1'', hA'', hK'⟩
      exact ⟨hE.trans hE', fun d hdd => (hd' d hdd).trans (hd d hdd), hN'.trans hN, f1'', hA'', hK'⟩
    · rename_i hw
      rw [if_neg hw] at h
      refine Ro_mono ?_ rest _ w (ih _ _ w (by simpa using hrest) (hA.upd o.dst undef) h)
      rintro f'' w'' ⟨hE', hd', hN', f1'', hA'', hK'⟩
      exact ⟨hE', fun d hdd => (hd' d hdd).trans (far_keep hfo _ hdd), fun i hi hh => (hN' i hi hh).trans (dst_keep hEo _ hh), f1'', hA'', hK'⟩

/-- the chain, with gaps -/
def Rc (P : Program) (n : Nat) (ops : Array Oper) (K : Fr → World → Prop) : List (Nat × List (Nat × Nat)) → Fr → World → Prop
  | [], f, w => ∀ w', Ext w w' → K f w'
  | (i, qs) :: C, f, w => ∀ w', Ext w w' → Ro P n ops Ext (Rc P n ops K C) ((i, 1) :: qs) f w'
theorem Rc.ext {C : List (Nat × List (Nat × Nat))} (h : Rc P n ops K C f w) (hE : Ext w w') : Rc P n ops K C f w' := by
  match C, h with
  | [], h => exact fun w'' hE' => h w'' (hE.trans hE')
  | (i, qs) :: C, h => exact fun w'' hE' => h w'' (hE.trans hE')
theorem Rc_nil (h : ∀ w', Ext w w' → K f w') : Rc P n ops K [] f w := h
theorem Rc_cons {i : Nat} {qs : List (Nat × Nat)} {C : List (Nat × List (Nat × Nat))} (h : ∀ w', Ext w w' → Ro P n ops Ext (Rc P n ops K C) ((i, 1) :: qs) f w') : Rc P n ops K ((i, qs) :: C) f w := h

def upF (gs : Nat → Nat) : List Flt → Fr → Fr
  | [], f => f
  | a :: F, f => upd (upF gs F f) a.d (a.vl (gs a.d))

def upd' (g : Nat → Nat) (d v : Nat) : Nat → Nat := fun i => if i = d then v else g i
theorem upd'_same (g : Nat → Nat) (d v : Nat) : upd' g d v d = v := if_pos rfl
theorem upd'_ne (g : Nat → Nat) {d i : Nat} (v : Nat) (h : i ≠ d) : upd' g d v i = g i := if_neg h

/-- is the member of a group a link of the chain, and does it wait for the link ahead of it? -/
def linkOk : Option Nat → List (Nat × List (Nat × Nat)) → Mem' → Bool
  | _, [], _ => false
  | pv, (i, qs) :: C, g => if i == g.1 then qs == g.2.1 && (match pv with | none => true | some p => g.2.2.contains p) else linkOk (some i) C g

def fltOk (ops : Array Oper) (G : List Mem') (C : List (Nat × List (Nat × Nat))) (F : List (Nat × Nat)) (E : List Nat) : Bool :=
  Region.noSelect ops &&
  (C.all fun c => farAt ops (F.map (·.2)) E c.1 && c.2.all fun q => farAt ops (F.map (·.2)) E q.1 && q.2 != 2) &&
  (G.all fun g => ((F.map (·.1)).contains g.1 && g.2.1 == []) || linkOk none C g) &&
  (C.all fun c => (G.map (·.1)).contains c.1 && !(F.map (·.1)).contains c.1) &&
  (F.all fun a => (G.map (·.1)).contains a.1 && E.contains a.2) &&
  decide (C.map (·.1)).Nodup && decide (F.map (·.1)).Nodup && decide (F.map (·.2)).Nodup

theorem linkOk_spec {pv : Option Nat} {C : List (Nat × List (Nat × Nat))} {g : Mem'} (h : linkOk pv C g = true) :
    (∃ Y, C = (g.1, g.2.1) :: Y ∧ ∀ p, pv = some p → g.2.2.contains p = true) ∨ ∃ X p pq Y, C = X ++ (p, pq) :: (g.1, g.2.1) :: Y ∧ g.2.2.contains p = true := by
  induction C generalizing pv with
  | nil => simp [linkOk] at h
  | cons c C ih =>
    obtain ⟨i, qs⟩ := c
    unfold linkOk at h
    split at h
    · rename_i e
      have e : i = g.1 := by simpa using e
      simp only [Bool.and_eq_true, beq_iff_eq] at h
      refine .inl ⟨C, by rw [e, h.1], fun p hp => ?_⟩
      subst hp
      exact h.2
    · rcases ih h with ⟨Y, rfl, hp⟩ | ⟨X, p, pq, Y, rfl, hp⟩
      · exact .inr ⟨[], i, qs, Y, rfl, hp i rfl⟩
      · exact .inr ⟨(i, qs) :: X, p, pq, Y, rfl, hp⟩

theorem upF_out (gs : Nat → Nat) (F : List Flt) (f : Fr) {i : Nat} (h : (F.map (·.d)).contains i = false) : upF gs F f i = f i := by
  induction F with
  | nil => rfl
  | cons a F ih =>
    simp only [List.map_cons, List.contains_cons, Bool.or_eq_false_iff, beq_eq_false_iff_ne] at h
    unfold upF
    rw [upd_ne _ _ h.1]
    exact ih h.2
theorem upF_in (gs : Nat → Nat) (F : List Flt) (f : Fr) (hd : (F.map (·.d)).Nodup) {a : Flt} (ha : a ∈ F) : upF gs F f a.d = a.vl (gs a.d) := by
  induction F with
  | nil => cases ha
  | cons b F ih =>
    simp only [List.map_cons, List.nodup_cons] at hd
    unfold upF
    rcases List.mem_cons.1 ha with rfl | ha
    · rw [upd_same]
    · have : a.d ≠ b.d := fun e => hd.1 (by rw [← e]; exact List.mem_map_of_mem (f := (·.d)) ha)
      rw [upd_ne _ _ this]
      exact ih hd.2 ha

theorem Rg_float {G : List Mem'} {suf : List (Nat × Nat)} (C : List (Nat × List (Nat × Nat))) (F : List Flt) (E : List Nat) (hok : fltOk ops G C (F.map fun a => (a.i, a.d)) E = true)
    (hF : ∀ a, a ∈ F → ∀ f' w', AgN n E f' f → Ext w w' → Ro P n ops Ext (fun f'' w'' => f'' = upd f' a.d (a.vl w'.heap.size) ∧ Blk w'' w'.heap.size a.T a.cs ∧ Ext w' w'') [(a.i, 1)] f' w')
    (hC : Rc P n ops (fun f1 w1 => ∀ gs : Nat → Nat, (∀ a, a ∈ F → w.heap.size ≤ gs a.d ∧ Blk w1 (gs a.d) a.T a.cs) → (∀ a b, a ∈ F → b ∈ F → a.d ≠ b.d → gs a.d ≠ gs b.d) → Ro P n ops Ext K suf (upF gs F f1) w1) C f w) :
    Rg P n ops Ext G suf K f w := by
  have e1 : (F.map fun a => (a.i, a.d)).map (·.1) = F.map (·.i) := by simp
  have e2 : (F.map fun a => (a.i, a.d)).map (·.2) = F.map (·.d) := by simp
  simp only [fltOk, Bool.and_eq_true, e1, e2, decide_eq_true_eq] at hok
  obtain ⟨⟨⟨⟨⟨⟨⟨hsel, hfar⟩, hG⟩, hCG⟩, hFG⟩, hnC⟩, hnI⟩, hnD⟩ := hok
  generalize hK0 : (fun f1 w1 => ∀ gs : Nat → Nat, (∀ a, a ∈ F → w.heap.size ≤ gs a.d ∧ Blk w1 (gs a.d) a.T a.cs) → (∀ a b, a ∈ F → b ∈ F → a.d ≠ b.d → gs a.d ≠ gs b.d) → Ro P n ops Ext K suf (upF gs F f1) w1) = K0 at hC
  have hFI : ∀ a b, a ∈ F → b ∈ F → a.i = b.i → a = b := by
    intro a b ha hb he
    obtain ⟨i, hi, rfl⟩ := List.getElem_of_mem ha
    obtain ⟨j, hj, rfl⟩ := List.getElem_of_mem hb
    have : i = j := (List.getElem_inj (h₀ := by simpa using hi) (h₁ := by simpa using hj) hnI).1 (by simpa using he)
    subst this; rfl
  have hFD : ∀ a b, a ∈ F → b ∈ F → a.d = b.d → a = b := by
    intro a b ha hb he
    obtain ⟨i, hi, rfl⟩ := List.getElem_of_mem ha
    obtain ⟨j, hj, rfl⟩ := List.getElem_of_mem hb
    have : i = j := (List.getElem_inj (h₀ := by simpa using hi) (h₁ := by simpa using hj) hnD).1 (by simpa using he)
    subst this; rfl
  have hFE : ∀ a, a ∈ F → E.contains a.d = true := fun a ha => by
    have := List.all_eq_true.1 hFG (a.i, a.d) (List.mem_map.2 ⟨a, ha, rfl⟩)
    simp only [Bool.and_eq_true] at this
    exact this.2
  refine Rg_intro (fun L f' w' => Ext w w' ∧ AgN n E f' f ∧ ∃ C1 C2 f1, C = C1 ++ C2 ∧ (∀ c, c ∈ C1 → L.contains c.1 = true) ∧ (∀ c, c ∈ C2 → L.contains c.1 = false) ∧ Ag (F.map (·.d)) f' f1 ∧
      Rc P n ops K0 C2 f1 w' ∧
      ∃ gs : Nat → Nat, (∀ a, a ∈ F → L.contains a.i = true → f' a.d = a.vl (gs a.d) ∧ w.heap.size ≤ gs a.d ∧ Blk w' (gs a.d) a.T a.cs) ∧
        (∀ a b, a ∈ F → b ∈ F → L.contains a.i = true → L.contains b.i = true → a.d ≠ b.d → gs a.d ≠ gs b.d)) ?_ ?_ ?_
  · exact ⟨Ext.refl _, AgN.refl _ _ _, [], C, f, rfl, (fun c hc => by cases hc), (fun c _ => rfl), Ag.refl _ _, hC, fun _ => 0, (fun a _ h => by cases h), fun a b _ _ h => by cases h⟩
  · intro i qs nd hmem L f' w' hnd hni ⟨hE, hN, C1, C2, f1, hCC, hC1, hC2, hA, hRc, gs, hgs, hdis⟩
    have hg := List.all_eq_true.1 hG _ hmem
    simp only [Bool.or_eq_true, Bool.and_eq_true, beq_iff_eq] at hg
    rcases hg with ⟨hfl, hqs⟩ | hlink
    · -- a float
      subst hqs
      have hfl : i ∈ F.map (·.i) := by simpa using hfl
      obtain ⟨a, ha, rfl⟩ := List.mem_map.1 hfl
      refine Ro_mono ?_ _ _ _ (hF a ha f' w' hN hE)
      rintro f'' w'' ⟨rfl, hB, hE2⟩
      have hlt : ∀ b, b ∈ F → L.contains b.i = true → gs b.d < w'.heap.size := fun b hb hL => (hgs b hb hL).2.2.lt
      have hne : ∀ b, b ∈ F → L.contains b.i = true → b.d ≠ a.d := fun b hb hL e => by
        have := hFD b a hb ha e
        subst this
        rw [hL] at hni; cases hni
      refine ⟨hE.trans hE2, fun j hj hEj => ?_, C1, C2, f1, hCC, fun c hc => ?_, fun c hc => ?_, fun j hj => ?_, hRc.ext hE2, upd' gs a.d w'.heap.size, fun b hb hL => ?_, fun b c hb hc hbL hcL hbc => ?_⟩
      · rw [upd_ne _ _ (by rintro rfl; rw [hFE a ha] at hEj; cases hEj)]; exact hN j hj hEj
      · have := hC1 c hc
        simp only [List.contains_cons, Bool.or_eq_true]; exact .inr this
      · have h1 := hC2 c hc
        have h2 : c ∈ C := by rw [hCC]; exact List.mem_append_right _ hc
        have h3 := List.all_eq_true.1 hCG c h2
        simp only [Bool.and_eq_true, Bool.not_eq_true'] at h3
        simp only [List.contains_cons, Bool.or_eq_false_iff, beq_eq_false_iff_ne]
        refine ⟨fun e => ?_, h1⟩
        have : (F.map (·.i)).contains c.1 = true := by rw [e]; simpa using ⟨a, ha, rfl⟩
        rw [this] at h3; cases h3.2
      · rw [upd_ne _ _ (by
          rintro rfl
          have : (F.map (·.d)).contains a.d = true := by simpa using ⟨a, ha, rfl⟩
          rw [this] at hj; cases hj)]
        exact hA j hj
      · simp only [List.contains_cons, Bool.or_eq_true, beq_iff_eq] at hL
        by_cases hba : b.d = a.d
        · have := hFD b a hb ha hba
          subst this
          rw [upd_same, upd'_same]
          exact ⟨rfl, hE.size, hB⟩
        · have hbL : L.contains b.i = true := by
            rcases hL with h | h
            · exact absurd (congrArg Flt.d (hFI b a hb ha h)) hba
            · exact h
          obtain ⟨h1, h2, h3⟩ := hgs b hb hbL
          rw [upd_ne _ _ hba, upd'_ne _ _ hba]
          exact ⟨h1, h2, h3.ext hE2⟩
      · simp only [List.contains_cons, Bool.or_eq_true, beq_iff_eq] at hbL hcL
        have key : ∀ x, x ∈ F → (x.i = a.i ∨ L.contains x.i = true) → x.d ≠ a.d → L.contains x.i = true := fun x hx h hne => by
          rcases h with h | h
          · exact absurd (congrArg Flt.d (hFI x a hx ha h)) hne
          · exact h
        by_cases hba : b.d = a.d
        · have hca : c.d ≠ a.d := fun e => hbc (hba.trans e.symm)
          have := hlt c hc (key c hc hcL hca)
          rw [hba, upd'_same, upd'_ne _ _ hca]; omega
        · by_cases hca : c.d = a.d
          · have := hlt b hb (key b hb hbL hba)
            rw [hca, upd'_same, upd'_ne _ _ hba]; omega
          · rw [upd'_ne _ _ hba, upd'_ne _ _ hca]
            exact hdis b c hb hc (key b hb hbL hba) (key c hc hcL hca) hbc
    · -- a link of the chain
      have hhead : ∃ C3, C2 = (i, qs) :: C3 := by
        have notin : (i, qs) ∉ C1 := fun h => by rw [hC1 _ h] at hni; cases hni
        rcases linkOk_spec hlink with ⟨Y, hY, _⟩ | ⟨X, p, pq, Y, hY, hp⟩
        · rcases C1 with _ | ⟨c1, C1⟩
          · exact ⟨Y, by rw [hCC] at hY; exact hY⟩
          · exfalso
            rw [hCC] at hY
            injection hY with h1 _
            exact notin (by rw [h1]; exact List.mem_cons_self)
        · have hpL : L.contains p = true := List.all_eq_true.1 hnd p (by simpa using hp)
          have notp : ∀ pq, (p, pq) ∉ C2 := fun pq h => by have := hC2 _ h; rw [hpL] at this; cases this
          rw [hCC] at hY
          rcases List.append_eq_append_iff.1 hY with ⟨Z, hZ1, hZ2⟩ | ⟨Z, hZ1, hZ2⟩
          · exfalso; exact notp pq (by rw [hZ2]; exact List.mem_append_right _ List.mem_cons_self)
          · rcases Z with _ | ⟨z, Z⟩
            · exfalso; exact notp pq (by rw [List.nil_append] at hZ2; rw [← hZ2]; exact List.mem_cons_self)
            · injection hZ2 with hz1 hz2
              rcases Z with _ | ⟨z', Z⟩
              · exact ⟨Y, hz2.symm⟩
              · exfalso
                injection hz2 with hz3 _
                exact notin (by rw [hZ1, ← hz3]; exact List.mem_append_right _ (List.mem_cons_of_mem _ List.mem_cons_self))
      obtain ⟨C3, rfl⟩ := hhead
      have hcf := List.all_eq_true.1 hfar (i, qs) (by rw [hCC]; exact List.mem_append_right _ List.mem_cons_self)
      have hcf : (((i, 1) :: qs).all fun q => farAt ops (F.map (·.d)) E q.1 && q.2 != 2) = true := by
        simp only [Bool.and_eq_true] at hcf
        simp only [List.all_cons, Bool.and_eq_true]
        exact ⟨⟨hcf.1, rfl⟩, hcf.2⟩
      refine Ro_mono ?_ _ _ _ (Ro_ag hsel _ f' f1 w' hcf hA (hRc w' (Ext.refl _)))
      rintro f'' w'' ⟨hE2, hd, hN2, f1', hA', hRc'⟩
      have hnc : ∀ c, c ∈ C3 → c.1 ≠ i := fun c hc e => by
        rw [hCC, List.map_append, List.map_cons] at hnC
        have := (List.nodup_append.1 hnC).2.1
        rw [List.nodup_cons] at this
        exact this.1 (by rw [← e]; exact List.mem_map_of_mem (f := (·.1)) hc)
      have hia : ∀ a, a ∈ F → a.i ≠ i := fun a ha e => by
        have h3 := List.all_eq_true.1 hCG (i, qs) (by rw [hCC]; exact List.mem_append_right _ List.mem_cons_self)
        simp only [Bool.and_eq_true, Bool.not_eq_true'] at h3
        have : (F.map (·.i)).contains i = true := by rw [← e]; simpa using ⟨a, ha, rfl⟩
        rw [this] at h3; cases h3.2
      have hLa : ∀ a, a ∈ F → (i :: L).contains a.i = true → L.contains a.i = true := fun a ha h => by
        simp only [List.contains_cons, Bool.or_eq_true, beq_iff_eq] at h
        rcases h with h | h
        · exact absurd h (hia a ha)
        · exact h
      refine ⟨hE.trans hE2, hN2.trans hN, C1 ++ [(i, qs)], C3, f1', by rw [hCC, List.append_assoc]; rfl, fun c hc => ?_, fun c hc => ?_, hA', hRc', gs, fun a ha hL => ?_, fun a b ha hb h1 h2 => hdis a b ha hb (hLa a ha h1) (hLa b hb h2)⟩
      · simp only [List.contains_cons, Bool.or_eq_true, beq_iff_eq]
        rcases List.mem_append.1 hc with h | h
        · exact .inr (hC1 c h)
        · left; simp at h; rw [h]
      · simp only [List.contains_cons, Bool.or_eq_false_iff, beq_eq_false_iff_ne]
        exact ⟨hnc c hc, hC2 c (List.mem_cons_of_mem _ hc)⟩
      · obtain ⟨h1, h2, h3⟩ := hgs a ha (hLa a ha hL)
        exact ⟨(hd a.d (by simpa using ⟨a, ha, rfl⟩)).trans h1, h2, h3.ext hE2⟩
  · intro L f' w' hall ⟨hE, hN, C1, C2, f1, hCC, hC1, hC2, hA, hRc, gs, hgs, hdis⟩
    have hin : ∀ i, (G.map (·.1)).contains i = true → L.contains i = true := fun i hi => by
      have hi : i ∈ G.map (·.1) := by simpa using hi
      obtain ⟨g, hg, rfl⟩ := List.mem_map.1 hi
      exact List.all_eq_true.1 hall g hg
    rcases C2 with _ | ⟨c, C2⟩
    · have hFL : ∀ a, a ∈ F → L.contains a.i = true := fun a ha => hin _ (by
        have := List.all_eq_true.1 hFG (a.i, a.d) (List.mem_map.2 ⟨a, ha, rfl⟩)
        simp only [Bool.and_eq_true] at this
        exact this.1)
      have hfin := hRc w' (Ext.refl _)
      rw [← hK0] at hfin
      have := hfin gs (fun a ha => (hgs a ha (hFL a ha)).2) (fun a b ha hb => hdis a b ha hb (hFL a ha) (hFL b hb))
      have e : upF gs F f1 = f' := by
        funext j
        cases hj : (F.map (·.d)).contains j with
        | false => rw [upF_out gs F f1 hj]; exact (hA j hj).symm
        | true =>
          have hj : j ∈ F.map (·.d) := by simpa using hj
          obtain ⟨a, ha, rfl⟩ := List.mem_map.1 hj
          rw [upF_in gs F f1 hnD ha]
          exact (hgs a ha (hFL a ha)).1.symm
      rw [e] at this
      exact this
    · exfalso
      have h1 := hC2 c List.mem_cons_self
      have h2 := List.all_eq_true.1 hCG c (by rw [hCC]; exact List.mem_append_right _ List.mem_cons_self)
      simp only [Bool.and_eq_true] at h2
      rw [hin _ h2.1] at h1; cases h1

/-- a variable that is laid out anew -/
def fA (i d t : Nat) (z : Value) : Flt := ⟨i, d, t, z.cells, fun g => .pointer (some ⟨g, 0, none⟩)⟩
theorem flt_alloc {i d t ty : Nat} {z : Value} {pos : String} {aft : Array Edge} (hz : ZeroTy P t z) (ho : ops[i]? = some ⟨some d, .alloc t, ty, pos, aft, none⟩) (f' : Fr) (w' : World) :
    Ro P n ops Ext (fun f'' w'' => f'' = upd f' d ((fA i d t z).vl w'.heap.size) ∧ Blk w'' w'.heap.size t z.cells ∧ Ext w' w'') [(i, 1)] f' w' := by
  refine Ro_head ho rfl ?_
  refine R1_alloc (.inr ⟨rfl, fun _ h => h⟩) hz ?_
  intro w'' hB hE _
  exact Ro_nil ⟨rfl, hB, hE⟩
end
end Go.Eng
