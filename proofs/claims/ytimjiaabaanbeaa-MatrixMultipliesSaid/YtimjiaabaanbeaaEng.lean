/- The walk's engine: frames as functions, one judgement for an operation, one for a region (in a fixed order; where the order is drawn: one order serves for all). Over any program. -/
import Derived.Orders
import Derived.Tactics
import Derived.Below
import Derived.KernelRfl
import Derived.Deep.LoopGhost
namespace Go.Eng
open Go Go.RowKit

abbrev Fr := Nat → Value

def upd (f : Fr) (d : Nat) (v : Value) : Fr := fun i => bif Nat.beq i d then v else f i
def updO (f : Fr) : Option Nat → Value → Fr
  | some d, v => upd f d v
  | none, _ => f
def act (n : Nat) (f : Fr) : Act := ⟨Array.ofFn (n := n) fun i => f i.val, []⟩
def ev (n : Nat) (f : Fr) : Operand → Value
  | .tmp t => bif Nat.blt t n then f t else undef
  | .const v => v
  | .global g => .pointer (some ⟨g, 0, none⟩)
  | .func g => .func (.func g) #[] #[]

theorem beq_ne {i d : Nat} (h : i ≠ d) : Nat.beq i d = false := by
  cases hb : Nat.beq i d with
  | false => rfl
  | true => exact absurd (Nat.eq_of_beq_eq_true hb) h
theorem upd_same (f : Fr) (d : Nat) (v : Value) : upd f d v d = v := by simp [upd, Nat.beq_refl]
theorem upd_ne (f : Fr) {d i : Nat} (v : Value) (h : i ≠ d) : upd f d v i = f i := by simp [upd, beq_ne h]
theorem upd_id {f : Fr} {d : Nat} {v : Value} (h : f d = v) : upd f d v = f := by
  funext i
  by_cases e : i = d
  · subst e; rw [upd_same, h]
  · rw [upd_ne f v e]

theorem ui {f : Fr} {d : Nat} {v : Value} (h : f d = v) : f = upd f d v := (upd_id h).symm

theorem act_eval (n : Nat) (f : Fr) : (act n f).eval = ev n f := by
  funext x
  cases x with
  | tmp t =>
    simp only [Act.eval, act, ev]
    by_cases h : t < n
    · have hb : Nat.blt t n = true := by simpa [Nat.blt_eq] using h
      simp [hb, h, Array.getD]
    · have hb : Nat.blt t n = false := by
        cases e : Nat.blt t n with
        | false => rfl
        | true => exact absurd (by simpa using e) h
      simp [hb, h, Array.getD]
  | const v => rfl
  | global g => rfl
  | func g => rfl

theorem act_put (n : Nat) (f : Fr) (d : Option Nat) (v : Value) : (act n f).put d v = act n (updO f d v) := by
  cases d with
  | none => rfl
  | some d =>
    simp only [Act.put, act, updO]
    congr 1
    apply Array.ext_getElem?
    intro i
    by_cases h : d = i
    · subst h
      by_cases hi : d < n <;> simp [hi, upd_same]
    · rw [Array.getElem?_setIfInBounds_ne h]
      by_cases hi : i < n <;> simp [hi, upd_ne f v (Ne.symm h)]

/-- an operation's wp asks of a panic's post nothing where it is shown not to panic -/
theorem wp_monoQ {P : Program} {o : Oper} {a : Act} {w : World} {K : Act → World → Prop} {Q Q' : Exit → Act → World → Prop}
    (h : ∀ e a w, Q e a w → Q' e a w) (hh : o.wp P a w K Q) : o.wp P a w K Q' := by
  unfold Oper.wp at *
  generalize (execOp a.eval o).run P w = r at *
  cases r with
  | ok n w' =>
    cases n <;> simp only [Oper.upon] at hh ⊢
    case value => exact hh
    case skip => exact hh
    case defer => exact hh
    case enter =>
      refine Calls.mono hh fun e w'' he => ?_
      cases e with
      | returned u => exact he
      | panicked c => exact h _ _ _ he
      | outgrown => obtain ⟨a, w, hq⟩ := he; exact ⟨a, w, h _ _ _ hq⟩
    case row => exact hh
  | halt x w' =>
    cases x <;> simp only [Oper.upon] at hh ⊢
    case panic => exact h _ _ _ hh

def QF : Exit → Act → World → Prop := fun _ _ _ => False
theorem QF_imp {Q : Exit → Act → World → Prop} : ∀ e a w, QF e a w → Q e a w := fun _ _ _ h => h.elim

/-- one operation. k = 0: it reads (it gives its value in every world that S leads to); 3: it gives its value in every world; 1: loud; 2: loud, and every reading that was taken ahead of it is done -/
def R1 (P : Program) (n : Nat) (S : World → World → Prop) (k : Nat) (o : Oper) (K : Fr → World → Prop) (f : Fr) (w : World) : Prop :=
  if k = 0 then ∃ v, (∀ w', S w w' ∨ w' = w → (execOp (ev n f) o).run P w' = .ok (.value v) w') ∧ K (updO f o.dst v) w
  else if k = 3 then ∃ v, (∀ w', (execOp (ev n f) o).run P w' = .ok (.value v) w') ∧ K (updO f o.dst v) w
  else o.wp P (act n f) w (fun a' w' => ∃ f', a' = act n f' ∧ (k = 2 ∨ w' = w ∨ S w w') ∧ K f' w') QF

section
variable {P : Program} {n : Nat} {S : World → World → Prop} {k : Nat} {o : Oper} {K : Fr → World → Prop} {f : Fr} {w : World}

theorem R1_pure {v : Value} (h : ∀ w, (execOp (ev n f) o).run P w = .ok (.value v) w) (hk : K (updO f o.dst v) w) : R1 P n S k o K f w := by
  unfold R1
  split
  · exact ⟨v, fun w' _ => h w', hk⟩
  · split
    · exact ⟨v, fun w' => h w', hk⟩
    · unfold Oper.wp
      rw [act_eval, h w, Oper.upon_value, act_put]
      exact ⟨_, rfl, .inr (.inl rfl), hk⟩

/-- an operation that reads: its value in this world is its value in every world that S leads to -/
theorem R1_read {v : Value} (h3 : k ≠ 3) (h : ∀ w', S w w' ∨ w' = w → (execOp (ev n f) o).run P w' = .ok (.value v) w') (hk : K (updO f o.dst v) w) : R1 P n S k o K f w := by
  unfold R1
  split
  · exact ⟨v, h, hk⟩
  · unfold Oper.wp
    rw [act_eval, h w (.inr rfl), Oper.upon_value, act_put]
    exact ⟨_, rfl, .inr (.inl rfl), hk⟩

/-- an operation that makes or writes memory -/
theorem R1_loud {v : Value} {w' : World} (h0 : k = 2 ∨ k = 1 ∧ S w w') (h : (execOp (ev n f) o).run P w = .ok (.value v) w') (hk : K (updO f o.dst v) w') : R1 P n S k o K f w := by
  unfold R1
  rw [if_neg (by omega), if_neg (by omega)]
  unfold Oper.wp
  rw [act_eval, h, Oper.upon_value, act_put]
  exact ⟨_, rfl, h0.imp id fun h => .inr h.2, hk⟩

theorem R1_skip {w' : World} (h0 : k = 2 ∨ k = 1 ∧ S w w') (hd : o.dst = none) (h : (execOp (ev n f) o).run P w = .ok .skip w') (hk : K f w') : R1 P n S k o K f w := by
  unfold R1
  rw [if_neg (by omega), if_neg (by omega)]
  unfold Oper.wp
  rw [act_eval, h, Oper.upon_skip, act_put, hd]
  exact ⟨_, rfl, h0.imp id fun h => .inr h.2, hk⟩

theorem R1_enter {g : FuncId} {args : Array Value} {R : Ending → World → Prop} (h0 : k = 2 ∨ k = 1) (h : (execOp (ev n f) o).run P w = .ok (.enter g args) w)
    (hc : Calls P g args w R) (hk : ∀ e w', R e w' → ∃ v, e = .returned v ∧ (k = 1 → S w w') ∧ K (updO f o.dst v) w') : R1 P n S k o K f w := by
  unfold R1
  rw [if_neg (by omega), if_neg (by omega)]
  unfold Oper.wp
  rw [act_eval, h, Oper.upon_enter]
  refine hc.mono fun e w' hr => ?_
  obtain ⟨v, rfl, hs, hk⟩ := hk e w' hr
  simp only []
  rw [act_put]
  exact ⟨_, rfl, h0.imp id fun h => .inr (hs h), hk⟩

theorem R1.wp (hk : k ≠ 0 ∧ k ≠ 3) (h : R1 P n S k o K f w) : o.wp P (act n f) w (fun a' w' => ∃ f', a' = act n f' ∧ (k = 2 ∨ w' = w ∨ S w w') ∧ K f' w') QF := by
  unfold R1 at h
  rwa [if_neg hk.1, if_neg hk.2] at h
end

/-- is the operation wanted? (its guard) -/
def want (n : Nat) (ops : Array Oper) (f : Fr) (o : Oper) : Bool := Region.wanted o (yielded ops (act n f).tmps)

/-- a region's operations in the text's order -/
def Rl (P : Program) (n : Nat) (ops : Array Oper) (K : Fr → World → Prop) : List Oper → Fr → World → Prop
  | [], f, w => K f w
  | o :: rest, f, w => if want n ops f o then R1 P n (fun _ _ => False) 2 o (Rl P n ops K rest) f w else Rl P n ops K rest (updO f o.dst undef) w

/-- a region's operations in another order -/
def Ro (P : Program) (n : Nat) (ops : Array Oper) (S : World → World → Prop) (K : Fr → World → Prop) : List (Nat × Nat) → Fr → World → Prop
  | [], f, w => K f w
  | (i, k) :: rest, f, w => ∃ o, ops[i]? = some o ∧ if want n ops f o then R1 P n S k o (Ro P n ops S K rest) f w else Ro P n ops S K rest (updO f o.dst undef) w

section
variable {P : Program} {n : Nat} {ops : Array Oper} {S : World → World → Prop} {K : Fr → World → Prop} {f : Fr} {w : World} {o : Oper} {rest : List Oper}
theorem want_none (h : o.guard = none) : want n ops f o = true := by simp [want, Region.wanted, h]
theorem want_of {j : Nat} {b c : Bool} {t : Tmp} (h : o.guard = some (j, b)) (hj : (ops[j]?).bind (·.dst) = some t) (ht : ev n f (.tmp t) = .bool c) (hn : Nat.blt t n = true) : want n ops f o = (c == b) := by
  have hlt : t < n := by simpa using hn
  have hv : f t = .bool c := by simpa [ev, hn] using ht
  simp [want, Region.wanted, h, yielded, hj, act, hlt, hv]

theorem Rl_nil (h : K f w) : Rl P n ops K [] f w := h
theorem Rl_head (hg : o.guard = none) (h : R1 P n (fun _ _ => False) 2 o (Rl P n ops K rest) f w) : Rl P n ops K (o :: rest) f w := by
  unfold Rl; rw [want_none hg]; exact h
theorem Rl_yes {j : Nat} {b : Bool} {t : Tmp} (h : o.guard = some (j, b)) (hj : (ops[j]?).bind (·.dst) = some t) (ht : ev n f (.tmp t) = .bool b) (hn : Nat.blt t n = true)
    (hr : R1 P n (fun _ _ => False) 2 o (Rl P n ops K rest) f w) : Rl P n ops K (o :: rest) f w := by
  unfold Rl; rw [want_of h hj ht hn]; simpa using hr
theorem Rl_no {j : Nat} {b c : Bool} {t : Tmp} (h : o.guard = some (j, b)) (hj : (ops[j]?).bind (·.dst) = some t) (ht : ev n f (.tmp t) = .bool c) (hn : Nat.blt t n = true) (hc : (c == b) = false)
    (hr : Rl P n ops K rest (updO f o.dst undef) w) : Rl P n ops K (o :: rest) f w := by
  unfold Rl; rw [want_of h hj ht hn, hc]; simpa using hr
theorem Ro_nil (h : K f w) : Ro P n ops S K [] f w := h
theorem Ro_head {i k : Nat} {ord : List (Nat × Nat)} (ho : ops[i]? = some o) (hg : o.guard = none) (h : R1 P n S k o (Ro P n ops S K ord) f w) : Ro P n ops S K ((i, k) :: ord) f w := by
  unfold Ro; exact ⟨o, ho, by rw [want_none hg]; exact h⟩
theorem Ro_yes {i k : Nat} {ord : List (Nat × Nat)} {j : Nat} {b : Bool} {t : Tmp} (ho : ops[i]? = some o) (h : o.guard = some (j, b)) (hj : (ops[j]?).bind (·.dst) = some t) (ht : ev n f (.tmp t) = .bool b) (hn : Nat.blt t n = true)
    (hr : R1 P n S k o (Ro P n ops S K ord) f w) : Ro P n ops S K ((i, k) :: ord) f w := by
  unfold Ro; refine ⟨o, ho, ?_⟩; rw [want_of h hj ht hn]; simpa using hr
theorem Ro_no {i k : Nat} {ord : List (Nat × Nat)} {j : Nat} {b c : Bool} {t : Tmp} (ho : ops[i]? = some o) (h : o.guard = some (j, b)) (hj : (ops[j]?).bind (·.dst) = some t) (ht : ev n f (.tmp t) = .bool c) (hn : Nat.blt t n = true) (hc : (c == b) = false)
    (hr : Ro P n ops S K ord (updO f o.dst undef) w) : Ro P n ops S K ((i, k) :: ord) f w := by
  unfold Ro; refine ⟨o, ho, ?_⟩; rw [want_of h hj ht hn, hc]; simpa using hr

theorem Ro_headL {l : List Oper} {i k : Nat} {ord : List (Nat × Nat)} (ho : l[i]? = some o) (hg : o.guard = none) (h : R1 P n S k o (Ro P n l.toArray S K ord) f w) : Ro P n l.toArray S K ((i, k) :: ord) f w :=
  Ro_head (by simpa using ho) hg h
theorem Ro_yesL {l : List Oper} {i k : Nat} {ord : List (Nat × Nat)} {j : Nat} {b : Bool} {t : Tmp} (ho : l[i]? = some o) (h : o.guard = some (j, b)) (hj : (l[j]?).bind (·.dst) = some t) (ht : ev n f (.tmp t) = .bool b) (hn : Nat.blt t n = true)
    (hr : R1 P n S k o (Ro P n l.toArray S K ord) f w) : Ro P n l.toArray S K ((i, k) :: ord) f w :=
  Ro_yes (by simpa using ho) h (by simpa using hj) ht hn hr
theorem Ro_noL {l : List Oper} {i k : Nat} {ord : List (Nat × Nat)} {j : Nat} {b c : Bool} {t : Tmp} (ho : l[i]? = some o) (h : o.guard = some (j, b)) (hj : (l[j]?).bind (·.dst) = some t) (ht : ev n f (.tmp t) = .bool c) (hn : Nat.blt t n = true) (hc : (c == b) = false)
    (hr : Ro P n l.toArray S K ord (updO f o.dst undef) w) : Ro P n l.toArray S K ((i, k) :: ord) f w :=
  Ro_no (by simpa using ho) h (by simpa using hj) ht hn hc hr
theorem Rl_yesT {j : Nat} {t : Tmp} {p : Prop} {inst : Decidable p} (h : o.guard = some (j, true)) (hj : (ops[j]?).bind (·.dst) = some t) (ht : ev n f (.tmp t) = .bool (@decide p inst)) (hn : Nat.blt t n = true) (hp : p)
    (hr : R1 P n (fun _ _ => False) 2 o (Rl P n ops K rest) f w) : Rl P n ops K (o :: rest) f w :=
  Rl_yes h hj (by rw [ht, decide_eq_true hp]) hn hr
theorem Rl_noT {j : Nat} {t : Tmp} {p : Prop} {inst : Decidable p} (h : o.guard = some (j, true)) (hj : (ops[j]?).bind (·.dst) = some t) (ht : ev n f (.tmp t) = .bool (@decide p inst)) (hn : Nat.blt t n = true) (hp : ¬ p)
    (hr : Rl P n ops K rest (updO f o.dst undef) w) : Rl P n ops K (o :: rest) f w :=
  Rl_no h hj (by rw [ht, decide_eq_false hp]) hn rfl hr
theorem Rl_yesF {j : Nat} {t : Tmp} {p : Prop} {inst : Decidable p} (h : o.guard = some (j, false)) (hj : (ops[j]?).bind (·.dst) = some t) (ht : ev n f (.tmp t) = .bool (@decide p inst)) (hn : Nat.blt t n = true) (hp : ¬ p)
    (hr : R1 P n (fun _ _ => False) 2 o (Rl P n ops K rest) f w) : Rl P n ops K (o :: rest) f w :=
  Rl_yes h hj (by rw [ht, decide_eq_false hp]) hn hr
theorem Rl_noF {j : Nat} {t : Tmp} {p : Prop} {inst : Decidable p} (h : o.guard = some (j, false)) (hj : (ops[j]?).bind (·.dst) = some t) (ht : ev n f (.tmp t) = .bool (@decide p inst)) (hn : Nat.blt t n = true) (hp : p)
    (hr : Rl P n ops K rest (updO f o.dst undef) w) : Rl P n ops K (o :: rest) f w :=
  Rl_no h hj (by rw [ht, decide_eq_true hp]) hn rfl hr
theorem Ro_yesT {l : List Oper} {i k : Nat} {ord : List (Nat × Nat)} {j : Nat} {t : Tmp} {p : Prop} {inst : Decidable p} (ho : l[i]? = some o) (h : o.guard = some (j, true)) (hj : (l[j]?).bind (·.dst) = some t) (ht : ev n f (.tmp t) = .bool (@decide p inst)) (hn : Nat.blt t n = true) (hp : p)
    (hr : R1 P n S k o (Ro P n l.toArray S K ord) f w) : Ro P n l.toArray S K ((i, k) :: ord) f w :=
  Ro_yesL ho h hj (by rw [ht, decide_eq_true hp]) hn hr
theorem Ro_noT {l : List Oper} {i k : Nat} {ord : List (Nat × Nat)} {j : Nat} {t : Tmp} {p : Prop} {inst : Decidable p} (ho : l[i]? = some o) (h : o.guard = some (j, true)) (hj : (l[j]?).bind (·.dst) = some t) (ht : ev n f (.tmp t) = .bool (@decide p inst)) (hn : Nat.blt t n = true) (hp : ¬ p)
    (hr : Ro P n l.toArray S K ord (updO f o.dst undef) w) : Ro P n l.toArray S K ((i, k) :: ord) f w :=
  Ro_noL ho h hj (by rw [ht, decide_eq_false hp]) hn rfl hr
theorem Ro_yesF {l : List Oper} {i k : Nat} {ord : List (Nat × Nat)} {j : Nat} {t : Tmp} {p : Prop} {inst : Decidable p} (ho : l[i]? = some o) (h : o.guard = some (j, false)) (hj : (l[j]?).bind (·.dst) = some t) (ht : ev n f (.tmp t) = .bool (@decide p inst)) (hn : Nat.blt t n = true) (hp : ¬ p)
    (hr : R1 P n S k o (Ro P n l.toArray S K ord) f w) : Ro P n l.toArray S K ((i, k) :: ord) f w :=
  Ro_yesL ho h hj (by rw [ht, decide_eq_false hp]) hn hr
theorem Ro_noF {l : List Oper} {i k : Nat} {ord : List (Nat × Nat)} {j : Nat} {t : Tmp} {p : Prop} {inst : Decidable p} (ho : l[i]? = some o) (h : o.guard = some (j, false)) (hj : (l[j]?).bind (·.dst) = some t) (ht : ev n f (.tmp t) = .bool (@decide p inst)) (hn : Nat.blt t n = true) (hp : p)
    (hr : Ro P n l.toArray S K ord (updO f o.dst undef) w) : Ro P n l.toArray S K ((i, k) :: ord) f w :=
  Ro_noL ho h hj (by rw [ht, decide_eq_true hp]) hn rfl hr
theorem Rl_sound {Q : Exit → Act → World → Prop} (hQ : ∀ f w, K f w → Q .normal (act n f) w) : ∀ (l : List Oper) (f : Fr) (w : World), Rl P n ops K l f w → wpList P ops Q l (act n f) w := by
  intro l
  induction l with
  | nil => intro f w h; exact hQ f w h
  | cons o rest ih =>
    intro f w h
    unfold Rl at h
    unfold wpList
    change (if Region.wanted o (yielded ops (act n f).tmps) = true then _ else _) at h
    split
    · rename_i hw
      rw [if_pos hw] at h
      refine .inl (Oper.wp_mono (fun a' w' h' => ?_) (wp_monoQ QF_imp (h.wp (by omega))))
      obtain ⟨f', rfl, _, hk⟩ := h'
      exact ih f' w' hk
    · rename_i hw
      rw [if_neg hw] at h
      rw [act_put]
      exact ih _ _ h
end

/-- operation o waits for operation j, by an edge of its own or by one of an operation that it waits for -/
def waits (ops : Array Oper) (o : Oper) (j : Nat) : Bool :=
  o.after.any fun e => Region.binds .any e && (e.on == j || match ops[e.on]? with | none => false | some u => u.after.any fun e' => Region.binds .any e' && e'.on == j)
/-- every reading (H) that is listed is waited for by operation i -/
def bar (ops : Array Oper) (H : List Nat) (listed : Array Bool) (i : Nat) : Bool :=
  match ops[i]? with
  | none => false
  | some o => H.all fun j => !listed.getD j false || waits ops o j
/-- what is listed has all that it waits for listed -/
def Closed (ops : Array Oper) (listed : Array Bool) : Prop := ∀ (a : Nat) (u : Oper), ops[a]? = some u → listed.getD a false = true → ∀ e ∈ u.after, Region.binds .any e = true → listed.getD e.on false = true

theorem bar_spec {ops : Array Oper} {H : List Nat} {listed : Array Bool} {i j : Nat} {o : Oper} (ho : ops[i]? = some o) (hb : bar ops H listed i = true) (hj : H.contains j = true) (hl : listed.getD j false = true) :
    ∃ e ∈ o.after, Region.binds .any e = true ∧ (e.on = j ∨ ∃ u, ops[e.on]? = some u ∧ ∃ e' ∈ u.after, Region.binds .any e' = true ∧ e'.on = j) := by
  simp only [bar, ho, List.all_eq_true] at hb
  have h := hb j (by simpa using hj)
  rw [hl] at h
  simp only [Bool.not_true, Bool.false_or] at h
  unfold waits at h
  obtain ⟨e, he, h2⟩ := Array.any_eq_true'.1 h
  simp only [Bool.and_eq_true, Bool.or_eq_true, beq_iff_eq] at h2
  refine ⟨e, he, h2.1, h2.2.imp id fun h3 => ?_⟩
  split at h3
  · cases h3
  · rename_i u hu
    obtain ⟨e', he', h4⟩ := Array.any_eq_true'.1 h3
    simp only [Bool.and_eq_true, beq_iff_eq] at h4
    exact ⟨u, hu, e', he', h4.1, h4.2⟩
theorem closed_none (ops : Array Oper) : Closed ops (Array.replicate ops.size false) := fun a u _ h => by
  by_cases ha : a < ops.size <;> simp [ha] at h
theorem closed_set {ops : Array Oper} {listed : Array Bool} {i : Nat} (h : Closed ops listed) (hi : i ∈ Region.ready .any ops listed) : Closed ops (listed.setIfInBounds i true) := by
  have mono : ∀ x, listed.getD x false = true → (listed.setIfInBounds i true).getD x false = true := fun x hx => by
    by_cases hxi : i = x
    · subst hxi
      have hlt : i < listed.size := by
        rcases Nat.lt_or_ge i listed.size with h' | h'
        · exact h'
        · simp [Array.getD, Nat.not_lt.2 h'] at hx
      simp [hlt]
    · rw [getD_set_ne false hxi]; exact hx
  intro a u ha hl e he hb
  obtain ⟨_, oi, hoi, hall⟩ := mem_ready.1 hi
  by_cases hai : i = a
  · subst hai
    rw [hoi] at ha
    cases ha
    have h1 := hall e he hb
    refine mono _ ?_
    rcases Nat.lt_or_ge e.on listed.size with h' | h'
    · simp [h'] at h1 ⊢; exact h1
    · simp [Array.getElem?_eq_none h'] at h1
  · rw [getD_set_ne false hai] at hl
    exact mono _ (h a u ha hl e he hb)

def wpE (P : Program) (ops : Array Oper) (H : List Nat) (Q : Exit → Act → World → Prop) (S : World → World → Prop) : Nat → Array Bool → Act → World → Prop
  | 0, listed, a, w => Region.ready .any ops listed = [] ∧ Q .normal a w
  | fuel + 1, listed, a, w =>
    (Region.ready .any ops listed = [] → Q .normal a w) ∧
    ∀ i ∈ Region.ready .any ops listed, wpOp P ops Q i (fun a' w' => (bar ops H listed i = true ∨ w' = w ∨ S w w') ∧ wpE P ops H Q S fuel (listed.setIfInBounds i true) a' w') a w

section
variable {P : Program} {ops : Array Oper} {H : List Nat} {Q : Exit → Act → World → Prop} {S : World → World → Prop}

theorem wpE_any : ∀ (fuel : Nat) (listed : Array Bool) (a : Act) (w : World), wpE P ops H Q S fuel listed a w → wpAny P .any ops Q fuel listed a w := by
  intro fuel
  induction fuel with
  | zero => intro listed a w h; exact h
  | succ fuel ih => intro listed a w h; exact ⟨h.1, fun i hi => wpOp_mono (fun a' w' h' => ih _ a' w' h'.2) (h.2 i hi)⟩

theorem wpOp_comm {j : Nat} {oi oj : Oper} {v : Value} (hj : ops[j]? = some oj) (hap : oi.apart ops oj = true)
    (hsi : ∀ cs b, oi.op ≠ .select cs b) (hsj : ∀ cs b, oj.op ≠ .select cs b)
    (hQ : ∀ c a w, ¬ Q (.panic c) a w) {K : Act → World → Prop} {a : Act} {w : World} (h : wpOp P ops Q j K (a.put oi.dst v) w) :
    wpOp P ops Q j (fun a' w' => (execOp a'.eval oi = execOp a.eval oi ∧ Region.wanted oi (yielded ops a'.tmps) = Region.wanted oi (yielded ops a.tmps)) ∧ K (a'.put oi.dst v) w') a w := by
  obtain ⟨h1, h2, h3⟩ := Oper.apart_spec hap
  have keep : ∀ (a0 : Act) (u : Value), execOp (a0.put oj.dst u).eval oi = execOp a0.eval oi ∧ Region.wanted oi (yielded ops (a0.put oj.dst u).tmps) = Region.wanted oi (yielded ops a0.tmps) := fun a0 u =>
    ⟨execOp_put oi hsi a0 oj.dst u h3, wanted_put oi a0 oj.dst u h3⟩
  unfold wpOp at *
  simp only [hj] at *
  rw [wanted_put oj a oi.dst v h1] at h
  split
  · rename_i hw
    simp only [hw, if_true] at h
    rcases h with h | ⟨hasks, hlets⟩
    case inr => exact .inr ⟨by unfold Oper.asks at *; rw [execOp_put oj hsj a oi.dst v h1] at hasks; exact hasks, hlets⟩
    refine .inl ?_
    unfold Oper.wp at *
    rw [execOp_put oj hsj a oi.dst v h1] at h
    generalize (execOp a.eval oj).run P w = r at *
    cases r with
    | ok n w' =>
      cases n <;> simp only [Oper.upon] at h ⊢
      case value u => exact ⟨keep a u, by rw [← Act.put_comm a v u h2]; exact h⟩
      case skip => exact ⟨keep a _, by rw [← Act.put_comm a v undef h2]; exact h⟩
      case defer d =>
        refine ⟨?_, ?_⟩
        · have := keep { a with defers := d :: a.defers } undef
          exact this
        · rw [← Act.put_comm _ v undef h2, ← Act.put_defers]
          exact h
      case enter f args =>
        refine Calls.mono h fun e w'' he => ?_
        cases e with
        | returned u => exact ⟨keep a u, by rw [← Act.put_comm a v u h2]; exact he⟩
        | panicked c => exact absurd he (hQ _ _ _)
        | outgrown => exact he
      case row row args => exact Rows.mono h fun u w'' he => ⟨keep a u, by rw [← Act.put_comm a v u h2]; exact he⟩
    | halt x w' =>
      cases x <;> simp only [Oper.upon] at h ⊢
      case panic u => exact absurd h (hQ _ _ _)
  · rename_i hw
    simp only [hw] at h
    exact ⟨keep a _, by rw [← Act.put_comm a v undef h2]; exact h⟩

/-- in this world and in those that S leads to, the operation gives v -/
def YS (P : Program) (ops : Array Oper) (S : World → World → Prop) (o : Oper) (v : Value) (a : Act) (w : World) : Prop :=
  (Region.wanted o (yielded ops a.tmps) = true ∧ ∀ w', S w w' ∨ w' = w → (execOp a.eval o).run P w' = .ok (.value v) w') ∨
  (Region.wanted o (yielded ops a.tmps) = false ∧ v = undef)

theorem YS.wpOp {i : Nat} {o : Oper} {v : Value} {a : Act} {w : World} (hi : ops[i]? = some o) (hy : YS P ops S o v a w)
    {K : Act → World → Prop} (h : K (a.put o.dst v) w) : wpOp P ops Q i K a w := by
  unfold Go.wpOp
  simp only [hi]
  rcases hy with ⟨hw, hv⟩ | ⟨hw, rfl⟩
  · simp only [hw, if_true, Oper.wp, hv w (.inr rfl), Oper.upon]; exact .inl h
  · simp only [hw, Bool.false_eq_true, if_false]; exact h

theorem YS.later (hT : ∀ a b c, S a b → S b c → S a c) {o : Oper} {v : Value} {a a' : Act} {w w' : World} (hy : YS P ops S o v a w) (hs : w' = w ∨ S w w')
    (he : execOp a'.eval o = execOp a.eval o) (hw : Region.wanted o (yielded ops a'.tmps) = Region.wanted o (yielded ops a.tmps)) : YS P ops S o v a' w' := by
  unfold YS at *
  rw [he, hw]
  rcases hy with ⟨h1, h2⟩ | h
  · refine .inl ⟨h1, fun w'' h'' => h2 w'' ?_⟩
    rcases hs with rfl | hs
    · exact h''
    · rcases h'' with h'' | rfl
      · exact .inl (hT _ _ _ hs h'')
      · exact .inl hs
  · exact .inr h

theorem wpE_first {S' : World → World → Prop} (hT : ∀ a b c, S' a b → S' b c → S' a c) (hSS : ∀ a b, S a b → S' a b) {i : Nat} (hH : H.contains i = true ∨ ∀ a b, S' a b) {oi : Oper} {v : Value} (hi : ops[i]? = some oi) (hsel : ∀ (j : Nat) (o : Oper) cs b, ops[j]? = some o → o.op ≠ .select cs b)
    (hQ : ∀ c a w, ¬ Q (.panic c) a w) :
    ∀ (fuel : Nat) (listed : Array Bool) (a : Act) (w : World), listed.size = ops.size → Closed ops listed →
      (∀ j oj, ops[j]? = some oj → j ≠ i → listed.getD j true = false → (∀ e ∈ oj.after, Region.binds .any e = true → e.on ≠ i) → oi.apart ops oj = true) →
      i ∈ Region.ready .any ops listed → YS P ops S' oi v a w →
      wpE P ops H Q S fuel (listed.setIfInBounds i true) (a.put oi.dst v) w → wpE P ops H Q S (fuel + 1) listed a w := by
  have hilt : i < ops.size := (Array.getElem?_eq_some_iff.1 hi).1
  intro fuel
  induction fuel with
  | zero =>
    intro listed a w _ _ _ hr hy HH
    refine ⟨fun h => (by rw [h] at hr; cases hr), fun j hj => ?_⟩
    by_cases hji : j = i
    · subst hji; exact hy.wpOp hi ⟨.inr (.inl rfl), HH⟩
    · have := ready_mono hj hji
      rw [HH.1] at this
      cases this
  | succ fuel ih =>
    intro listed a w hsz hcl hfree hr hy HH
    refine ⟨fun h => (by rw [h] at hr; cases hr), fun j hj => ?_⟩
    by_cases hji : j = i
    · subst hji; exact hy.wpOp hi ⟨.inr (.inl rfl), HH⟩
    · have h1 := HH.2 j (ready_mono hj hji)
      obtain ⟨hjun, oj, hoj, hall⟩ := mem_ready.1 hj
      have hnot : ∀ e ∈ oj.after, Region.binds .any e = true → e.on ≠ i := fun e he hb heq => by
        have h1 := hall e he hb
        have h0 := (mem_ready.1 hr).1
        rw [heq] at h1
        rcases Nat.lt_or_ge i listed.size with h' | h'
        · simp [h'] at h0 h1; rw [h0] at h1; cases h1
        · simp [Array.getElem?_eq_none h'] at h1
      have h2 := wpOp_comm hoj (hfree j oj hoj hji hjun hnot) (fun cs b => hsel i oi cs b hi) (fun cs b => hsel j oj cs b hoj) hQ h1
      have hfree' : ∀ k ok, ops[k]? = some ok → k ≠ i → (listed.setIfInBounds j true).getD k true = false →
          (∀ e ∈ ok.after, Region.binds .any e = true → e.on ≠ i) → oi.apart ops ok = true := fun k ok hk hki hun hno => by
        refine hfree k ok hk hki ?_ hno
        by_cases hjk : j = k
        · subst hjk; exact hjun
        · rw [getD_set_ne true hjk] at hun; exact hun
      refine wpOp_mono (fun a' w' h3 => ?_) h2
      obtain ⟨⟨he, hw⟩, hs, h4⟩ := h3
      have hs' : w' = w ∨ S' w w' := by
        rcases hH with hH | hH
        · rcases hs with hb | hw' | hs
          · exfalso
            have hl : (listed.setIfInBounds i true).getD i false = true := by simp [hsz, hilt]
            obtain ⟨e, he, hb, heq | ⟨u, hu, e', he', hb', heq⟩⟩ := bar_spec hoj hb hH hl
            · exact hnot e he hb heq
            · have h1 := hall e he hb
              have h2 : listed.getD e.on false = true := by
                rcases Nat.lt_or_ge e.on listed.size with h' | h'
                · simp [h'] at h1 ⊢; exact h1
                · simp [Array.getElem?_eq_none h'] at h1
              have h3 := hcl e.on u hu h2 e' he' hb'
              have h0 := (mem_ready.1 hr).1
              rw [heq] at h3
              have hlt : i < listed.size := by rw [hsz]; exact hilt
              simp [hlt] at h0 h3
              rw [h0] at h3; cases h3
          · exact .inl hw'
          · exact .inr (hSS _ _ hs)
        · exact .inr (hH w w')
      have hmono : bar ops H (listed.setIfInBounds i true) j = true → bar ops H listed j = true := fun hb => by
        simp only [bar, hoj, List.all_eq_true] at hb ⊢
        intro x hx
        have := hb x hx
        simp only [Bool.or_eq_true, Bool.not_eq_true'] at this ⊢
        rcases this with h | h
        · left
          by_cases hxi : i = x
          · subst hxi; simp [hsz, hilt] at h
          · rw [getD_set_ne false hxi] at h; exact h
        · exact .inr h
      refine ⟨hs.imp hmono id, ih (listed.setIfInBounds j true) a' w' (by simp [hsz]) (closed_set hcl hj) hfree' (ready_mono hr (Ne.symm hji)) (hy.later hT hs' he hw) ?_⟩
      rw [Array.setIfInBounds_comm _ _ hji]
      exact h4

/-- the readings of an order -/
def hot (ord : List (Nat × Nat)) : List Nat := ord.filterMap fun q => if q.2 = 0 then some q.1 else none
/-- is this an order that serves? -/
def ordOk (ops : Array Oper) (H : List Nat) : List (Nat × Nat) → Array Bool → Bool
  | [], listed => (Region.ready .any ops listed).isEmpty
  | (i, 0) :: rest, listed => (Region.ready .any ops listed).contains i && Region.free .any ops listed i && H.contains i && ordOk ops H rest (listed.setIfInBounds i true)
  | (i, 1) :: rest, listed => Region.ready .any ops listed == [i] && ordOk ops H rest (listed.setIfInBounds i true)
  | (i, 2) :: rest, listed => Region.ready .any ops listed == [i] && bar ops H listed i && ordOk ops H rest (listed.setIfInBounds i true)
  | (i, 3) :: rest, listed => (Region.ready .any ops listed).contains i && Region.free .any ops listed i && ordOk ops H rest (listed.setIfInBounds i true)
  | (_, _ + 4) :: _, _ => false

theorem top_trans : ∀ a b c : World, (fun _ _ : World => True) a b → (fun _ _ : World => True) b c → (fun _ _ : World => True) a c := fun _ _ _ _ _ => trivial
def QK (n : Nat) (K : Fr → World → Prop) : Exit → Act → World → Prop
  | .normal, a, w => ∃ f, a = act n f ∧ K f w
  | _, _, _ => False

theorem Ro_sound {n : Nat} {K : Fr → World → Prop} (hT : ∀ a b c, S a b → S b c → S a c) (hsel : Region.noSelect ops = true) :
    ∀ (ord : List (Nat × Nat)) (listed : Array Bool) (f : Fr) (w : World), listed.size = ops.size → Closed ops listed → ordOk ops H ord listed = true → Ro P n ops S K ord f w →
      wpE P ops H (QK n K) S ord.length listed (act n f) w := by
  intro ord
  induction ord with
  | nil =>
    intro listed f w _ _ hok h
    exact ⟨by simpa [ordOk] using hok, ⟨f, rfl, h⟩⟩
  | cons ik rest ih =>
    obtain ⟨i, k⟩ := ik
    intro listed f w hsz hcl hok h
    unfold Ro at h
    obtain ⟨o, ho, h⟩ := h
    have hput : ∀ v, (act n f).put o.dst v = act n (updO f o.dst v) := act_put n f o.dst
    match k, hok with
    | 0, hok =>
      simp only [ordOk, Bool.and_eq_true] at hok
      obtain ⟨⟨⟨hr, hfree⟩, hHi⟩, hok⟩ := hok
      have hr' : i ∈ Region.ready .any ops listed := by simpa using hr
      by_cases hw : want n ops f o = true
      · rw [if_pos hw] at h
        unfold R1 at h
        rw [if_pos rfl] at h
        obtain ⟨v, hv, hk⟩ := h
        refine wpE_first hT (fun _ _ h => h) (.inl hHi) ho (Region.noSelect_spec hsel) (fun _ _ _ h => h) _ listed (act n f) w hsz hcl (Region.free_spec ho hfree) hr' (v := v) (.inl ⟨hw, fun w' hs => ?_⟩) ?_
        · rw [act_eval]; exact hv w' hs
        · rw [hput]; exact ih _ _ _ (by simp [hsz]) (closed_set hcl hr') hok hk
      · rw [if_neg hw] at h
        refine wpE_first hT (fun _ _ h => h) (.inl hHi) ho (Region.noSelect_spec hsel) (fun _ _ _ h => h) _ listed (act n f) w hsz hcl (Region.free_spec ho hfree) hr' (v := undef) (.inr ⟨by simpa [want] using hw, rfl⟩) ?_
        rw [hput]; exact ih _ _ _ (by simp [hsz]) (closed_set hcl hr') hok h
    | 1, hok =>
      simp only [ordOk, Bool.and_eq_true, beq_iff_eq] at hok
      refine ⟨fun h0 => by simp [h0] at hok, fun j hj => ?_⟩
      have hrj := hj
      rw [hok.1] at hj
      obtain rfl : j = i := by simpa using hj
      unfold Go.wpOp
      simp only [ho]
      change (if want n ops f o = true then _ else _)
      by_cases hw : want n ops f o = true
      · rw [if_pos hw] at h ⊢
        refine .inl (Oper.wp_mono (fun a' w' h' => ?_) (wp_monoQ QF_imp (h.wp (by omega))))
        obtain ⟨f', rfl, hs, hk⟩ := h'
        exact ⟨.inr (hs.resolve_left (by omega)), ih _ _ _ (by simp [hsz]) (closed_set hcl hrj) hok.2 hk⟩
      · rw [if_neg hw] at h ⊢
        exact ⟨by simp, by rw [hput]; exact ih _ _ _ (by simp [hsz]) (closed_set hcl hrj) hok.2 h⟩
    | 2, hok =>
      simp only [ordOk, Bool.and_eq_true, beq_iff_eq] at hok
      refine ⟨fun h0 => by simp [h0] at hok, fun j hj => ?_⟩
      have hrj := hj
      rw [hok.1.1] at hj
      obtain rfl : j = i := by simpa using hj
      unfold Go.wpOp
      simp only [ho]
      change (if want n ops f o = true then _ else _)
      by_cases hw : want n ops f o = true
      · rw [if_pos hw] at h ⊢
        refine .inl (Oper.wp_mono (fun a' w' h' => ?_) (wp_monoQ QF_imp (h.wp (by omega))))
        obtain ⟨f', rfl, hs, hk⟩ := h'
        exact ⟨.inl hok.1.2, ih _ _ _ (by simp [hsz]) (closed_set hcl hrj) hok.2 hk⟩
      · rw [if_neg hw] at h ⊢
        exact ⟨.inl hok.1.2, by rw [hput]; exact ih _ _ _ (by simp [hsz]) (closed_set hcl hrj) hok.2 h⟩
    | 3, hok =>
      simp only [ordOk, Bool.and_eq_true] at hok
      obtain ⟨⟨hr, hfree⟩, hok⟩ := hok
      have hr' : i ∈ Region.ready .any ops listed := by simpa using hr
      by_cases hw : want n ops f o = true
      · rw [if_pos hw] at h
        unfold R1 at h
        rw [if_neg (by decide), if_pos rfl] at h
        obtain ⟨v, hv, hk⟩ := h
        refine wpE_first top_trans (fun _ _ _ => trivial) (.inr fun _ _ => trivial) ho (Region.noSelect_spec hsel) (fun _ _ _ h => h) _ listed (act n f) w hsz hcl (Region.free_spec ho hfree) hr' (v := v) (.inl ⟨hw, fun w' hs => ?_⟩) ?_
        · rw [act_eval]; exact hv w'
        · rw [hput]; exact ih _ _ _ (by simp [hsz]) (closed_set hcl hr') hok hk
      · rw [if_neg hw] at h
        refine wpE_first top_trans (fun _ _ _ => trivial) (.inr fun _ _ => trivial) ho (Region.noSelect_spec hsel) (fun _ _ _ h => h) _ listed (act n f) w hsz hcl (Region.free_spec ho hfree) hr' (v := undef) (.inr ⟨by simpa [want] using hw, rfl⟩) ?_
        rw [hput]; exact ih _ _ _ (by simp [hsz]) (closed_set hcl hr') hok h
    | _ + 4, hok => simp [ordOk] at hok
end

/-! code -/
def liftQ (n : Nat) (Q : Exit → Fr → World → Prop) : Exit → Act → World → Prop := fun e a w => ∃ f, a = act n f ∧ Q e f w
def W (P : Program) (n : Nat) (c : Code) (Q : Exit → Fr → World → Prop) (f : Fr) (w : World) : Prop := c.wp P (liftQ n Q) (act n f) w
def thenF (next : Fr → World → Prop) (Q : Exit → Fr → World → Prop) : Exit → Fr → World → Prop
  | .normal, f, w => next f w
  | e, f, w => Q e f w
def blockF (id : Nat) (Q : Exit → Fr → World → Prop) : Exit → Fr → World → Prop
  | .exit id', f, w => if id' = id then Q .normal f w else Q (.exit id') f w
  | e, f, w => Q e f w

section
variable {P : Program} {n : Nat} {Q : Exit → Fr → World → Prop} {f : Fr} {w : World}
theorem W_seq {x y : Code} (h : W P n x (thenF (W P n y Q) Q) f w) : W P n (.seq x y) Q f w := by
  unfold W at *
  refine wp_seq (Code.wp_mono (fun e a w hq => ?_) h)
  obtain ⟨f, rfl, hq⟩ := hq
  cases e <;> first | exact hq | exact ⟨f, rfl, hq⟩
theorem W_seqM {x y : Code} (M : Fr → World → Prop) (h1 : W P n x (thenF M Q) f w) (h2 : ∀ f w, M f w → W P n y Q f w) : W P n (.seq x y) Q f w := by
  refine W_seq (Code.wp_mono (fun e a w hq => ?_) h1)
  obtain ⟨f, rfl, hq⟩ := hq
  cases e with
  | normal => exact ⟨f, rfl, h2 f w hq⟩
  | _ => exact ⟨f, rfl, hq⟩
theorem W_skip (h : Q .normal f w) : W P n .skip Q f w := wp_skip ⟨f, rfl, h⟩
theorem W_exit {id : Nat} (h : Q (.exit id) f w) : W P n (.exit id) Q f w := wp_exit ⟨f, rfl, h⟩
theorem W_ret (h : Q .ret f w) : W P n .ret Q f w := wp_ret ⟨f, rfl, h⟩
theorem W_block {id : Nat} {c : Code} (h : W P n c (blockF id Q) f w) : W P n (.block id c) Q f w := by
  unfold W at *
  refine wp_block (Code.wp_mono (fun e a w hq => ?_) h)
  obtain ⟨f, rfl, hq⟩ := hq
  cases e with
  | exit id' =>
    simp only [blockF, Exit.inBlock] at hq ⊢
    split
    · rename_i h; rw [if_pos h] at hq; exact ⟨f, rfl, hq⟩
    · rename_i h; rw [if_neg h] at hq; exact ⟨f, rfl, hq⟩
  | _ => exact ⟨f, rfl, hq⟩
theorem W_cond {c : Operand} {x y : Code} {t : Bool} (hc : ev n f c = .bool t) (ht : t = true → W P n x Q f w) (hf : t = false → W P n y Q f w) : W P n (.cond c x y) Q f w :=
  wp_cond_split (by rw [act_eval]; exact hc) ht hf
theorem W_true {c : Operand} {x y : Code} (hc : ev n f c = .bool true) (ht : W P n x Q f w) : W P n (.cond c x y) Q f w := W_cond hc (fun _ => ht) (fun h => by cases h)
theorem W_false {c : Operand} {x y : Code} (hc : ev n f c = .bool false) (hf : W P n y Q f w) : W P n (.cond c x y) Q f w := W_cond hc (fun h => by cases h) (fun _ => hf)
theorem W_decT {c : Operand} {x y : Code} {p : Prop} {inst : Decidable p} (hc : ev n f c = .bool (@decide p inst)) (hp : p) (ht : W P n x Q f w) : W P n (.cond c x y) Q f w :=
  W_true (by rw [hc, decide_eq_true hp]) ht
theorem W_decF {c : Operand} {x y : Code} {p : Prop} {inst : Decidable p} (hc : ev n f c = .bool (@decide p inst)) (hp : ¬ p) (hf : W P n y Q f w) : W P n (.cond c x y) Q f w :=
  W_false (by rw [hc, decide_eq_false hp]) hf
theorem W_seqB1 {id : Nat} {x y z : Code} (h : W P n (.seq x y) (blockF id (thenF (W P n z Q) Q)) f w) : W P n (.seq (.block id (.seq x y)) z) Q f w := W_seq (W_block h)
theorem W_seqB2 {id i : Nat} {ops : Array Oper} {b : Bool} {z : Code} (h : W P n (.region i ops b) (blockF id (thenF (W P n z Q) Q)) f w) : W P n (.seq (.block id (.region i ops b)) z) Q f w := W_seq (W_block h)
theorem W_seqB3 {id id' : Nat} {c z : Code} (h : W P n (.block id' c) (blockF id (thenF (W P n z Q) Q)) f w) : W P n (.seq (.block id (.block id' c)) z) Q f w := W_seq (W_block h)
theorem W_testT {c : Operand} {y z : Code} {p : Prop} {inst : Decidable p} (hc : ev n f c = .bool (@decide p inst)) (hp : p) (h : W P n z Q f w) : W P n (.seq (.cond c .skip y) z) Q f w :=
  W_seq (W_decT hc hp (W_skip h))
theorem W_testF {c : Operand} {x z : Code} {id : Nat} {p : Prop} {inst : Decidable p} (hc : ev n f c = .bool (@decide p inst)) (hp : ¬ p) (h : Q (.exit id) f w) : W P n (.seq (.cond c x (.exit id)) z) Q f w :=
  W_seq (W_decF hc hp (W_exit h))
theorem W_mono {c : Code} {Q' : Exit → Fr → World → Prop} (hq : ∀ e f w, Q e f w → Q' e f w) (h : W P n c Q f w) : W P n c Q' f w :=
  Code.wp_mono (fun e _ w ⟨f, ha, h⟩ => ⟨f, ha, hq e f w h⟩) h
theorem W_loop {c : Code} (I : Nat → Fr → World → Prop) (m₀ : Nat) (h₀ : I m₀ f w)
    (round : ∀ m f w, I m f w → W P n c (thenF (fun f' w' => ∃ m', m' < m ∧ I m' f' w') Q) f w) : W P n (.loop c) Q f w := by
  unfold W
  refine wp_loop_ghost (fun m a w => ∃ f, a = act n f ∧ I m f w) m₀ ⟨f, rfl, h₀⟩ ?_
  rintro m a w ⟨f, rfl, hI⟩
  refine Code.wp_mono (fun e a w hq => ?_) (round m f w hI)
  obtain ⟨f', rfl, hq⟩ := hq
  cases e with
  | normal => obtain ⟨m', hm, hI'⟩ := hq; exact ⟨m', hm, f', rfl, hI'⟩
  | _ => exact ⟨f', rfl, hq⟩
theorem W_region {id : Nat} {l : List Oper} (h : Rl P n l.toArray (fun f w => Q .normal f w) l f w) : W P n (.region id l.toArray false) Q f w :=
  wp_region_lit (Rl_sound (fun f _ h => ⟨f, rfl, h⟩) l f w h)
theorem W_draw {id : Nat} {ops : Array Oper} (S : World → World → Prop) (hT : ∀ a b c, S a b → S b c → S a c) (ord : List (Nat × Nat)) (hm : P.follows .mixedOrders = true)
    (hlen : (ord.length == ops.size && Region.noSelect ops && ordOk ops (hot ord) ord (Array.replicate ops.size false)) = true)
    (h : Ro P n ops S (fun f w => Q .normal f w) ord f { w with drawn := w.drawn + 1 }) : W P n (.region id ops true) Q f w := by
  simp only [Bool.and_eq_true, beq_iff_eq] at hlen
  have h1 := Ro_sound (n := n) hT hlen.1.2 ord _ f _ (by simp) (closed_none ops) hlen.2 h
  rw [hlen.1.1] at h1
  refine Code.wp_mono (fun e a w hq => ?_) (wp_region_any hm (wpE_any _ _ _ _ h1))
  cases e <;> first | exact hq | exact hq.elim
theorem calls_W {g : FuncId} {fn : Func} {c : Code} {args : Array Value} {R : Ending → World → Prop} (hf : P.funcs[g]? = some fn) (hb : fn.body = some c) (hn : fn.ntmps = n) (ha : args.size ≤ n)
    (h : W P n c (fun e f w => bodyPost P fn R e (act n f) w) (fun i => args.getD i undef) w) : Calls P g args w R := by
  refine calls_of_wp hf hb (Code.wp_mono (Q := liftQ n (fun e f w => bodyPost P fn R e (act n f) w)) (fun e a w hq => ?_) ?_)
  · obtain ⟨f, rfl, hq⟩ := hq; exact hq
  · have e : ({ tmps := args ++ Array.replicate (fn.ntmps - args.size) undef, defers := [] } : Act) = act n (fun i => args.getD i undef) := by
      unfold act
      congr 1
      apply Array.ext_getElem?
      intro i
      rw [hn]
      by_cases h1 : i < args.size
      · have : i < n := by omega
        simp [Array.getElem?_append, h1, this]
      · by_cases h2 : i < n
        · have : i - args.size < n - args.size := by omega
          simp [Array.getElem?_append, h1, h2, this]
        · have : ¬ i - args.size < n - args.size := by omega
          simp [Array.getElem?_append, h1, h2, this]
    rw [e]
    exact h
end

section
variable {Q : Exit → Fr → World → Prop} {next : Fr → World → Prop} {id id' : Nat} {f : Fr} {w : World}
theorem thenF_fun : (fun f w => thenF next Q .normal f w) = next := rfl
theorem T_normal (h : next f w) : thenF next Q .normal f w := h
theorem T_exit (h : Q (.exit id) f w) : thenF next Q (.exit id) f w := h
theorem T_ret (h : Q .ret f w) : thenF next Q .ret f w := h
theorem B_normal (h : Q .normal f w) : blockF id Q .normal f w := h
theorem B_ret (h : Q .ret f w) : blockF id Q .ret f w := h
theorem B_same (h : Q .normal f w) : blockF id Q (.exit id) f w := by simp [blockF, h]
theorem B_other (hne : Nat.beq id' id = false) (h : Q (.exit id') f w) : blockF id Q (.exit id') f w := by
  have : id' ≠ id := fun e => by rw [e, Nat.beq_refl] at hne; cases hne
  simp [blockF, this, h]
end


attribute [irreducible] W R1 Rl Ro thenF blockF
end Go.Eng
