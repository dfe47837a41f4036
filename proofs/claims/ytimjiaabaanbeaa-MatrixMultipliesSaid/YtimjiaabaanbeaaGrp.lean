/- Regions that draw their order and have several loud operations ready at once: a group that is run in any order, with one obligation for each of its operations. -/
import Derived.Test.YtimjiaabaanbeaaApp
namespace Go.Eng
open Go

/-- runs a stretch of an order -/
def runOk (ops : Array Oper) (H : List Nat) : List (Nat × Nat) → Array Bool → Option (Array Bool)
  | [], x => some x
  | (i, 0) :: rest, x => if (Region.ready .any ops x).contains i && Region.free .any ops x i && H.contains i then runOk ops H rest (x.setIfInBounds i true) else none
  | (i, 1) :: rest, x => if Region.ready .any ops x == [i] then runOk ops H rest (x.setIfInBounds i true) else none
  | (i, 2) :: rest, x => if Region.ready .any ops x == [i] && bar ops H x i then runOk ops H rest (x.setIfInBounds i true) else none
  | (i, 3) :: rest, x => if (Region.ready .any ops x).contains i && Region.free .any ops x i then runOk ops H rest (x.setIfInBounds i true) else none
  | (_, _ + 4) :: _, _ => none

/-- a member of a group: its operation, the quiet ones that follow it, the members that it needs -/
abbrev Mem' := Nat × List (Nat × Nat) × List Nat

def grpOk (ops : Array Oper) (H : List Nat) (G : List Mem') (suf : List (Nat × Nat)) : Nat → Array Bool → List Nat → Nat → Bool
  | 0, x, L, fuel => G.all (fun g => L.contains g.1) && suf.length == fuel && ordOk ops H suf x
  | k + 1, x, L, fuel => !(Region.ready .any ops x).isEmpty && (Region.ready .any ops x).all fun r =>
      match G.find? (fun g => g.1 == r) with
      | none => false
      | some (i, qs, nd) => i == r && !L.contains i && nd.all (fun d => L.contains d) && Nat.ble (qs.length + 1) fuel &&
        match runOk ops H qs (x.setIfInBounds i true) with
        | none => false
        | some x' => grpOk ops H G suf k x' (i :: L) (fuel - 1 - qs.length)

section
variable {P : Program} {ops : Array Oper} {H : List Nat} {S : World → World → Prop} {n : Nat}

theorem runOk_size : ∀ (ord : List (Nat × Nat)) (x x' : Array Bool), runOk ops H ord x = some x' → x'.size = x.size := by
  intro ord
  induction ord with
  | nil => intro x x' h; cases h; rfl
  | cons ik rest ih =>
    obtain ⟨i, k⟩ := ik
    intro x x' h
    match k, h with
    | 0, h => simp only [runOk] at h; split at h <;> first | exact (ih _ _ h).trans (by simp) | cases h
    | 1, h => simp only [runOk] at h; split at h <;> first | exact (ih _ _ h).trans (by simp) | cases h
    | 2, h => simp only [runOk] at h; split at h <;> first | exact (ih _ _ h).trans (by simp) | cases h
    | 3, h => simp only [runOk] at h; split at h <;> first | exact (ih _ _ h).trans (by simp) | cases h
    | _ + 4, h => simp [runOk] at h

theorem runOk_closed : ∀ (ord : List (Nat × Nat)) (x x' : Array Bool), Closed ops x → runOk ops H ord x = some x' → Closed ops x' := by
  intro ord
  induction ord with
  | nil => intro x x' hc h; cases h; exact hc
  | cons ik rest ih =>
    obtain ⟨i, k⟩ := ik
    intro x x' hc h
    match k, h with
    | 0, h =>
      simp only [runOk] at h
      split at h
      · rename_i hh
        simp only [Bool.and_eq_true] at hh
        exact ih _ _ (closed_set hc (by simpa using hh.1.1)) h
      · cases h
    | 1, h =>
      simp only [runOk] at h
      split at h
      · rename_i hh
        have hh : Region.ready .any ops x = [i] := by simpa using hh
        exact ih _ _ (closed_set hc (by rw [hh]; exact List.mem_singleton.2 rfl)) h
      · cases h
    | 2, h =>
      simp only [runOk] at h
      split at h
      · rename_i hh
        simp only [Bool.and_eq_true, beq_iff_eq] at hh
        exact ih _ _ (closed_set hc (by rw [hh.1]; exact List.mem_singleton.2 rfl)) h
      · cases h
    | 3, h =>
      simp only [runOk] at h
      split at h
      · rename_i hh
        simp only [Bool.and_eq_true] at hh
        exact ih _ _ (closed_set hc (by simpa using hh.1)) h
      · cases h
    | _ + 4, h => simp [runOk] at h

theorem Ro_pre {K K0 : Fr → World → Prop} (hT : ∀ a b c, S a b → S b c → S a c) (hsel : Region.noSelect ops = true) {fuel : Nat} {x' : Array Bool}
    (hK : ∀ f w, K f w → wpE P ops H (QK n K0) S fuel x' (act n f) w) :
    ∀ (ord : List (Nat × Nat)) (x : Array Bool) (f : Fr) (w : World), x.size = ops.size → Closed ops x → runOk ops H ord x = some x' → Ro P n ops S K ord f w →
      wpE P ops H (QK n K0) S (ord.length + fuel) x (act n f) w := by
  intro ord
  induction ord with
  | nil =>
    intro x f w _ _ hok h
    unfold Ro at h
    cases hok
    rw [List.length_nil, Nat.zero_add]
    exact hK f w h
  | cons ik rest ih =>
    obtain ⟨i, k⟩ := ik
    intro x f w hsz hcl hok h
    unfold Ro at h
    obtain ⟨o, ho, h⟩ := h
    have hput : ∀ v, (act n f).put o.dst v = act n (updO f o.dst v) := act_put n f o.dst
    have el : (List.length ((i, k) :: rest)) + fuel = (rest.length + fuel) + 1 := by simp only [List.length_cons]; omega
    rw [el]
    match k, hok with
    | 0, hok =>
      simp only [runOk] at hok
      split at hok
      case isFalse => cases hok
      rename_i hc
      simp only [Bool.and_eq_true] at hc
      obtain ⟨⟨hr, hfree⟩, hHi⟩ := hc
      have hr' : i ∈ Region.ready .any ops x := by simpa using hr
      by_cases hw : want n ops f o = true
      · rw [if_pos hw] at h
        unfold R1 at h
        rw [if_pos rfl] at h
        obtain ⟨v, hv, hk⟩ := h
        refine wpE_first hT (fun _ _ h => h) (.inl hHi) ho (Region.noSelect_spec hsel) (fun _ _ _ h => h) _ x (act n f) w hsz hcl (Region.free_spec ho hfree) hr' (v := v) (.inl ⟨hw, fun w' hs => ?_⟩) ?_
        · rw [act_eval]; exact hv w' hs
        · rw [hput]; exact ih _ _ _ (by simp [hsz]) (closed_set hcl hr') hok hk
      · rw [if_neg hw] at h
        refine wpE_first hT (fun _ _ h => h) (.inl hHi) ho (Region.noSelect_spec hsel) (fun _ _ _ h => h) _ x (act n f) w hsz hcl (Region.free_spec ho hfree) hr' (v := undef) (.inr ⟨by simpa [want] using hw, rfl⟩) ?_
        rw [hput]; exact ih _ _ _ (by simp [hsz]) (closed_set hcl hr') hok h
    | 1, hok =>
      simp only [runOk] at hok
      split at hok
      case isFalse => cases hok
      rename_i hc
      have hc : Region.ready .any ops x = [i] := by simpa using hc
      refine ⟨fun h0 => by simp [h0] at hc, fun j hj => ?_⟩
      have hrj := hj
      rw [hc] at hj
      obtain rfl : j = i := by simpa using hj
      unfold Go.wpOp
      simp only [ho]
      change (if want n ops f o = true then _ else _)
      by_cases hw : want n ops f o = true
      · rw [if_pos hw] at h ⊢
        refine .inl (Oper.wp_mono (fun a' w' h' => ?_) (wp_monoQ QF_imp (h.wp (by omega))))
        obtain ⟨f', rfl, hs, hk⟩ := h'
        exact ⟨.inr (hs.resolve_left (by omega)), ih _ _ _ (by simp [hsz]) (closed_set hcl hrj) hok hk⟩
      · rw [if_neg hw] at h ⊢
        exact ⟨by simp, by rw [hput]; exact ih _ _ _ (by simp [hsz]) (closed_set hcl hrj) hok h⟩
    | 2, hok =>
      simp only [runOk] at hok
      split at hok
      case isFalse => cases hok
      rename_i hc
      simp only [Bool.and_eq_true, beq_iff_eq] at hc
      refine ⟨fun h0 => by simp [h0] at hc, fun j hj => ?_⟩
      have hrj := hj
      rw [hc.1] at hj
      obtain rfl : j = i := by simpa using hj
      unfold Go.wpOp
      simp only [ho]
      change (if want n ops f o = true then _ else _)
      by_cases hw : want n ops f o = true
      · rw [if_pos hw] at h ⊢
        refine .inl (Oper.wp_mono (fun a' w' h' => ?_) (wp_monoQ QF_imp (h.wp (by omega))))
        obtain ⟨f', rfl, hs, hk⟩ := h'
        exact ⟨.inl hc.2, ih _ _ _ (by simp [hsz]) (closed_set hcl hrj) hok hk⟩
      · rw [if_neg hw] at h ⊢
        exact ⟨.inl hc.2, by rw [hput]; exact ih _ _ _ (by simp [hsz]) (closed_set hcl hrj) hok h⟩
    | 3, hok =>
      simp only [runOk] at hok
      split at hok
      case isFalse => cases hok
      rename_i hc
      simp only [Bool.and_eq_true] at hc
      obtain ⟨hr, hfree⟩ := hc
      have hr' : i ∈ Region.ready .any ops x := by simpa using hr
      by_cases hw : want n ops f o = true
      · rw [if_pos hw] at h
        unfold R1 at h
        rw [if_neg (by decide), if_pos rfl] at h
        obtain ⟨v, hv, hk⟩ := h
        refine wpE_first top_trans (fun _ _ _ => trivial) (.inr fun _ _ => trivial) ho (Region.noSelect_spec hsel) (fun _ _ _ h => h) _ x (act n f) w hsz hcl (Region.free_spec ho hfree) hr' (v := v) (.inl ⟨hw, fun w' hs => ?_⟩) ?_
        · rw [act_eval]; exact hv w'
        · rw [hput]; exact ih _ _ _ (by simp [hsz]) (closed_set hcl hr') hok hk
      · rw [if_neg hw] at h
        refine wpE_first top_trans (fun _ _ _ => trivial) (.inr fun _ _ => trivial) ho (Region.noSelect_spec hsel) (fun _ _ _ h => h) _ x (act n f) w hsz hcl (Region.free_spec ho hfree) hr' (v := undef) (.inr ⟨by simpa [want] using hw, rfl⟩) ?_
        rw [hput]; exact ih _ _ _ (by simp [hsz]) (closed_set hcl hr') hok h
    | _ + 4, hok => simp [runOk] at hok

/-- the group, then the rest -/
def Rg (P : Program) (n : Nat) (ops : Array Oper) (S : World → World → Prop) (G : List Mem') (suf : List (Nat × Nat)) (K : Fr → World → Prop) (f : Fr) (w : World) : Prop :=
  ∃ Inv : List Nat → Fr → World → Prop, Inv [] f w ∧
    (∀ i qs nd, (i, qs, nd) ∈ G → ∀ L f w, (nd.all fun d => L.contains d) = true → L.contains i = false → Inv L f w → Ro P n ops S (Inv (i :: L)) ((i, 1) :: qs) f w) ∧
    (∀ L f w, (G.all fun g => L.contains g.1) = true → Inv L f w → Ro P n ops S K suf f w)

theorem Rg_sound {K : Fr → World → Prop} {G : List Mem'} {suf : List (Nat × Nat)} (hT : ∀ a b c, S a b → S b c → S a c) (hsel : Region.noSelect ops = true) {Inv : List Nat → Fr → World → Prop}
    (hG : ∀ i qs nd, (i, qs, nd) ∈ G → ∀ L f w, (nd.all fun d => L.contains d) = true → L.contains i = false → Inv L f w → Ro P n ops S (Inv (i :: L)) ((i, 1) :: qs) f w)
    (hS : ∀ L f w, (G.all fun g => L.contains g.1) = true → Inv L f w → Ro P n ops S K suf f w) :
    ∀ (k : Nat) (x : Array Bool) (L : List Nat) (fuel : Nat) (f : Fr) (w : World), x.size = ops.size → Closed ops x → grpOk ops H G suf k x L fuel = true → Inv L f w → wpE P ops H (QK n K) S fuel x (act n f) w := by
  intro k
  induction k with
  | zero =>
    intro x L fuel f w hsz hcl hok hI
    simp only [grpOk, Bool.and_eq_true, beq_iff_eq] at hok
    obtain ⟨⟨h1, rfl⟩, h3⟩ := hok
    exact Ro_sound hT hsel suf x f w hsz hcl h3 (hS L f w h1 hI)
  | succ k ih =>
    intro x L fuel f w hsz hcl hok hI
    simp only [grpOk, Bool.and_eq_true, List.all_eq_true] at hok
    obtain ⟨hne, hall⟩ := hok
    rcases fuel with _ | fuel
    · exfalso
      rcases hr : Region.ready .any ops x with _ | ⟨r, t⟩
      · rw [hr] at hne; cases hne
      · have h := hall r (by rw [hr]; exact List.mem_cons_self)
        split at h
        · cases h
        · simp [Nat.ble_eq] at h
    refine ⟨fun h0 => absurd hne (by rw [h0]; simp), fun j hj => ?_⟩
    have h := hall j hj
    split at h
    · cases h
    rename_i i qs nd hfind
    simp only [Bool.and_eq_true, beq_iff_eq, Nat.ble_eq, Bool.not_eq_true'] at h
    obtain ⟨⟨⟨⟨rfl, hnc⟩, hnd⟩, hle⟩, h⟩ := h
    split at h
    · cases h
    rename_i x' hrun
    have hmem := List.mem_of_find?_eq_some hfind
    have hro := hG i qs nd hmem L f w hnd hnc hI
    have hx' := runOk_size _ _ _ hrun
    have hcont : ∀ f' w', Ro P n ops S (Inv (i :: L)) qs f' w' → wpE P ops H (QK n K) S fuel (x.setIfInBounds i true) (act n f') w' := fun f' w' hk => by
      have := Ro_pre (K0 := K) hT hsel (fun f'' w'' hI'' => ih x' (i :: L) (fuel + 1 - 1 - qs.length) f'' w'' (by rw [hx']; simp [hsz]) (runOk_closed _ _ _ (closed_set hcl hj) hrun) h hI'') qs (x.setIfInBounds i true) f' w' (by simp [hsz]) (closed_set hcl hj) hrun hk
      rw [show qs.length + (fuel + 1 - 1 - qs.length) = fuel by omega] at this
      exact this
    unfold Ro at hro
    obtain ⟨o, ho, hro⟩ := hro
    have hput : ∀ v, (act n f).put o.dst v = act n (updO f o.dst v) := act_put n f o.dst
    unfold Go.wpOp
    simp only [ho]
    change (if want n ops f o = true then _ else _)
    by_cases hw : want n ops f o = true
    · rw [if_pos hw] at hro ⊢
      refine .inl (Oper.wp_mono (fun a' w' h' => ?_) (wp_monoQ QF_imp (hro.wp (by omega))))
      obtain ⟨f', rfl, hs, hk⟩ := h'
      exact ⟨.inr (hs.resolve_left (by omega)), hcont _ _ hk⟩
    · rw [if_neg hw] at hro ⊢
      exact ⟨by simp, by rw [hput]; exact hcont _ _ hro⟩

/-- the check of a region with a group -/
def regOk (ops : Array Oper) (pre : List (Nat × Nat)) (G : List Mem') (suf : List (Nat × Nat)) : Bool :=
  Region.noSelect ops && Nat.ble pre.length ops.size &&
    match runOk ops (hot pre ++ (G.map fun g => hot g.2.1).flatten ++ hot suf) pre (Array.replicate ops.size false) with
    | none => false
    | some x => grpOk ops (hot pre ++ (G.map fun g => hot g.2.1).flatten ++ hot suf) G suf G.length x [] (ops.size - pre.length)

theorem W_drawG {Q : Exit → Fr → World → Prop} {id : Nat} {f : Fr} {w : World} (hT : ∀ a b c, S a b → S b c → S a c) (pre : List (Nat × Nat)) (G : List Mem') (suf : List (Nat × Nat)) (hm : P.follows .mixedOrders = true)
    (hok : regOk ops pre G suf = true)
    (h : Ro P n ops S (Rg P n ops S G suf (fun f w => Q .normal f w)) pre f { w with drawn := w.drawn + 1 }) : W P n (.region id ops true) Q f w := by
  simp only [regOk, Bool.and_eq_true, Nat.ble_eq] at hok
  obtain ⟨⟨hsel, hle⟩, hok⟩ := hok
  split at hok
  · cases hok
  rename_i x hrun
  have hx := runOk_size _ _ _ hrun
  have h1 := Ro_pre (K0 := fun f w => Q .normal f w) hT hsel (fun f' w' ⟨Inv, hI, hG, hS⟩ => Rg_sound hT hsel hG hS _ x [] _ f' w' (by rw [hx]; simp) (runOk_closed _ _ _ (closed_none ops) hrun) hok hI) pre _ f _ (by simp) (closed_none ops) hrun h
  rw [show pre.length + (ops.size - pre.length) = ops.size by omega] at h1
  unfold W
  refine Code.wp_mono (fun e a w hq => ?_) (wp_region_any hm (wpE_any _ _ _ _ h1))
  cases e <;> first | exact hq | exact hq.elim

theorem W_seqG {Q : Exit → Fr → World → Prop} {id : Nat} {ops : Array Oper} {c : Code} {f : Fr} {w : World} (pre : List (Nat × Nat)) (G : List Mem') (suf : List (Nat × Nat)) (hm : P.follows .mixedOrders = true)
    (hok : regOk ops pre G suf = true)
    (h : ∀ w', Ext w w' → w'.heap = w.heap → Ro P n ops Ext (Rg P n ops Ext G suf (W P n c Q)) pre f w') : W P n (.seq (.region id ops true) c) Q f w :=
  W_seq (W_drawG Ext_trans pre G suf hm hok (by rw [thenF_fun]; exact h _ (ch_drew w) rfl))
end
attribute [irreducible] Rg
theorem Rg_intro {P : Program} {n : Nat} {ops : Array Oper} {S : World → World → Prop} {G : List Mem'} {suf : List (Nat × Nat)} {K : Fr → World → Prop} {f : Fr} {w : World}
    (Inv : List Nat → Fr → World → Prop) (h0 : Inv [] f w)
    (hG : ∀ i qs nd, (i, qs, nd) ∈ G → ∀ L f w, (nd.all fun d => L.contains d) = true → L.contains i = false → Inv L f w → Ro P n ops S (Inv (i :: L)) ((i, 1) :: qs) f w)
    (hS : ∀ L f w, (G.all fun g => L.contains g.1) = true → Inv L f w → Ro P n ops S K suf f w) : Rg P n ops S G suf K f w := by
  unfold Rg; exact ⟨Inv, h0, hG, hS⟩
end Go.Eng
