/- Joined: Lxd. -/
import Derived.Test.YtcjhcefnedonlaaQza
import Derived.Test.YtcjhcefnedonlaaQmc
/- sameStages; the law BareissStages. -/
namespace Go.Proofs.Ytcjhcefnedonlaa
open Go Go.Eng Go.Num Go.Proofs
open Go.Det (stg)

/-- a list of square matrices, each smaller by one -/
def SLs (N : Nat) (w : World) (v : Value) (m n : Nat) (X : Nat → Nat → Nat → Int) : Prop :=
  ∃ A cap, v = .slice A m cap ∧ ∀ q, q < m → ∃ ad u, A = some ad ∧ w.cell? (ad.add (q * 1)) = some u ∧ MatE (EC N) w u (n - q) (fun _ => n - q) (X q)
theorem SLs.ext {N : Nat} {w w' : World} {v : Value} {m n : Nat} {X : Nat → Nat → Nat → Int} (h : SLs N w v m n X) (hE : Ext w w') : SLs N w' v m n X := by
  obtain ⟨A, cap, e, h⟩ := h
  refine ⟨A, cap, e, fun q hq => ?_⟩
  obtain ⟨ad, u, e, hc, hm⟩ := h q hq
  exact ⟨ad, u, e, cell_ext hE hc, hm.extC hE⟩
theorem SLs.nil {N : Nat} {w : World} {n : Nat} {X : Nat → Nat → Nat → Int} : SLs N w (.slice none 0 0) 0 n X := ⟨_, _, rfl, fun q hq => absurd hq (by omega)⟩
theorem TMat.readC {w : World} {gO gE r c N : Nat} {ps : Nat → Nat} {M : Nat → Nat → Int} (h : TMat w gO gE ps r c true N M) (hr : r < 9223372036854775808) (hc : c < 9223372036854775808) : MatE (EC N) w (.slice (some ⟨gO, 0, none⟩) r r) r (fun _ => c) M :=
  ⟨_, _, rfl, Nat.le_refl _, hr, fun i hi => ⟨_, _, rfl, by rw [add_lit]; exact h.at hi, _, _, rfl, Nat.le_refl _, hc, fun j hj => by
    obtain ⟨x, y, e1, e2, hv⟩ := h.entry hi hj
    exact ⟨_, x, y, rfl, by rw [add_lit]; exact e1, by rw [add_lit]; exact e2, hv.2 rfl, hv.bd⟩⟩⟩
theorem WMat.readC {w : World} {gO r c N : Nat} {gs : Nat → Nat} {M : Nat → Nat → Int} (h : WMat w gO gs r c true (fun _ _ => N) M) (hr : r < 9223372036854775808) (hc : c < 9223372036854775808) : MatE (EC N) w (.slice (some ⟨gO, 0, none⟩) r r) r (fun _ => c) M :=
  ⟨_, _, rfl, Nat.le_refl _, hr, fun i hi => ⟨_, _, rfl, by rw [add_lit]; exact h.at hi, _, _, rfl, Nat.le_refl _, hc, fun j hj => by
    obtain ⟨x, y, e1, e2, hv⟩ := (h.row i hi).at hj
    exact ⟨_, x, y, rfl, by rw [add_lit]; exact e1, by rw [add_lit]; exact e2, hv.2 rfl, hv.bd⟩⟩⟩
theorem StL.ls {w : World} {v : Value} {n N : Nat} {M : Nat → Nat → Int} {gos ges : Nat → Nat} (h : StL w v n n N M gos ges) (hn : n ≤ 16) : SLs (Nb N 16) w v n n (stg M) := by
  obtain ⟨A, c, e, _⟩ := h.1.slice
  refine ⟨A, c, e, fun q hq => ?_⟩
  obtain ⟨g, cap, e', hc⟩ := h.1.at hq
  rw [e] at e'
  injection e' with e1 _ _
  exact ⟨_, _, e1, by rw [add_lit]; exact hc, ((h.2 q hq).congr (Nb_le16 N q (by omega)) fun _ _ _ _ => rfl).readC (by omega) (by omega)⟩
theorem StR.ls {w : World} {v : Value} {n N : Nat} {M : Nat → Nat → Int} {gos : Nat → Nat} {gss : Nat → Nat → Nat} (h : StR w v n n N M gos gss) (hn : n ≤ 16) : SLs N w v n n (stR M) := by
  obtain ⟨A, c, e, _⟩ := h.1.slice
  refine ⟨A, c, e, fun q hq => ?_⟩
  obtain ⟨g, cap, e', hc⟩ := h.1.at hq
  rw [e] at e'
  injection e' with e1 _ _
  exact ⟨_, _, e1, by rw [add_lit]; exact hc, (h.2 q hq).readC (by omega) (by omega)⟩

/-- the stages of both sides -/
theorem ok_st {n : Nat} {M : Nat → Nat → Int} : okSt n M ↔ okLd n M := by
  constructor
  · intro h q hq
    rw [← stg_ld2 q fun p hp => h p (by omega)]
    exact h q hq
  · intro h q hq
    rw [stg_ld fun p hp => h p (by omega)]
    exact h q hq
theorem st_eq {n : Nat} {M : Nat → Nat → Int} (h : okLd n M) (q i j : Nat) (hq : q < n) : stg M q i j = stR M q i j :=
  (Go.Det.stg_bm M q fun p h1 h2 => by
    have := h (p - 1) (by omega)
    unfold ldM at this
    rwa [show p - 1 + 1 = p by omega] at this).1 i j
/-- a list of stages and a bool -/
def RSs (w : World) (N m n : Nat) (b : Bool) (X : Nat → Nat → Nat → Int) (v : Value) (w' : World) : Prop :=
  ∃ A c, v = .tuple #[.slice A m c, .bool b] ∧ Ext w w' ∧ SLs N w' (.slice A m c) m n X
theorem RSt.s {w w' : World} {p : Prop} {n N : Nat} {M : Nat → Nat → Int} {v : Value} (hp : p → n ≤ 16) (h : RSt w p n N M v w') : ∃ b : Bool, (b = true ↔ p) ∧ RSs w (Nb N 16) (if b then n else 0) n b (stg M) v w' := by
  obtain ⟨hE, ⟨hn, rfl⟩ | ⟨h, u, gos, ges, rfl, hS⟩⟩ := h
  · exact ⟨false, ⟨fun h => (by cases h), fun h => absurd h hn⟩, _, _, rfl, hE, SLs.nil⟩
  · obtain ⟨A, c, rfl, _⟩ := hS.1.slice
    exact ⟨true, ⟨fun _ => h, fun _ => rfl⟩, _, _, rfl, hE, hS.ls (hp h)⟩
theorem RStR.s {w w' : World} {p : Prop} {n N : Nat} {M : Nat → Nat → Int} {v : Value} (hp : p → n ≤ 16) (h : RStR w p n N M v w') : ∃ b : Bool, (b = true ↔ p) ∧ RSs w N (if b then n else 0) n b (stR M) v w' := by
  obtain ⟨hE, ⟨hn, rfl⟩ | ⟨h, u, gos, ges, rfl, hS⟩⟩ := h
  · exact ⟨false, ⟨fun h => (by cases h), fun h => absurd h hn⟩, _, _, rfl, hE, SLs.nil⟩
  · obtain ⟨A, c, rfl, _⟩ := hS.1.slice
    exact ⟨true, ⟨fun _ => h, fun _ => rfl⟩, _, _, rfl, hE, hS.ls (hp h)⟩

end Go.Proofs.Ytcjhcefnedonlaa
