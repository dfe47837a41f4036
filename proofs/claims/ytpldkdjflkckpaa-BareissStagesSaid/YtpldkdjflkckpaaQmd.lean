/- Joined: Lxd. -/
import Derived.Test.YtpldkdjflkckpaaQza
import Derived.Test.YtpldkdjflkckpaaQmc
/- sameStages; the law BareissStages. -/
namespace Go.Proofs.Ytpldkdjflkckpaa
open Go Go.Eng Go.Num Go.Proofs
open Go.Det (stg)

/-- a list of square matrices, each smaller by one -/
def SLs (N : Nat) (w : World) (v : Value) (m n : Nat) (X : Nat → Nat → Nat → Int) : Prop :=
  ∃ A cap, v = .slice A m cap ∧ ∀ q, q < m → ∃ ad u, A = some ad ∧ w.cell? (ad.add (q * 1)) = some u ∧ MatE (EC N) w u (n - q) (fun _ => n - q) (X q)
theorem SLs.ext {N : Nat} {w w' : World} {v : Value} {m n : Nat} {X : Nat → Nat → Nat → Int} (h : SLs N w v m n X) (hE : Ext w w') : SLs N w' v m n X := by
  obtain ⟨A, cap, e, h⟩ := h
  refine ⟨A, cap, e, fun q hq => ?_⟩
  obtain ⟨ad, u, e, hc, hm⟩ := h q hq
  exact ⟨ad, u, e, cell_ext hE hc, hm.extC hE⟩
theorem SLs.nil {N : Nat} {w : World} {n : Nat} {X : Nat → Nat → Nat → Int} : SLs N w (.slice none 0 0) 0 n X := ⟨_, _, rfl, fun q hq => absurd hq (by omega)⟩
theorem TMat.readC {w : World} {gO gE r c N : Nat} {ps : Nat → Nat} {M : Nat → Nat → Int} (h : TMat w gO gE ps r c true N M) (hr : r < 9223372036854775808) (hc : c < 9223372036854775808) : MatE (EC N) w (.slice (some ⟨gO, 0, none⟩) r r) r (fun _ => c) M :=
  ⟨_, _, rfl, Nat.le_refl _, hr, fun i hi => ⟨_, _, rfl, by rw [add_lit]; exact h.at hi, _, _, rfl, Nat.le_refl _, hc, fun j hj => by
    obtain ⟨x, y, e1, e2, hv⟩ := h.entry hi hj
    exact ⟨_, x, y, rfl, by rw [add_lit]; exact e1, by rw [add_lit]; exact e2, hv.2 rfl, hv.bd⟩⟩⟩
theorem WMat.readC {w : World} {gO r c N : Nat} {gs : Nat → Nat} {M : Nat → Nat → Int} (h : WMat w gO gs r c true (fun _ _ => N) M) (hr : r < 9223372036854775808) (hc : c < 9223372036854775808) : MatE (EC N) w (.slice (some ⟨gO, 0, none⟩) r r) r (fun _ => c) M :=
  ⟨_, _, rfl, Nat.le_refl _, hr, fun i hi => ⟨_, _, rfl, by rw [add_lit]; exact h.at hi, _, _, rfl, Nat.le_refl _, hc, fun j hj => by
    obtain ⟨x, y, e1, e2, hv⟩ := (h.row i hi).at hj
    exact ⟨_, x, y, rfl, by rw [add_lit]; exact e1, by rw [add_lit]; exact e2, hv.2 rfl, hv.bd⟩⟩⟩
theorem StL.ls {w : World} {v : Value} {n N : Nat} {M : Nat → Nat → Int} {gos ges : Nat → Nat} (h : StL w v n n N M gos ges) (hn : n ≤ 16) : SLs (Nb N 16) w v n n (stg M) := by
  obtain ⟨A, c, e, _⟩ := h.1.slice
  refine ⟨A, c, e, fun q hq => ?_⟩
  obtain ⟨g, cap, e', hc⟩ := h.1.at hq
  rw [e] at e'
  injection e' with e1 _ _
  exact ⟨_, _, e1, by rw [add_lit]; exact hc, ((h.2 q hq).congr (Nb_le16 N q (by omega)) fun _ _ _ _ => rfl).readC (by omega) (by omega)⟩
theorem StR.ls {w : World} {v : Value} {n N : Nat} {M : Nat → Nat → Int} {gos : Nat → Nat} {gss : Nat → Nat → Nat} (h : StR w v n n N M gos gss) (hn : n ≤ 16) : SLs N w v n n (stR M) := by
  obtain ⟨A, c, e, _⟩ := h.1.slice
  refine ⟨A, c, e, fun q hq => ?_⟩
  obtain ⟨g, cap, e', hc⟩ := h.1.at hq
  rw [e] at e'
  injection e' with e1 _ _
  exact ⟨_, _, e1, by rw [add_lit]; exact hc, (h.2 q hq).readC (by omega) (by omega)⟩

set_option maxHeartbeats 16000000 in
theorem sameStages_ok (v1 v2 : Value) (m n N : Nat) (X Y : Nat → Nat → Nat → Int) (w : World) (h1 : SLs N w v1 m n X) (h2 : SLs N w v2 m n Y) (hN : N < 1099511627776) (he : ∀ q i j, q < m → i < n - q → j < n - q → X q i j = Y q i j) (hm : m ≤ 16) :
    Meets Try.prog 39 #[v1, v2] w fun v w' => Ext w w' ∧ v = .bool true := by
  obtain ⟨A1, c1, rfl, h1⟩ := h1
  obtain ⟨A2, c2, rfl, h2⟩ := h2
  refine fn_W (n := 27) Try.func39 rfl rfl (by kernel_rfl) (by simp) ?_
  refine gg ?_
  refine W_seq ?_
  refine gg ?_
  refine R1_len sl_ssInt rfl ?_
  refine gg ?_
  refine R1_len sl_ssInt rfl ?_
  refine gg ?_
  refine W_seqM (fun f w' => Ext w w') ?_ ?_
  · refine gg ?_
    refine R1_len sl_ssInt rfl ?_
    refine gg ?_
    refine W_loop (fun q f w' => ∃ k, q = m - k ∧ k ≤ m ∧ f 0 = .slice A1 m c1 ∧ f 1 = .slice A2 m c2 ∧ f 12 = .int .i64 ((m : Nat) : Int) ∧ f 13 = .int .i64 ((k : Nat) : Int) ∧ Ext w w')
      m ⟨0, rfl, Nat.zero_le _, rfl, rfl, rfl, rfl, Ext.refl _⟩ ?_
    rintro q f w1 ⟨k, rfl, hk, hf0, hf1, hf12, hf13, hE⟩
    rw [ui hf0, ui hf1, ui hf12, ui hf13]
    clear hf0 hf1 hf12 hf13
    by_cases hlt : k < m
    rotate_left
    · refine gg ?_
      exact hE
    obtain ⟨ad1, u1, rfl, hu1, hm1⟩ := h1 k hlt
    obtain ⟨ad2, u2, rfl, hu2, hm2⟩ := h2 k hlt
    obtain ⟨_, _, rfl, _⟩ := id hm1
    obtain ⟨_, _, rfl, _⟩ := id hm2
    refine gg ?_
    refine W_seqD [(0, 3), (1, 3), (2, 3), (3, 0), (4, 3), (5, 3), (6, 3), (7, 0), (8, 1), (9, 3)] mixed (by kernel_rfl) (fun w2 hE2 _ => ?_)
    have hE02 := hE.trans hE2
    have k1 := cell_ext hE02 hu1
    have k2 := cell_ext hE02 hu2
    refine gg ?_
    refine R1_index sl_ssInt rfl rfl (by omega) ?_
    refine gg ?_
    refine R1_index sl_ssInt rfl rfl (by omega) ?_
    refine gg ?_
    refine R1_call1 (rsameM_ok _ _ _ _ N _ _ _ _ w2 (hm1.extC hE02) (hm2.extC hE02) hN) ?_
    rintro _ w3 ⟨hE3, b, rfl, hb⟩
    refine ⟨hE3, ?_⟩
    obtain rfl := hb.2 ⟨rfl, fun i hi => ⟨rfl, fun j hj => he k i j hlt hi hj⟩⟩
    refine gg ?_
    refine ⟨_, ?_, k + 1, rfl, by omega, rfl, rfl, rfl, rfl, hE02.trans hE3⟩
    omega
  intro f w1 hE
  refine gg ?_
  exact ret1 (v := .bool _) rfl rfl ⟨hE, rfl⟩

/-- the stages of both sides -/
theorem ok_st {n : Nat} {M : Nat → Nat → Int} : okSt n M ↔ okLd n M := by
  constructor
  · intro h q hq
    rw [← stg_ld2 q fun p hp => h p (by omega)]
    exact h q hq
  · intro h q hq
    rw [stg_ld fun p hp => h p (by omega)]
    exact h q hq
theorem st_eq {n : Nat} {M : Nat → Nat → Int} (h : okLd n M) (q i j : Nat) (hq : q < n) : stg M q i j = stR M q i j :=
  (Go.Det.stg_bm M q fun p h1 h2 => by
    have := h (p - 1) (by omega)
    unfold ldM at this
    rwa [show p - 1 + 1 = p by omega] at this).1 i j
/-- a list of stages and a bool -/
def RSs (w : World) (N m n : Nat) (b : Bool) (X : Nat → Nat → Nat → Int) (v : Value) (w' : World) : Prop :=
  ∃ A c, v = .tuple #[.slice A m c, .bool b] ∧ Ext w w' ∧ SLs N w' (.slice A m c) m n X
theorem RSt.s {w w' : World} {p : Prop} {n N : Nat} {M : Nat → Nat → Int} {v : Value} (hp : p → n ≤ 16) (h : RSt w p n N M v w') : ∃ b : Bool, (b = true ↔ p) ∧ RSs w (Nb N 16) (if b then n else 0) n b (stg M) v w' := by
  obtain ⟨hE, ⟨hn, rfl⟩ | ⟨h, u, gos, ges, rfl, hS⟩⟩ := h
  · exact ⟨false, ⟨fun h => (by cases h), fun h => absurd h hn⟩, _, _, rfl, hE, SLs.nil⟩
  · obtain ⟨A, c, rfl, _⟩ := hS.1.slice
    exact ⟨true, ⟨fun _ => h, fun _ => rfl⟩, _, _, rfl, hE, hS.ls (hp h)⟩
theorem RStR.s {w w' : World} {p : Prop} {n N : Nat} {M : Nat → Nat → Int} {v : Value} (hp : p → n ≤ 16) (h : RStR w p n N M v w') : ∃ b : Bool, (b = true ↔ p) ∧ RSs w N (if b then n else 0) n b (stR M) v w' := by
  obtain ⟨hE, ⟨hn, rfl⟩ | ⟨h, u, gos, ges, rfl, hS⟩⟩ := h
  · exact ⟨false, ⟨fun h => (by cases h), fun h => absurd h hn⟩, _, _, rfl, hE, SLs.nil⟩
  · obtain ⟨A, c, rfl, _⟩ := hS.1.slice
    exact ⟨true, ⟨fun _ => h, fun _ => rfl⟩, _, _, rfl, hE, hS.ls (hp h)⟩

set_option maxHeartbeats 16000000 in
theorem lawStages {vx va : Value} {rx cx nx r : Nat} {nsx : Nat → Int} {len : Nat → Nat} {M : Nat → Nat → Int} {L : Nat → Nat → Nat} {w : World} (hx : GridV w vx rx cx nx nsx) (ha : MatL w va r len M L) :
    Meets Try.prog 8 #[vx, va] w (Law w) := by
  obtain ⟨Ax, capx, rfl, hx1, hx2, hx3, hx4⟩ := hx
  refine fn_W (n := 59) Try.func8 rfl rfl (by kernel_rfl) (by simp) ?_
  refine gg ?_
  refine R1_box (v := .agg _) (.inl rfl) rfl ?_
  intro w1 hB1 hE1 hs1
  have hX1 : Blk w1 w.heap.size 32 #[.int .u8 ((rx : Nat) : Int), .int .u8 ((cx : Nat) : Int), .slice Ax nx capx] := hB1
  have hGx := GridV.agg hx1 hx2 hx3 hx4
  clear hB1
  refine gg ?_
  refine W_seq ?_
  refine gg ?_
  refine R1_call2 (large4_ok va r len M L w1 (ha.ext hE1)) ?_
  rintro _ _ ⟨rfl, b, rfl, hb⟩
  cases b with
  | true =>
    refine gg ?_
    refine R1_call2 (awake4_ok w1) ?_
    rintro _ w3 ⟨hE3, rfl⟩
    refine gg ?_
    exact ret1 (v := .bool _) rfl rfl ⟨hE1.trans hE3, rfl⟩
  | false =>
    have hA := (hb rfl).e ha
    obtain ⟨x0, x1, x2⟩ := blkT hX1
    have hm1 := Nat.mod_lt rx (show 0 < 5 by decide)
    obtain ⟨n, hn⟩ : ∃ n, n = 1 + rx % 5 := ⟨_, rfl⟩
    have hn1 : 1 ≤ n := by omega
    have hn2 : n ≤ 16 := by omega
    have hnb : n < 9223372036854775808 := by omega
    obtain ⟨X, hX⟩ : ∃ X, X = gridM n nx nsx := ⟨_, rfl⟩
    have bX : ∀ i j, i < n → j < n → Bd 1 (X i j) := fun i j _ _ => by rw [hX]; exact gridM_bd hx4 _ i j
    have hr16 : okS r len = true → r ≤ 16 := fun h => (okS_iff.1 h).2.1
    refine gg ?_
    refine R1_load3F (by decide) agg_Grid rfl x0 x1 x2 ?_
    clear x0 x1 x2
    refine gg ?_
    refine R1_call2 (gridSquare_ok _ rx cx nx 5 nsx w1 (hGx w1 hE1) (by decide) (by decide)) ?_
    rintro _ w2 ⟨hE2, g, gs, rfl, _, _, hO⟩
    rw [← hn, ← hX] at hO
    rw [← hn]
    have hE02 := hE1.trans hE2
    refine gg ?_
    refine R1_call2 (stages_ok _ n 1 (fun _ => n) X w2 (hO.rd bX (Nat.le_refl _) hnb hnb) (by decide) (by decide)) ?_
    intro u w3 hu
    obtain ⟨b1, hb1, A1, c1, rfl, hE3, hR1⟩ := hu.s (fun _ => hn2)
    clear hu hO
    have hE03 := hE02.trans hE3
    obtain ⟨x0, x1, x2⟩ := blkT (hX1.ext (hE2.trans hE3))
    refine gg ?_
    refine R1_load3F (by decide) agg_Grid rfl x0 x1 x2 ?_
    clear x0 x1 x2
    refine gg ?_
    refine R1_call2 (gridSquare_ok _ rx cx nx 5 nsx w3 (hGx w3 hE03) (by decide) (by decide)) ?_
    rintro _ w4 ⟨hE4, g2, gs2, rfl, _, _, hO2⟩
    rw [← hn, ← hX] at hO2
    rw [← hn]
    refine gg ?_
    refine R1_call2 (rstages_ok _ n 1 (fun _ => n) X w4 (hO2.rd bX (Nat.le_refl _) hnb hnb) (by decide) (by decide)) ?_
    intro u w5 hu
    obtain ⟨b2, hb2, A2, c2, rfl, hE5, hR2⟩ := hu.s (fun _ => hn2)
    clear hu hO2
    obtain rfl : b1 = b2 := by
      rw [ok_st] at hb1
      have := hb1.trans hb2.symm
      cases b1 <;> cases b2 <;> simp_all
    have hE05 := hE03.trans (hE4.trans hE5)
    replace hR1 := hR1.ext (hE4.trans hE5)
    refine gg ?_
    refine R1_call2 (stages_ok _ r 600 len M w5 (hA.ext hE05) (by decide) (by decide)) ?_
    intro u w6 hu
    obtain ⟨b3, hb3, A3, c3, rfl, hE6, hR3⟩ := hu.s (fun h => hr16 h.1)
    clear hu
    refine gg ?_
    refine R1_call2 (rstages_ok _ r 600 len M w6 (hA.ext (hE05.trans hE6)) (by decide) (by decide)) ?_
    intro u w7 hu
    obtain ⟨b4, hb4, A4, c4, rfl, hE7, hR4⟩ := hu.s (fun h => hr16 h.1)
    clear hu
    obtain rfl : b3 = b4 := by
      rw [ok_st] at hb3
      have := hb3.trans hb4.symm
      cases b3 <;> cases b4 <;> simp_all
    have hE57 := hE6.trans hE7
    replace hR1 := hR1.ext hE57
    replace hR2 := hR2.ext hE57
    replace hR3 := hR3.ext hE7
    have hN1 := Nb_big (N := 1) (k := 16) (by decide) (by decide)
    have hN6 := Nb_big (N := 600) (k := 16) (by decide) (by decide)
    have hl1 : (if b1 then n else 0) ≤ 16 := by split <;> omega
    have hl3 : (if b3 then r else 0) ≤ 16 := by
      cases b3
      · exact Nat.zero_le _
      · exact hr16 (hb3.1 rfl).1
    have eq1 : ∀ q i j, q < (if b1 then n else 0) → i < n - q → j < n - q → stg X q i j = stR X q i j := fun q i j hq _ _ => by
      cases b1
      · exact absurd hq (Nat.not_lt_zero q)
      · exact st_eq (hb2.1 rfl).2 q i j hq
    have eq3 : ∀ q i j, q < (if b3 then r else 0) → i < r - q → j < r - q → stg M q i j = stR M q i j := fun q i j hq _ _ => by
      cases b3
      · exact absurd hq (Nat.not_lt_zero q)
      · exact st_eq (hb4.1 rfl).2 q i j hq
    refine gg ?_
    rw [show (b1 == b1) = true from beq_self_eq_true _]
    refine gg ?_
    refine R1_call2 (sameStages_ok _ _ _ n (Nb 1 16) _ _ w7 hR1 hR2 (by omega) eq1 hl1) ?_
    rintro _ w8 ⟨hE8, rfl⟩
    replace hR3 := hR3.ext hE8
    replace hR4 := hR4.ext hE8
    refine gg ?_
    rw [show (b3 == b3) = true from beq_self_eq_true _]
    refine gg ?_
    refine R1_call2 (sameStages_ok _ _ _ r (Nb 600 16) _ _ w8 hR3 hR4 (by omega) eq3 hl3) ?_
    rintro _ w9 ⟨hE9, rfl⟩
    refine gg ?_
    refine R1_call2 (awake4_ok w9) ?_
    rintro _ w10 ⟨hE10, rfl⟩
    refine gg ?_
    exact ret1 (v := .bool _) rfl rfl ⟨hE05.trans (hE57.trans (hE8.trans (hE9.trans hE10))), rfl⟩
end Go.Proofs.Ytpldkdjflkckpaa
