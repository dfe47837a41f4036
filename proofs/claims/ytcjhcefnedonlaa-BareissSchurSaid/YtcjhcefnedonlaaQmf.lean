/- Joined: Lxf. -/
import Derived.Test.YtcjhcefnedonlaaQzb
import Derived.Test.YtcjhcefnedonlaaQmb
/- The law BareissSolves. -/
namespace Go.Proofs.Ytcjhcefnedonlaa
open Go Go.Eng Go.Num Go.Proofs

/-- what a Solve has returned -/
def SolV (w : World) (p : Prop) (n : Nat) (A : Nat → Nat → Int) (u : Value) (e : Int) : Prop :=
  (¬ p ∧ u = .slice none 0 0 ∧ e = 3) ∨ (p ∧ Go.Det.det n A = 0 ∧ u = .slice none 0 0 ∧ e = 8) ∨ (p ∧ Go.Det.det n A ≠ 0 ∧ e = 0 ∧ RatE w u n (fun i => lowN (Go.Det.cr n A i n) (Go.Det.det n A)) (fun i => lowD (Go.Det.cr n A i n) (Go.Det.det n A)))
theorem RSol.v {w w' : World} {p : Prop} {n : Nat} {A : Nat → Nat → Int} {v : Value} (h : RSol w p n A v w') : ∃ u e, v = .tuple #[u, .int .i64 e] ∧ Ext w w' ∧ SolV w' p n A u e := by
  obtain ⟨hE, ⟨h1, rfl⟩ | ⟨h1, h2, rfl⟩ | ⟨h1, h2, g, _, rfl, h3⟩⟩ := h
  · exact ⟨_, _, rfl, hE, .inl ⟨h1, rfl, rfl⟩⟩
  · exact ⟨_, _, rfl, hE, .inr (.inl ⟨h1, h2, rfl, rfl⟩)⟩
  · exact ⟨_, _, rfl, hE, .inr (.inr ⟨h1, h2, rfl, h3.read⟩)⟩
theorem RSolG.v {w w' : World} {p : Prop} {n : Nat} {A : Nat → Nat → Int} {v : Value} (h : RSolG w p n A v w') : ∃ u e, v = .tuple #[u, .int .i64 e] ∧ Ext w w' ∧ SolV w' p n A u e := by
  obtain ⟨hE, ⟨h1, rfl⟩ | ⟨h1, h2, rfl⟩ | ⟨h1, h2, u, rfl, h3⟩⟩ := h
  · exact ⟨_, _, rfl, hE, .inl ⟨h1, rfl, rfl⟩⟩
  · exact ⟨_, _, rfl, hE, .inr (.inl ⟨h1, h2, rfl, rfl⟩)⟩
  · exact ⟨_, _, rfl, hE, .inr (.inr ⟨h1, h2, rfl, h3.read⟩)⟩
theorem SolV.ext {w w' : World} {p : Prop} {n : Nat} {A : Nat → Nat → Int} {u : Value} {e : Int} (h : SolV w p n A u e) (hE : Ext w w') : SolV w' p n A u e := by
  rcases h with h | h | ⟨h1, h2, h3, h4⟩
  · exact .inl h
  · exact .inr (.inl h)
  · exact .inr (.inr ⟨h1, h2, h3, h4.ext hE⟩)
theorem SolV.same {w : World} {p : Prop} {n K : Nat} {A : Nat → Nat → Int} {u u' : Value} {e e' : Int} (h : SolV w p n A u e) (h' : SolV w p n A u' e') (hb : p → n ≤ 16 ∧ (∀ i, i < n → Bd K (Go.Det.cr n A i n)) ∧ Bd K (Go.Det.det n A)) :
    e = e' ∧ ∃ m a b, m ≤ 16 ∧ RatE w u m a b ∧ RatE w u' m a b ∧ ∀ i, i < m → Bd K (a i) ∧ Bd K (b i) := by
  rcases h with ⟨h1, rfl, rfl⟩ | ⟨h1, h2, rfl, rfl⟩ | ⟨h1, h2, rfl, h4⟩
  · rcases h' with ⟨_, rfl, rfl⟩ | ⟨h1', _⟩ | ⟨h1', _⟩
    · exact ⟨rfl, 0, fun _ => 0, fun _ => 0, by omega, RatE.nil, RatE.nil, fun i hi => absurd hi (by omega)⟩
    · exact absurd h1' h1
    · exact absurd h1' h1
  · rcases h' with ⟨h1', _⟩ | ⟨_, _, rfl, rfl⟩ | ⟨_, h2', _⟩
    · exact absurd h1 h1'
    · exact ⟨rfl, 0, fun _ => 0, fun _ => 0, by omega, RatE.nil, RatE.nil, fun i hi => absurd hi (by omega)⟩
    · exact absurd h2 h2'
  · rcases h' with ⟨h1', _⟩ | ⟨_, h2', _⟩ | ⟨_, _, rfl, h4'⟩
    · exact absurd h1 h1'
    · exact absurd h2' h2
    · obtain ⟨hn, h5, h6⟩ := hb h1
      exact ⟨rfl, n, _, _, hn, h4, h4', fun i hi => low_bd (h5 i hi) h6⟩
theorem sol_bd {n N : Nat} {M : Nat → Nat → Int} {bg : Nat → Int} (hN : 1 ≤ N) (hn : n ≤ 16) (bM : ∀ i j, i < n → j < n → Bd N (M i j)) (bB : ∀ i, i < n → Bd N (bg i)) :
    n ≤ 16 ∧ (∀ i, i < n → Bd (Nb N 16) (Go.Det.cr n (augM n M bg) i n)) ∧ Bd (Nb N 16) (Go.Det.det n (augM n M bg)) := by
  refine ⟨hn, fun i hi => ?_, ?_⟩
  · rw [← colR_cr hi, ← detB_det]
    refine (detB_bd hN fun a b ha hb => ?_).mono (Nb_le16 N n hn)
    unfold colR; split
    · exact bB a ha
    · exact bM a b ha hb
  · rw [aug_det, ← detB_det]; exact (detB_bd hN bM).mono (Nb_le16 N n hn)
theorem MatE.bdS {w : World} {N r : Nat} {len : Nat → Nat} {v : Value} {M : Nat → Nat → Int} (h : MatE (EI N) w v r len M) : ∀ i j, i < r → j < len i → Bd N (M i j) := fun i j hi hj => by
  obtain ⟨A, cap, e, h1, h2, h3⟩ := h
  obtain ⟨ad, u, _, _, hrow⟩ := h3 i hi
  obtain ⟨A', c', _, _, _, h4⟩ := hrow
  obtain ⟨_, _, _, _, _, _, hv⟩ := h4 j hj
  exact IV.bd hv
theorem RowE.bdS {w : World} {N c : Nat} {v : Value} {g : Nat → Int} (h : RowE (EI N) w v c g) : ∀ j, j < c → Bd N (g j) := fun j hj => by
  obtain ⟨A', c', _, _, _, h4⟩ := h
  obtain ⟨_, _, _, _, _, _, hv⟩ := h4 j hj
  exact IV.bd hv

set_option maxHeartbeats 16000000 in
theorem lawSolves {vx vl va vb : Value} {rx cx nx m r cb : Nat} {nsx ns : Nat → Int} {len : Nat → Nat} {M : Nat → Nat → Int} {L : Nat → Nat → Nat} {bM : Nat → Int} {bL : Nat → Nat} {w : World} (hx : GridV w vx rx cx nx nsx) (hl : NumsV w vl m ns) (ha : MatL w va r len M L) (hb : RowL w vb cb bM bL) :
    Meets Try.prog 4 #[vx, vl, va, vb] w (Law w) := by
  obtain ⟨Ax, capx, rfl, hx1, hx2, hx3, hx4⟩ := hx
  obtain ⟨Al, capl, hvl, hl1, hl2⟩ := hl
  obtain ⟨Ab, capb, hvb, hbc, hbcap, hb47, hbent⟩ := id hb
  refine fn_W (n := 92) Try.func4 rfl rfl (by kernel_rfl) (by simp) ?_
  refine gg ?_
  refine R1_box (v := .agg _) (.inl rfl) rfl ?_
  intro w1 hB1 hE1 hs1
  have hX1 : Blk w1 w.heap.size 24 #[.int .u8 ((rx : Nat) : Int), .int .u8 ((cx : Nat) : Int), .slice Ax nx capx] := hB1
  have hGx := GridV.agg hx1 hx2 hx3 hx4
  clear hB1
  obtain ⟨gX, hgX⟩ : ∃ g, g = w.heap.size := ⟨_, rfl⟩
  rw [← hgX] at hX1 ⊢
  refine gg ?_
  refine W_seq ?_
  refine gg ?_
  refine R1_call2 (large4_ok va r len M L w1 (ha.ext hE1)) ?_
  rintro _ _ ⟨rfl, b, rfl, hlg⟩
  cases b with
  | true =>
    refine gg ?_
    refine R1_call2 (awake4_ok w1) ?_
    rintro _ w3 ⟨hE3, rfl⟩
    refine gg ?_
    exact ret1 (v := .bool _) rfl rfl ⟨hE1.trans hE3, rfl⟩
  | false =>
    have hA := (hlg rfl).e ha
    rw [hvb]
    by_cases h20 : 20 < cb
    · refine gg ?_
      refine R1_call2 (awake4_ok w1) ?_
      rintro _ w3 ⟨hE3, rfl⟩
      refine gg ?_
      exact ret1 (v := .bool _) rfl rfl ⟨hE1.trans hE3, rfl⟩
    refine gg ?_
    rw [← hvb]
    refine W_seqM (fun f w' => f 1 = vl ∧ f 2 = va ∧ f 3 = vb ∧ f 4 = .pointer (some ⟨gX, 0, none⟩) ∧ Ext w1 w' ∧ ∀ q, q < cb → bL q ≤ 10) ?_ ?_
    · rw [hvb]
      refine gg ?_
      rw [← hvb]
      refine W_loop (fun n f w' => ∃ k, n = cb - k ∧ k ≤ cb ∧ f 1 = vl ∧ f 2 = va ∧ f 3 = vb ∧ f 4 = .pointer (some ⟨gX, 0, none⟩) ∧ f 29 = vb ∧ f 30 = .int .i64 ((cb : Nat) : Int) ∧ f 31 = .int .i64 ((k : Nat) : Int) ∧ Ext w1 w' ∧ ∀ q, q < k → bL q ≤ 10)
        cb ⟨0, rfl, Nat.zero_le _, rfl, rfl, rfl, rfl, rfl, rfl, rfl, Ext.refl _, fun q h => absurd h (by omega)⟩ ?_
      rintro n f w5 ⟨k, rfl, hk, hf1, hf2, hf3, hf4, hf29, hf30, hf31, hE, hall⟩
      rw [ui hf1, ui hf2, ui hf3, ui hf4, ui hf29, ui hf30, ui hf31]
      clear hf1 hf2 hf3 hf4 hf29 hf30 hf31
      by_cases hlt : k < cb
      rotate_left
      · refine gg ?_
        exact ⟨rfl, rfl, rfl, rfl, hE, fun q hq => hall q (by omega)⟩
      obtain ⟨ad, x, y, rfl, hx, hy, hiv⟩ := hbent k hlt
      have k1 := cell_ext (hE1.trans hE) hx
      have k2 := cell_ext (hE1.trans hE) hy
      have hv5 := (hiv.iv (Nat.le_refl _)).ext (hE1.trans hE)
      obtain ⟨neg, B, l, c, rfl, rfl, hlc, hcc, hMg, hll, hl47, _⟩ := id hiv
      rw [hvb]
      refine gg ?_
      refine R1_alloc (.inl rfl) z_Int ?_
      intro w6 hB6 hE6 hs6
      have hB6 : Blk w6 w5.heap.size 35 #[.bool false, .slice none 0 0] := hB6
      refine gg ?_
      refine R1_store2 agg_Int (.inl rfl) rfl rfl rfl rfl hB6 (by decide) ?_
      intro w7 hB7 hC7 hs7
      have hB7 : Blk w7 w5.heap.size 35 #[.bool neg, .slice B l.length c] := hB7
      have q1 : w7.cell? ⟨w5.heap.size, 0 + 1, none⟩ = some (.slice B l.length c) := by rw [hB7.cell]; rfl
      have hE17 : Ext w1 w7 := hC7.ext_of (hE.trans hE6) (fun b hb => by have := hE.size; omega)
      by_cases h10 : 10 < l.length
      · refine gg ?_
        refine R1_call2 (awake4_ok w7) ?_
        rintro _ w8 ⟨hE8, rfl⟩
        refine gg ?_
        exact ret1 (v := .bool _) rfl rfl ⟨hE1.trans (hE17.trans hE8), rfl⟩
      · refine gg ?_
        rw [← hvb]
        refine ⟨_, ?_, k + 1, rfl, by omega, rfl, rfl, rfl, rfl, rfl, rfl, rfl, hE17, fun q hq => ?_⟩
        · omega
        · by_cases e : q = k
          · subst e; omega
          · exact hall q (by omega)
    rintro f w2 ⟨hf1, hf2, hf3, hf4, hE2, hL10⟩
    rw [ui hf1, ui hf2, ui hf3, ui hf4]
    clear hf1 hf2 hf3 hf4
    have hbE : RowE (EI 600) w vb cb bM := hb.e fun j hj => by have := hL10 j hj; omega
    have hE02 := hE1.trans hE2
    obtain ⟨x0, x1, x2⟩ := blkT (hX1.ext hE2)
    have hm1 := Nat.mod_lt rx (show 0 < 5 by decide)
    obtain ⟨n, hn⟩ : ∃ n, n = 1 + rx % 5 := ⟨_, rfl⟩
    have hn1 : 1 ≤ n := by omega
    have hn2 : n ≤ 16 := by omega
    have hnb : n < 9223372036854775808 := by omega
    obtain ⟨X, hX⟩ : ∃ X, X = gridM n nx nsx := ⟨_, rfl⟩
    have bX : ∀ i j, i < n → j < n → Bd 1 (X i j) := fun i j _ _ => by rw [hX]; exact gridM_bd hx4 _ i j
    have hNb := Nb_big (N := 1) (k := 16) (by decide) (by decide)
    have hNb6 := Nb_big (N := 600) (k := 16) (by decide) (by decide)
    refine gg ?_
    refine R1_load3F (by decide) agg_Grid rfl x0 x1 x2 ?_
    clear x0 x1 x2
    refine gg ?_
    refine R1_call2 (gridSquare_ok _ rx cx nx 5 nsx w2 (hGx w2 hE02) (by decide) (by decide)) ?_
    rintro _ w3 ⟨hE3, ga, gs, rfl, _, _, hO⟩
    rw [← hn, ← hX] at hO
    rw [← hn]
    have hE03 := hE02.trans hE3
    rw [hvl]
    refine gg ?_
    refine R1_call2 (column_ok Al m capl n ns w3 (hl2.ext hE03) (by omega)) ?_
    rintro vc w4 ⟨hE4, hC, _⟩
    replace hO := hO.ext hE4
    have hE04 := hE03.trans hE4
    refine gg ?_
    refine R1_call2 (bsolve_ok _ _ n 1 n (fun _ => n) X (tp m ns) w4 (hO.rd bX (Nat.le_refl _) hnb hnb) hC.rowE (by decide) (by decide)) ?_
    intro v5 w5 h5
    obtain ⟨u5, e5, rfl, hE5, s5⟩ := h5.v
    clear h5
    replace hO := hO.ext hE5
    replace hC := hC.ext hE5
    have hE05 := hE04.trans hE5
    refine gg ?_
    refine R1_call2 (rsolve_ok _ _ n 1 n (fun _ => n) X (tp m ns) w5 (hO.rd bX (Nat.le_refl _) hnb hnb) hC.rowE (by decide) (by decide)) ?_
    intro v6 w6 h6
    obtain ⟨u6, e6, rfl, hE6, s6⟩ := h6.v
    clear h6
    replace s5 := s5.ext hE6
    have hE06 := hE05.trans hE6
    have bC := RowE.bdS hC.rowE
    clear hO hC
    refine gg ?_
    refine R1_call2 (bsolve_ok _ _ r 600 cb len M bM w6 (hA.ext hE06) (hbE.ext hE06) (by decide) (by decide)) ?_
    intro v7 w7 h7
    obtain ⟨u7, e7, rfl, hE7, s7⟩ := h7.v
    clear h7
    have hE07 := hE06.trans hE7
    refine gg ?_
    refine R1_call2 (rsolve_ok _ _ r 600 cb len M bM w7 (hA.ext hE07) (hbE.ext hE07) (by decide) (by decide)) ?_
    intro v8 w8 h8
    obtain ⟨u8, e8, rfl, hE8, s8⟩ := h8.v
    clear h8
    have hE08 := hE07.trans hE8
    have hE68 := hE7.trans hE8
    replace s5 := s5.ext hE68
    replace s6 := s6.ext hE68
    replace s7 := s7.ext hE8
    obtain ⟨he, m1, a1, b1, hm16, r5, r6, bd1⟩ := SolV.same s5 s6 (fun _ => sol_bd (N := 1) (by decide) hn2 bX bC)
    obtain ⟨he2, m2, a2, b2, hm16', r7, r8, bd2⟩ := SolV.same s7 s8 (fun hp => sol_bd (N := 600) (by decide) (okS_iff.1 hp.1).2.1 (fun i j hi hj => hA.bdS i j hi (by rw [(okS_iff.1 hp.1).2.2 i hi]; exact hj)) (fun i hi => hbE.bdS i (by rw [hp.2]; exact hi)))
    clear s5 s6 s7 s8
    refine gg ?_
    refine R1_call2 (sameRats_ok _ _ m1 m1 (Nb 1 16) a1 b1 a1 b1 w8 r5 r6 bd1 bd1 (by omega) (by omega) (by omega)) ?_
    rintro _ w9 ⟨hE9, q, rfl, hq⟩
    obtain rfl := hq.2 ⟨rfl, fun _ _ => ⟨rfl, rfl⟩⟩
    refine gg ?_
    refine R1_call2 (sameRats_ok _ _ m2 m2 (Nb 600 16) a2 b2 a2 b2 w9 (r7.ext hE9) (r8.ext hE9) bd2 bd2 (by omega) (by omega) (by omega)) ?_
    rintro _ w10 ⟨hE10, q, rfl, hq⟩
    obtain rfl := hq.2 ⟨rfl, fun _ _ => ⟨rfl, rfl⟩⟩
    refine gg ?_
    refine R1_call2 (awake4_ok w10) ?_
    rintro _ w11 ⟨hE11, rfl⟩
    refine gg ?_
    exact ret1 (v := .bool _) rfl rfl ⟨hE08.trans (hE9.trans (hE10.trans hE11)), rfl⟩
end Go.Proofs.Ytcjhcefnedonlaa
