/- Joined: Lwl. -/
import Derived.Test.YtpldkdjflkckpaaQt
import Derived.Test.YtpldkdjflkckpaaQo
/- The reference's Minor; the law MatrixMinors. -/
namespace Go.Proofs.Ytpldkdjflkckpaa
open Go Go.Eng Go.Num Go.Proofs

section
variable {P : Program} {n : Nat} {S : World → World → Prop} {k : Nat} {K : Fr → World → Prop} {f : Fr} {w : World} {d ty t t2 : Nat} {x y : Operand} {pos : String} {aft : Array Edge} {g : Option (Nat × Bool)}
theorem R1_shr_u8 {a b : Nat} {kk : IntKind} (hx : ev n f x = .int .u8 ((a : Nat) : Int)) (hy : ev n f y = .int kk ((b : Nat) : Int)) (hb : b < 8) (h : K (upd f d (.int .u8 ((a / 2 ^ b : Nat) : Int))) w) : R1 P n S k ⟨some d, .binOp .shr t x y t2, ty, pos, aft, g⟩ K f w := by
  refine R1_bin hx hy (fun _ => by simp [eqGuard, go_sem]) (fun _ => ?_) h
  have e : min b 8 = b := by omega
  have e0 : ((b : Int) < 0) = False := by simp
  simp only [binOp, Op.shift, e0, if_false, Int.toNat_natCast, IntKind.bits, e]
  rw [show (a : Int).fdiv (2 ^ b) = ((a / 2 ^ b : Nat) : Int) from by rw [Int.fdiv_eq_ediv_of_nonneg _ (Int.le_of_lt (Int.pow_pos (by decide)))]; simp]; rfl
theorem R1_and_u8 {a b : Int} (hx : ev n f x = .int .u8 a) (hy : ev n f y = .int .u8 b) (h : K (upd f d (.int .u8 (bits .and .u8 a b))) w) : R1 P n S k ⟨some d, .binOp .and t x y t2, ty, pos, aft, g⟩ K f w := by
  refine R1_bin hx hy (fun _ => by simp [eqGuard, go_sem]) (fun _ => ?_) h
  simp only [binOp, Op.intBits, ne_eq, not_true_eq_false, if_false]
  rfl
theorem R1_eql_u8 {a b : Int} (hx : ev n f x = .int .u8 a) (hy : ev n f y = .int .u8 b) (h : K (upd f d (.bool (decide (a = b)))) w) : R1 P n S k ⟨some d, .binOp .eql t x y t2, ty, pos, aft, g⟩ K f w := by
  refine R1_bin hx hy (fun _ => by simp [eqGuard, go_sem]) (fun _ => ?_) h
  simp only [binOp, Op.intCmp, ne_eq, not_true_eq_false, if_false]; rw [show (a == b) = decide (a = b) from by rw [Bool.eq_iff_iff]; simp]; rfl
end

theorem IntsE.nat {w : World} {v : Value} {c n : Nat} {g : Nat → Int} (h : IntsE w v c g) (ha : asc c g n) : IntsN w v c (fun k => (g k).toNat) := by
  obtain ⟨A, cap, e, h1, h2, h3⟩ := h
  refine ⟨A, cap, e, h1, h2, fun j hj => ?_⟩
  obtain ⟨ad, e', hc⟩ := h3 j hj
  refine ⟨ad, e', ?_⟩
  rw [hc]
  have := (ha j hj).1
  simp only
  rw [Int.toNat_of_nonneg this]

set_option maxHeartbeats 16000000 in
theorem rminor_ok (va vr vc : Value) (r N c1 c2 : Nat) (len : Nat → Nat) (X : Nat → Nat → Int) (g1 g2 : Nat → Int) (w : World) (ha : MatE (EI N) w va r len X) (hr : IntsE w vr c1 g1) (hc : IntsE w vc c2 g2) (hN1 : 1 ≤ N) (hN : N < 1048576) :
    Meets Try.prog 23 #[va, vr, vc] w (RMin w (okMin r len c1 c2 g1 g2) (detB c1 (minM X g1 g2))) := by
  obtain ⟨Ar, capr, rfl, _⟩ := id hr
  obtain ⟨Ac, capc, rfl, _⟩ := id hc
  refine fn_W (n := 49) Try.func23 rfl rfl (by kernel_rfl) (by simp) ?_
  refine gg ?_
  refine R1_alloc (.inl rfl) z_Int ?_
  intro w1 hB1 hE1 hs1
  have hO1 : Bx w1 w.heap.size 1 true 0 := Bx.zero true hB1
  obtain ⟨gO, hgO⟩ : ∃ g, g = w.heap.size := ⟨_, rfl⟩
  rw [← hgO] at hO1 ⊢
  clear hB1
  refine gg ?_
  refine R1_call2 (rshape_ok _ va r len X w1 (ha.ext hE1)) ?_
  rintro _ w4 ⟨hE4, rfl⟩
  have hE04 := hE1.trans hE4
  have hO4 := hO1.ext hE4
  obtain ⟨s1, d1, ok1, e1, h1⟩ := shapeV_cases r len
  rw [e1]
  have bad : ¬ okMin r len c1 c2 g1 g2 → ∀ w5, Bx w5 gO 1 true 0 → Ext w w5 → ∃ x y, Blk w5 gO 37 #[x, y] ∧ RMin w (okMin r len c1 c2 g1 g2) (detB c1 (minM X g1 g2)) (.tuple #[.agg #[x, y], .bool false]) w5 := fun hn w5 hb hE => by
    obtain ⟨x, y, hB, hv⟩ := hb
    exact ⟨x, y, hB, hE, false, x, y, rfl, ⟨fun h => (by cases h), fun h => absurd h hn⟩, hv.2 rfl⟩
  rcases h1 with ⟨hok, rfl, rfl, rfl⟩ | ⟨hok, rfl, rfl, rfl⟩
  rotate_left
  · refine gg ?_
    refine W_seq ?_
    refine gg ?_
    refine R1_bld0 b0_Int ?_
    refine gg ?_
    refine R1_storeBx (N' := 1) (.inl rfl) rfl rfl hO4 ((CV.zero w4).ev true (Bd.zero 1)) ?_
    intro w5 hO5 hC5 hk5 hs5
    obtain ⟨x, y, hB, hp⟩ := bad (fun h => by have := h.1; rw [hok] at this; cases this) w5 hO5 (hC5.ext_of hE04 (fun b hb => by omega))
    refine gg ?_
    exact retCB rfl agg_Int rfl hB rfl hp
  by_cases hcc : c1 = c2
  rotate_left
  · refine gg ?_
    refine W_seq ?_
    refine gg ?_
    refine R1_bld0 b0_Int ?_
    refine gg ?_
    refine R1_storeBx (N' := 1) (.inl rfl) rfl rfl hO4 ((CV.zero w4).ev true (Bd.zero 1)) ?_
    intro w5 hO5 hC5 hk5 hs5
    obtain ⟨x, y, hB, hp⟩ := bad (fun h => hcc h.2.1) w5 hO5 (hC5.ext_of hE04 (fun b hb => by omega))
    refine gg ?_
    exact retCB rfl agg_Int rfl hB rfl hp
  by_cases hpos : 0 < c1
  rotate_left
  · refine gg ?_
    refine W_seq ?_
    refine gg ?_
    refine R1_bld0 b0_Int ?_
    refine gg ?_
    refine R1_storeBx (N' := 1) (.inl rfl) rfl rfl hO4 ((CV.zero w4).ev true (Bd.zero 1)) ?_
    intro w5 hO5 hC5 hk5 hs5
    obtain ⟨x, y, hB, hp⟩ := bad (fun h => hpos h.2.2.1) w5 hO5 (hC5.ext_of hE04 (fun b hb => by omega))
    refine gg ?_
    exact retCB rfl agg_Int rfl hB rfl hp
  refine gg ?_
  refine W_seq ?_
  refine gg ?_
  refine R1_call2 (ascending_ok _ c1 s1 g1 w4 (hr.ext hE04)) ?_
  rintro _ _ ⟨rfl, b1, rfl, hb1⟩
  cases b1 with
  | false =>
    refine gg ?_
    refine R1_bld0 b0_Int ?_
    refine gg ?_
    refine R1_storeBx (N' := 1) (.inl rfl) rfl rfl hO4 ((CV.zero w4).ev true (Bd.zero 1)) ?_
    intro w5 hO5 hC5 hk5 hs5
    obtain ⟨x, y, hB, hp⟩ := bad (fun h => by have := hb1.2 h.2.2.2.1; cases this) w5 hO5 (hC5.ext_of hE04 (fun b hb => by omega))
    refine gg ?_
    exact retCB rfl agg_Int rfl hB rfl hp
  | true =>
    refine gg ?_
    refine R1_call2 (ascending_ok _ c2 (len 0) g2 w4 (hc.ext hE04)) ?_
    rintro _ _ ⟨rfl, b2, rfl, hb2⟩
    cases b2 with
    | false =>
      refine gg ?_
      refine R1_bld0 b0_Int ?_
      refine gg ?_
      refine R1_storeBx (N' := 1) (.inl rfl) rfl rfl hO4 ((CV.zero w4).ev true (Bd.zero 1)) ?_
      intro w5 hO5 hC5 hk5 hs5
      obtain ⟨x, y, hB, hp⟩ := bad (fun h => by have := hb2.2 h.2.2.2.2; cases this) w5 hO5 (hC5.ext_of hE04 (fun b hb => by omega))
      refine gg ?_
      exact retCB rfl agg_Int rfl hB rfl hp
    | true =>
      have ha1 := hb1.1 rfl
      have ha2 := hb2.1 rfl
      obtain ⟨⟨hr1, hr2, hl1, hl2⟩, hlen⟩ := okM_iff.1 hok
      have hle1 := asc_le ha1
      have hM := ha.sq hlen
      have hokm : okMin s1 len c1 c2 g1 g2 := ⟨hok, hcc, hpos, ha1, ha2⟩
      subst hcc
      have hbM : ∀ i j, i < c1 → j < c1 → Bd N (minM X g1 g2 i j) := fun i j hi hj => by
        have q1 := ha1 i hi
        have q2 := ha2 j hj
        exact hM.bd (by omega) (by omega)
      have hbd := detB_bd hN1 hbM
      refine gg ?_
      refine R1_call2 (rselect_ok va _ _ s1 (len 0) c1 c1 N _ _ X w4 (hM.ext hE04) ((hr.nat ha1).ext hE04) ((hc.nat ha2).ext hE04) (fun k hk => by have := ha1 k hk; omega) (fun k hk => by have := ha2 k hk; omega) (by omega) (by omega)) ?_
      rintro u5 w5 ⟨hE5, hSel⟩
      refine gg ?_
      refine R1_call2 (rdet_ok u5 c1 N _ w5 hSel (by omega) hN1 hN) ?_
      rintro _ w6 ⟨hE6, dx, dy, rfl, hcd⟩
      refine gg ?_
      refine R1_storeBx (.inl rfl) rfl rfl (hO4.ext (hE5.trans hE6)) (hcd.ev true (N := Nb N c1) hbd) ?_
      intro w7 hO7 hC7 hk7 hs7
      obtain ⟨x, y, hB, hv⟩ := hO7
      refine gg ?_
      exact retCB rfl agg_Int rfl hB rfl ⟨hC7.ext_of (hE04.trans (hE5.trans hE6)) (fun b hb => by omega), true, x, y, rfl, ⟨fun _ => hokm, fun _ => rfl⟩, hv.2 rfl⟩
theorem RMin.same {w w' w1 w1' : World} {p : Prop} {z : Int} {b b' : Bool} {x y x' y' : Value} (h : RMin w p z (.tuple #[.agg #[x, y], .bool b]) w') (h' : RMin w1 p z (.tuple #[.agg #[x', y'], .bool b']) w1') : b = b' ∧ CV w' x y (if b then z else 0) ∧ CV w1' x' y' (if b then z else 0) := by
  obtain ⟨_, c, x0, y0, e, hc, hv⟩ := h
  obtain ⟨_, c', x0', y0', e', hc', hv'⟩ := h'
  simp only [Value.tuple.injEq, Array.mk.injEq, List.cons.injEq, Value.agg.injEq, Value.bool.injEq, and_true] at e e'
  obtain ⟨⟨rfl, rfl⟩, rfl⟩ := e
  obtain ⟨⟨rfl, rfl⟩, rfl⟩ := e'
  have hb : b = b' := by cases b <;> cases b' <;> simp_all
  subst hb
  exact ⟨rfl, hv, hv'⟩
theorem RMin.bd {b : Bool} {p : Prop} {z : Int} {N : Nat} (hb : b = true ↔ p) (h : p → Bd N z) : Bd N (if b then z else 0) := by
  cases b
  · exact Bd.zero N
  · exact h (hb.1 rfl)

set_option maxHeartbeats 16000000 in
theorem lawMinors {vx vr vc vw : Value} {rx cx nx c1 c2 wh : Nat} {g1 g2 : Nat → Int} {nsx : Nat → Int} {w : World} (hx : GridV w vx rx cx nx nsx) (hr : IntsE w vr c1 g1) (hc : IntsE w vc c2 g2) (hw : ByteV vw wh) :
    Meets Try.prog 4 #[vx, vr, vc, vw] w (Law w) := by
  obtain ⟨Ax, capx, rfl, hx1, hx2, hx3, hx4⟩ := hx
  obtain ⟨rfl, hwh⟩ := hw
  obtain ⟨Ar, capr, rfl, _⟩ := id hr
  obtain ⟨Ac, capc, rfl, _⟩ := id hc
  refine fn_W (n := 124) Try.func4 rfl rfl (by kernel_rfl) (by simp) ?_
  refine gg ?_
  refine R1_box (v := .agg _) (.inl rfl) rfl ?_
  intro w1 hB1 hE1 hs1
  have hX1 : Blk w1 w.heap.size 32 #[.int .u8 ((rx : Nat) : Int), .int .u8 ((cx : Nat) : Int), .slice Ax nx capx] := hB1
  have hGx := GridV.agg hx1 hx2 hx3 hx4
  clear hB1
  refine gg ?_
  refine W_seq ?_
  by_cases hc20 : 20 < c1
  · refine gg ?_
    refine R1_call2 (awake_ok w1) ?_
    rintro _ w3 ⟨hE3, rfl⟩
    refine gg ?_
    exact ret1 (v := .bool _) rfl rfl ⟨hE1.trans hE3, rfl⟩
  by_cases hd20 : 20 < c2
  · refine gg ?_
    refine R1_call2 (awake_ok w1) ?_
    rintro _ w3 ⟨hE3, rfl⟩
    refine gg ?_
    exact ret1 (v := .bool _) rfl rfl ⟨hE1.trans hE3, rfl⟩
  obtain ⟨x0, x1, x2⟩ := blkT hX1
  have hm1 := Nat.mod_lt rx (show 0 < 6 by decide)
  have hm2 := Nat.mod_lt cx (show 0 < 6 by decide)
  obtain ⟨r, hrr⟩ : ∃ n, n = 1 + rx % 6 := ⟨_, rfl⟩
  obtain ⟨c, hcc⟩ : ∃ n, n = 1 + cx % 6 := ⟨_, rfl⟩
  have hrb : r < 9223372036854775808 := by omega
  have hcb : c < 9223372036854775808 := by omega
  obtain ⟨X, hX⟩ : ∃ X, X = gridM c nx nsx := ⟨_, rfl⟩
  have bX : ∀ i j, i < r → j < c → Bd 1 (X i j) := fun i j _ _ => by rw [hX]; exact gridM_bd hx4 _ i j
  have bM : ∀ k1 k2 (q1 q2 : Nat → Int), okMin r (fun _ => c) k1 k2 q1 q2 → Bd (Nb 1 16) (detB k1 (minM X q1 q2)) := fun k1 k2 q1 q2 h => by
    have h1 := asc_le h.2.2.2.1
    have h2 := h.2.1
    refine (detB_bd (by decide) fun i j hi hj => ?_).mono (Nb_le16 1 k1 (by omega))
    have a1 := h.2.2.2.1 i hi
    have a2 := h.2.2.2.2 j (by omega)
    dsimp only at a2 h1
    exact bX _ _ (by omega) (by omega)
  have hNb := Nb_big (N := 1) (k := 16) (by decide) (by decide)
  refine gg ?_
  refine R1_load3F (by decide) agg_Grid rfl x0 x1 x2 ?_
  clear x0 x1 x2
  refine gg ?_
  refine R1_call2 (gridMatrix_ok _ rx cx nx 6 nsx w1 (hGx w1 hE1) (by decide) (by decide)) ?_
  rintro _ w2 ⟨hE2, g, gs, rfl, _, _, hO⟩
  rw [← hrr, ← hcc, ← hX] at hO
  rw [← hrr]
  have hE02 := hE1.trans hE2
  refine gg ?_
  refine R1_call2 (minor_ok _ _ _ r 1 c1 c2 (fun _ => c) X g1 g2 w2 (hO.rd bX (by decide) hrb hcb) (hr.ext hE02) (hc.ext hE02) (by decide) (by decide)) ?_
  intro u w3 hu
  obtain ⟨hE3, b1, xa, ya, rfl, hb1, hcv1⟩ := id hu
  have hbd1 := RMin.bd hb1 (bM c1 c2 g1 g2)
  refine gg ?_
  refine R1_alloc (.inl rfl) z_Int ?_
  intro w4a hBa_ hEa_ hsa_
  have hG0_ : Bx w4a w3.heap.size 1 true 0 := Bx.zero true hBa_
  obtain ⟨g10, hg_⟩ : ∃ g, g = w3.heap.size := ⟨_, rfl⟩
  rw [← hg_] at hG0_ ⊢
  refine gg ?_
  refine R1_storeBx (.inl rfl) rfl rfl hG0_ ((hcv1.ext hEa_).ev true hbd1) ?_
  intro w4 hb10 hCb_ hkb_ hsb_
  have hE4 : Ext w3 w4 := hCb_.ext_of hEa_ (fun b hb => by omega)
  have hfr_g10 : w3.heap.size ≤ g10 := by omega
  clear hG0_ hBa_ hEa_ hsa_ hsb_ hCb_ hkb_ hg_
  replace hO := hO.ext (hE3.trans hE4)
  have hE04 := hE02.trans (hE3.trans hE4)
  refine gg ?_
  refine R1_call2 (rminor_ok _ _ _ r 1 c1 c2 (fun _ => c) X g1 g2 w4 (hO.rd bX (by decide) hrb hcb) (hr.ext hE04) (hc.ext hE04) (by decide) (by decide)) ?_
  intro u w5 hu5
  obtain ⟨hE5, b2, xb, yb, rfl, hb2, hcv2⟩ := id hu5
  obtain ⟨rfl, _, _⟩ := hu.same hu5
  clear hu hu5 hcv1
  refine gg ?_
  refine R1_alloc (.inl rfl) z_Int ?_
  intro w6a hBa_ hEa_ hsa_
  have hG0_ : Bx w6a w5.heap.size 1 true 0 := Bx.zero true hBa_
  obtain ⟨g12, hg_⟩ : ∃ g, g = w5.heap.size := ⟨_, rfl⟩
  rw [← hg_] at hG0_ ⊢
  refine gg ?_
  refine R1_storeBx (.inl rfl) rfl rfl hG0_ ((hcv2.ext hEa_).ev true hbd1) ?_
  intro w6 hb12 hCb_ hkb_ hsb_
  have hE6 : Ext w5 w6 := hCb_.ext_of hEa_ (fun b hb => by omega)
  have hfr_g12 : w5.heap.size ≤ g12 := by omega
  clear hG0_ hBa_ hEa_ hsa_ hsb_ hCb_ hkb_ hg_
  replace hO := hO.ext (hE5.trans hE6)
  replace hb10 := hb10.ext (hE5.trans hE6)
  have hE06 := hE04.trans (hE5.trans hE6)
  clear hE1 hE2 hE02 hE3 hE4 hE04 hE5 hE6 hcv2
  refine gg ?_
  refine W_seqM (fun f w' => ∃ (m : Nat) (v : Value) (q : Nat → Nat), m ≤ r ∧ f 3 = .int .u8 ((wh : Nat) : Int) ∧ f 9 = .slice (some ⟨g, 0, none⟩) r r ∧ f 10 = .pointer (some ⟨g10, 0, none⟩) ∧ f 11 = .bool (b1) ∧ f 12 = .pointer (some ⟨g12, 0, none⟩) ∧ f 13 = .bool (b1) ∧ f 14 = v ∧ f 15 = .slice none 0 0 ∧ Ext w6 w' ∧ Gr1 3 (.int .i64 0) w' v m (fun k => .int .i64 ((q k : Nat) : Int))) ?_ ?_
  · refine gg ?_
    refine W_loop (fun e f w' => ∃ (i m : Nat) (v : Value) (q : Nat → Nat), e = r - i ∧ i ≤ r ∧ m ≤ i ∧ f 3 = .int .u8 ((wh : Nat) : Int) ∧ f 9 = .slice (some ⟨g, 0, none⟩) r r ∧ f 10 = .pointer (some ⟨g10, 0, none⟩) ∧ f 11 = .bool (b1) ∧ f 12 = .pointer (some ⟨g12, 0, none⟩) ∧ f 13 = .bool (b1) ∧ f 14 = v ∧ f 15 = .slice none 0 0 ∧ f 48 = .int .i64 ((r : Nat) : Int) ∧ f 49 = .int .i64 ((i : Nat) : Int) ∧ Ext w6 w' ∧ Gr1 3 (.int .i64 0) w' v m (fun k => .int .i64 ((q k : Nat) : Int)) ∧ ∀ b, some b = v.ownBlock → w6.heap.size ≤ b)
      r ⟨0, 0, .slice none 0 0, fun _ => 0, rfl, Nat.zero_le _, Nat.le_refl _, rfl, rfl, rfl, rfl, rfl, rfl, rfl, rfl, rfl, rfl, Ext.refl _, Gr1.nil, fun b hb => by cases hb⟩ ?_
    rintro e f w7 ⟨i, m, v, q, rfl, hi, hm, hf3, hf9, hf10, hf11, hf12, hf13, hf14, hf15, hf48, hf49, hE, hG, hown⟩
    rw [ui hf3, ui hf9, ui hf10, ui hf11, ui hf12, ui hf13, ui hf14, ui hf15, ui hf48, ui hf49]
    clear hf3 hf9 hf10 hf11 hf12 hf13 hf14 hf15 hf48 hf49
    by_cases hlt : i < r
    · refine gg ?_
      refine R1_rem_i64_c rfl (by decide) ?_
      have h8 := Nat.mod_lt i (show 0 < 8 by decide)
      refine gg ?_
      refine R1_shr_u8 rfl rfl (by exact h8) ?_
      refine gg ?_
      refine R1_and_u8 rfl rfl ?_
      refine gg ?_
      refine R1_eql_u8 rfl rfl ?_
      generalize bits .and .u8 _ _ = bv
      by_cases hbv : bv = 1
      · refine gg ?_
        refine R1_build1 (v0 := .int .i64 ((i : Nat) : Int)) sl_int rfl (.inl rfl) rfl rfl ?_
        intro w8 hB8 hE8 hs8
        have hc8 := blkS hB8
        refine gg ?_
        refine R1_app1 sl_int rfl (.inl rfl) rfl rfl (hG.ext hE8) hc8 rfl (by omega) (by decide) (fun _ _ _ => by simp) (fun _ => by simp) ?_
        intro v' w9 hG9 hk9 hC9 hv9
        have hs := (hE.trans hE8).size
        refine gg ?_
        refine ⟨_, ?_, i + 1, m + 1, v', fun k => if k = m then i else q k, rfl, by omega, by omega, rfl, rfl, rfl, rfl, rfl, rfl, rfl, rfl, rfl, rfl, hC9.ext_of (hE.trans hE8) hown, hG9.congr fun k _ => ?_, fun b hb => ?_⟩
        · omega
        · by_cases ek : k = m
          · simp only [if_pos ek]
          · simp only [if_neg ek]
        · rcases hv9 with e | e
          · rw [e] at hb; exact hown b hb
          · rw [e] at hb; injection hb with hb; omega
      · refine gg ?_
        refine ⟨_, ?_, i + 1, m, v, q, rfl, by omega, by omega, rfl, rfl, rfl, rfl, rfl, rfl, rfl, rfl, rfl, rfl, hE, hG, hown⟩
        omega
    · refine gg ?_
      exact ⟨m, v, q, by omega, rfl, rfl, rfl, rfl, rfl, rfl, rfl, rfl, hE, hG⟩
  rintro f w7 ⟨m1, v, q1, hm1', hf3, hf9, hf10, hf11, hf12, hf13, hf14, hf15, hE67, hG1⟩
  rw [ui hf3, ui hf9, ui hf10, ui hf11, ui hf12, ui hf13, ui hf14, ui hf15]
  clear hf3 hf9 hf10 hf11 hf12 hf13 hf14 hf15
  obtain ⟨Av, cv, rfl, hvm, hvc⟩ := hG1.slice
  have hw0 : w7.cell? ⟨g, 0 + 0 * 1, none⟩ = some (.slice (some ⟨gs 0, 0, none⟩) c c) := by
    rw [(hO.ext hE67).outer.cell, arr_at (by omega)]
  refine gg ?_
  refine W_seqM (fun f w' => ∃ (m : Nat) (u : Value) (q : Nat → Nat), m ≤ c ∧ f 3 = .int .u8 ((wh : Nat) : Int) ∧ f 9 = .slice (some ⟨g, 0, none⟩) r r ∧ f 10 = .pointer (some ⟨g10, 0, none⟩) ∧ f 11 = .bool (b1) ∧ f 12 = .pointer (some ⟨g12, 0, none⟩) ∧ f 13 = .bool (b1) ∧ f 14 = .slice Av m1 cv ∧ f 15 = u ∧ Ext w7 w' ∧ Gr1 3 (.int .i64 0) w' u m (fun k => .int .i64 ((q k : Nat) : Int))) ?_ ?_
  · refine gg ?_
    refine W_loop (fun e f w' => ∃ (j m : Nat) (u : Value) (q : Nat → Nat), e = c - j ∧ j ≤ c ∧ m ≤ j ∧ f 3 = .int .u8 ((wh : Nat) : Int) ∧ f 9 = .slice (some ⟨g, 0, none⟩) r r ∧ f 10 = .pointer (some ⟨g10, 0, none⟩) ∧ f 11 = .bool (b1) ∧ f 12 = .pointer (some ⟨g12, 0, none⟩) ∧ f 13 = .bool (b1) ∧ f 14 = .slice Av m1 cv ∧ f 15 = u ∧ f 66 = .int .i64 ((c : Nat) : Int) ∧ f 67 = .int .i64 ((j : Nat) : Int) ∧ Ext w7 w' ∧ Gr1 3 (.int .i64 0) w' u m (fun k => .int .i64 ((q k : Nat) : Int)) ∧ ∀ b, some b = u.ownBlock → w7.heap.size ≤ b)
      c ⟨0, 0, .slice none 0 0, fun _ => 0, rfl, Nat.zero_le _, Nat.le_refl _, rfl, rfl, rfl, rfl, rfl, rfl, rfl, rfl, rfl, rfl, Ext.refl _, Gr1.nil, fun b hb => by cases hb⟩ ?_
    clear hw0
    rintro e f w8 ⟨j, m, u, q, rfl, hj, hm, hf3, hf9, hf10, hf11, hf12, hf13, hf14, hf15, hf66, hf67, hE, hG, hown⟩
    rw [ui hf3, ui hf9, ui hf10, ui hf11, ui hf12, ui hf13, ui hf14, ui hf15, ui hf66, ui hf67]
    clear hf3 hf9 hf10 hf11 hf12 hf13 hf14 hf15 hf66 hf67
    obtain ⟨Au, cu, rfl, hum, huc⟩ := hG.slice
    by_cases hlt : j < c
    · by_cases hmm : m < m1
      · refine gg ?_
        refine R1_rem_i64_c rfl (by decide) ?_
        have h8 := Nat.mod_lt (j + 3) (show 0 < 8 by decide)
        refine gg ?_
        refine R1_shr_u8 rfl rfl (by exact h8) ?_
        refine gg ?_
        refine R1_and_u8 rfl rfl ?_
        refine gg ?_
        refine R1_eql_u8 rfl rfl ?_
        generalize bits .and .u8 _ _ = bv
        by_cases hbv : bv = 0
        · refine gg ?_
          refine R1_build1 (v0 := .int .i64 ((j : Nat) : Int)) sl_int rfl (.inl rfl) rfl rfl ?_
          intro w9 hB9 hE9 hs9
          have hc9 := blkS hB9
          refine gg ?_
          refine R1_app1 sl_int rfl (.inl rfl) rfl rfl (hG.ext hE9) hc9 rfl (by omega) (by decide) (fun _ _ _ => by simp) (fun _ => by simp) ?_
          intro v' w10 hG10 hk10 hC10 hv10
          have hs := (hE.trans hE9).size
          refine gg ?_
          refine ⟨_, ?_, j + 1, m + 1, v', fun k => if k = m then j else q k, rfl, by omega, by omega, rfl, rfl, rfl, rfl, rfl, rfl, rfl, rfl, rfl, rfl, hC10.ext_of (hE.trans hE9) hown, hG10.congr fun k _ => ?_, fun b hb => ?_⟩
          · omega
          · by_cases ek : k = m
            · simp only [if_pos ek]
            · simp only [if_neg ek]
          · rcases hv10 with e | e
            · rw [e] at hb; exact hown b hb
            · rw [e] at hb; injection hb with hb; omega
        · refine gg ?_
          refine ⟨_, ?_, j + 1, m, _, q, rfl, by omega, by omega, rfl, rfl, rfl, rfl, rfl, rfl, rfl, rfl, rfl, rfl, hE, hG, hown⟩
          omega
      · refine gg ?_
        refine ⟨_, ?_, j + 1, m, _, q, rfl, by omega, by omega, rfl, rfl, rfl, rfl, rfl, rfl, rfl, rfl, rfl, rfl, hE, hG, hown⟩
        omega
    · refine gg ?_
      exact ⟨m, _, q, by omega, rfl, rfl, rfl, rfl, rfl, rfl, rfl, rfl, hE, hG⟩
  rintro f w8 ⟨m2, u, q2, hm2', hf3, hf9, hf10, hf11, hf12, hf13, hf14, hf15, hE78, hG2⟩
  rw [ui hf3, ui hf9, ui hf10, ui hf11, ui hf12, ui hf13, ui hf14, ui hf15]
  clear hf3 hf9 hf10 hf11 hf12 hf13 hf14 hf15
  have hI1 : IntsE w8 (.slice Av m1 cv) m1 (fun k => ((q1 k : Nat) : Int)) := (hG1.ints fun _ _ => rfl).ext hE78
  have hI2 : IntsE w8 u m2 (fun k => ((q2 k : Nat) : Int)) := hG2.ints fun _ _ => rfl
  obtain ⟨Au, cu, rfl, _⟩ := hG2.slice
  clear hw0
  replace hO := hO.ext (hE67.trans hE78)
  replace hb10 := hb10.ext (hE67.trans hE78)
  replace hb12 := hb12.ext (hE67.trans hE78)
  have hE08 := hE06.trans (hE67.trans hE78)
  refine gg ?_
  refine R1_call2 (minor_ok _ _ _ r 1 m1 m2 (fun _ => c) X _ _ w8 (hO.rd bX (by decide) hrb hcb) hI1 hI2 (by decide) (by decide)) ?_
  intro uu w9 hu
  obtain ⟨hE9, b3, xa', ya', rfl, hb3, hcv3⟩ := id hu
  have hbd3 := RMin.bd hb3 (bM m1 m2 _ _)
  refine gg ?_
  refine R1_alloc (.inl rfl) z_Int ?_
  intro w10a hBa_ hEa_ hsa_
  have hG0_ : Bx w10a w9.heap.size 1 true 0 := Bx.zero true hBa_
  obtain ⟨g18, hg_⟩ : ∃ g, g = w9.heap.size := ⟨_, rfl⟩
  rw [← hg_] at hG0_ ⊢
  refine gg ?_
  refine R1_storeBx (.inl rfl) rfl rfl hG0_ ((hcv3.ext hEa_).ev true hbd3) ?_
  intro w10 hb18 hCb_ hkb_ hsb_
  have hE10 : Ext w9 w10 := hCb_.ext_of hEa_ (fun b hb => by omega)
  have hfr_g18 : w9.heap.size ≤ g18 := by omega
  clear hG0_ hBa_ hEa_ hsa_ hsb_ hCb_ hkb_ hg_
  replace hO := hO.ext (hE9.trans hE10)
  replace hb10 := hb10.ext (hE9.trans hE10)
  replace hb12 := hb12.ext (hE9.trans hE10)
  refine gg ?_
  refine R1_call2 (rminor_ok _ _ _ r 1 m1 m2 (fun _ => c) X _ _ w10 (hO.rd bX (by decide) hrb hcb) (hI1.ext (hE9.trans hE10)) (hI2.ext (hE9.trans hE10)) (by decide) (by decide)) ?_
  intro uu w11 hu11
  obtain ⟨hE11, b4, xb', yb', rfl, hb4, hcv4⟩ := id hu11
  obtain ⟨rfl, _, _⟩ := hu.same hu11
  refine gg ?_
  refine R1_alloc (.inl rfl) z_Int ?_
  intro w12a hBa_ hEa_ hsa_
  have hG0_ : Bx w12a w11.heap.size 1 true 0 := Bx.zero true hBa_
  obtain ⟨g20, hg_⟩ : ∃ g, g = w11.heap.size := ⟨_, rfl⟩
  rw [← hg_] at hG0_ ⊢
  refine gg ?_
  refine R1_storeBx (.inl rfl) rfl rfl hG0_ ((hcv4.ext hEa_).ev true hbd3) ?_
  intro w12 hb20 hCb_ hkb_ hsb_
  have hE12 : Ext w11 w12 := hCb_.ext_of hEa_ (fun b hb => by omega)
  have hfr_g20 : w11.heap.size ≤ g20 := by omega
  clear hG0_ hBa_ hEa_ hsa_ hsb_ hCb_ hkb_ hg_
  replace hb10 := hb10.ext (hE11.trans hE12)
  replace hb12 := hb12.ext (hE11.trans hE12)
  replace hb18 := hb18.ext (hE11.trans hE12)
  have hE := hE08.trans (hE9.trans (hE10.trans (hE11.trans hE12)))
  obtain ⟨a1, a2, hB10, hv10⟩ := id hb10
  obtain ⟨a3, a4, hB12, hv12⟩ := id hb12
  obtain ⟨p1, p2⟩ := blkP hB10
  obtain ⟨p3, p4⟩ := blkP hB12
  refine gg ?_
  rw [show (b1 == b1) = true from beq_self_eq_true _]
  refine gg ?_
  refine R1_call2 (rsame_ok _ _ _ _ _ _ (Nb 1 16) (Nb 1 16) w12 (hv10.2 rfl) (hv12.2 rfl) (by omega) (by omega) hbd1 hbd1) ?_
  rintro _ w13 ⟨hE13, rfl⟩
  rw [decide_eq_true rfl]
  obtain ⟨a5, a6, hB18, hv18⟩ := hb18.ext hE13
  obtain ⟨a7, a8, hB20, hv20⟩ := hb20.ext hE13
  clear p1 p2 p3 p4
  obtain ⟨p1, p2⟩ := blkP hB18
  obtain ⟨p3, p4⟩ := blkP hB20
  refine gg ?_
  rw [show (b3 == b3) = true from beq_self_eq_true _]
  refine gg ?_
  refine R1_call2 (rsame_ok _ _ _ _ _ _ (Nb 1 16) (Nb 1 16) w13 (hv18.2 rfl) (hv20.2 rfl) (by omega) (by omega) hbd3 hbd3) ?_
  rintro _ w14 ⟨hE14, rfl⟩
  rw [decide_eq_true rfl]
  refine gg ?_
  refine R1_call2 (awake_ok w14) ?_
  rintro _ w15 ⟨hE15, rfl⟩
  refine gg ?_
  exact ret1 (v := .bool _) rfl rfl ⟨hE.trans (hE13.trans (hE14.trans hE15)), rfl⟩
end Go.Proofs.Ytpldkdjflkckpaa
