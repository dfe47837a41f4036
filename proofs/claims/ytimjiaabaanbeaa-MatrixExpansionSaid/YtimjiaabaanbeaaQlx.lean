/- Joined: Exp. -/
import Derived.Test.YtimjiaabaanbeaaQn
/- quadformlaw03.expansion, and the law MatrixExpansion. -/
namespace Go.Proofs.Ytimjiaabaanbeaa
open Go Go.Eng Go.Num Go.Proofs

theorem MatE.tail {E : World → Value → Value → Int → Prop} {w : World} {A : Option Addr} {p cap : Nat} {len : Nat → Nat} {M : Nat → Nat → Int} (h : MatE E w (.slice A (p + 1) cap) (p + 1) len M) :
    MatE E w (.slice (if cap = 1 then A else A.map (·.add (1 * 1))) (p + 1 - 1) (cap - 1)) p (fun i => len (i + 1)) (fun i => M (i + 1)) := by
  obtain ⟨A', cap', e, h1, h2, h3⟩ := h
  injection e with e1 _ e3
  subst e1 e3
  refine ⟨_, _, rfl, by omega, by omega, fun i hi => ?_⟩
  obtain ⟨ad, u, rfl, hu, hr⟩ := h3 (i + 1) (by omega)
  refine ⟨ad.add (1 * 1), u, ?_, ?_, hr⟩
  · rw [if_neg (by omega)]; rfl
  · rw [add_add, show 1 * 1 + i * 1 = (i + 1) * 1 by omega]; exact hu
theorem IntsN.take {w : World} {A : Option Addr} {m c k : Nat} {g : Nat → Nat} (h : IntsN w (.slice A m c) m g) (hk : k ≤ m) : IntsN w (.slice A k c) k g := by
  obtain ⟨A', c', e, h1, h2, h3⟩ := h
  injection e with e1 _ e3
  subst e1 e3
  exact ⟨A, c, rfl, by omega, h2, fun j hj => h3 j (by omega)⟩
theorem det_bd {n N : Nat} {M : Nat → Nat → Int} (hN : 1 ≤ N) (h : ∀ i j, i < n → j < n → Bd N (M i j)) : Bd (Nb N n) (Go.Det.det n M) := by
  rw [← detB_det]; exact detB_bd hN h
/-- a term of the expansion -/
def expT (p : Nat) (M : Nat → Nat → Int) (j : Nat) : Int := Go.Det.sgn j * M 0 j * Go.Det.det p (Go.Det.minor M 0 j)
theorem expT_bd {p N : Nat} {M : Nat → Nat → Int} (hN : 1 ≤ N) (h : ∀ i j, i < p + 1 → j < p + 1 → Bd N (M i j)) (j : Nat) (hj : j < p + 1) : Bd (N + Nb N p) (expT p M j) := by
  unfold expT Go.Det.sgn
  have hd : Bd (Nb N p) (Go.Det.det p (Go.Det.minor M 0 j)) := det_bd hN fun a b ha hb => h _ _ (Go.Det.skip_lt ha) (Go.Det.skip_lt hb)
  have hm := (h 0 j (by omega) hj).mul hd
  split
  · rw [Int.one_mul]; exact hm
  · rw [Int.neg_mul, Int.one_mul, Int.neg_mul]; exact hm.neg
theorem expS_bd {p N k : Nat} {M : Nat → Nat → Int} (hN : 1 ≤ N) (hp : p ≤ 8) (h : ∀ i j, i < p + 1 → j < p + 1 → Bd N (M i j)) (hk : k ≤ p + 1) : Bd (N + Nb N p + 1) (Go.Det.sm k (expT p M)) := by
  rw [← sumTo_sm]
  exact sumTo_bd (by omega) fun t ht => expT_bd hN h t (by omega)

set_option maxHeartbeats 16000000 in
theorem expansion_ok : ∀ (n : Nat) (v : Value) (N : Nat) (M : Nat → Nat → Int) (w : World), MatE (EI N) w v n (fun _ => n) M → n ≤ 8 → 1 ≤ N → N < 1024 →
    Meets Try.prog 25 #[v] w (RI w (Go.Det.det n M)) := by
  intro n
  induction n with
  | zero =>
    intro v N M w h hn hN1 hN
    obtain ⟨A, cap, rfl, _⟩ := id h
    refine fn_W (n := 50) Try.func25 rfl rfl (by kernel_rfl) (by simp) ?_
    refine gg ?_
    refine R1_alloc (.inl rfl) z_Int ?_
    intro w1 hB1 hE1 hs1
    have hR1 : Bx w1 w.heap.size 1 true 0 := Bx.zero true hB1
    clear hB1
    obtain ⟨gR, hgR⟩ : ∃ g, g = w.heap.size := ⟨_, rfl⟩
    rw [← hgR] at hR1 ⊢
    refine gg ?_
    refine W_seq ?_
    refine gg ?_
    refine R1_call2 (rsmall_ok 1 w1 (by omega) (by omega)) ?_
    rintro _ w2 ⟨hE2, x, y, rfl, hcv⟩
    refine gg ?_
    refine R1_storeBx (.inl rfl) rfl rfl (hR1.ext hE2) (hcv.ev true (N := 1) (show (1 : Int).natAbs < B ^ 1 by decide)) ?_
    intro w3 hR3 hC3 hk3 hs3
    refine gg ?_
    obtain ⟨x, y, hB, hv⟩ := hR3
    exact retC rfl agg_Int rfl hB ⟨hC3.ext_of (hE1.trans hE2) (fun b hb => by omega), x, y, rfl, hv.2 rfl⟩
  | succ p ih =>
    intro v N M w h hn hN1 hN
    obtain ⟨A, cap, rfl, hrc, hcap, hrow⟩ := id h
    have hbM : ∀ i j, i < p + 1 → j < p + 1 → Bd N (M i j) := fun i j hi hj => h.bd hi hj
    have hNb : Nb N p < 68719476736 := Nb_big (by omega) (by omega)
    refine fn_W (n := 50) Try.func25 rfl rfl (by kernel_rfl) (by simp) ?_
    refine gg ?_
    refine R1_alloc (.inl rfl) z_Int ?_
    intro w1 hB1 hE1 hs1
    have hR1 : Bx w1 w.heap.size 1 true 0 := Bx.zero true hB1
    clear hB1
    obtain ⟨gR, hgR⟩ : ∃ g, g = w.heap.size := ⟨_, rfl⟩
    rw [← hgR] at hR1 ⊢
    refine gg ?_
    refine W_seq ?_
    refine gg ?_
    refine R1_bld0 b0_Int ?_
    refine gg ?_
    refine R1_alloc (.inl rfl) z_Int ?_
    intro w2 hB2 hE2 hs2
    have hS2 : Bx w2 w1.heap.size 1 true 0 := Bx.zero true hB2
    obtain ⟨gS, hgS⟩ : ∃ g, g = w1.heap.size := ⟨_, rfl⟩
    rw [← hgS] at hS2 ⊢
    refine gg ?_
    refine R1_storeBx (.inl rfl) rfl rfl hS2 ((CV.zero w2).ev true (Bd.zero (N + Nb N p + 1))) ?_
    intro w3 hS3 hC3 hk3 hs3
    have hRS : gR < gS := by omega
    have hE3 : Ext w w3 := hC3.ext_of (hE1.trans hE2) (fun b hb => by omega)
    have hR3 := (hR1.ext hE2).kp hk3 hC3 (by omega)
    have hwR : w.heap.size ≤ gR := by omega
    clear hB2 hS2 hE2 hE1 hR1 hC3 hk3 hs3 hs2 hs1 hgR hgS
    refine gg ?_
    refine W_seqM (fun f w' => f 2 = .pointer (some ⟨gR, 0, none⟩) ∧ f 3 = .pointer (some ⟨gS, 0, none⟩) ∧ Ext w w' ∧ Bx w' gR 1 true 0 ∧ Bx w' gS (N + Nb N p + 1) true (Go.Det.det (p + 1) M)) ?_ ?_
    · refine gg ?_
      refine W_loop (fun m f w' => ∃ j, m = p + 1 - j ∧ j ≤ p + 1 ∧ f 0 = .slice A (p + 1) cap ∧ f 2 = .pointer (some ⟨gR, 0, none⟩) ∧ f 3 = .pointer (some ⟨gS, 0, none⟩) ∧ f 13 = .int .i64 ((p + 1 : Nat) : Int) ∧ f 14 = .int .i64 ((j : Nat) : Int) ∧ Ext w w' ∧ Bx w' gR 1 true 0 ∧ Bx w' gS (N + Nb N p + 1) true (Go.Det.sm j (expT p M)))
        (p + 1) ⟨0, rfl, Nat.zero_le _, rfl, rfl, rfl, rfl, rfl, hE3, hR3, hS3⟩ ?_
      clear hE3 hR3 hS3 w1 w2 w3
      rintro m f w1 ⟨j, rfl, hj, hf0, hf2, hf3, hf13, hf14, hE, hR, hS⟩
      rw [ui hf0, ui hf2, ui hf3, ui hf13, ui hf14]
      clear hf0 hf2 hf3 hf13 hf14
      by_cases hlt : j < p + 1
      · have hsR := hR.lt
        have hsS := hS.lt
        refine gg ?_
        refine W_seqG [(0, 3), (1, 3), (2, 3), (3, 3), (5, 3), (6, 3), (7, 3), (9, 3), (10, 3), (11, 3)] [(4, [(8, 3)], []), (15, [], []), (12, [], [4]), (13, [], [4, 12]), (14, [], [13])] [(16, 2)] mixed (by kernel_rfl) (fun w2 hE2 _ => ?_)
        refine gg ?_
        refine R1_sliceL (l := 1) sl_sInt rfl rfl (by omega) ?_
        refine gg ?_
        refine Rg_float [(4, [(8, 3)]), (12, []), (13, []), (14, [])] [fA 15 5 35 (.agg #[.bool false, .slice none 0 0])] [21, 25, 29, 30, 31, 5] (by kernel_rfl) (fun a ha f' w' _ _ => by
          rcases List.mem_singleton.1 ha with rfl
          exact flt_alloc z_Int rfl f' w') ?_
        refine Rc_cons (fun w3 hE3 => ?_)
        refine gg ?_
        refine R1_call1 (rwithout_ok (p + 1) (-1) w3 (by omega)) ?_
        rintro u1 w4 ⟨hE4, hI1⟩
        refine ⟨hE4, ?_⟩
        have e1 : woLen (p + 1) (-1) = p + 1 := by unfold woLen; rw [if_neg (by omega)]
        rw [e1] at hI1
        obtain ⟨Ar, cr, rfl, hr1, hr2, hr3⟩ := id hI1
        refine gg ?_
        refine R1_sliceH sl_int rfl rfl (by omega) ?_
        refine gg ?_
        refine Rc_cons (fun w5 hE5 => ?_)
        refine gg ?_
        refine R1_call1 (rwithout_ok (p + 1) (j : Int) w5 (by omega)) ?_
        rintro u2 w6 ⟨hE6, hI2⟩
        refine ⟨hE6, ?_⟩
        rw [woLen_in hlt] at hI2
        refine gg ?_
        refine Rc_cons (fun w7 hE7 => ?_)
        have hE17 := hE2.trans (hE3.trans (hE4.trans (hE5.trans (hE6.trans hE7))))
        refine gg ?_
        refine R1_call1 (rselect_ok _ _ u2 p (p + 1) p p N (fun k => k) (woAt (j : Int)) (fun i => M (i + 1)) w7 ((h.ext (hE.trans hE17)).tail) ?_ (hI2.ext hE7) (fun k hk => hk) (fun k hk => by unfold woAt; split <;> omega) (by omega) (by omega)) ?_
        · have := (hI1.take (k := p) (by omega)).ext (hE5.trans (hE6.trans hE7))
          obtain ⟨A', c', e, q1, q2, q3⟩ := this
          refine ⟨A', c', e, q1, q2, fun k hk => ?_⟩
          obtain ⟨ad, e', hc⟩ := q3 k hk
          refine ⟨ad, e', ?_⟩
          rw [hc]
          have : woAt (-1) k = k := by unfold woAt; rw [if_neg (by omega)]
          simp only [this]
        rintro u3 w8 ⟨hE8, hSel⟩
        refine ⟨hE8, ?_⟩
        refine gg ?_
        refine Rc_cons (fun w9 hE9 => ?_)
        refine gg ?_
        refine R1_call1 (ih u3 N _ w9 (hSel.ext hE9) (by omega) hN1 hN) ?_
        rintro _ w10 ⟨hE10, mx, my, rfl, hcm⟩
        refine ⟨hE10, ?_⟩
        have emin : Go.Det.det p (fun i b => M (i + 1) (woAt (j : Int) b)) = Go.Det.det p (Go.Det.minor M 0 j) := by
          congr 1; funext i b
          unfold Go.Det.minor
          rw [Go.Det.skip_zero, woAt_skip]
        rw [emin] at hcm
        have hdm : Bd (Nb N p) (Go.Det.det p (Go.Det.minor M 0 j)) := det_bd hN1 fun a b ha hb => hbM _ _ (Go.Det.skip_lt ha) (Go.Det.skip_lt hb)
        refine gg ?_
        refine Rc_nil (fun w11 hE11 bs hbs _ => ?_)
        obtain ⟨hge, hBM⟩ := hbs _ List.mem_cons_self
        have hM11 : Bx w11 (bs 5) 1 true 0 := Bx.zero true hBM
        have hge : w2.heap.size ≤ bs 5 := hge
        have hE1_11 : Ext w1 w11 := hE17.trans (hE8.trans (hE9.trans (hE10.trans hE11)))
        show Ro _ _ _ _ _ _ (upd _ 5 (.pointer (some ⟨bs 5, 0, none⟩))) _
        generalize bs 5 = gM at *
        have h2s := hE2.size
        refine gg ?_
        refine R1_storeBx (.inl rfl) rfl rfl hM11 ((hcm.ext hE11).ev true hdm) ?_
        intro w12 hM12 hC12 hk12 hs12
        have hE1_12 : Ext w1 w12 := hC12.ext_of hE1_11 (fun b hb => by omega)
        replace hR := hR.ext hE1_12
        replace hS := hS.ext hE1_12
        replace hE := hE.trans hE1_12
        have hsM := hM12.lt
        have hMw : w.heap.size ≤ gM := by have := hE.size; omega
        have hgM : gR ≠ gM ∧ gS ≠ gM := by omega
        clear hM11 hBM hbs hC12 hk12 hs12 hE1_12 hE1_11 hE17 hE2 hE3 hE4 hE5 hE6 hE7 hE8 hE9 hE10 hE11 hSel hI1 hI2 hcm
        obtain ⟨ad, u, rfl, hx0, hru⟩ := hrow 0 (by omega)
        obtain ⟨A0, cap0, rfl, hc0, hcap0, hent⟩ := id hru
        obtain ⟨ad0, xx, yy, rfl, hxx, hyy, hvv⟩ := hent j hlt
        refine gg ?_
        refine W_seqG [(0, 3), (1, 3), (2, 0), (3, 3), (4, 3), (5, 0), (6, 0)] [(7, [], []), (8, [], [])] [(9, 2)] mixed (by kernel_rfl) (fun w13 hE13 _ => ?_)
        have hx0' := cell_ext (hE.trans hE13) hx0
        have hxx' := cell_ext (hE.trans hE13) hxx
        have hyy' := cell_ext (hE.trans hE13) hyy
        have hvv' : IV w13 N xx yy (M 0 j) := IV.ext hvv (hE.trans hE13)
        obtain ⟨bx, by', hMB, hMv⟩ := hM12.ext hE13
        obtain ⟨p1, p2⟩ := blkP hMB
        rw [Nat.zero_mul, add_zero] at hx0'
        refine gg ?_
        refine Rg_float [(7, [])] [fA 8 6 35 (.agg #[.bool false, .slice none 0 0])] [39, 6] (by kernel_rfl) (fun a ha f' w' _ _ => by
          rcases List.mem_singleton.1 ha with rfl
          exact flt_alloc z_Int rfl f' w') ?_
        refine Rc_cons (fun w14 hE14 => ?_)
        refine gg ?_
        refine R1_call1 (rmul_ok _ _ _ _ _ _ (N + Nb N p) w14 ((hvv'.ext hE14).mono (by omega)) ((hMv.1.ext hE14).mono (by omega)) (by omega)) ?_
        rintro _ w15 ⟨hE15, tx, ty, rfl, hct⟩
        refine ⟨hE15, ?_⟩
        have hbt : Bd (N + Nb N p) (M 0 j * Go.Det.det p (Go.Det.minor M 0 j)) := (hbM 0 j (by omega) hlt).mul hdm
        refine gg ?_
        refine Rc_nil (fun w16 hE16 bs hbs _ => ?_)
        obtain ⟨hge', hBT⟩ := hbs _ List.mem_cons_self
        have hT16 : Bx w16 (bs 6) 1 true 0 := Bx.zero true hBT
        have hge' : w13.heap.size ≤ bs 6 := hge'
        have hE12_16 : Ext w12 w16 := hE13.trans (hE14.trans (hE15.trans hE16))
        show Ro _ _ _ _ _ _ (upd _ 6 (.pointer (some ⟨bs 6, 0, none⟩))) _
        generalize bs 6 = gT at *
        have h13s := hE13.size
        refine gg ?_
        refine R1_storeBx (.inl rfl) rfl rfl hT16 ((hct.ext hE16).ev true hbt) ?_
        intro w17 hT17 hC17 hk17 hs17
        have hE12_17 : Ext w12 w17 := hC17.ext_of hE12_16 (fun b hb => by omega)
        have hsR' := hR.lt
        have hsS' := hS.lt
        replace hR := hR.ext hE12_17
        replace hS := hS.ext hE12_17
        have hTw : w.heap.size ≤ gT := by have := hE.size; omega
        replace hE := hE.trans hE12_17
        have hgT : gR ≠ gT ∧ gS ≠ gT := by omega
        clear hT16 hBT hbs hC17 hk17 hs17 hE12_17 hE12_16 hE13 hE14 hE15 hE16 hx0' hxx' hyy' hvv' p1 p2 hMB hMv hM12 hct
        refine gg ?_
        refine W_seqM (fun f w' => f 0 = .slice (some ad) (p + 1) cap ∧ f 2 = .pointer (some ⟨gR, 0, none⟩) ∧ f 3 = .pointer (some ⟨gS, 0, none⟩) ∧ f 13 = .int .i64 ((p + 1 : Nat) : Int) ∧ f 14 = .int .i64 ((j : Nat) : Int) ∧ f 6 = .pointer (some ⟨gT, 0, none⟩) ∧ Ext w w' ∧ Bx w' gR 1 true 0 ∧ Bx w' gS (N + Nb N p + 1) true (Go.Det.sm j (expT p M)) ∧ Bx w' gT (N + Nb N p) true (expT p M j)) ?_ ?_
        · refine W_seq ?_
          refine gg ?_
          refine R1_rem_i64_c rfl (by decide) ?_
          by_cases hodd : j % 2 = 1
          · obtain ⟨bx, by', hXB, hXv⟩ := id hT17
            obtain ⟨p1, p2⟩ := blkP hXB
            refine gg ?_
            refine R1_call2 (rneg_ok _ _ _ _ w17 hXv.1 (by omega)) ?_
            rintro _ w18 ⟨hE18, nx, ny, rfl, hcn⟩
            refine gg ?_
            refine R1_storeBx (.inl rfl) rfl rfl (hT17.ext hE18) (hcn.ev true hbt.neg) ?_
            intro w19 hT19 hC19 hk19 hs19
            refine gg ?_
            refine ⟨rfl, rfl, rfl, rfl, rfl, rfl, hC19.ext_of (hE.trans hE18) (fun b hb => by omega), (hR.ext hE18).kp hk19 hC19 (fun e => hgT.1 e), (hS.ext hE18).kp hk19 hC19 (fun e => hgT.2 e), ?_⟩
            have : expT p M j = -(M 0 j * Go.Det.det p (Go.Det.minor M 0 j)) := by unfold expT Go.Det.sgn; rw [if_neg (by omega), Int.neg_mul, Int.one_mul, Int.neg_mul]
            rw [this]; exact hT19
          · refine gg ?_
            refine ⟨rfl, rfl, rfl, rfl, rfl, rfl, hE, hR, hS, ?_⟩
            have : expT p M j = M 0 j * Go.Det.det p (Go.Det.minor M 0 j) := by unfold expT Go.Det.sgn; rw [if_pos (by omega), Int.one_mul]
            rw [this]; exact hT17
        clear hT17 hE hR hS
        rintro f w18 ⟨hf0, hf2, hf3, hf13, hf14, hf6, hE, hR, hS, hT⟩
        rw [ui hf0, ui hf2, ui hf3, ui hf13, ui hf14, ui hf6]
        clear hf0 hf2 hf3 hf13 hf14 hf6
        obtain ⟨sx, sy, hSB, hSv⟩ := id hS
        obtain ⟨tx, ty, hTB, hTv⟩ := id hT
        obtain ⟨q1, q2⟩ := blkP hSB
        obtain ⟨q3, q4⟩ := blkP hTB
        refine gg ?_
        refine R1_call2 (radd_ok _ _ _ _ _ _ (N + Nb N p + 1) w18 hSv.1 (hTv.1.mono (by omega)) (by omega)) ?_
        rintro _ w19 ⟨hE19, ax, ay, rfl, hca⟩
        have esm : Go.Det.sm (j + 1) (expT p M) = Go.Det.sm j (expT p M) + expT p M j := rfl
        rw [← esm] at hca
        refine gg ?_
        refine R1_storeBx (.inl rfl) rfl rfl (hS.ext hE19) (hca.ev true (expS_bd hN1 (by omega) hbM (by omega))) ?_
        intro w20 hS20 hC20 hk20 hs20
        have hsS'' := hE.size
        refine gg ?_
        refine ⟨_, ?_, j + 1, rfl, by omega, rfl, rfl, rfl, rfl, rfl, hC20.ext_of (hE.trans hE19) (fun b hb => by omega), (hR.ext hE19).kp hk20 hC20 (by omega), hS20⟩
        omega
      · obtain rfl : j = p + 1 := by omega
        refine gg ?_
        exact ⟨rfl, rfl, hE, hR, hS⟩
    clear hE3 hR3 hS3 w1 w2 w3
    rintro f w1 ⟨hf2, hf3, hE, hR, hS⟩
    rw [ui hf2, ui hf3]
    clear hf2 hf3
    obtain ⟨sx, sy, hSB, hSv⟩ := id hS
    obtain ⟨q1, q2⟩ := blkP hSB
    refine gg ?_
    refine R1_storeBx (.inl rfl) rfl rfl hR hSv ?_
    intro w3 hR3 hC3 hk3 hs3
    refine gg ?_
    obtain ⟨x, y, hB, hv⟩ := hR3
    exact retC rfl agg_Int rfl hB ⟨hC3.ext_of hE (fun b hb => by omega), x, y, rfl, hv.2 rfl⟩

set_option maxHeartbeats 16000000 in
theorem lawExpansion {vx : Value} {rx cx nx : Nat} {nsx : Nat → Int} {w : World} (hx : GridV w vx rx cx nx nsx) :
    Meets Try.prog 5 #[vx] w (Law w) := by
  obtain ⟨Ax, capx, rfl, hx1, hx2, hx3, hx4⟩ := hx
  refine fn_W (n := 23) Try.func5 rfl rfl (by kernel_rfl) (by simp) ?_
  refine gg ?_
  refine R1_box (v := .agg _) (.inl rfl) rfl ?_
  intro w1 hB1 hE1 hs1
  have hX1 : Blk w1 w.heap.size 25 #[.int .u8 ((rx : Nat) : Int), .int .u8 ((cx : Nat) : Int), .slice Ax nx capx] := hB1
  have hGx := GridV.agg hx1 hx2 hx3 hx4
  clear hB1
  obtain ⟨x0, x1, x2⟩ := blkT hX1
  have hm1 := Nat.mod_lt rx (show 0 < 5 by decide)
  obtain ⟨n, hn⟩ : ∃ n, n = 1 + rx % 5 := ⟨_, rfl⟩
  have hn1 : 1 ≤ n := by omega
  have hn5 : n ≤ 5 := by omega
  have hn2 : n ≤ 16 := by omega
  have hnb : n < 9223372036854775808 := by omega
  obtain ⟨X, hX⟩ : ∃ X, X = gridM n nx nsx := ⟨_, rfl⟩
  have bX : ∀ i j, i < n → j < n → Bd 1 (X i j) := fun i j _ _ => by rw [hX]; exact gridM_bd hx4 _ i j
  have hd1 := detB_bd (n := n) (by decide : 1 ≤ 1) bX
  have hNb : Nb 1 n < 68719476736 := Nb_big (by decide) hn2
  refine gg ?_
  refine R1_load3F (by decide) agg_Grid rfl x0 x1 x2 ?_
  clear x0 x1 x2
  refine gg ?_
  refine R1_call2 (gridSquare_ok _ rx cx nx 5 nsx w1 (hGx w1 hE1) (by decide) (by decide)) ?_
  rintro _ w2 ⟨hE2, g2, gs2, rfl, _, _, hO2⟩
  rw [← hn] at hO2 ⊢
  rw [← hX] at hO2
  refine gg ?_
  refine R1_call2 (detT_ok (N := 1) (hO2.rd bX (by decide) hnb hnb) (by decide) (by decide) hn1 hn2) ?_
  rintro _ w4 ⟨hE4, xd, yd, rfl, hcd⟩
  refine gg ?_
  refine R1_alloc (.inl rfl) z_Int ?_
  intro w5a hBa_ hEa_ hsa_
  have hG0_ : Bx w5a w4.heap.size 1 true 0 := Bx.zero true hBa_
  obtain ⟨gD, hg_⟩ : ∃ g, g = w4.heap.size := ⟨_, rfl⟩
  rw [← hg_] at hG0_ ⊢
  refine gg ?_
  refine R1_storeBx (.inl rfl) rfl rfl hG0_ ((hcd.ext hEa_).ev true hd1) ?_
  intro w5 hD hCb_ hkb_ hsb_
  have hE5 : Ext w4 w5 := hCb_.ext_of hEa_ (fun b hb => by omega)
  have hfr_gD : w4.heap.size ≤ gD := by omega
  clear hG0_ hBa_ hEa_ hsa_ hsb_ hCb_ hkb_ hg_
  replace hO2 := hO2.ext (hE4.trans hE5)
  have hE := hE1.trans (hE2.trans (hE4.trans hE5))
  refine gg ?_
  refine W_seqD [(0, 3), (1, 3), (2, 0), (3, 3), (4, 1), (5, 1), (6, 3), (7, 3), (8, 1), (9, 3), (10, 3)] mixed (by kernel_rfl) (fun w6 hE6 _ => ?_)
  replace hO2 := hO2.ext hE6
  replace hD := hD.ext hE6
  obtain ⟨dx, dy, hdB, hdv⟩ := hD
  obtain ⟨p1, p2⟩ := blkP hdB
  refine gg ?_
  refine R1_callS (expansion_ok n _ 1 X w6 (hO2.rd bX (by decide) hnb hnb) (by omega) (by decide) (by decide)) ?_
  rintro _ w7 ⟨hE7, ex, ey, rfl, hce⟩
  refine ⟨hE7, ?_⟩
  rw [← detB_det] at hce
  refine gg ?_
  refine R1_callS (rsame_ok _ _ _ _ _ _ (Nb 1 n) (Nb 1 n) w7 ((hdv.2 rfl).ext hE7) hce (by omega) (by omega) hd1 hd1) ?_
  rintro _ w8 ⟨hE8, rfl⟩
  refine ⟨hE8, ?_⟩
  rw [decide_eq_true rfl]
  refine gg ?_
  refine R1_callS (awake_ok w8) ?_
  rintro _ w9 ⟨hE9, rfl⟩
  refine ⟨hE9, ?_⟩
  refine gg ?_
  exact ret1 (v := .bool _) rfl rfl ⟨hE.trans (hE6.trans (hE7.trans (hE8.trans hE9))), rfl⟩
end Go.Proofs.Ytimjiaabaanbeaa
