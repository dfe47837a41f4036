/- The reference's Transpose, Add, Dot, Mul, Product. -/
import Derived.Test.YtimjiaabaanbeaaMatm
import Derived.Test.YtimjiaabaanbeaaRefg
namespace Go.Proofs.Ytimjiaabaanbeaa
open Go Go.Eng Go.Num Go.Proofs

set_option maxHeartbeats 8000000 in
theorem rtranspose_ok (va : Value) (r N : Nat) (len : Nat → Nat) (X : Nat → Nat → Int) (w : World) (ha : MatE (EI N) w va r len X) (hN : N < 1099511627776) :
    Meets Try.prog 36 #[va] w (RMB w (okM r len) (len 0) r (fun i j => X j i)) := by
  obtain ⟨Aa, capa, hva, _⟩ := id ha
  refine fn_W (n := 51) Try.func36 rfl rfl (by kernel_rfl) (by simp) ?_
  refine gg ?_
  refine R1_call2 (rshape_ok _ va r len X w ha) ?_
  rintro _ w1 ⟨hE1, rfl⟩
  obtain ⟨s1, c1, ok1, e1, h1⟩ := shapeV_cases r len
  rw [e1]
  rcases h1 with ⟨hok, rfl, rfl, rfl⟩ | ⟨hok, rfl, rfl, rfl⟩
  · obtain ⟨⟨hr1, hr2, hl1, hl2⟩, hlen⟩ := okM_iff.1 hok
    have hS := ha.sq hlen
    refine gg ?_
    refine W_seq ?_
    refine gg ?_
    refine R1_call2 (zero_ok (len 0) s1 w1 (by omega) (by omega)) ?_
    rintro _ w2 ⟨hE2, gO, gs, rfl, hg, hgs, hO⟩
    have hw1 := hE1.size
    have hE02 := hE1.trans hE2
    subst hva
    refine gg ?_
    refine W_seq ?_
    refine gg ?_
    refine W_loop (fun m f w' => ∃ i, m = s1 - i ∧ i ≤ s1 ∧ f 0 = .slice Aa s1 capa ∧ f 7 = .slice (some ⟨gO, 0, none⟩) (len 0) (len 0) ∧ f 22 = .int .i64 ((s1 : Nat) : Int) ∧ f 23 = .int .i64 ((i : Nat) : Int) ∧
      Ext w w' ∧ WMat w' gO gs (len 0) s1 true (fun _ _ => N) (fun a b => if b < i then X b a else 0))
      s1 ⟨0, rfl, Nat.zero_le _, rfl, rfl, rfl, rfl, hE02, (hO.wm true (N := N) (fun _ _ _ _ => Bd.zero N)).congr (fun i j _ _ => ⟨Nat.le_refl _, by simp⟩)⟩ ?_
    clear hO hE02 hE2 w2
    rintro m f w2 ⟨i, rfl, hi, hf0, hf7, hf22, hf23, hE, hW⟩
    rw [ui hf0, ui hf7, ui hf22, ui hf23]
    clear hf0 hf7 hf22 hf23
    by_cases hlt : i < s1
    · obtain ⟨ad, cap, u, e, hu, hru⟩ := (hS.ext hE).at hlt
      obtain ⟨Ai, capi, rfl, _⟩ := id hru
      cases e
      refine gg ?_
      refine W_loop (fun m f w' => ∃ j, m = len 0 - j ∧ j ≤ len 0 ∧ f 0 = .slice (some ad) s1 capa ∧ f 7 = .slice (some ⟨gO, 0, none⟩) (len 0) (len 0) ∧ f 8 = .int .i64 ((i : Nat) : Int) ∧ f 22 = .int .i64 ((s1 : Nat) : Int) ∧ f 23 = .int .i64 ((i : Nat) : Int) ∧
        f 30 = .int .i64 ((len 0 : Nat) : Int) ∧ f 31 = .int .i64 ((j : Nat) : Int) ∧ Ext w w' ∧ WMat w' gO gs (len 0) s1 true (fun _ _ => N) (fun a b => if b < i ∨ b = i ∧ a < j then X b a else 0))
        (len 0) ⟨0, rfl, Nat.zero_le _, rfl, rfl, rfl, rfl, rfl, rfl, rfl, hE, hW.congr (fun a b _ _ => ⟨Nat.le_refl _, by by_cases e : b < i <;> simp [e]⟩)⟩ ?_
      clear hW hE hu hru
      rintro m f w2 ⟨j, rfl, hj, hf0, hf7, hf8, hf22, hf23, hf30, hf31, hE, hW⟩
      rw [ui hf0, ui hf7, ui hf8, ui hf22, ui hf23, ui hf30, ui hf31]
      clear hf0 hf7 hf8 hf22 hf23 hf30 hf31
      by_cases hjc : j < len 0
      · refine gg ?_
        refine W_regD [(0, 3), (1, 3), (2, 3), (3, 0), (4, 3), (5, 3), (6, 3), (7, 3), (8, 0), (9, 3), (10, 3), (11, 0), (12, 1), (13, 3), (14, 2)] mixed (by kernel_rfl) (fun w3 hE3 _ => ?_)
        obtain ⟨ad', cap', u, e, hu, hru⟩ := (hS.ext (hE.trans hE3)).at hlt
        cases e
        obtain ⟨ad2, cap2, x1, y1, rfl, hx1, hy1, hv1⟩ := hru.at hjc
        have hW3 := hW.ext hE3
        have hx := hW3.at hjc
        refine gg ?_
        refine R1_call1 (rnormalize_ok _ _ _ N w3 hv1 hN) ?_
        rintro _ w4 ⟨hE4, x, y, rfl, hcv⟩
        refine ⟨hE4, ?_⟩
        refine gg ?_
        refine R1_storeE (.inl rfl) rfl rfl ((hW3.ext hE4).row j hjc) hlt (hcv.ev true (N := N) (IV.bd hv1)) ?_
        intro w5 hR5 hC5 hk5 hs5
        have hW5 := (hW3.ext hE4).put hjc hR5 hC5 hk5
        refine gg ?_
        have hgi := hgs j hjc
        refine ⟨_, ?_, j + 1, rfl, by omega, rfl, rfl, rfl, rfl, rfl, rfl, rfl, hC5.ext_of (hE.trans (hE3.trans hE4)) (fun b hb => by omega), hW5.congr (fun a b ha hb => ⟨?_, ?_⟩)⟩
        · omega
        · unfold set2; split <;> exact Nat.le_refl _
        · simp only [set2]
          by_cases e : a = j ∧ b = i
          · obtain ⟨rfl, rfl⟩ := e
            rw [if_pos ⟨rfl, rfl⟩, if_pos (by omega)]
          · rw [if_neg e]
            by_cases e2 : b < i ∨ b = i ∧ a < j
            · rw [if_pos e2, if_pos (by omega)]
            · rw [if_neg e2, if_neg (by omega)]
      · refine gg ?_
        refine ⟨_, ?_, i + 1, rfl, by omega, rfl, rfl, rfl, rfl, hE, hW.congr (fun a b ha hb => ⟨Nat.le_refl _, ?_⟩)⟩
        · omega
        · by_cases e2 : b < i + 1
          · rw [if_pos e2, if_pos (by omega)]
          · rw [if_neg e2, if_neg (by omega)]
    · refine gg ?_
      have : i = s1 := by omega
      subst this
      refine ret2 (v := .slice _ _ _) (v' := .bool _) rfl rfl rfl ?_
      unfold RMB
      rw [if_pos hok]
      exact ⟨_, rfl, hE, gO, gs, rfl, by omega, fun k hk => by have := hgs k hk; omega, (hW.congr (bn' := fun _ _ => N) (M' := fun i j => X j i) (fun a b ha hb => ⟨Nat.le_refl _, by rw [if_pos hb]⟩)).o⟩
  · refine gg ?_
    refine W_seq ?_
    refine gg ?_
    exact ret2 (v := .slice _ _ _) (v' := .bool _) rfl rfl rfl (rmb_bad hok hE1)

set_option maxHeartbeats 8000000 in
theorem raddM_ok (va vb : Value) (r1 r2 N : Nat) (len1 len2 : Nat → Nat) (X Y : Nat → Nat → Int) (w : World) (ha : MatE (EI N) w va r1 len1 X) (hb : MatE (EI N) w vb r2 len2 Y) (hN : N < 137438953472) :
    Meets Try.prog 43 #[va, vb] w (RMB w (okAdd r1 r2 len1 len2) r1 (len1 0) (fun i j => X i j + Y i j)) := by
  obtain ⟨Aa, capa, hva, _⟩ := id ha
  obtain ⟨Ab, capb, hvb, _⟩ := id hb
  refine fn_W (n := 83) Try.func43 rfl rfl (by kernel_rfl) (by simp) ?_
  refine gg ?_
  refine R1_call2 (rshape_ok _ va r1 len1 X w ha) ?_
  rintro _ w1 ⟨hE1, rfl⟩
  obtain ⟨s1, c1, ok1, e1, h1⟩ := shapeV_cases r1 len1
  rw [e1]
  refine gg ?_
  refine R1_call2 (rshape_ok _ vb r2 len2 Y w1 (hb.ext hE1)) ?_
  rintro _ w2 ⟨hE2, rfl⟩
  obtain ⟨s2, c2, ok2, e2, h2⟩ := shapeV_cases r2 len2
  rw [e2]
  have hE02 := hE1.trans hE2
  rcases h1 with ⟨hok1, rfl, rfl, rfl⟩ | ⟨hok1, rfl, rfl, rfl⟩
  · rcases h2 with ⟨hok2, rfl, rfl, rfl⟩ | ⟨hok2, rfl, rfl, rfl⟩
    · by_cases hr : s1 = s2
      · by_cases hc : len1 0 = len2 0
        · subst hr
          have hok : okAdd s1 s1 len1 len2 = true := by simp [okAdd, hok1, hok2, hc]
          obtain ⟨⟨hr1, hr2, hl1, hl2⟩, hlen⟩ := okM_iff.1 hok1
          obtain ⟨_, hlen'⟩ := okM_iff.1 hok2
          have hSa := ha.sq hlen
          have hSb : MatE (EI N) w vb s1 (fun _ => len1 0) Y := by rw [hc]; exact hb.sq hlen'
          refine gg ?_
          refine W_seq ?_
          refine gg ?_
          refine R1_call2 (zero_ok s1 (len1 0) w2 (by omega) (by omega)) ?_
          rintro _ w3 ⟨hE3, gO, gs, rfl, hg, hgs, hO⟩
          have hw2 := hE02.size
          have hE03 := hE02.trans hE3
          subst hva
          refine gg ?_
          refine W_seq ?_
          refine gg ?_
          refine W_loop (fun m f w' => ∃ i, m = s1 - i ∧ i ≤ s1 ∧ f 0 = .slice Aa s1 capa ∧ f 1 = vb ∧ f 12 = .slice (some ⟨gO, 0, none⟩) s1 s1 ∧ f 47 = .int .i64 ((s1 : Nat) : Int) ∧ f 48 = .int .i64 ((i : Nat) : Int) ∧
            Ext w w' ∧ WMat w' gO gs s1 (len1 0) true (fun _ _ => N + 1) (fun a b => if a < i then X a b + Y a b else 0))
            s1 ⟨0, rfl, Nat.zero_le _, rfl, rfl, rfl, rfl, rfl, hE03, (hO.wm true (N := N + 1) (fun _ _ _ _ => Bd.zero _)).congr (fun i j _ _ => ⟨Nat.le_refl _, by simp⟩)⟩ ?_
          clear hO hE03 hE3 w3
          rintro m f w3 ⟨i, rfl, hi, hf0, hf1, hf12, hf47, hf48, hE, hW⟩
          rw [ui hf0, ui hf1, ui hf12, ui hf47, ui hf48]
          clear hf0 hf1 hf12 hf47 hf48
          by_cases hlt : i < s1
          · obtain ⟨ad, cap, u, e, hu, hru⟩ := (hSa.ext hE).at hlt
            obtain ⟨Ai, capi, rfl, _⟩ := id hru
            cases e
            refine gg ?_
            refine W_loop (fun m f w' => ∃ j, m = len1 0 - j ∧ j ≤ len1 0 ∧ f 0 = .slice (some ad) s1 capa ∧ f 1 = vb ∧ f 12 = .slice (some ⟨gO, 0, none⟩) s1 s1 ∧ f 13 = .int .i64 ((i : Nat) : Int) ∧ f 47 = .int .i64 ((s1 : Nat) : Int) ∧ f 48 = .int .i64 ((i : Nat) : Int) ∧
              f 55 = .int .i64 ((len1 0 : Nat) : Int) ∧ f 56 = .int .i64 ((j : Nat) : Int) ∧ Ext w w' ∧ WMat w' gO gs s1 (len1 0) true (fun _ _ => N + 1) (fun a b => if a < i ∨ a = i ∧ b < j then X a b + Y a b else 0))
              (len1 0) ⟨0, rfl, Nat.zero_le _, rfl, rfl, rfl, rfl, rfl, rfl, rfl, rfl, hE, hW.congr (fun a b _ _ => ⟨Nat.le_refl _, by by_cases e : a < i <;> simp [e]⟩)⟩ ?_
            clear hW hE hu hru
            rintro m f w3 ⟨j, rfl, hj, hf0, hf1, hf12, hf13, hf47, hf48, hf55, hf56, hE, hW⟩
            rw [ui hf0, ui hf1, ui hf12, ui hf13, ui hf47, ui hf48, ui hf55, ui hf56]
            clear hf0 hf1 hf12 hf13 hf47 hf48 hf55 hf56
            by_cases hjc : j < len1 0
            · refine gg ?_
              refine W_regD [(0, 3), (1, 3), (2, 3), (3, 0), (4, 3), (5, 3), (6, 3), (7, 3), (8, 0), (9, 3), (10, 3), (11, 0), (12, 3), (13, 3), (14, 3), (15, 0), (16, 3), (17, 3), (18, 0), (19, 1), (20, 3), (21, 2)] mixed (by kernel_rfl) (fun w4 hE4 _ => ?_)
              obtain ⟨ad', cap', u, e, hu, hru⟩ := (hSa.ext (hE.trans hE4)).at hlt
              cases e
              obtain ⟨ad2, cap2, x1, y1, rfl, hx1, hy1, hv1⟩ := hru.at hjc
              obtain ⟨adb, capb', ub, rfl, hub, hrub⟩ := (hSb.ext (hE.trans hE4)).at hlt
              obtain ⟨ad3, cap3, x2, y2, rfl, hx2, hy2, hv2⟩ := hrub.at hjc
              have hW4 := hW.ext hE4
              have hx := hW4.at hlt
              refine gg ?_
              refine R1_call1 (radd_ok _ _ _ _ _ _ N w4 hv1 hv2 hN) ?_
              rintro _ w5 ⟨hE5, x, y, rfl, hcv⟩
              refine ⟨hE5, ?_⟩
              refine gg ?_
              refine R1_storeE (.inl rfl) rfl rfl ((hW4.ext hE5).row i hlt) hjc (hcv.ev true (N := N + 1) (Bd.add (IV.bd hv1) (IV.bd hv2))) ?_
              intro w6 hR6 hC6 hk6 hs6
              have hW6 := (hW4.ext hE5).put hlt hR6 hC6 hk6
              refine gg ?_
              have hgi := hgs i hlt
              refine ⟨_, ?_, j + 1, rfl, by omega, rfl, rfl, rfl, rfl, rfl, rfl, rfl, rfl, hC6.ext_of (hE.trans (hE4.trans hE5)) (fun b hb => by omega), hW6.congr (fun a b ha hb => ⟨?_, ?_⟩)⟩
              · omega
              · unfold set2; split <;> exact Nat.le_refl _
              · simp only [set2]
                by_cases e : a = i ∧ b = j
                · obtain ⟨rfl, rfl⟩ := e
                  rw [if_pos ⟨rfl, rfl⟩, if_pos (by omega)]
                · rw [if_neg e]
                  by_cases e2 : a < i ∨ a = i ∧ b < j
                  · rw [if_pos e2, if_pos (by omega)]
                  · rw [if_neg e2, if_neg (by omega)]
            · refine gg ?_
              refine ⟨_, ?_, i + 1, rfl, by omega, rfl, rfl, rfl, rfl, rfl, hE, hW.congr (fun a b ha hb => ⟨Nat.le_refl _, ?_⟩)⟩
              · omega
              · by_cases e2 : a < i + 1
                · rw [if_pos e2, if_pos (by omega)]
                · rw [if_neg e2, if_neg (by omega)]
          · refine gg ?_
            have : i = s1 := by omega
            subst this
            refine ret2 (v := .slice _ _ _) (v' := .bool _) rfl rfl rfl ?_
            unfold RMB
            rw [if_pos hok]
            exact ⟨_, rfl, hE, gO, gs, rfl, by omega, fun k hk => by have := hgs k hk; omega, (hW.congr (bn' := fun _ _ => N + 1) (M' := fun i j => X i j + Y i j) (fun a b ha hb => ⟨Nat.le_refl _, by rw [if_pos ha]⟩)).o⟩
        · refine gg ?_
          refine W_seq ?_
          refine gg ?_
          exact ret2 (v := .slice _ _ _) (v' := .bool _) rfl rfl rfl (rmb_bad (by simp [okAdd, hc]) hE02)
      · refine gg ?_
        refine W_seq ?_
        refine gg ?_
        exact ret2 (v := .slice _ _ _) (v' := .bool _) rfl rfl rfl (rmb_bad (by simp [okAdd, hr]) hE02)
    · refine gg ?_
      refine W_seq ?_
      refine gg ?_
      exact ret2 (v := .slice _ _ _) (v' := .bool _) rfl rfl rfl (rmb_bad (by simp [okAdd, hok2]) hE02)
  · refine gg ?_
    refine W_seq ?_
    refine gg ?_
    exact ret2 (v := .slice _ _ _) (v' := .bool _) rfl rfl rfl (rmb_bad (by simp [okAdd, hok1]) hE02)

set_option maxHeartbeats 8000000 in
theorem dot_ok (va vb : Value) (c N : Nat) (X Y : Nat → Int) (w : World) (ha : RowE (EI N) w va c X) (hb : RowE (EI N) w vb c Y) (hc : c < 4294967295) (hN : N < 34359738368) :
    Meets Try.prog 55 #[va, vb] w (RI w (sumTo c fun t => X t * Y t)) := by
  obtain ⟨Aa, capa, hva, _⟩ := id ha
  subst hva
  refine fn_W (n := 26) Try.func55 rfl rfl (by kernel_rfl) (by simp) ?_
  refine gg ?_
  refine R1_alloc (.inl rfl) z_Int ?_
  intro w1 hB1 hE1 hs1
  have hR1 : Bx w1 w.heap.size 1 true 0 := Bx.zero true hB1
  refine gg ?_
  refine R1_bld0 b0_Int ?_
  refine gg ?_
  refine R1_alloc (.inl rfl) z_Int ?_
  intro w2 hB2 hE2 hs2
  have hS2 : Bx w2 w1.heap.size 1 true 0 := Bx.zero true hB2
  refine gg ?_
  refine R1_storeBx (N' := N + N + 1) (.inl rfl) rfl rfl hS2 ((CV.zero w2).ev true (Bd.zero _)) ?_
  intro w3 hS3 hC3 hk3 hs3
  obtain ⟨gR, hgR⟩ : ∃ g, g = w.heap.size := ⟨_, rfl⟩
  obtain ⟨gS, hgS⟩ : ∃ g, g = w1.heap.size := ⟨_, rfl⟩
  rw [← hgS] at hS3 hC3 ⊢
  rw [← hgR] at hR1 ⊢
  have hR3 := (hR1.ext hE2).kp hk3 hC3 (by omega)
  have hE3 : Ext w w3 := hC3.ext_of (hE1.trans hE2) (fun b hb => by omega)
  refine gg ?_
  refine W_seq ?_
  refine gg ?_
  refine W_loop (fun m f w' => ∃ k, m = c - k ∧ k ≤ c ∧ f 0 = .slice Aa c capa ∧ f 1 = vb ∧ f 4 = .pointer (some ⟨gR, 0, none⟩) ∧ f 5 = .pointer (some ⟨gS, 0, none⟩) ∧ f 9 = .int .i64 ((c : Nat) : Int) ∧ f 10 = .int .i64 ((k : Nat) : Int) ∧
    Ext w w' ∧ Bx w' gR 1 true 0 ∧ Bx w' gS (N + N + 1) true (sumTo k fun t => X t * Y t)) c ⟨0, rfl, Nat.zero_le _, rfl, rfl, rfl, rfl, rfl, rfl, hE3, hR3, hS3⟩ ?_
  clear hE3 hR3 hk3 hC3 hS3 hs3 hS2 hB2 hE2 hs2 hR1 hB1 w2 w3
  rintro m f w2 ⟨k, rfl, hk, hf0, hf1, hf4, hf5, hf9, hf10, hE, hR, hS⟩
  rw [ui hf0, ui hf1, ui hf4, ui hf5, ui hf9, ui hf10]
  clear hf0 hf1 hf4 hf5 hf9 hf10
  by_cases hlt : k < c
  · refine gg ?_
    refine W_regD [(0, 0), (1, 3), (2, 3), (3, 3), (4, 0), (5, 3), (6, 3), (7, 3), (8, 0), (9, 1), (10, 1), (11, 2)] mixed (by kernel_rfl) (fun w3 hE3 _ => ?_)
    have hE' := hE.trans hE3
    obtain ⟨sx, sy, hSB, hSv⟩ := hS.ext hE3
    obtain ⟨s1, s2⟩ := blkP hSB
    obtain ⟨ada', capa', xa, ya, e, hxa, hya, hva⟩ := (ha.ext hE').at hlt
    cases e
    obtain ⟨adb', capb', xb, yb, rfl, hxb, hyb, hvb⟩ := (hb.ext hE').at hlt
    refine gg ?_
    refine R1_call1 (rmul_ok _ _ _ _ _ _ N w3 hva hvb (by omega)) ?_
    rintro _ w4 ⟨hE4, a1, b1, rfl, hc1⟩
    refine ⟨hE4, ?_⟩
    have hm : Bd (N + N) (X k * Y k) := (IV.bd hva).mul (IV.bd hvb)
    refine gg ?_
    refine R1_call1 (radd_ok _ _ _ _ _ _ (N + N + 1) w4 (hSv.ext hE4).1 (hc1.iv (hm.mono (by omega))) (by omega)) ?_
    rintro _ w5 ⟨hE5, a2, b2, rfl, hc2⟩
    refine ⟨hE5, ?_⟩
    have hsum : Bd (N + N + 1) (sumTo (k + 1) fun t => X t * Y t) := sumTo_bd (by omega) (fun t ht => ?_)
    · refine gg ?_
      refine R1_storeBx (.inl rfl) rfl rfl (hS.ext (hE3.trans (hE4.trans hE5))) (hc2.ev true hsum) ?_
      intro w6 hS6 hC6 hk6 hs6
      have hsz := hE1.size
      refine gg ?_
      refine ⟨_, ?_, k + 1, rfl, by omega, rfl, rfl, rfl, rfl, rfl, rfl, hC6.ext_of (hE'.trans (hE4.trans hE5)) (fun b hb => by omega), (hR.ext (hE3.trans (hE4.trans hE5))).kp hk6 hC6 (by omega), hS6⟩
      omega
    · obtain ⟨_, _, _, _, _, _, _, h1⟩ := ha.at (show t < c by omega)
      obtain ⟨_, _, _, _, _, _, _, h2⟩ := hb.at (show t < c by omega)
      exact (IV.bd h1).mul (IV.bd h2)
  · have : k = c := by omega
    subst this
    obtain ⟨sx, sy, hSB, hSv⟩ := hS
    obtain ⟨s1, s2⟩ := blkP hSB
    refine gg ?_
    refine R1_storeBx (.inl rfl) rfl rfl hR hSv ?_
    intro w6 hR6 hC6 hk6 hs6
    refine gg ?_
    obtain ⟨x, y, hB, hv⟩ := hR6
    exact retC rfl agg_Int rfl hB ⟨hC6.ext_of hE (fun b hb => by omega), x, y, rfl, hv.2 rfl⟩

set_option maxHeartbeats 8000000 in
theorem rmulM_ok (va vb : Value) (r1 r2 N : Nat) (len1 len2 : Nat → Nat) (X Y : Nat → Nat → Int) (w : World) (ha : MatE (EI N) w va r1 len1 X) (hb : MatE (EI N) w vb r2 len2 Y) (hN : N < 34359738368) :
    Meets Try.prog 18 #[va, vb] w (RMB w (okMul r1 r2 len1 len2) r1 (len2 0) (mulM (len1 0) X Y)) := by
  obtain ⟨Aa, capa, hva, _⟩ := id ha
  obtain ⟨Ab, capb, hvb, _⟩ := id hb
  refine fn_W (n := 70) Try.func18 rfl rfl (by kernel_rfl) (by simp) ?_
  refine gg ?_
  refine R1_call2 (rshape_ok _ va r1 len1 X w ha) ?_
  rintro _ w1 ⟨hE1, rfl⟩
  obtain ⟨s1, c1, ok1, e1, h1⟩ := shapeV_cases r1 len1
  rw [e1]
  refine gg ?_
  refine R1_call2 (rtranspose_ok vb r2 N len2 Y w1 (hb.ext hE1) (by omega)) ?_
  intro vt w2 hvt
  by_cases hok2 : okM r2 len2 = true
  · obtain ⟨_, rfl, hE2, gT, gsT, rfl, hgT, hgsT, hOT⟩ := hvt.get hok2
    clear hvt
    have hE02 := hE1.trans hE2
    obtain ⟨⟨hr1', hr2', hl1', hl2'⟩, hlen'⟩ := okM_iff.1 hok2
    have hSb := hb.sq hlen'
    rcases h1 with ⟨hok1, rfl, rfl, rfl⟩ | ⟨hok1, rfl, rfl, rfl⟩
    · obtain ⟨⟨hr1, hr2, hl1, hl2⟩, hlen⟩ := okM_iff.1 hok1
      have hSa := ha.sq hlen
      subst hva
      subst hvb
      by_cases hq : r2 = len1 0
      · have hok : okMul s1 r2 len1 len2 = true := by simp [okMul, hok1, hok2, hq.symm]
        refine gg ?_
        refine W_seq ?_
        refine gg ?_
        refine R1_call2 (zero_ok s1 (len2 0) w2 (by omega) (by omega)) ?_
        rintro _ w3 ⟨hE3, gO, gs, rfl, hg, hgs, hO⟩
        have hw2 := hE02.size
        have hE03 := hE02.trans hE3
        have hT3 := hOT.ext hE3
        have hsep : ∀ i, i < s1 → gT ≠ gs i ∧ ∀ j, j < len2 0 → gsT j ≠ gs i := fun i hi => by
          have a := hgs i hi
          have b := hOT.outer.lt
          refine ⟨by omega, fun j hj => ?_⟩
          have := (hOT.row j hj).lt
          omega
        refine gg ?_
        refine W_seq ?_
        refine gg ?_
        refine W_loop (fun m f w' => ∃ i, m = s1 - i ∧ i ≤ s1 ∧ f 0 = .slice Aa s1 capa ∧ f 9 = .slice (some ⟨gT, 0, none⟩) (len2 0) (len2 0) ∧ f 11 = .slice (some ⟨gO, 0, none⟩) s1 s1 ∧ f 43 = .int .i64 ((s1 : Nat) : Int) ∧ f 44 = .int .i64 ((i : Nat) : Int) ∧
          Ext w w' ∧ OMat w' gT gsT (len2 0) r2 (fun i j => Y j i) ∧ WMat w' gO gs s1 (len2 0) true (fun _ _ => N + N + 1) (fun a b => if a < i then mulM (len1 0) X Y a b else 0))
          s1 ⟨0, rfl, Nat.zero_le _, rfl, rfl, rfl, rfl, rfl, hE03, hT3, (hO.wm true (N := N + N + 1) (fun _ _ _ _ => Bd.zero _)).congr (fun i j _ _ => ⟨Nat.le_refl _, by simp⟩)⟩ ?_
        clear hO hE03 hE3 hT3 w3
        rintro m f w3 ⟨i, rfl, hi, hf0, hf9, hf11, hf43, hf44, hE, hT, hW⟩
        rw [ui hf0, ui hf9, ui hf11, ui hf43, ui hf44]
        clear hf0 hf9 hf11 hf43 hf44
        by_cases hlt : i < s1
        · refine gg ?_
          refine W_loop (fun m f w' => ∃ j, m = len2 0 - j ∧ j ≤ len2 0 ∧ f 0 = .slice Aa s1 capa ∧ f 9 = .slice (some ⟨gT, 0, none⟩) (len2 0) (len2 0) ∧ f 11 = .slice (some ⟨gO, 0, none⟩) s1 s1 ∧ f 12 = .int .i64 ((i : Nat) : Int) ∧ f 43 = .int .i64 ((s1 : Nat) : Int) ∧ f 44 = .int .i64 ((i : Nat) : Int) ∧
            f 48 = .int .i64 ((len2 0 : Nat) : Int) ∧ f 49 = .int .i64 ((j : Nat) : Int) ∧ Ext w w' ∧ OMat w' gT gsT (len2 0) r2 (fun i j => Y j i) ∧ WMat w' gO gs s1 (len2 0) true (fun _ _ => N + N + 1) (fun a b => if a < i ∨ a = i ∧ b < j then mulM (len1 0) X Y a b else 0))
            (len2 0) ⟨0, rfl, Nat.zero_le _, rfl, rfl, rfl, rfl, rfl, rfl, rfl, rfl, hE, hT, hW.congr (fun a b _ _ => ⟨Nat.le_refl _, by by_cases e : a < i <;> simp [e]⟩)⟩ ?_
          clear hW hE hT w3
          rintro m f w3 ⟨j, rfl, hj, hf0, hf9, hf11, hf12, hf43, hf44, hf48, hf49, hE, hT, hW⟩
          rw [ui hf0, ui hf9, ui hf11, ui hf12, ui hf43, ui hf44, ui hf48, ui hf49]
          clear hf0 hf9 hf11 hf12 hf43 hf44 hf48 hf49
          by_cases hjc : j < len2 0
          · refine gg ?_
            refine W_regD [(0, 3), (1, 3), (2, 3), (3, 0), (4, 3), (5, 3), (6, 3), (7, 3), (8, 0), (9, 3), (10, 3), (11, 3), (12, 0), (13, 1), (14, 3), (15, 2)] mixed (by kernel_rfl) (fun w4 hE4 _ => ?_)
            obtain ⟨ad, cap, u, e, hu, hru⟩ := (hSa.ext (hE.trans hE4)).at hlt
            cases e
            have hT4 := hT.ext hE4
            have hTr : RowE (EI N) w4 (.slice (some ⟨gsT j, 0, none⟩) r2 r2) r2 (fun t => Y t j) := (hT4.row j hjc).read (fun t ht => hSb.bd ht hjc) (by omega)
            have htc : w4.cell? ⟨gT, 0 + j * 1, none⟩ = some (.slice (some ⟨gsT j, 0, none⟩) r2 r2) := by rw [hT4.outer.cell, arr_at (by omega), Nat.zero_add, Nat.mul_one]
            have hW4 := hW.ext hE4
            have hx := hW4.at hlt
            refine gg ?_
            refine R1_call1 (dot_ok _ _ r2 N (X i) (fun t => Y t j) w4 (by rw [hq]; exact hru) hTr (by omega) hN) ?_
            rintro _ w5 ⟨hE5, x, y, rfl, hcv⟩
            refine ⟨hE5, ?_⟩
            have ebd : Bd (N + N + 1) (sumTo r2 fun t => X i t * Y t j) := sumTo_bd (by omega) fun t ht => (hSa.bd hlt (by omega)).mul (hSb.bd ht hjc)
            refine gg ?_
            refine R1_storeE (.inl rfl) rfl rfl ((hW4.ext hE5).row i hlt) hjc (hcv.ev true ebd) ?_
            intro w6 hR6 hC6 hk6 hs6
            have hW6 := (hW4.ext hE5).put hlt hR6 hC6 hk6
            have hT6 := (((hT4.ext hE5).wm true (N := N) (fun a b ha hb => hSb.bd hb ha)).kp hk6 hC6 (fun h => (hsep i hlt).1 h) (fun a ha h => (hsep i hlt).2 a ha h)).o
            refine gg ?_
            have hgi := hgs i hlt
            refine ⟨_, ?_, j + 1, rfl, by omega, rfl, rfl, rfl, rfl, rfl, rfl, rfl, rfl, hC6.ext_of (hE.trans (hE4.trans hE5)) (fun b hb => by omega), hT6, hW6.congr (fun a b ha hb => ⟨?_, ?_⟩)⟩
            · omega
            · unfold set2; split <;> exact Nat.le_refl _
            · simp only [set2]
              by_cases e : a = i ∧ b = j
              · obtain ⟨rfl, rfl⟩ := e
                rw [if_pos ⟨rfl, rfl⟩, if_pos (by omega), mulM, hq]
              · rw [if_neg e]
                by_cases e2 : a < i ∨ a = i ∧ b < j
                · rw [if_pos e2, if_pos (by omega)]
                · rw [if_neg e2, if_neg (by omega)]
          · refine gg ?_
            refine ⟨_, ?_, i + 1, rfl, by omega, rfl, rfl, rfl, rfl, rfl, hE, hT, hW.congr (fun a b ha hb => ⟨Nat.le_refl _, ?_⟩)⟩
            · omega
            · by_cases e2 : a < i + 1
              · rw [if_pos e2, if_pos (by omega)]
              · rw [if_neg e2, if_neg (by omega)]
        · refine gg ?_
          have : i = s1 := by omega
          subst this
          refine ret2 (v := .slice _ _ _) (v' := .bool _) rfl rfl rfl ?_
          unfold RMB
          rw [if_pos hok]
          exact ⟨_, rfl, hE, gO, gs, rfl, by omega, fun k hk => by have := hgs k hk; omega, (hW.congr (bn' := fun _ _ => N + N + 1) (M' := mulM (len1 0) X Y) (fun a b ha hb => ⟨Nat.le_refl _, by rw [if_pos ha]⟩)).o⟩
      · refine gg ?_
        refine W_seq ?_
        refine gg ?_
        exact ret2 (v := .slice _ _ _) (v' := .bool _) rfl rfl rfl (rmb_bad (by simp [okMul, Ne.symm hq]) hE02)
    · refine gg ?_
      refine W_seq ?_
      refine gg ?_
      exact ret2 (v := .slice _ _ _) (v' := .bool _) rfl rfl rfl (rmb_bad (by simp [okMul, hok1]) hE02)
  · have hok2 : okM r2 len2 = false := by simpa using hok2
    obtain ⟨hE2, rfl⟩ := hvt.no hok2
    have hE02 := hE1.trans hE2
    cases ok1
    · refine gg ?_
      refine W_seq ?_
      refine gg ?_
      exact ret2 (v := .slice _ _ _) (v' := .bool _) rfl rfl rfl (rmb_bad (by simp [okMul, hok2]) hE02)
    · refine gg ?_
      refine W_seq ?_
      refine gg ?_
      exact ret2 (v := .slice _ _ _) (v' := .bool _) rfl rfl rfl (rmb_bad (by simp [okMul, hok2]) hE02)

set_option maxHeartbeats 8000000 in
theorem rproduct_ok (va vb : Value) (r1 r2 N : Nat) (len1 len2 : Nat → Nat) (X Y : Nat → Nat → Int) (w : World) (ha : MatE (EI N) w va r1 len1 X) (hb : MatE (EI N) w vb r2 len2 Y) (hN : N < 34359738368) :
    Meets Try.prog 30 #[va, vb] w (RMN w (okMul r1 r2 len1 len2) r1 (len2 0) (mulM (len1 0) X Y)) := by
  refine fn_W (n := 14) Try.func30 rfl rfl (by kernel_rfl) (by simp) ?_
  refine gg ?_
  refine R1_call2 (rmulM_ok va vb r1 r2 N len1 len2 X Y w ha hb hN) ?_
  intro v' w' hv
  by_cases hok : okMul r1 r2 len1 len2 = true
  · obtain ⟨u, rfl, hE, gO, gs, rfl, hrest⟩ := hv.get hok
    refine gg ?_
    refine ret1 (v := .slice _ _ _) rfl rfl ?_
    unfold RMN
    rw [if_pos hok]
    exact ⟨hE, gO, gs, rfl, hrest⟩
  · obtain ⟨hE, rfl⟩ := hv.no (by simpa using hok)
    refine gg ?_
    refine ret1 (v := .slice _ _ _) rfl rfl ?_
    unfold RMN
    rw [if_neg hok]
    exact ⟨hE, rfl⟩
end Go.Proofs.Ytimjiaabaanbeaa
