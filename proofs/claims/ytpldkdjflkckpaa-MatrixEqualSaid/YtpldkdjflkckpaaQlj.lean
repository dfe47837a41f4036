/- Joined: Lwj. -/
import Derived.Test.YtpldkdjflkckpaaQr
import Derived.Test.YtpldkdjflkckpaaQo
/- The law MatrixEqual. -/
namespace Go.Proofs.Ytpldkdjflkckpaa
open Go Go.Eng Go.Num Go.Proofs

theorem R1_rem_u8 {P : Program} {n : Nat} {S : World → World → Prop} {k : Nat} {K : Fr → World → Prop} {f : Fr} {w : World} {d ty t t2 : Nat} {x y : Operand} {pos : String} {aft : Array Edge} {g : Option (Nat × Bool)} {a b : Nat} (hx : ev n f x = .int .u8 ((a : Nat) : Int)) (hy : ev n f y = .int .u8 ((b : Nat) : Int)) (hb : 0 < b) (h : K (upd f d (.int .u8 ((a % b : Nat) : Int))) w) : R1 P n S k ⟨some d, .binOp .rem t x y t2, ty, pos, aft, g⟩ K f w := by
  refine R1_bin hx hy (fun _ => by simp [eqGuard, go_sem]) (fun _ => ?_) h
  have e : ((b : Int) = 0) = False := by (simp; omega)
  simp only [binOp, Op.intDiv, ne_eq, not_true_eq_false, if_false, e]; rw [← Int.ofNat_tmod]; rfl

theorem bd1_of {z : Int} (h : z.natAbs < 4294967296) : Bd 1 z := by unfold Bd; rwa [show B ^ 1 = 4294967296 by decide]

set_option maxHeartbeats 16000000 in
theorem lawEqual {va vb vx vt : Value} {r1 r2 rx cx nx at' : Nat} {len1 len2 : Nat → Nat} {Y Z : Nat → Nat → Int} {L1 L2 : Nat → Nat → Nat} {nsx : Nat → Int} {ch : Bool} {w : World}
    (ha : MatL w va r1 len1 Y L1) (hb : MatL w vb r2 len2 Z L2) (hx : GridV w vx rx cx nx nsx) (ht : ByteV vt at') :
    Meets Try.prog 6 #[va, vb, vx, vt, .bool ch] w (Law w) := by
  obtain ⟨Ax, capx, rfl, hx1, hx2, hx3, hx4⟩ := hx
  obtain ⟨rfl, hat⟩ := ht
  refine fn_W (n := 75) Try.func6 rfl rfl (by kernel_rfl) (by simp) ?_
  refine gg ?_
  refine R1_box (v := .agg _) (.inl rfl) rfl ?_
  intro w1 hB1 hE1 hs1
  have hX1 : Blk w1 w.heap.size 32 #[.int .u8 ((rx : Nat) : Int), .int .u8 ((cx : Nat) : Int), .slice Ax nx capx] := hB1
  have hGx := GridV.agg hx1 hx2 hx3 hx4
  clear hB1
  refine gg ?_
  refine W_seq ?_
  refine gg ?_
  refine R1_call2 (large_ok va r1 len1 Y L1 w1 (ha.ext hE1)) ?_
  rintro _ _ ⟨rfl, b1, rfl, hb1⟩
  rcases b1 with _ | _
  rotate_left
  · refine gg ?_
    refine R1_call2 (awake_ok w1) ?_
    rintro _ w3 ⟨hE3, rfl⟩
    refine gg ?_
    exact ret1 (v := .bool _) rfl rfl ⟨hE1.trans hE3, rfl⟩
  refine gg ?_
  refine R1_call2 (large_ok vb r2 len2 Z L2 w1 (hb.ext hE1)) ?_
  rintro _ _ ⟨rfl, b2, rfl, hb2⟩
  rcases b2 with _ | _
  rotate_left
  · refine gg ?_
    refine R1_call2 (awake_ok w1) ?_
    rintro _ w3 ⟨hE3, rfl⟩
    refine gg ?_
    exact ret1 (v := .bool _) rfl rfl ⟨hE1.trans hE3, rfl⟩
  have hSa := (hb1 rfl).e ha
  have hSb := (hb2 rfl).e hb
  have hm1 := Nat.mod_lt rx (show 0 < 6 by decide)
  have hm2 := Nat.mod_lt cx (show 0 < 6 by decide)
  obtain ⟨r, hr⟩ : ∃ n, n = 1 + rx % 6 := ⟨_, rfl⟩
  obtain ⟨c, hc⟩ : ∃ n, n = 1 + cx % 6 := ⟨_, rfl⟩
  have hrb : r < 9223372036854775808 := by omega
  have hcb : c < 9223372036854775808 := by omega
  obtain ⟨X, hX⟩ : ∃ X, X = gridM c nx nsx := ⟨_, rfl⟩
  have bX : ∀ i j, i < r → j < c → Bd 1 (X i j) := fun i j _ _ => by rw [hX]; exact gridM_bd hx4 _ i j
  refine gg ?_
  refine W_seqD [(0, 0), (2, 0), (1, 1), (3, 1), (4, 3), (5, 3)] mixed (by kernel_rfl) (fun w2 hE2 _ => ?_)
  obtain ⟨x0, x1, x2⟩ := blkT (hX1.ext hE2)
  refine gg ?_
  refine R1_load3E (by decide) agg_Grid rfl x0 x1 x2 ?_
  refine gg ?_
  refine R1_load3E (by decide) agg_Grid rfl x0 x1 x2 ?_
  clear x0 x1 x2
  refine gg ?_
  refine R1_callS (gridMatrix_ok _ rx cx nx 6 nsx w2 (hGx w2 (hE1.trans hE2)) (by decide) (by decide)) ?_
  rintro _ w3 ⟨hE3, gC, gsC, rfl, _, _, hOC⟩
  refine ⟨hE3, ?_⟩
  refine gg ?_
  refine R1_callS (gridMatrix_ok _ rx cx nx 6 nsx w3 (hGx w3 (hE1.trans (hE2.trans hE3))) (by decide) (by decide)) ?_
  rintro _ w4 ⟨hE4, gD, gsD, rfl, hgD, hgsD, hOD⟩
  refine ⟨hE4, ?_⟩
  rw [← hr, ← hc, ← hX] at hOC hOD
  rw [← hr] at hgsD ⊢
  have hE04 := hE1.trans (hE2.trans (hE3.trans hE4))
  have hE03 := hE1.trans (hE2.trans hE3)
  have h3s := hE03.size
  refine gg ?_
  refine W_seqM (fun f w' => ∃ X', f 0 = va ∧ f 1 = vb ∧ f 11 = .slice (some ⟨gC, 0, none⟩) r r ∧ f 12 = .slice (some ⟨gD, 0, none⟩) r r ∧ Ext w3 w' ∧ OMat w' gD gsD r c X' ∧ ∀ i j, i < r → j < c → Bd 2 (X' i j)) ?_ ?_
  · refine W_seq ?_
    cases ch with
    | false =>
      refine gg ?_
      exact ⟨X, rfl, rfl, rfl, rfl, hE4, hOD, fun i j hi hj => (bX i j hi hj).mono (by decide)⟩
    | true =>
      refine gg ?_
      refine R1_rem_i64 rfl rfl (by omega) ?_
      have hi0 : at' % r < r := Nat.mod_lt _ (by omega)
      have hj0 : at' / 16 % c < c := Nat.mod_lt _ (by omega)
      obtain ⟨i0, hi0e⟩ : ∃ i, i = at' % r := ⟨_, rfl⟩
      rw [← hi0e] at hi0 ⊢
      have hW := hOD.wm true (N := 2) (fun i j hi hj => (bX i j hi hj).mono (by decide))
      have hxi := hW.at hi0
      refine gg ?_
      refine W_regD [(0, 3), (1, 3), (2, 3), (3, 3), (4, 3), (5, 3), (6, 3), (7, 3), (8, 3), (9, 3), (10, 3), (11, 3), (12, 3), (13, 3), (14, 3), (15, 0), (16, 3), (17, 3), (18, 3), (19, 1), (20, 1), (21, 3), (22, 2)] mixed (by kernel_rfl) (fun w5 hE5 _ => ?_)
      obtain ⟨x, y, hx0, hy0, hv⟩ := ((hW.ext hE5).row i0 hi0).at hj0
      refine gg ?_
      refine R1_quo_i64_c rfl (by omega) (by decide) ?_
      refine gg ?_
      refine R1_rem_i64 rfl rfl (by omega) ?_
      refine gg ?_
      refine R1_quo_i64_c rfl (by omega) (by decide) ?_
      refine gg ?_
      refine R1_rem_i64 rfl rfl (by omega) ?_
      rw [show (at' / OfNat.ofNat 16 % c : Nat) = at' / 16 % c from rfl]
      obtain ⟨j0, hj0e⟩ : ∃ i, i = at' / 16 % c := ⟨_, rfl⟩
      rw [← hj0e] at hj0 hx0 hy0 hv ⊢
      refine gg ?_
      refine R1_rem_u8 (b := 3) rfl rfl (by decide) ?_
      have h3 := Nat.mod_lt at' (show 0 < 3 by decide)
      refine gg ?_
      refine R1_conv (k1 := .u8) (b := ((at' % 3 : Nat) : Int)) ty_u8 ty_i64 rfl (wrap_i64n (by omega)) ?_
      refine gg ?_
      refine R1_callS (rsmall_ok ((at' % 3 : Nat) : Int) w5 (by omega) (by omega)) ?_
      rintro _ w6 ⟨hE6, sx, sy, rfl, hcs⟩
      refine ⟨hE6, ?_⟩
      have hb3 : Bd 1 ((at' % 3 : Nat) : Int) := bd1_of (by omega)
      have hvb : Bd 1 (X i0 j0) := bX i0 j0 hi0 hj0
      refine gg ?_
      refine R1_callS (radd_ok _ _ _ _ _ _ 2 w6 (hv.1.ext hE6) ((hcs.iv hb3).mono (by decide)) (by decide)) ?_
      rintro _ w7 ⟨hE7, ax, ay, rfl, hca⟩
      refine ⟨hE7, ?_⟩
      refine gg ?_
      refine R1_storeE (.inl rfl) rfl rfl ((hW.ext (hE5.trans (hE6.trans hE7))).row i0 hi0) hj0 (hca.ev true (N := 2) (bd_add hvb hb3)) ?_
      intro w8 hR8 hC8 hk8 hs8
      have hW8 := (hW.ext (hE5.trans (hE6.trans hE7))).put hi0 hR8 hC8 hk8
      have hgi := hgsD i0 hi0
      refine gg ?_
      refine ⟨_, rfl, rfl, rfl, rfl, hC8.ext_of (hE4.trans (hE5.trans (hE6.trans hE7))) (fun b hb => by omega), hW8.o, fun i j hi hj => ?_⟩
      simp only [set2]
      split
      · exact bd_add hvb hb3
      · exact (bX i j hi hj).mono (by decide)
  clear hE4 hOD hE04
  rintro f w4 ⟨X', hf0, hf1, hf11, hf12, hE4, hOD, bX'⟩
  rw [ui hf0, ui hf1, ui hf11, ui hf12]
  clear hf0 hf1 hf11 hf12
  replace hOC := hOC.ext hE4
  have hE04 := hE03.trans hE4
  refine gg ?_
  refine R1_call2 (equal_ok va vb r1 r2 600 len1 len2 Y Z w4 (hSa.ext hE04) (hSb.ext hE04) (by decide)) ?_
  intro u w5 hu
  obtain ⟨hE5, b5, rfl, _⟩ := id hu
  refine gg ?_
  refine R1_call2 (requal_ok va vb r1 r2 600 len1 len2 Y Z w5 (hSa.ext (hE04.trans hE5)) (hSb.ext (hE04.trans hE5)) (by decide)) ?_
  intro u w6 hu'
  obtain ⟨hE6, b6, rfl, _⟩ := id hu'
  obtain rfl := hu.same hu'
  replace hOC := hOC.ext (hE5.trans hE6)
  replace hOD := hOD.ext (hE5.trans hE6)
  refine gg ?_
  rw [show (b5 == b5) = true from beq_self_eq_true _]
  refine gg ?_
  refine R1_call2 (equal_ok _ _ r r 2 (fun _ => c) (fun _ => c) X X' w6 (hOC.rd bX (by decide) hrb hcb) (hOD.rd bX' (by decide) hrb hcb) (by decide)) ?_
  intro u w7 hu2
  obtain ⟨hE7, b7, rfl, _⟩ := id hu2
  refine gg ?_
  refine R1_call2 (requal_ok _ _ r r 2 (fun _ => c) (fun _ => c) X X' w7 ((hOC.ext hE7).rd bX (by decide) hrb hcb) ((hOD.ext hE7).rd bX' (by decide) hrb hcb) (by decide)) ?_
  intro u w8 hu2'
  obtain ⟨hE8, b8, rfl, _⟩ := id hu2'
  obtain rfl := hu2.same hu2'
  refine gg ?_
  rw [show (b7 == b7) = true from beq_self_eq_true _]
  refine gg ?_
  refine R1_call2 (awake_ok w8) ?_
  rintro _ w9 ⟨hE9, rfl⟩
  refine gg ?_
  exact ret1 (v := .bool _) rfl rfl ⟨hE04.trans (hE5.trans (hE6.trans (hE7.trans (hE8.trans hE9)))), rfl⟩
end Go.Proofs.Ytpldkdjflkckpaa
