/- Joined: Lxa. -/
import Derived.Test.YtpldkdjflkckpaaQz
import Derived.Test.YtpldkdjflkckpaaQy
import Derived.Test.YtpldkdjflkckpaaQf
import Derived.Test.YtpldkdjflkckpaaQo
import Derived.Test.YtpldkdjflkckpaaQm
/- The law BareissDefinite. -/
namespace Go.Proofs.Ytpldkdjflkckpaa
open Go Go.Eng Go.Num Go.Proofs
open Go.Det (stg)

theorem stg_ld {M : Nat → Nat → Int} {k : Nat} (h : ∀ q, q < k → ldM M q ≠ 0) : stg M k 0 0 = ldM M k := by
  have := (Go.Det.stg_bm M k fun q h1 h2 => by
    have := h (q - 1) (by omega)
    unfold ldM at this
    rwa [show q - 1 + 1 = q by omega] at this).1 0 0
  rw [this, Nat.add_zero, Go.Det.bm_self]; rfl
theorem pos_iff {M : Nat → Nat → Int} (n : Nat) : (∀ q, q < n → 0 < stg M q 0 0) ↔ ∀ q, q < n → 0 < ldM M q := by
  induction n with
  | zero => exact ⟨fun _ q hq => absurd hq (by omega), fun _ q hq => absurd hq (by omega)⟩
  | succ n ih =>
    constructor
    · intro h
      have h1 := ih.1 fun q hq => h q (by omega)
      have e := stg_ld (M := M) (k := n) fun q hq => by have := h1 q hq; omega
      intro q hq
      by_cases eq : q = n
      · rw [eq, ← e]; exact h n (by omega)
      · exact h1 q (by omega)
    · intro h
      have h1 := ih.2 fun q hq => h q (by omega)
      have e := stg_ld (M := M) (k := n) fun q hq => by have := h q (by omega); omega
      intro q hq
      by_cases eq : q = n
      · rw [eq, e]; exact h n (by omega)
      · exact h1 q (by omega)
theorem okDef_df {r : Nat} {len : Nat → Nat} {M : Nat → Nat → Int} : okDef r len M ↔ okDf r len M := by
  unfold okDef okDf; rw [pos_iff]

set_option maxHeartbeats 16000000 in
theorem lawDefinite {vx va vl : Value} {rx cx nx wh r : Nat} {nsx : Nat → Int} {len : Nat → Nat} {M : Nat → Nat → Int} {L : Nat → Nat → Nat} {w : World} (hx : GridV w vx rx cx nx nsx) (ha : MatL w va r len M L) (hl : ByteV vl wh) :
    Meets Try.prog 12 #[vx, va, vl] w (Law w) := by
  obtain ⟨Ax, capx, rfl, hx1, hx2, hx3, hx4⟩ := hx
  obtain ⟨rfl, hwh⟩ := hl
  refine fn_W (n := 71) Try.func12 rfl rfl (by kernel_rfl) (by simp) ?_
  refine gg ?_
  refine R1_box (v := .agg _) (.inl rfl) rfl ?_
  intro w1 hB1 hE1 hs1
  have hX1 : Blk w1 w.heap.size 32 #[.int .u8 ((rx : Nat) : Int), .int .u8 ((cx : Nat) : Int), .slice Ax nx capx] := hB1
  have hGx := GridV.agg hx1 hx2 hx3 hx4
  clear hB1
  refine gg ?_
  refine W_seq ?_
  refine gg ?_
  refine R1_call2 (large4_ok va r len M L w1 (ha.ext hE1)) ?_
  rintro _ _ ⟨rfl, b, rfl, hb⟩
  cases b with
  | true =>
    refine gg ?_
    refine R1_call2 (awake4_ok w1) ?_
    rintro _ w3 ⟨hE3, rfl⟩
    refine gg ?_
    exact ret1 (v := .bool _) rfl rfl ⟨hE1.trans hE3, rfl⟩
  | false =>
    have hA := (hb rfl).e ha
    obtain ⟨x0, x1, x2⟩ := blkT hX1
    have hm1 := Nat.mod_lt rx (show 0 < 5 by decide)
    obtain ⟨n, hn⟩ : ∃ n, n = 1 + rx % 5 := ⟨_, rfl⟩
    have hn1 : 1 ≤ n := by omega
    have hn2 : n ≤ 5 := by omega
    refine gg ?_
    refine R1_load3F (by decide) agg_Grid rfl x0 x1 x2 ?_
    clear x0 x1 x2
    refine gg ?_
    refine R1_call2 (gridSquare_ok _ rx cx nx 5 nsx w1 (hGx w1 hE1) (by decide) (by decide)) ?_
    rintro _ w2 ⟨hE2, g, gs, rfl, hg, hgs, hO⟩
    rw [← hn] at hO hgs ⊢
    have hW := hO.wm true (N := 1) (fun i j _ _ => gridM_bd hx4 _ i j)
    have hE02 := hE1.trans hE2
    have hs01 := hE1.size
    clear hO hX1 hGx
    refine gg ?_
    refine W_seqM (fun f w' => ∃ X, f 1 = va ∧ f 2 = .int .u8 ((wh : Nat) : Int) ∧ f 7 = .slice (some ⟨g, 0, none⟩) n n ∧ Ext w w' ∧ WMat w' g gs n n true (fun _ _ => 10) X) ?_ ?_
    · refine gg ?_
      refine W_loop (fun m f w' => ∃ i X, m = n - i ∧ i ≤ n ∧ f 1 = va ∧ f 2 = .int .u8 ((wh : Nat) : Int) ∧ f 7 = .slice (some ⟨g, 0, none⟩) n n ∧ f 16 = .int .i64 ((n : Nat) : Int) ∧ f 17 = .int .i64 ((i : Nat) : Int) ∧ Ext w w' ∧ WMat w' g gs n n true (fun _ _ => 1 + i) X)
        n ⟨0, _, rfl, Nat.zero_le _, rfl, rfl, rfl, rfl, rfl, hE02, hW⟩ ?_
      clear hE02 hW
      rintro m f w3 ⟨i, X, rfl, hi, hf1, hf2, hf7, hf16, hf17, hE, hW⟩
      rw [ui hf1, ui hf2, ui hf7, ui hf16, ui hf17]
      clear hf1 hf2 hf7 hf16 hf17
      by_cases hlt : i < n
      rotate_left
      · refine gg ?_
        exact ⟨X, rfl, rfl, rfl, hE, hW.congr fun _ _ _ _ => ⟨by omega, rfl⟩⟩
      refine gg ?_
      refine W_seqM (fun f w' => ∃ X, f 1 = va ∧ f 2 = .int .u8 ((wh : Nat) : Int) ∧ f 7 = .slice (some ⟨g, 0, none⟩) n n ∧ f 16 = .int .i64 ((n : Nat) : Int) ∧ f 17 = .int .i64 ((i : Nat) : Int) ∧ f 8 = .int .i64 ((i : Nat) : Int) ∧ Ext w w' ∧ WMat w' g gs n n true (fun _ _ => 1 + i) X) ?_ ?_
      · refine gg ?_
        refine W_loop (fun m f w' => ∃ j X, m = i - j ∧ j ≤ i ∧ f 1 = va ∧ f 2 = .int .u8 ((wh : Nat) : Int) ∧ f 7 = .slice (some ⟨g, 0, none⟩) n n ∧ f 16 = .int .i64 ((n : Nat) : Int) ∧ f 17 = .int .i64 ((i : Nat) : Int) ∧ f 8 = .int .i64 ((i : Nat) : Int) ∧ f 9 = .int .i64 ((j : Nat) : Int) ∧ Ext w w' ∧ WMat w' g gs n n true (fun _ _ => 1 + i) X)
          i ⟨0, X, rfl, Nat.zero_le _, rfl, rfl, rfl, rfl, rfl, rfl, rfl, hE, hW⟩ ?_
        clear hE hW
        rintro m f w4 ⟨j, X, rfl, hj, hf1, hf2, hf7, hf16, hf17, hf8, hf9, hE, hW⟩
        rw [ui hf1, ui hf2, ui hf7, ui hf16, ui hf17, ui hf8, ui hf9]
        clear hf1 hf2 hf7 hf16 hf17 hf8 hf9
        refine W_seq ?_
        by_cases hjl : j < i
        rotate_left
        · refine gg ?_
          exact ⟨X, rfl, rfl, rfl, rfl, rfl, rfl, hE, hW⟩
        refine gg ?_
        refine W_regD [(0, 3), (1, 3), (2, 3), (3, 0), (4, 3), (5, 3), (6, 3), (7, 3), (8, 0), (9, 3), (10, 3), (11, 0), (12, 3), (13, 2)] mixed (by kernel_rfl) (fun w5 hE5 _ => ?_)
        have hW5 := hW.ext hE5
        have k1 := hW5.at hlt
        have k2 := hW5.at (show j < n by omega)
        obtain ⟨x, y, p1, p2, hv⟩ := (hW5.row i hlt).at (show j < n by omega)
        refine gg ?_
        refine R1_storeE (.inl rfl) rfl rfl (hW5.row j (by omega)) hlt hv ?_
        intro w6 hR6 hC6 hk6 hs6
        have hW6 := hW5.put (by omega) hR6 hC6 hk6
        have hgj := hgs j (by omega)
        refine gg ?_
        refine ⟨_, ?_, j + 1, _, rfl, by omega, rfl, rfl, rfl, rfl, rfl, rfl, rfl, hC6.ext_of (hE.trans hE5) (fun b hb => by omega), hW6.congr fun a b _ _ => ⟨by simp only [set2]; split <;> omega, rfl⟩⟩
        omega
      clear hE hW
      rintro f w4 ⟨X, hf1, hf2, hf7, hf16, hf17, hf8, hE, hW⟩
      rw [ui hf1, ui hf2, ui hf7, ui hf16, ui hf17, ui hf8]
      clear hf1 hf2 hf7 hf16 hf17 hf8
      refine W_regD [(0, 3), (1, 3), (2, 3), (3, 0), (4, 3), (5, 3), (6, 3), (7, 3), (8, 0), (9, 3), (10, 3), (11, 0), (12, 3), (13, 3), (14, 1), (15, 1), (16, 3), (17, 2)] mixed (by kernel_rfl) (fun w5 hE5 _ => ?_)
      have hW5 := hW.ext hE5
      have k1 := hW5.at hlt
      obtain ⟨x, y, p1, p2, hv⟩ := (hW5.row i hlt).at hlt
      refine gg ?_
      refine R1_u8_i64 ty_u8 ty_i64 rfl (by omega) ?_
      refine gg ?_
      refine R1_call1 (rsmall_ok ((wh : Nat) : Int) w5 (by omega) (by omega)) ?_
      rintro _ w6 ⟨hE6, a1, b1, rfl, hc1⟩
      refine ⟨hE6, ?_⟩
      have hbl : Bd (1 + i) ((wh : Nat) : Int) := Bd.mono (N := 1) (by unfold Bd; have : B ^ 1 = 4294967296 := by decide
                                                                       omega) (by omega)
      refine gg ?_
      refine R1_call1 (radd_ok _ _ _ _ _ _ (1 + i) w6 (hv.ext hE6).1 (hc1.iv hbl) (by omega)) ?_
      rintro _ w7 ⟨hE7, a2, b2, rfl, hc2⟩
      refine ⟨hE7, ?_⟩
      refine gg ?_
      refine R1_storeE (N := 1 + (i + 1)) (.inl rfl) rfl rfl ((hW5.ext (hE6.trans hE7)).row i hlt) hlt (hc2.ev true (hv.bd.add hbl)) ?_
      intro w8 hR8 hC8 hk8 hs8
      have hW8 := (hW5.ext (hE6.trans hE7)).put hlt hR8 hC8 hk8
      have hgi := hgs i hlt
      refine gg ?_
      refine ⟨_, ?_, i + 1, _, rfl, by omega, rfl, rfl, rfl, rfl, rfl, hC8.ext_of (hE.trans (hE5.trans (hE6.trans hE7))) (fun b hb => by omega), hW8.congr fun a b _ _ => ⟨by simp only [set2]; split <;> omega, rfl⟩⟩
      omega
    clear hE02 hW hgs
    rintro f w3 ⟨X, hf1, hf2, hf7, hE, hW⟩
    rw [ui hf1, ui hf2, ui hf7]
    clear hf1 hf2 hf7
    have hMb : MatE (EI 10) w3 _ n (fun _ => n) X := hW.read (by omega) (by omega)
    refine gg ?_
    refine R1_call2 (definite_ok _ n 10 (fun _ => n) X w3 hMb (by decide) (by decide)) ?_
    rintro _ w4 ⟨hE4, b1, rfl, hb1⟩
    refine gg ?_
    refine R1_call2 (rdefinite_ok _ n 10 (fun _ => n) X w4 (hMb.ext hE4) (by decide) (by decide)) ?_
    rintro _ w5 ⟨hE5, b2, rfl, hb2⟩
    obtain rfl : b1 = b2 := by
      have := hb1.trans (okDef_df.trans hb2.symm)
      cases b1 <;> cases b2 <;> simp_all
    have hE05 := hE.trans (hE4.trans hE5)
    refine gg ?_
    rw [show (b1 == b1) = true from beq_self_eq_true _]
    refine gg ?_
    refine R1_call2 (definite_ok _ r 600 len M w5 (hA.ext hE05) (by decide) (by decide)) ?_
    rintro _ w6 ⟨hE6, b3, rfl, hb3⟩
    refine gg ?_
    refine R1_call2 (rdefinite_ok _ r 600 len M w6 (hA.ext (hE05.trans hE6)) (by decide) (by decide)) ?_
    rintro _ w7 ⟨hE7, b4, rfl, hb4⟩
    obtain rfl : b3 = b4 := by
      have := hb3.trans (okDef_df.trans hb4.symm)
      cases b3 <;> cases b4 <;> simp_all
    refine gg ?_
    rw [show (b3 == b3) = true from beq_self_eq_true _]
    refine gg ?_
    refine R1_call2 (awake4_ok w7) ?_
    rintro _ w8 ⟨hE8, rfl⟩
    refine gg ?_
    exact ret1 (v := .bool _) rfl rfl ⟨hE05.trans (hE6.trans (hE7.trans hE8)), rfl⟩
end Go.Proofs.Ytpldkdjflkckpaa
