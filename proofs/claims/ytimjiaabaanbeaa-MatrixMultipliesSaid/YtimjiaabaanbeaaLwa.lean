/- quadformlaw03.MatrixIdentity: the walk. -/
import Derived.Test.YtimjiaabaanbeaaAwa
namespace Go.Proofs.Ytimjiaabaanbeaa
open Go Go.Eng Go.Num Go.Proofs

def Law (w : World) (v : Value) (w' : World) : Prop := Ext w w' ∧ v = .bool true
theorem scal_bd (a : Int) (h : Bd 1 a) (i j : Nat) : Bd 1 (scal a i j) := by
  unfold scal
  split
  · exact h
  · exact Bd.zero 1
theorem bd1_1 : Bd 1 1 := show (1 : Int).natAbs < B ^ 1 by decide
theorem sameM_refl {r : Nat} {len : Nat → Nat} {M : Nat → Nat → Int} : sameM r r len len M M := ⟨rfl, fun _ _ => ⟨rfl, fun _ _ => rfl⟩⟩

set_option maxHeartbeats 8000000 in
theorem lawIdentity (z : Int) (w : World) (h1 : -9223372036854775808 ≤ z) (h2 : z < 9223372036854775808) :
    Meets Try.prog 8 #[.int .i64 z] w (Law w) := by
  refine fn_W (n := 39) Try.func8 rfl rfl (by kernel_rfl) (by simp) ?_
  have hz1 : -9223372036854775808 ≤ z.tmod 19 ∧ z.tmod 19 < 9223372036854775808 := by
    have := Int.tmod_lt_of_pos z (show (0 : Int) < 19 by decide)
    have := Int.lt_tmod_of_pos z (show (0 : Int) < 19 by decide)
    omega
  refine gg ?_
  refine W_seq ?_
  refine gg ?_
  refine R1_rem_z rfl rfl (by decide) ?_
  refine gg ?_
  refine R1_build2 sl_int rfl (.inl rfl) rfl rfl rfl rfl ?_
  intro w1 hB1 hE1 hs1
  obtain ⟨gN, hgN⟩ : ∃ g, g = w.heap.size := ⟨_, rfl⟩
  rw [← hgN] at hB1 ⊢
  refine gg ?_
  refine W_loop (fun m f w' => ∃ i, m = 2 - i ∧ i ≤ 2 ∧ f 12 = .slice (some ⟨gN, 0, none⟩) 2 2 ∧ f 13 = .int .i64 ((2 : Nat) : Int) ∧ f 14 = .int .i64 ((i : Nat) : Int) ∧ Ext w w' ∧ Blk w' gN 3 #[.int .i64 z, .int .i64 (z.tmod 19)])
    2 ⟨0, rfl, by decide, rfl, rfl, rfl, hE1, hB1⟩ ?_
  clear hB1 hE1 hs1 w1
  rintro m f w1 ⟨i, rfl, hi, hf12, hf13, hf14, hE, hB⟩
  rw [ui hf12, ui hf13, ui hf14]
  clear hf12 hf13 hf14
  by_cases hlt : i < 2
  · obtain ⟨u, hu, hu1, hu2⟩ : ∃ u : Int, w1.cell? ⟨gN, 0 + i * 1, none⟩ = some (.int .i64 u) ∧ -9223372036854775808 ≤ u ∧ u < 9223372036854775808 := by
      match i, hlt with
      | 0, _ => exact ⟨z, by rw [hB.cell]; rfl, h1, h2⟩
      | 1, _ => exact ⟨_, by rw [hB.cell]; rfl, hz1.1, hz1.2⟩
    refine gg ?_
    refine R1_call2 (identity_ok u w1 hu1 hu2) ?_
    intro v w2 hv
    by_cases hid : idOk u = true
    · obtain ⟨_, rfl, hE2, gA, gsA, rfl, _, _, hOA⟩ := hv.get hid
      clear hv
      have hid' : 1 ≤ u ∧ u ≤ 16 := by simpa [idOk] using hid
      refine gg ?_
      refine R1_call2 (ridentity_ok u w2 hu1 hu2) ?_
      intro v w3 hv
      obtain ⟨_, rfl, hE3, gB, gsB, rfl, _, _, hOB⟩ := hv.get hid
      clear hv
      refine gg ?_
      rw [show (true != true) = false from rfl]
      refine gg ?_
      refine R1_call2 (rsameM_ok _ _ u.toNat u.toNat 1 (fun _ => u.toNat) (fun _ => u.toNat) _ _ w3 ((hOA.ext hE3).readC (fun i j _ _ => scal_bd 1 bd1_1 i j) (by omega) (by omega)) (hOB.readC (fun i j _ _ => scal_bd 1 bd1_1 i j) (by omega) (by omega)) (by decide)) ?_
      rintro _ w4 ⟨hE4, b, rfl, hb⟩
      obtain rfl : b = true := hb.2 sameM_refl
      refine gg ?_
      refine ⟨_, ?_, i + 1, rfl, by omega, rfl, rfl, rfl, hE.trans (hE2.trans (hE3.trans hE4)), hB.ext (hE2.trans (hE3.trans hE4))⟩
      omega
    · have hid : idOk u = false := by simpa using hid
      obtain ⟨hE2, rfl⟩ := hv.no hid
      clear hv
      refine gg ?_
      refine R1_call2 (ridentity_ok u w2 hu1 hu2) ?_
      intro v w3 hv
      obtain ⟨hE3, rfl⟩ := hv.no hid
      clear hv
      refine gg ?_
      rw [show (false != false) = false from rfl]
      refine gg ?_
      refine R1_call2 (rsameM_ok _ _ 0 0 1 (fun _ => 0) (fun _ => 0) (fun _ _ => 0) (fun _ _ => 0) w3 (matC_nil _ _ _ _) (matC_nil _ _ _ _) (by decide)) ?_
      rintro _ w4 ⟨hE4, b, rfl, hb⟩
      obtain rfl : b = true := hb.2 sameM_refl
      refine gg ?_
      refine ⟨_, ?_, i + 1, rfl, by omega, rfl, rfl, rfl, hE.trans (hE2.trans (hE3.trans hE4)), hB.ext (hE2.trans (hE3.trans hE4))⟩
      omega
  · refine gg ?_
    refine R1_call2 (awake_ok w1) ?_
    rintro _ w2 ⟨hE2, rfl⟩
    refine gg ?_
    exact ret1 (v := .bool _) rfl rfl ⟨hE.trans hE2, rfl⟩
end Go.Proofs.Ytimjiaabaanbeaa
