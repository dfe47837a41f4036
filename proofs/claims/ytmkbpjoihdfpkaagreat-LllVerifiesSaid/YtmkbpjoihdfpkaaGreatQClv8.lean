/- The law LllVerifies holds: lll.Verify agrees with the reference on results that were changed at one place. -/
import Derived.Test.YtmkbpjoihdfpkaaGreatQe
import Derived.Test.YtmkbpjoihdfpkaaGreatQnq
import Derived.Test.YtmkbpjoihdfpkaaGreatQni
import Derived.Carry
namespace Go.Proofs.YtmkbpjoihdfpkaaGreat
open Go Go.Eng Go.ChangeShapes Go.WideShapes Go.ChangeAt Go.RowKit

set_option maxRecDepth 100000 in
theorem lllVerifies_lifted (os : Os) (started : os.Started) (H : Type) (enc : TypeId × Value → H) :
    ReturnsInHanded {} Tryz.checked os 12 .any (Rows.lllVerifiesSpec.pre6 enc Tryz.prog Tryz.f12 Rows.lllVerifiesRow.domain false) (Rows.lllVerifiesSpec.post enc Tryz.prog Tryz.f12 false true false false) := by
  refine returnsInHanded_of_change_sized (C := Tryz.checked) own0 started (by kernel_rfl) Tryz.func12
    (ChangeSpec.witness6 (enc := enc) (C := Tryz.checked) false ⟨#[], #[.agg #[.int .u8 0, .int .u8 0, .slice none 0 0, .slice none 0 0], .int .u8 0, .int .u8 0, .int .i8 0], []⟩ 8 (by kernel_rfl) (by kernel_rfl) (by kernel_rfl) (by kernel_rfl)) ?_
  intro W base args ds gs before hval0 hW _ hwt0 _
  have hval : ∀ (j : Nat) t v, Tryz.f12.params[j]? = some t → args[j]? = some v → Value.okWide Tryz.prog W .any base t v := hval0
  have hwt : (DataW.weightsEach Tryz.prog (Tryz.f12.params.toList ++ Rows.lllVerifiesSpec.plain.varTypes Tryz.prog) (ds ++ gs)).all (· ≤ reachBytes) = true := hwt0
  have hW' := hW
  obtain ⟨p, q, hA0, hV, rfl, hfz, hnd⟩ := hW
  have hA : DataW.TrodAll enc Tryz.prog W 0 (fun _ => true) true Tryz.f12.params.toList args.toList ds p := hA0
  rw [Tryz.params12] at hA hval hwt
  obtain ⟨v0, v1, v2, v3, d0, d1, d2, d3, p0, p1, p2, p3, rfl, rfl, rfl, h0, h1, h2, h3⟩ := trodAll_four hA
  obtain ⟨rfl, rfl⟩ := trodVars_none hV
  obtain ⟨dm0, kd0, n0, ns0, m0, ms0, e0⟩ := open_lat h0 (wt_of hwt (j := 0) rfl rfl) (agg_of Tryz.underlying27 (hval 0 _ v0 rfl rfl))
  obtain ⟨a1, e1⟩ := open_byte h1 (int_cells Tryz.underlying5 (hval 1 _ v1 rfl rfl))
  obtain ⟨a2, e2⟩ := open_byte h2 (int_cells Tryz.underlying5 (hval 2 _ v2 rfl rfl))
  obtain ⟨a3, e3⟩ := open_i8 h3 (int_cells Tryz.underlying28 (hval 3 _ v3 rfl rfl))
  refine (lawLllVerifies (w := W) e0 e1 e2 e3).calls.mono fun e W' ⟨v, he, hE, hv⟩ => ?_
  subst hv
  exact ⟨_, he, law_post laid0 (by kernel_rfl) rfl hW' rfl rfl Tryz.underlying4 hE⟩

theorem lllVerifies_holds : Rows.LllVerifiesSaid :=
  OpenClaim.holds_of_wide 12 Tryz.f12 rfl rfl rfl rfl rfl rfl rfl ⟨rfl, rfl, rfl, rfl, rfl⟩ rfl rfl rfl rfl rfl (by kernel_rfl) Tryz.func12 (by kernel_rfl)
    (of_decide_eq_true (by kernel_rfl)) (by unfold Func.isWrapper; first | (rw [if_pos (by decide +kernel)]; kernel_rfl) | (rw [if_neg (by decide +kernel)]; exact ⟨rfl, rfl⟩))
    (fun os started H enc _ => lllVerifies_lifted os started H enc)
end Go.Proofs.YtmkbpjoihdfpkaaGreat
