/- The law LllShort holds: the first diagonal entry of a reduced form is small, and so is the product of the diagonal. -/
import Derived.Test.YtmkbpjoihdfpkaaGreatQe
import Derived.Test.YtmkbpjoihdfpkaaGreatQnr
import Derived.Test.YtmkbpjoihdfpkaaGreatQni
import Derived.Carry
namespace Go.Proofs.YtmkbpjoihdfpkaaGreat
open Go Go.Eng Go.ChangeShapes Go.WideShapes Go.ChangeAt Go.RowKit

set_option maxRecDepth 100000 in
theorem lllShort_lifted (os : Os) (started : os.Started) (H : Type) (enc : TypeId × Value → H) :
    ReturnsInHanded {} Tryz.checked os 10 .any (Rows.lllShortSpec.pre6 enc Tryz.prog Tryz.f10 Rows.lllShortRow.domain false) (Rows.lllShortSpec.post enc Tryz.prog Tryz.f10 false true false false) := by
  refine returnsInHanded_of_change_sized (C := Tryz.checked) own0 started (by kernel_rfl) Tryz.func10
    (ChangeSpec.witness6 (enc := enc) (C := Tryz.checked) false ⟨#[], #[.agg #[.int .u8 0, .int .u8 0, .slice none 0 0, .slice none 0 0]], []⟩ 8 (by kernel_rfl) (by kernel_rfl) (by kernel_rfl) (by kernel_rfl)) ?_
  intro W base args ds gs before hval0 hW _ hwt0 _
  have hval : ∀ (j : Nat) t v, Tryz.f10.params[j]? = some t → args[j]? = some v → Value.okWide Tryz.prog W .any base t v := hval0
  have hwt : (DataW.weightsEach Tryz.prog (Tryz.f10.params.toList ++ Rows.lllShortSpec.plain.varTypes Tryz.prog) (ds ++ gs)).all (· ≤ reachBytes) = true := hwt0
  have hW' := hW
  obtain ⟨p, q, hA0, hV, rfl, hfz, hnd⟩ := hW
  have hA : DataW.TrodAll enc Tryz.prog W 0 (fun _ => true) true Tryz.f10.params.toList args.toList ds p := hA0
  rw [Tryz.params10] at hA hval hwt
  obtain ⟨v0, d0, rfl, rfl, h0⟩ := trodAll_one hA
  obtain ⟨rfl, rfl⟩ := trodVars_none hV
  obtain ⟨dm0, kd0, n0, ns0, m0, ms0, e0⟩ := open_lat h0 (wt_of hwt (j := 0) rfl rfl) (agg_of Tryz.underlying27 (hval 0 _ v0 rfl rfl))
  refine (lawLllShort (w := W) e0).calls.mono fun e W' ⟨v, he, hE, hv⟩ => ?_
  subst hv
  exact ⟨_, he, law_post laid0 (by kernel_rfl) rfl hW' rfl rfl Tryz.underlying4 hE⟩

theorem lllShort_holds : Rows.LllShortSaid :=
  OpenClaim.holds_of_wide 10 Tryz.f10 rfl rfl rfl rfl rfl rfl rfl ⟨rfl, rfl, rfl, rfl, rfl⟩ rfl rfl rfl rfl rfl (by kernel_rfl) Tryz.func10 (by kernel_rfl)
    (of_decide_eq_true (by kernel_rfl)) (by unfold Func.isWrapper; first | (rw [if_pos (by decide +kernel)]; kernel_rfl) | (rw [if_neg (by decide +kernel)]; exact ⟨rfl, rfl⟩))
    (fun os started H enc _ => lllShort_lifted os started H enc)
end Go.Proofs.YtmkbpjoihdfpkaaGreat
