/- BareissSchur: the stages of a definite matrix are Schur complements. -/
import Derived.Test.YtcjhcefnedonlaaQe
import Derived.Test.YtcjhcefnedonlaaQmi
import Derived.Test.YtcjhcefnedonlaaQs
import Derived.Test.YtcjhcefnedonlaaQo
import Derived.Carry
namespace Go.Proofs.Ytcjhcefnedonlaa
open Go Go.Eng Go.ChangeShapes Go.WideShapes Go.ChangeAt Go.RowKit

set_option maxRecDepth 100000 in
theorem schurL_lifted (os : Os) (started : os.Started) (H : Type) (enc : TypeId × Value → H) :
    ReturnsInHanded {} Try.checked os 8 .any (Rows.bareissSchurSpec.pre6 enc Try.prog Try.f8 Rows.bareissSchurRow.domain false) (Rows.bareissSchurSpec.post enc Try.prog Try.f8 false true false false) := by
  refine returnsInHanded_of_change_sized (C := Try.checked) own0 started (by kernel_rfl) Try.func8
    (ChangeSpec.witness6 (enc := enc) (C := Try.checked) false ⟨#[], #[.agg #[.int .u8 0, .int .u8 0, .slice none 0 0], .slice none 0 0, .int .u8 0], []⟩ 8 (by kernel_rfl) (by kernel_rfl) (by kernel_rfl) (by kernel_rfl)) ?_
  intro W base args ds gs before hval0 hW _ hwt0 _
  have hval : ∀ (j : Nat) t v, Try.f8.params[j]? = some t → args[j]? = some v → Value.okWide Try.prog W .any base t v := hval0
  have hwt : (DataW.weightsEach Try.prog (Try.f8.params.toList ++ Rows.bareissSchurSpec.plain.varTypes Try.prog) (ds ++ gs)).all (· ≤ reachBytes) = true := hwt0
  have hW' := hW
  obtain ⟨p, q, hA0, hV, rfl, hfz, hnd⟩ := hW
  have hA : DataW.TrodAll enc Try.prog W 0 (fun _ => true) true Try.f8.params.toList args.toList ds p := hA0
  rw [Try.params8] at hA hval hwt
  obtain ⟨v0, v1, v2, d0, d1, d2, p0, p1, p2, rfl, rfl, rfl, h0, h1, h2⟩ := trodAll_three hA
  obtain ⟨rfl, rfl⟩ := trodVars_none hV
  obtain ⟨r0, c0, n0, ns0, e0⟩ := open_grid h0 (wt_of hwt (j := 0) rfl rfl) (agg_of Try.underlying24 (hval 0 _ v0 rfl rfl))
  obtain ⟨n1, ns1, e1⟩ := open_nums h1 (wt_of hwt (j := 1) rfl rfl) (cells_slice Try.underlying22 (hval 1 _ v1 rfl rfl))
  obtain ⟨a2, e2⟩ := open_byte h2 (int_cells Try.underlying5 (hval 2 _ v2 rfl rfl))
  refine (lawSchur (w := W) e0 e1 e2).calls.mono fun e W' ⟨v, he, hE, hv⟩ => ?_
  subst hv
  exact ⟨_, he, law_post laid0 (by kernel_rfl) rfl hW' rfl rfl Try.underlying4 hE⟩

theorem schurL_holds : Rows.BareissSchurSaid :=
  OpenClaim.holds_of_wide 8 Try.f8 rfl rfl rfl rfl rfl rfl rfl ⟨rfl, rfl, rfl, rfl, rfl⟩ rfl rfl rfl rfl rfl (by kernel_rfl) Try.func8 (by kernel_rfl)
    (of_decide_eq_true (by kernel_rfl)) (by unfold Func.isWrapper; first | (rw [if_pos (by decide +kernel)]; kernel_rfl) | (rw [if_neg (by decide +kernel)]; exact ⟨rfl, rfl⟩))
    (fun os started H enc _ => schurL_lifted os started H enc)
end Go.Proofs.Ytcjhcefnedonlaa
