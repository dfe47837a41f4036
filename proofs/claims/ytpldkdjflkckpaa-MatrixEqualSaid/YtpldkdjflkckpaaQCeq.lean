/- For all matrices, grids, bytes and bools the law MatrixEqual returns true, and the arguments read as they did. No condition beyond the statement's own. -/
import Derived.Test.YtpldkdjflkckpaaQe
import Derived.Test.YtpldkdjflkckpaaQlj
import Derived.Test.YtpldkdjflkckpaaQs
import Derived.Carry
namespace Go.Proofs.Ytpldkdjflkckpaa
open Go Go.Eng Go.ChangeShapes Go.WideShapes Go.ChangeAt Go.RowKit

set_option maxRecDepth 100000 in
theorem equalL_lifted (os : Os) (started : os.Started) (H : Type) (enc : TypeId × Value → H) :
    ReturnsInHanded {} Try.checked os 6 .any (Rows.matrixEqualSpec.pre6 enc Try.prog Try.f6 Rows.matrixEqualRow.domain false) (Rows.matrixEqualSpec.post enc Try.prog Try.f6 false true false false) := by
  refine returnsInHanded_of_change_sized (C := Try.checked) own0 started (by kernel_rfl) Try.func6
    (ChangeSpec.witness6 (enc := enc) (C := Try.checked) false ⟨#[], #[.slice none 0 0, .slice none 0 0, .agg #[.int .u8 0, .int .u8 0, .slice none 0 0], .int .u8 0, .bool false], []⟩ 8 (by kernel_rfl) (by kernel_rfl) (by kernel_rfl) (by kernel_rfl)) ?_
  intro W base args ds gs before hval0 hW _ hwt0 _
  have hval : ∀ (j : Nat) t v, Try.f6.params[j]? = some t → args[j]? = some v → Value.okWide Try.prog W .any base t v := hval0
  have hwt : (DataW.weightsEach Try.prog (Try.f6.params.toList ++ Rows.matrixEqualSpec.plain.varTypes Try.prog) (ds ++ gs)).all (· ≤ reachBytes) = true := hwt0
  have hW' := hW
  obtain ⟨p, q, hA0, hV, rfl, hfz, hnd⟩ := hW
  have hA : DataW.TrodAll enc Try.prog W 0 (fun _ => true) true Try.f6.params.toList args.toList ds p := hA0
  rw [Try.params6] at hA hval hwt
  obtain ⟨v0, v1, v2, v3, v4, d0, d1, d2, d3, d4, p0, p1, p2, p3, p4, rfl, rfl, rfl, h0, h1, h2, h3, h4⟩ := trodAll_five hA
  obtain ⟨rfl, rfl⟩ := trodVars_none hV
  obtain ⟨r0, len0, M0, L0, e0⟩ := open_mat h0 (wt_of hwt (j := 0) rfl rfl) (cells_slice Try.underlying22 (hval 0 _ v0 rfl rfl))
  obtain ⟨r1, len1, M1, L1, e1⟩ := open_mat h1 (wt_of hwt (j := 1) rfl rfl) (cells_slice Try.underlying22 (hval 1 _ v1 rfl rfl))
  obtain ⟨r2, c2, n2, ns2, e2⟩ := open_grid h2 (wt_of hwt (j := 2) rfl rfl) (agg_of Try.underlying32 (hval 2 _ v2 rfl rfl))
  obtain ⟨a3, e3⟩ := open_byte h3 (int_cells Try.underlying5 (hval 3 _ v3 rfl rfl))
  obtain ⟨b4, rfl, rfl, rfl⟩ := open_bool Try.underlying4 (hval 4 _ v4 rfl rfl) h4
  refine (lawEqual (w := W) e0 e1 e2 e3).calls.mono fun e W' ⟨v, he, hE, hv⟩ => ?_
  subst hv
  exact ⟨_, he, law_post laid0 (by kernel_rfl) rfl hW' rfl rfl Try.underlying4 hE⟩

theorem equalL_holds : Rows.MatrixEqualSaid :=
  OpenClaim.holds_of_wide 6 Try.f6 rfl rfl rfl rfl rfl rfl rfl ⟨rfl, rfl, rfl, rfl, rfl⟩ rfl rfl rfl rfl rfl (by kernel_rfl) Try.func6 (by kernel_rfl)
    (of_decide_eq_true (by kernel_rfl)) (by unfold Func.isWrapper; first | (rw [if_pos (by decide +kernel)]; kernel_rfl) | (rw [if_neg (by decide +kernel)]; exact ⟨rfl, rfl⟩))
    (fun os started H enc _ => equalL_lifted os started H enc)
end Go.Proofs.Ytpldkdjflkckpaa
