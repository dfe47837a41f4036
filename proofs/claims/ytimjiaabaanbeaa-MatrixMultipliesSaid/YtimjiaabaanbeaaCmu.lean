/- For all matrices and grids the law MatrixMultiplies returns true, and the arguments read as they did. No condition beyond the statement's own. -/
import Derived.Test.YtimjiaabaanbeaaFrm
import Derived.Test.YtimjiaabaanbeaaLwc
import Derived.Test.YtimjiaabaanbeaaOpg
import Derived.Carry
namespace Go.Proofs.Ytimjiaabaanbeaa
open Go Go.Eng Go.ChangeShapes Go.WideShapes Go.ChangeAt Go.RowKit

set_option maxRecDepth 100000 in
theorem multiplies_lifted (os : Os) (started : os.Started) (H : Type) (enc : TypeId × Value → H) :
    ReturnsInHanded {} Try.checked os 3 .any (Rows.matrixMultipliesSpec.pre6 enc Try.prog Try.f3 Rows.matrixMultipliesRow.domain false) (Rows.matrixMultipliesSpec.post enc Try.prog Try.f3 false true false false) := by
  refine returnsInHanded_of_change_sized (C := Try.checked) own0 started (by kernel_rfl) Try.func3
    (ChangeSpec.witness6 (enc := enc) (C := Try.checked) false ⟨#[], #[.slice none 0 0, .slice none 0 0, .agg #[.int .u8 0, .int .u8 0, .slice none 0 0], .agg #[.int .u8 0, .int .u8 0, .slice none 0 0]], []⟩ 8 (by kernel_rfl) (by kernel_rfl) (by kernel_rfl) (by kernel_rfl)) ?_
  intro W base args ds gs before hval0 hW _ hwt0 _
  have hval : ∀ (j : Nat) t v, Try.f3.params[j]? = some t → args[j]? = some v → Value.okWide Try.prog W .any base t v := hval0
  have hwt : (DataW.weightsEach Try.prog (Try.f3.params.toList ++ Rows.matrixMultipliesSpec.plain.varTypes Try.prog) (ds ++ gs)).all (· ≤ reachBytes) = true := hwt0
  have hW' := hW
  obtain ⟨p, q, hA0, hV, rfl, hfz, hnd⟩ := hW
  have hA : DataW.TrodAll enc Try.prog W 0 (fun _ => true) true Try.f3.params.toList args.toList ds p := hA0
  rw [Try.params3] at hA hval hwt
  obtain ⟨v0, v1, v2, v3, d0, d1, d2, d3, p0, p1, p2, p3, rfl, rfl, rfl, h0, h1, h2, h3⟩ := trodAll_four hA
  obtain ⟨rfl, rfl⟩ := trodVars_none hV
  obtain ⟨r1, len1, M1, L1, hM1⟩ := open_mat h0 (wt_of hwt (j := 0) rfl rfl) (cells_slice Try.underlying22 (hval 0 _ v0 rfl rfl))
  obtain ⟨r2, len2, M2, L2, hM2⟩ := open_mat h1 (wt_of hwt (j := 1) rfl rfl) (cells_slice Try.underlying22 (hval 1 _ v1 rfl rfl))
  obtain ⟨rx, cx, nx, nsx, hx⟩ := open_grid h2 (wt_of hwt (j := 2) rfl rfl) (agg_of Try.underlying25 (hval 2 _ v2 rfl rfl))
  obtain ⟨ry, cy, ny, nsy, hy⟩ := open_grid h3 (wt_of hwt (j := 3) rfl rfl) (agg_of Try.underlying25 (hval 3 _ v3 rfl rfl))
  refine (lawMultiplies v0 v1 v2 v3 r1 r2 rx cx nx ry cy ny len1 len2 M1 M2 L1 L2 nsx nsy W hM1 hM2 hx hy).calls.mono fun e W' ⟨v, he, hE, hv⟩ => ?_
  subst hv
  exact ⟨_, he, law_post laid0 (by kernel_rfl) rfl hW' rfl rfl Try.underlying4 hE⟩

theorem multiplies_holds : Rows.MatrixMultipliesSaid :=
  OpenClaim.holds_of_wide 3 Try.f3 rfl rfl rfl rfl rfl rfl rfl ⟨rfl, rfl, rfl, rfl, rfl⟩ rfl rfl rfl rfl rfl (by kernel_rfl) Try.func3 (by kernel_rfl)
    (of_decide_eq_true (by kernel_rfl)) (by unfold Func.isWrapper; first | (rw [if_pos (by decide +kernel)]; kernel_rfl) | (rw [if_neg (by decide +kernel)]; exact ⟨rfl, rfl⟩))
    (fun os started H enc _ => multiplies_lifted os started H enc)
end Go.Proofs.Ytimjiaabaanbeaa
