/- For all arguments of bulk at most 1048576 the law MatrixApplies returns true, and the arguments read as they did. The condition is the statement's own (the second form). -/
import Derived.Test.YtimjiaabaanbeaaQe
import Derived.Test.YtimjiaabaanbeaaQli
import Derived.Test.YtimjiaabaanbeaaQq
import Derived.Carry
namespace Go.Proofs.Ytimjiaabaanbeaa
open Go Go.Eng Go.ChangeShapes Go.WideShapes Go.ChangeAt Go.RowKit

set_option maxRecDepth 100000 in
theorem applies_lifted (os : Os) (started : os.Started) (H : Type) (enc : TypeId × Value → H) (F : Stop.Interp) :
    ReturnsInHanded {} Try.checked os 14 .any ((Rows.OpenSpec.upto Rows.matrixAppliesSpec).pre6 enc Try.prog Try.f14 Rows.matrixAppliesUptoRow.domain false) (((Rows.OpenSpec.upto Rows.matrixAppliesSpec).at F).post enc Try.prog Try.f14 false true false false) := by
  refine returnsInHanded_of_cond_sized (C := Try.checked) (s := Rows.OpenSpec.upto Rows.matrixAppliesSpec) (k := Rows.uptoSmall) rfl own0 started (by kernel_rfl) Try.func14
    (OpenSpec.witness (enc := enc) (C := Try.checked) (s := Rows.OpenSpec.upto Rows.matrixAppliesSpec) (k := Rows.uptoSmall) rfl false ⟨#[], #[.slice none 0 0, .slice none 0 0, .agg #[.int .u8 0, .int .u8 0, .slice none 0 0], .slice none 0 0], []⟩ 8 (by kernel_rfl) (by kernel_rfl) (by kernel_rfl)
      (x := ([.nil, .nil, .agg [.lit (.int .u8 0), .lit (.int .u8 0), .nil], .nil], [], [])) (by kernel_rfl) rfl (by kernel_rfl)) ?_
  intro W base args ds gs before hval0 hW _ hk0 hwt0 _
  have hval : ∀ (j : Nat) t v, Try.f14.params[j]? = some t → args[j]? = some v → Value.okWide Try.prog W .any base t v := hval0
  have hwt : (DataW.weightsEach Try.prog (Try.f14.params.toList ++ Rows.matrixAppliesSpec.plain.varTypes Try.prog) (ds ++ gs)).all (· ≤ reachBytes) = true := hwt0
  have hW' := hW
  obtain ⟨p, q, hA0, hV, rfl, hfz, hnd⟩ := hW
  have hA : DataW.TrodAll enc Try.prog W 0 (fun _ => true) true Try.f14.params.toList args.toList ds p := hA0
  rw [Try.params14] at hA hval hwt
  obtain ⟨v0, v1, v2, v3, d0, d1, d2, d3, p0, p1, p2, p3, rfl, rfl, rfl, h0, h1, h2, h3⟩ := trodAll_four hA
  obtain ⟨rfl, rfl⟩ := trodVars_none hV
  have hk : Rows.uptoSmall H [d0, d1, d2, d3] = true := by simpa using hk0
  obtain ⟨r0, len0, M0, L0, e0⟩ := open_mat h0 (wt_of hwt (j := 0) rfl rfl) (cells_slice Try.underlying22 (hval 0 _ v0 rfl rfl))
  obtain ⟨c1, M1, L1, e1⟩ := open_vecB h1 (wt_of hwt (j := 1) rfl rfl) (cells_slice Try.underlying53 (hval 1 _ v1 rfl rfl)) (bulk_of hk (j := 1) rfl)
  obtain ⟨r2, c2, n2, ns2, e2⟩ := open_grid h2 (wt_of hwt (j := 2) rfl rfl) (agg_of Try.underlying25 (hval 2 _ v2 rfl rfl))
  obtain ⟨n3, ns3, e3⟩ := open_nums h3 (wt_of hwt (j := 3) rfl rfl) (cells_slice Try.underlying23 (hval 3 _ v3 rfl rfl))
  refine (lawApplies (w := W) e0 e1 e2 e3).calls.mono fun e W' ⟨v, he, hE, hv⟩ => ?_
  subst hv
  exact ⟨_, he, law_post laid0 (by kernel_rfl) rfl hW' rfl rfl Try.underlying4 hE⟩

theorem applies_holds : Rows.MatrixAppliesUptoSaid :=
  OpenClaim.holds_of_cond 14 Try.f14 rfl rfl rfl rfl rfl rfl rfl ⟨rfl, rfl, rfl, rfl, rfl⟩ rfl rfl rfl rfl rfl (by kernel_rfl) Try.func14 (by kernel_rfl)
    (of_decide_eq_true (by kernel_rfl)) (by unfold Func.isWrapper; first | (rw [if_pos (by decide +kernel)]; kernel_rfl) | (rw [if_neg (by decide +kernel)]; exact ⟨rfl, rfl⟩))
    (fun os started H enc _ F => applies_lifted os started H enc F)
end Go.Proofs.Ytimjiaabaanbeaa
