/- For every matrix the law MatrixShapes returns true, and the argument reads as it did. No condition beyond the statement's own. -/
import Derived.Test.YtimjiaabaanbeaaFrm
import Derived.Test.YtimjiaabaanbeaaLrg
namespace Go.Proofs.Ytimjiaabaanbeaa
open Go Go.Eng Go.ChangeShapes Go.WideShapes Go.ChangeAt Go.RowKit

theorem cells_slice {P : Program} {W : World} {r : Reach} {b t e : Nat} {v : Value} (hu : P.underlying t = some (.slice e)) (h : Value.okWide P W r b t v) : v.cells.toList = [v] := by
  cases v <;> simp [Value.okWide, hu, Cell.okWide, Cell.ok] at h
  rfl
theorem wt_of {H : Type} {ts : List TypeId} {ds : List (DataW H)} (h : (DataW.weightsEach Try.prog ts ds).all (· ≤ reachBytes) = true) {j : Nat} {t : TypeId} {d : DataW H} (ht : ts[j]? = some t) (hd : ds[j]? = some d) : Wt t d := fun n hn => by
  have := List.all_eq_true.1 h _ (DataW.weights_mem_each ht hd n hn)
  simpa using this

set_option maxRecDepth 100000 in
theorem shapes_lifted (os : Os) (started : os.Started) (H : Type) (enc : TypeId × Value → H) :
    ReturnsInHanded {} Try.checked os 7 .any (Rows.matrixShapesSpec.pre6 enc Try.prog Try.f7 Rows.matrixShapesRow.domain false) (Rows.matrixShapesSpec.post enc Try.prog Try.f7 false true false false) := by
  refine returnsInHanded_of_change_sized (C := Try.checked) own0 started (by kernel_rfl) Try.func7
    (ChangeSpec.witness6 (enc := enc) (C := Try.checked) false ⟨#[], #[.slice none 0 0], []⟩ 8 (by kernel_rfl) (by kernel_rfl) (by kernel_rfl) (by kernel_rfl)) ?_
  intro W base args ds gs before hval0 hW _ hwt0 _
  have hval : ∀ (j : Nat) t v, Try.f7.params[j]? = some t → args[j]? = some v → Value.okWide Try.prog W .any base t v := hval0
  have hwt : (DataW.weightsEach Try.prog (Try.f7.params.toList ++ Rows.matrixShapesSpec.plain.varTypes Try.prog) (ds ++ gs)).all (· ≤ reachBytes) = true := hwt0
  have hW' := hW
  obtain ⟨p, q, hA0, hV, rfl, hfz, hnd⟩ := hW
  have hA : DataW.TrodAll enc Try.prog W 0 (fun _ => true) true Try.f7.params.toList args.toList ds p := hA0
  rw [Try.params7] at hA hval hwt
  obtain ⟨v0, d0, rfl, rfl, h0⟩ := trodAll_one hA
  obtain ⟨rfl, rfl⟩ := trodVars_none hV
  obtain ⟨r, len, M, L, hM⟩ := open_mat h0 (wt_of hwt (j := 0) rfl rfl) (cells_slice Try.underlying22 (hval 0 _ v0 rfl rfl))
  refine (lawShapes v0 r len M L W hM).calls.mono fun e W' ⟨v, he, hE, hv⟩ => ?_
  subst hv
  exact ⟨_, he, law_post laid0 (by kernel_rfl) rfl hW' rfl rfl Try.underlying4 hE⟩

theorem shapes_holds : Rows.MatrixShapesSaid :=
  OpenClaim.holds_of_wide 7 Try.f7 rfl rfl rfl rfl rfl rfl rfl ⟨rfl, rfl, rfl, rfl, rfl⟩ rfl rfl rfl rfl rfl (by kernel_rfl) Try.func7 (by kernel_rfl)
    (of_decide_eq_true (by kernel_rfl)) (by unfold Func.isWrapper; first | (rw [if_pos (by decide +kernel)]; kernel_rfl) | (rw [if_neg (by decide +kernel)]; exact ⟨rfl, rfl⟩))
    (fun os started H enc _ => shapes_lifted os started H enc)
end Go.Proofs.Ytimjiaabaanbeaa
