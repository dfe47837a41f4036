/- The card of GramSpoilt: what the text of a Gram matrix is read as after one change. -/
import Derived.Test.YtncbjgblcofddaaGreatDoorQol
import Derived.Test.YtncbjgblcofddaaGreatDoorQpc
import Derived.Test.YtncbjgblcofddaaGreatDoorQo
import Derived.Test.YtncbjgblcofddaaGreatDoorQni
import Derived.Test.YtncbjgblcofddaaGreatDoorQs
import Derived.Test.YtncbjgblcofddaaGreatDoorQot
namespace Go.Proofs.YtncbjgblcofddaaGreatDoor
open Go Go.Eng Go.ChangeShapes Go.WideShapes Go.ChangeAt Go.RowKit

set_option maxRecDepth 100000 in
theorem gramSpoilt_lifted (os : Os) (started : os.Started) (H : Type) (enc : TypeId × Value → H) :
    ReturnsInHanded {} Tryz.checked os 8 .any (fun w args => (Rows.gramSpoiltSpec.pre enc Tryz.prog Tryz.f8 [] false w args ∧ laidMetH Tryz.prog laid7 w) ∧ sizedMet enc Tryz.prog Tryz.f8 (OpenSpec.ofChange Rows.gramSpoiltSpec) false w args)
      (Rows.gramSpoiltSpec.post enc Tryz.prog Tryz.f8 false true false false) := by
  refine returnsInHanded_and_shaped (C := Tryz.checked) (X := fun w _ => laidMetH Tryz.prog laid7 w) (fun _ _ _ hh h => h.of_heap hh) own0 started (by kernel_rfl) Tryz.func8
    (ChangeSpec.witness_shaped (enc := enc) (C := Tryz.checked) (os := os) (X := fun w _ => laidMetH Tryz.prog laid7 w) false (World.laidAll Tryz.prog os laid7) #[.agg #[.int .u8 0, .int .u8 0, .slice none 0 0, .slice none 0 0], .int .u16 0, .int .u8 0, .int .u8 0] 8 (World.laidAll_os _ _ _) (laid7_shaped os _) (by kernel_rfl) (by kernel_rfl) (by kernel_rfl) (laid7_met os _)) ?_
  intro W base args ds gs before hval0 hW hwt0 hsh
  have hval : ∀ (j : Nat) t v, Tryz.f8.params[j]? = some t → args[j]? = some v → Value.okWide Tryz.prog W .any base t v := hval0
  have hwt : (DataW.weightsEach Tryz.prog (Tryz.f8.params.toList ++ Rows.gramSpoiltSpec.plain.varTypes Tryz.prog) (ds ++ gs)).all (· ≤ reachBytes) = true := hwt0
  have hW' := hW
  obtain ⟨p, q, hA0, hV, rfl, hfz, hnd⟩ := hW
  have hA : DataW.TrodAll enc Tryz.prog W 0 (fun _ => true) true Tryz.f8.params.toList args.toList ds p := hA0
  rw [Tryz.params8] at hA hval hwt
  obtain ⟨v0, v1, v2, v3, d0, d1, d2, d3, p0, p1, p2, p3, rfl, rfl, rfl, h0, h1, h2, h3⟩ := trodAll_four hA
  obtain ⟨rfl, rfl⟩ := trodVars_none hV
  obtain ⟨dm0, kd0, n0, ns0, m0, ms0, e0⟩ := open_lat h0 (wt_of hwt (j := 0) rfl rfl) (agg_of Tryz.underlying25 (hval 0 _ v0 rfl rfl))
  obtain ⟨a1, e1⟩ := open_u16 h1 (int_cells Tryz.underlying60 (hval 1 _ v1 rfl rfl))
  obtain ⟨a2, e2⟩ := open_byte h2 (int_cells Tryz.underlying5 (hval 2 _ v2 rfl rfl))
  obtain ⟨a3, e3⟩ := open_byte h3 (int_cells Tryz.underlying5 (hval 3 _ v3 rfl rfl))
  refine (lawGramSpoilt (w := W) (ml_of hsh) e0 e1 e2 e3).calls.mono fun e W' ⟨v, he, hE, hv⟩ => ?_
  subst hv
  exact ⟨_, he, law_post laid0 (by kernel_rfl) rfl hW' rfl rfl Tryz.underlying4 hE⟩

theorem gramSpoilt_row : Rows.GramSpoiltSaid :=
  OpenClaim.holds_of_wide 8 Tryz.f8 rfl rfl rfl rfl rfl rfl rfl ⟨rfl, rfl, rfl, rfl, rfl⟩ rfl rfl rfl rfl rfl (by kernel_rfl) Tryz.func8 (by kernel_rfl)
    (of_decide_eq_true (by kernel_rfl)) (by unfold Func.isWrapper; first | (rw [if_pos (by decide +kernel)]; kernel_rfl) | (rw [if_neg (by decide +kernel)]; exact ⟨rfl, rfl⟩))
    (fun os started H enc _ => gramSpoilt_lifted os started H enc)
theorem gramSpoilt_holds : Rows.GramSpoiltCardSaid :=
  Claim7.holds_tied_plain_at .later [] [.data, .data, .data, .data, .pinned] true (true, "b73e4f6bb68be0d05adafc7a0fdc07a7b2c039e18c5a80e84c5cbcba27043276") false
    gramSpoilt_row (fun _ h => by cases h) (by kernel_rfl) (fun _ h => by cases h) gramSpoilt_row_tie rfl ⟨rfl, rfl⟩ (by kernel_rfl) rfl
    (fun f fn hf hfn => by
      obtain rfl : f = 8 := Option.some.inj ((show Tryz.prog.funcNamed "quadform/quadformlaw07.GramSpoilt" = some 8 by kernel_rfl).symm.trans hf) |>.symm
      obtain rfl : fn = Tryz.f8 := (Option.some.inj (Tryz.func8.symm.trans hfn)).symm
      exact ⟨by kernel_rfl, fun j t ht => by
        rw [Tryz.params8] at ht
        have hm : t ∈ ([25, 60, 5, 5] : List Nat) := by simpa using Array.mem_of_getElem? ht
        have hall : (([25, 60, 5, 5] : List Nat).all fun u => !Tryz.prog.wantsStandIn u) = true := by kernel_rfl
        exact (show Tryz.prog.wantsStandIn t = false by simpa using List.all_eq_true.1 hall t hm)⟩)
    (by kernel_rfl)
end Go.Proofs.YtncbjgblcofddaaGreatDoor
