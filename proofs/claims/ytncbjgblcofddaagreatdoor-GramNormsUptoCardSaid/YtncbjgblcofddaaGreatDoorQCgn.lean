/- The card of GramNorms, in its second form (arguments of bulk at most 1048576): norms and inner products, or the errors, for all matrices and vectors. -/
import Derived.Test.YtncbjgblcofddaaGreatDoorQfu
import Derived.Test.YtncbjgblcofddaaGreatDoorQow
import Derived.Test.YtncbjgblcofddaaGreatDoorQo
import Derived.Test.YtncbjgblcofddaaGreatDoorQni
import Derived.Test.YtncbjgblcofddaaGreatDoorQs
import Derived.Test.YtncbjgblcofddaaGreatDoorQot
namespace Go.Proofs.YtncbjgblcofddaaGreatDoor
open Go Go.Eng Go.ChangeShapes Go.WideShapes Go.ChangeAt Go.RowKit

set_option maxRecDepth 100000 in
theorem gramNorms_lifted (os : Os) (started : os.Started) (H : Type) (enc : TypeId × Value → H) (F : Stop.Interp) :
    ReturnsInHanded {} Tryz.checked os 9 .any ((Rows.OpenSpec.upto Rows.gramNormsSpec).preRow enc Tryz.prog Tryz.f9 [] false laid7) (((Rows.OpenSpec.upto Rows.gramNormsSpec).at F).post enc Tryz.prog Tryz.f9 false true false false) := by
  refine returnsInHanded_of_row (C := Tryz.checked) (s := (Rows.OpenSpec.upto Rows.gramNormsSpec)) (laid := laid7) own0 started (by kernel_rfl) Tryz.func9
    (witness_upto (enc := enc) (os := os) (s := (Rows.OpenSpec.upto Rows.gramNormsSpec)) rfl #[.agg #[.int .u8 0, .int .u8 0, .slice none 0 0, .slice none 0 0], .slice none 0 0, .slice none 0 0, .slice none 0 0, .slice none 0 0, .slice none 0 0] 8 (by kernel_rfl) (x := ([.agg [.lit (.int .u8 0), .lit (.int .u8 0), .nil, .nil], .nil, .nil, .nil, .nil, .nil], [], [])) (by kernel_rfl) rfl (by kernel_rfl)) ?_
  intro W base args ds gs before hval0 hW _ hk0 hwt0 _ hsh _
  have hval : ∀ (j : Nat) t v, Tryz.f9.params[j]? = some t → args[j]? = some v → Value.okWide Tryz.prog W .any base t v := hval0
  have hwt : (DataW.weightsEach Tryz.prog (Tryz.f9.params.toList ++ Rows.gramNormsSpec.plain.varTypes Tryz.prog) (ds ++ gs)).all (· ≤ reachBytes) = true := hwt0
  have hW' := hW
  obtain ⟨p, q, hA0, hV, rfl, hfz, hnd⟩ := hW
  have hA : DataW.TrodAll enc Tryz.prog W 0 (fun _ => true) true Tryz.f9.params.toList args.toList ds p := hA0
  rw [Tryz.params9] at hA hval hwt
  obtain ⟨v0, v1, v2, v3, v4, v5, d0, d1, d2, d3, d4, d5, p0, p1, p2, p3, p4, p5, rfl, rfl, rfl, h0, h1, h2, h3, h4, h5⟩ := trodAll_six hA
  obtain ⟨rfl, rfl⟩ := trodVars_none hV
  have hk : Rows.uptoSmall H [d0, d1, d2, d3, d4, d5] = true := by simpa using hk0 _ rfl
  obtain ⟨dm0, kd0, n0, ns0, m0, ms0, e0⟩ := open_lat h0 (wt_of hwt (j := 0) rfl rfl) (agg_of Tryz.underlying25 (hval 0 _ v0 rfl rfl))
  obtain ⟨n1, ns1, e1⟩ := open_nums h1 (wt_of hwt (j := 1) rfl rfl) (cells_slice Tryz.underlying23 (hval 1 _ v1 rfl rfl))
  obtain ⟨n2, ns2, e2⟩ := open_nums h2 (wt_of hwt (j := 2) rfl rfl) (cells_slice Tryz.underlying23 (hval 2 _ v2 rfl rfl))
  obtain ⟨r3, len3, M3, L3, e3⟩ := open_mat h3 (wt_of hwt (j := 3) rfl rfl) (cells_slice Tryz.underlying22 (hval 3 _ v3 rfl rfl))
  obtain ⟨c4, M4, L4, e4⟩ := open_vecB h4 (wt_of hwt (j := 4) rfl rfl) (cells_slice Tryz.underlying46 (hval 4 _ v4 rfl rfl)) (bulk_of hk (j := 4) rfl)
  obtain ⟨c5, M5, L5, e5⟩ := open_vecB h5 (wt_of hwt (j := 5) rfl rfl) (cells_slice Tryz.underlying46 (hval 5 _ v5 rfl rfl)) (bulk_of hk (j := 5) rfl)
  refine (lawGramNorms (w := W) (ml_of hsh) e0 e1 e2 e3 e4 e5).calls.mono fun e W' ⟨v, he, hE, hv⟩ => ?_
  subst hv
  exact ⟨_, he, law_post laid0 (by kernel_rfl) rfl hW' rfl rfl Tryz.underlying4 hE⟩

theorem gramNorms_row : Rows.GramNormsUptoSaid :=
  OpenClaim.holds_of_cond 9 Tryz.f9 rfl rfl rfl rfl rfl rfl rfl ⟨rfl, rfl, rfl, rfl, rfl⟩ rfl rfl rfl rfl rfl (by kernel_rfl) Tryz.func9 (by kernel_rfl)
    (of_decide_eq_true (by kernel_rfl)) (by unfold Func.isWrapper; first | (rw [if_pos (by decide +kernel)]; kernel_rfl) | (rw [if_neg (by decide +kernel)]; exact ⟨rfl, rfl⟩))
    (fun os started H enc _ F => by rw [OpenClaim.pre_eq_preRow]; exact gramNorms_lifted os started H enc F)
theorem gramNorms_holds : Rows.GramNormsUptoCardSaid :=
  Claim7.holds_tied_plain_at .later [] [.data, .data, .data, .data, .pinned] true (true, "b73e4f6bb68be0d05adafc7a0fdc07a7b2c039e18c5a80e84c5cbcba27043276") false
    gramNorms_row (fun _ h => by cases h) (by kernel_rfl) (fun _ h => by cases h) gramNormsUpto_row_tie rfl ⟨rfl, rfl⟩ (by kernel_rfl) rfl
    (fun f fn hf hfn => by
      obtain rfl : f = 9 := Option.some.inj ((show Tryz.prog.funcNamed "quadform/quadformlaw07.GramNorms" = some 9 by kernel_rfl).symm.trans hf) |>.symm
      obtain rfl : fn = Tryz.f9 := (Option.some.inj (Tryz.func9.symm.trans hfn)).symm
      exact ⟨by kernel_rfl, fun j t ht => by
        rw [Tryz.params9] at ht
        have hm : t ∈ ([25, 23, 23, 22, 46, 46] : List Nat) := by simpa using Array.mem_of_getElem? ht
        have hall : (([25, 23, 23, 22, 46, 46] : List Nat).all fun u => !Tryz.prog.wantsStandIn u) = true := by kernel_rfl
        exact (show Tryz.prog.wantsStandIn t = false by simpa using List.all_eq_true.1 hall t hm)⟩)
    (by kernel_rfl)
end Go.Proofs.YtncbjgblcofddaaGreatDoor
