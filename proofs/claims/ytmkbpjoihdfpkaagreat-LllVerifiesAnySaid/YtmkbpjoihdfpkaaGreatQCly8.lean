/- LllVerifiesAny holds: for every matrix, transform and Gram, and any two lattices -/
import Derived.Test.YtmkbpjoihdfpkaaGreatQe
import Derived.Test.YtmkbpjoihdfpkaaGreatQnt
import Derived.Test.YtmkbpjoihdfpkaaGreatQoi
import Derived.Carry
namespace Go.Proofs.YtmkbpjoihdfpkaaGreat
open Go Go.Eng Go.ChangeShapes Go.WideShapes Go.ChangeAt Go.RowKit

section
open Go.ChangeShapes
variable {H : Type} {enc : TypeId × Value → H} {P : Program} {w : World} {base : Nat} {spare : Nat → Bool} {held : Bool}
theorem trodAll_5 {t t' t'' t3 t4 : TypeId} {args : Array Value} {ds : List (DataW H)} {ps : List MemPlace} (h : DataW.TrodAll enc P w base spare held [t, t', t'', t3, t4] args.toList ds ps) :
    ∃ v v' v'' v3 v4 d d' d'' d3 d4 p p' p'' p3 p4, args = #[v, v', v'', v3, v4] ∧ ds = [d, d', d'', d3, d4] ∧ ps = p ++ p' ++ p'' ++ p3 ++ p4 ∧ DataW.Trod enc P w base spare held t v d p ∧ DataW.Trod enc P w base spare held t' v' d' p' ∧ DataW.Trod enc P w base spare held t'' v'' d'' p'' ∧ DataW.Trod enc P w base spare held t3 v3 d3 p3 ∧ DataW.Trod enc P w base spare held t4 v4 d4 p4 := by
  obtain ⟨v, vs, d, ds', p, q, hargs, rfl, rfl, hd, hrest⟩ := trodAll_cons h
  obtain ⟨v', vs', d', ds'', p', q', rfl, rfl, rfl, hd', hrest'⟩ := trodAll_cons hrest
  obtain ⟨v'', vs'', d'', ds''', p'', q'', rfl, rfl, rfl, hd'', hrest''⟩ := trodAll_cons hrest'
  obtain ⟨v3, vs3, d3, ds3, p3, q3, rfl, rfl, rfl, hd3, hrest3⟩ := trodAll_cons hrest''
  obtain ⟨v4, vs4, d4, ds4, p4, q4, rfl, rfl, rfl, hd4, hrest4⟩ := trodAll_cons hrest3
  obtain ⟨rfl, rfl, rfl⟩ := trodAll_nil hrest4
  exact ⟨v, v', v'', v3, v4, d, d', d'', d3, d4, p, p', p'', p3, p4, by cases args; simp_all, rfl, by simp, hd, hd', hd'', hd3, hd4⟩
end

set_option maxRecDepth 100000 in
theorem lllVerifiesAny_lifted (os : Os) (started : os.Started) (H : Type) (enc : TypeId × Value → H) :
    ReturnsInHanded {} Tryz.checked os 13 .any (Rows.lllVerifiesAnySpec.pre6 enc Tryz.prog Tryz.f13 Rows.lllVerifiesAnyRow.domain false) (Rows.lllVerifiesAnySpec.post enc Tryz.prog Tryz.f13 false true false false) := by
  refine returnsInHanded_of_change_sized (C := Tryz.checked) own0 started (by kernel_rfl) Tryz.func13
    (ChangeSpec.witness6 (enc := enc) (C := Tryz.checked) false ⟨#[], #[.slice none 0 0, .slice none 0 0, .slice none 0 0, .agg #[.int .u8 0, .int .u8 0, .slice none 0 0, .slice none 0 0], .agg #[.int .u8 0, .int .u8 0, .slice none 0 0, .slice none 0 0]], []⟩ 8 (by kernel_rfl) (by kernel_rfl) (by kernel_rfl) (by kernel_rfl)) ?_
  intro W base args ds gs before hval0 hW _ hwt0 _
  have hval : ∀ (j : Nat) t v, Tryz.f13.params[j]? = some t → args[j]? = some v → Value.okWide Tryz.prog W .any base t v := hval0
  have hwt : (DataW.weightsEach Tryz.prog (Tryz.f13.params.toList ++ Rows.lllVerifiesAnySpec.plain.varTypes Tryz.prog) (ds ++ gs)).all (· ≤ reachBytes) = true := hwt0
  have hW' := hW
  obtain ⟨p, q, hA0, hV, rfl, hfz, hnd⟩ := hW
  have hA : DataW.TrodAll enc Tryz.prog W 0 (fun _ => true) true Tryz.f13.params.toList args.toList ds p := hA0
  rw [Tryz.params13] at hA hval hwt
  obtain ⟨v0, v1, v2, v3, v4, d0, d1, d2, d3, d4, p0, p1, p2, p3, p4, rfl, rfl, rfl, h0, h1, h2, h3, h4⟩ := trodAll_5 hA
  obtain ⟨rfl, rfl⟩ := trodVars_none hV
  obtain ⟨r0, len0, M0, L0, e0⟩ := open_mat h0 (wt_of hwt (j := 0) rfl rfl) (cells_slice Tryz.underlying35 (hval 0 _ v0 rfl rfl))
  obtain ⟨r1, len1, M1, e1⟩ := open_zmat h1 (cells_slice Tryz.underlying22 (hval 1 _ v1 rfl rfl))
  obtain ⟨r2, len2, M2, L2, e2⟩ := open_mat h2 (wt_of hwt (j := 2) rfl rfl) (cells_slice Tryz.underlying35 (hval 2 _ v2 rfl rfl))
  obtain ⟨dm3, kd3, n3, ns3, m3, ms3, e3⟩ := open_lat h3 (wt_of hwt (j := 3) rfl rfl) (agg_of Tryz.underlying27 (hval 3 _ v3 rfl rfl))
  obtain ⟨dm4, kd4, n4, ns4, m4, ms4, e4⟩ := open_lat h4 (wt_of hwt (j := 4) rfl rfl) (agg_of Tryz.underlying27 (hval 4 _ v4 rfl rfl))
  refine (lawLllVerifiesAny (w := W) e0 e1 e2 e3 e4).calls.mono fun e W' ⟨v, he, hE, hv⟩ => ?_
  subst hv
  exact ⟨_, he, law_post laid0 (by kernel_rfl) rfl hW' rfl rfl Tryz.underlying4 hE⟩

theorem lllVerifiesAny_holds : Rows.LllVerifiesAnySaid :=
  OpenClaim.holds_of_wide 13 Tryz.f13 rfl rfl rfl rfl rfl rfl rfl ⟨rfl, rfl, rfl, rfl, rfl⟩ rfl rfl rfl rfl rfl (by kernel_rfl) Tryz.func13 (by kernel_rfl)
    (of_decide_eq_true (by kernel_rfl)) (by unfold Func.isWrapper; first | (rw [if_pos (by decide +kernel)]; kernel_rfl) | (rw [if_neg (by decide +kernel)]; exact ⟨rfl, rfl⟩))
    (fun os started H enc _ => lllVerifiesAny_lifted os started H enc)
end Go.Proofs.YtmkbpjoihdfpkaaGreat
