/- The frame of a law's row: what the walk gives is what the statement asks. -/
import Derived.Test.YtimjiaabaanbeaaRows
import Derived.Test.YtimjiaabaanbeaaMem
import Derived.ProofKit
import Derived.SizedLaws
namespace Go.Proofs.Ytimjiaabaanbeaa
open Go Go.Eng Go.ChangeShapes Go.WideShapes Go.ChangeAt Go.RowKit

theorem own0 : ownKnob Try.prog.godebug = none := by kernel_rfl
theorem laid0 : laidOutB Try.prog = true := by kernel_rfl

theorem below_of_ext {w w' : World} (h : Ext w w') : Below w.heap.size w w' := ⟨h.os, h.tape, h.output, h.size, fun _ hk => h.blk hk⟩

section
variable {H : Type} {enc : TypeId × Value → H} {P : Program}
theorem trodAll_stays (hl : laidOutB P = true) {W W' : World} {sp : Nat → Bool} : ∀ {ts : List TypeId} {vs : List Value} {ds : List (DataW H)} {ps : List MemPlace}, (ts.all fun t => P.readableRec t && decide (t < P.types.size)) = true →
    DataW.TrodAll enc P W 0 (fun _ => true) true ts vs ds ps → (∀ p ∈ ps, W.sameAt W' p) → (∀ p ∈ ps, sp p.block = true) → DataW.TrodAll enc P W' 0 sp true ts vs ds ps
  | [], _, _, _, _, h, _, _ => by
    obtain ⟨rfl, rfl, rfl⟩ := trodAll_nil h
    exact trodAll_mk0
  | t :: ts, _, _, _, hr, h, hs, hsp => by
    obtain ⟨v, vs1, d, ds1, a, b, rfl, rfl, rfl, h1, h2⟩ := trodAll_cons h
    simp only [List.all_cons, Bool.and_eq_true, decide_eq_true_eq] at hr
    refine ⟨a, b, WideElems.Trod_stays hl hr.1.1 hr.1.2 h1 (fun p hp => hs p (by simp [hp])) (fun p hp => hsp p (by simp [hp])), ?_, rfl⟩
    exact trodAll_stays hl (by simpa using hr.2) h2 (fun p hp => hs p (by simp [hp])) (fun p hp => hsp p (by simp [hp]))

theorem law_post {fn : Func} {s : ChangeSpec} {W W' : World} {args : Array Value} {ds gs : List (DataW H)} {before : List MemPlace} {tb : TypeId} (hl : laidOutB P = true)
    (hr : (fn.params.toList.all fun t => P.readableRec t && decide (t < P.types.size)) = true) (hv : s.vars = [])
    (hW : DataW.Whole enc P fn.params.toList s.vars false W args.toList ds gs before) (hs : s.fn H (ds ++ gs) = { results := [.lit (.bool true)], args := ds })
    (ht : fn.resultTypes = #[tb]) (hb : P.underlying tb = some .bool) (hE : Ext W W') : s.post enc P fn false true false false W args (.bool true) W' := by
  have hWW := hW
  obtain ⟨p, q, hA, hV, hpq, hz, hn⟩ := hW
  rw [hv] at hV
  obtain ⟨rfl, rfl⟩ := trodVars_none hV
  have hbel := below_of_ext hE
  have hlt : ∀ x ∈ p, x.block < W.heap.size := fun x hx => by
    have := hWW.lt x (by rw [hpq]; simp [hx])
    simpa using this
  have hargs : ∀ sp : Nat → Bool, (∀ x ∈ before, sp x.block = true) → DataW.TrodAll enc P W' 0 sp true fn.params.toList args.toList ds p := fun sp hsp =>
    trodAll_stays hl hr hA (fun x hx => hbel.same (hlt x hx)) (fun x hx => hsp x (by rw [hpq]; simp [hx]))
  have hres : ∀ (b : Nat) (sp : Nat → Bool) (hd : Bool), DataW.TrodAll enc P W' b sp hd fn.resultTypes.toList ((Value.bool true).resultList fn.resultTypes.size) [.lit (.bool true)] [] := fun b sp hd => by
    rw [ht]
    exact trodAll_mk1 (shut_bool hb true)
  have hvars : ∀ sp : Nat → Bool, DataW.TrodVars enc P W' sp s.vars [] [] := fun sp => by rw [hv]; rfl
  have hold : ∀ x ∈ before, (fun b => decide (b < W.heap.size)) x.block = true := fun x hx => by simpa using hWW.lt x hx
  refine ⟨ds, [], before, [], p, [], hWW, ?_, ?_, ?_, World.keptBut_mono (fun x hx => ⟨hx, ?_⟩) (hbel.frame _), fun _ => ?_⟩
  · rw [hs]; exact hres _ _ _
  · rw [hs]; exact hargs _ hold
  · rw [hs]; exact hvars _
  · rw [hpq, List.mem_append] at hx
    exact Or.inr hx
  · refine ⟨ok_one ht rfl (okWide_bool_mk hb true), _, _, ([] ++ p) ++ [], ⟨[] ++ p, [], trodAll_append (hargs _ (fun _ _ => rfl)) (hres _ _ _), hvars _, rfl, ?_, ?_⟩, ?_⟩
    · intro b off hp
      have hpb : MemPlace.cell b off ∈ before := by rw [hpq]; simpa using hp
      rw [World.frozen?_of_block (w := W) (a := ⟨b, off, none⟩) (hE.blk (show b < W.heap.size from hWW.lt _ hpb))]
      exact hz b off hpb
    · intro ha
      have := hn ha
      rw [hpq] at this
      simpa using this
    · intro x hx _
      rw [hpq]
      simpa using hx
end
end Go.Proofs.Ytimjiaabaanbeaa
