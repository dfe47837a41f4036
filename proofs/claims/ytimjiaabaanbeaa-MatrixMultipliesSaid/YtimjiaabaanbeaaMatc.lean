/- matrix.shape and the reference's Shape. -/
import Derived.Test.YtimjiaabaanbeaaMatb
namespace Go.Proofs.Ytimjiaabaanbeaa
open Go Go.Eng Go.Num Go.Proofs

theorem ret3 {P : Program} {n : Nat} {f : Fr} {w : World} {fn : Func} {t u s : Tmp} {post : Value → World → Prop} {v v' v'' : Value} (hr : fn.results = #[.tmp t, .tmp u, .tmp s]) (hv : ev n f (.tmp t) = v) (hv' : ev n f (.tmp u) = v') (hs : ev n f (.tmp s) = v'') (h : post (.tuple #[v, v', v'']) w) :
    bodyPost P fn (Ret post) .ret (act n f) w := by
  refine bodyPost_ret (v := .tuple #[v, v', v'']) ?_ rfl ⟨_, rfl, h⟩
  have e := congrFun (act_eval n f) (.tmp t)
  have e2 := congrFun (act_eval n f) (.tmp u)
  have e3 := congrFun (act_eval n f) (.tmp s)
  simp only [Act.eval] at e e2 e3
  have a : (act n f).tmps[t]?.getD undef = v := by rw [← hv, ← e]; simp
  have b : (act n f).tmps[u]?.getD undef = v' := by rw [← hv', ← e2]; simp
  have c : (act n f).tmps[s]?.getD undef = v'' := by rw [← hs, ← e3]; simp
  simp [results, hr, a, b, c]

/-- is it a valid matrix? -/
def okM (r : Nat) (len : Nat → Nat) : Bool := decide (1 ≤ r ∧ r ≤ 16 ∧ 1 ≤ len 0 ∧ len 0 ≤ 16) && (List.range r).all fun i => len i == len 0
theorem okM_iff {r : Nat} {len : Nat → Nat} : okM r len = true ↔ (1 ≤ r ∧ r ≤ 16 ∧ 1 ≤ len 0 ∧ len 0 ≤ 16) ∧ ∀ i, i < r → len i = len 0 := by
  simp [okM, List.all_eq_true]
def shapeV (r : Nat) (len : Nat → Nat) : Value :=
  bif okM r len then .tuple #[.int .i64 ((r : Nat) : Int), .int .i64 ((len 0 : Nat) : Int), .bool true] else .tuple #[.int .i64 ((0 : Nat) : Int), .int .i64 ((0 : Nat) : Int), .bool false]
theorem shapeV_t {r : Nat} {len : Nat → Nat} (h : okM r len = true) : shapeV r len = .tuple #[.int .i64 ((r : Nat) : Int), .int .i64 ((len 0 : Nat) : Int), .bool true] := by rw [shapeV, h]; rfl
theorem shapeV_f {r : Nat} {len : Nat → Nat} (h : ¬ okM r len = true) : shapeV r len = .tuple #[.int .i64 ((0 : Nat) : Int), .int .i64 ((0 : Nat) : Int), .bool false] := by
  rw [shapeV]; simp at h; rw [h]; rfl

set_option maxHeartbeats 8000000 in
theorem shape_ok (E : World → Value → Value → Int → Prop) (v : Value) (r : Nat) (len : Nat → Nat) (M : Nat → Nat → Int) (w : World) (h : MatE E w v r len M) :
    Meets Try.prog 49 #[v] w fun v' w' => w = w' ∧ v' = shapeV r len := by
  obtain ⟨A, cap, rfl, hrc, hcap, hrow⟩ := h
  refine fn_W (n := 40) Try.func49 rfl rfl (by kernel_rfl) (by simp) ?_
  refine gg ?_
  refine W_seq ?_
  by_cases h1 : r < 1
  · refine gg ?_
    refine ret3 (v := .int _ _) (v' := .int _ _) (v'' := .bool _) rfl rfl rfl rfl ⟨rfl, ?_⟩
    rw [shapeV_f (fun e => by have := okM_iff.1 e; omega)]
  by_cases h2 : 16 < r
  · refine gg ?_
    refine ret3 (v := .int _ _) (v' := .int _ _) (v'' := .bool _) rfl rfl rfl rfl ⟨rfl, ?_⟩
    rw [shapeV_f (fun e => by have := okM_iff.1 e; omega)]
  obtain ⟨ad, u, rfl, hu, A0, cap0, rfl, hr0⟩ := hrow 0 (by omega)
  have hx0 : w.cell? (ad.add (((0 : Nat) : Nat) * 1)) = some (.slice A0 (len 0) cap0) := hu
  refine gg ?_
  refine W_seq ?_
  by_cases h3 : len 0 < 1
  · refine gg ?_
    refine ret3 (v := .int _ _) (v' := .int _ _) (v'' := .bool _) rfl rfl rfl rfl ⟨rfl, ?_⟩
    rw [shapeV_f (fun e => by have := okM_iff.1 e; omega)]
  by_cases h4 : 16 < len 0
  · refine gg ?_
    refine ret3 (v := .int _ _) (v' := .int _ _) (v'' := .bool _) rfl rfl rfl rfl ⟨rfl, ?_⟩
    rw [shapeV_f (fun e => by have := okM_iff.1 e; omega)]
  refine gg ?_
  refine W_seq ?_
  refine gg ?_
  refine W_loop (fun m f w' => w = w' ∧ ∃ i, m = r - i ∧ i ≤ r ∧ f 0 = .slice (some ad) r cap ∧ f 5 = .int .i64 ((len 0 : Nat) : Int) ∧ f 26 = .slice (some ad) r cap ∧ f 27 = .int .i64 ((r : Nat) : Int) ∧ f 28 = .int .i64 ((i : Nat) : Int) ∧ ∀ k, k < i → len k = len 0)
    r ⟨rfl, 0, rfl, Nat.zero_le _, rfl, rfl, rfl, rfl, rfl, fun k hk => absurd hk (by omega)⟩ ?_
  rintro m f w' ⟨rfl, i, rfl, hi, hf0, hf5, hf26, hf27, hf28, hk⟩
  rw [ui hf0, ui hf5, ui hf26, ui hf27, ui hf28]
  clear hf0 hf5 hf26 hf27 hf28
  by_cases hlt : i < r
  · obtain ⟨ad', u, e, hx, Ai, capi, rfl, hri⟩ := hrow i hlt
    obtain rfl : ad = ad' := Option.some.inj e
    by_cases hne : len i = len 0
    · refine gg ?_
      refine ⟨_, ?_, rfl, i + 1, rfl, by omega, rfl, rfl, rfl, rfl, rfl, fun k hk' => ?_⟩
      · omega
      · rcases Nat.lt_succ_iff_lt_or_eq.1 hk' with h | h
        · exact hk k h
        · rw [h]; exact hne
    · refine gg ?_
      refine ret3 (v := .int _ _) (v' := .int _ _) (v'' := .bool _) rfl rfl rfl rfl ⟨rfl, ?_⟩
      rw [shapeV_f (fun e => hne ((okM_iff.1 e).2 i hlt))]
  · refine gg ?_
    refine ret3 (v := .int _ _) (v' := .int _ _) (v'' := .bool _) rfl rfl rfl rfl ⟨rfl, ?_⟩
    rw [shapeV_t (okM_iff.2 ⟨⟨by omega, by omega, by omega, by omega⟩, fun k hk' => hk k (by omega)⟩)]

set_option maxHeartbeats 8000000 in
theorem rshape_ok (E : World → Value → Value → Int → Prop) (v : Value) (r : Nat) (len : Nat → Nat) (M : Nat → Nat → Int) (w : World) (h : MatE E w v r len M) :
    Meets Try.prog 33 #[v] w fun v' w' => Ext w w' ∧ v' = shapeV r len := by
  obtain ⟨A, cap, rfl, hrc, hcap, hrow⟩ := h
  refine fn_W (n := 45) Try.func33 rfl rfl (by kernel_rfl) (by simp) ?_
  refine gg ?_
  refine W_seq ?_
  by_cases h1 : r < 1
  · refine gg ?_
    refine ret3 (v := .int _ _) (v' := .int _ _) (v'' := .bool _) rfl rfl rfl rfl ⟨Ext.refl _, ?_⟩
    rw [shapeV_f (fun e => by have := okM_iff.1 e; omega)]
  by_cases h2 : 16 < r
  · refine gg ?_
    refine ret3 (v := .int _ _) (v' := .int _ _) (v'' := .bool _) rfl rfl rfl rfl ⟨Ext.refl _, ?_⟩
    rw [shapeV_f (fun e => by have := okM_iff.1 e; omega)]
  obtain ⟨ad, u, rfl, hu, A0, cap0, rfl, hr0⟩ := hrow 0 (by omega)
  have hx0 : w.cell? (ad.add (((0 : Nat) : Nat) * 1)) = some (.slice A0 (len 0) cap0) := hu
  refine gg ?_
  refine W_seq ?_
  refine gg ?_
  refine W_loop (fun m f w' => w = w' ∧ ∃ i, m = r - i ∧ i ≤ r ∧ f 0 = .slice (some ad) r cap ∧ f 15 = .slice (some ad) r cap ∧ f 16 = .int .i64 ((r : Nat) : Int) ∧ f 17 = .int .i64 ((i : Nat) : Int) ∧ ∀ k, k < i → len k = len 0 ∧ 1 ≤ len 0 ∧ len 0 ≤ 16)
    r ⟨rfl, 0, rfl, Nat.zero_le _, rfl, rfl, rfl, rfl, fun k hk => absurd hk (by omega)⟩ ?_
  rintro m f w' ⟨rfl, i, rfl, hi, hf0, hf15, hf16, hf17, hk⟩
  rw [ui hf0, ui hf15, ui hf16, ui hf17]
  clear hf0 hf15 hf16 hf17
  by_cases hlt : i < r
  · obtain ⟨ad', u, e, hx, Ai, capi, rfl, hri⟩ := hrow i hlt
    obtain rfl : ad = ad' := Option.some.inj e
    by_cases ha : len i < 1
    · refine gg ?_
      refine ret3 (v := .int _ _) (v' := .int _ _) (v'' := .bool _) rfl rfl rfl rfl ⟨Ext.refl _, ?_⟩
      rw [shapeV_f (fun e => by have a := okM_iff.1 e; have b := a.2 i hlt; omega)]
    by_cases hb : 16 < len i
    · refine gg ?_
      refine ret3 (v := .int _ _) (v' := .int _ _) (v'' := .bool _) rfl rfl rfl rfl ⟨Ext.refl _, ?_⟩
      rw [shapeV_f (fun e => by have a := okM_iff.1 e; have b := a.2 i hlt; omega)]
    by_cases hne : len i = len 0
    · refine gg ?_
      refine ⟨_, ?_, rfl, i + 1, rfl, by omega, rfl, rfl, rfl, rfl, fun k hk' => ?_⟩
      · omega
      · rcases Nat.lt_succ_iff_lt_or_eq.1 hk' with h | h
        · exact hk k h
        · rw [h]; omega
    · refine gg ?_
      refine ret3 (v := .int _ _) (v' := .int _ _) (v'' := .bool _) rfl rfl rfl rfl ⟨Ext.refl _, ?_⟩
      rw [shapeV_f (fun e => hne ((okM_iff.1 e).2 i hlt))]
  · refine gg ?_
    refine W_seqD [(0, 3), (1, 3), (2, 3), (3, 3), (4, 0), (5, 3), (6, 3), (7, 3), (8, 3)] mixed (by kernel_rfl) (fun w4 hE4 _ => ?_)
    have hx4 := cell_ext hE4 hx0
    refine gg ?_
    refine ret3 (v := .int _ _) (v' := .int _ _) (v'' := .bool _) rfl rfl rfl rfl ⟨hE4, ?_⟩
    have := hk 0 (by omega)
    rw [shapeV_t (okM_iff.2 ⟨⟨by omega, by omega, by omega, by omega⟩, fun k hk' => (hk k (by omega)).1⟩)]
end Go.Proofs.Ytimjiaabaanbeaa
