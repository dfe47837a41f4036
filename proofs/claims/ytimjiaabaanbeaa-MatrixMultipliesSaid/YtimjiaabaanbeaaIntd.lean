/- The program's integers: DivMod. -/
import Derived.Test.YtimjiaabaanbeaaIntc
namespace Go.Proofs.Ytimjiaabaanbeaa
open Go Go.Eng Go.Num Go.Proofs

theorem retCCT {P : Program} {n : Nat} {f : Fr} {w : World} {fn : Func} {t u s : Tmp} {T G H : Nat} {post : Value → World → Prop} {x y x' y' v : Value} (hr : fn.results = #[.cell t T, .cell u T, .tmp s]) (hT : aggTy P T 2 = true)
    (hv : ev n f (.tmp t) = .pointer (some ⟨G, 0, none⟩)) (hv' : ev n f (.tmp u) = .pointer (some ⟨H, 0, none⟩)) (hs : ev n f (.tmp s) = v) (hb : Blk w G T #[x, y]) (hb' : Blk w H T #[x', y']) (h : post (.tuple #[.agg #[x, y], .agg #[x', y'], v]) w) :
    bodyPost P fn (Ret post) .ret (act n f) w := by
  refine bodyPost_ret (v := .tuple #[.agg #[x, y], .agg #[x', y'], v]) ?_ rfl ⟨_, rfl, h⟩
  have e := congrFun (act_eval n f) (.tmp t)
  have e2 := congrFun (act_eval n f) (.tmp u)
  have e3 := congrFun (act_eval n f) (.tmp s)
  simp only [Act.eval] at e e2 e3
  have h0 : w.cell? ⟨G, 0, none⟩ = some x := by rw [hb.cell]; rfl
  have h1 : w.cell? ((⟨G, 0, none⟩ : Addr).add 1) = some y := by rw [add_lit, hb.cell]; rfl
  have h0' : w.cell? ⟨H, 0, none⟩ = some x' := by rw [hb'.cell]; rfl
  have h1' : w.cell? ((⟨H, 0, none⟩ : Addr).add 1) = some y' := by rw [add_lit, hb'.cell]; rfl
  have hl := run_load_two (P := P) hT h0 h1
  have hl' := run_load_two (P := P) hT h0' h1'
  simp only [Instr.loadAt, Instr.sureAddr, Sem.run_bind, Sem.run_pure, Result.andThen_ok] at hl hl'
  have e' : (act n f).tmps[t]?.getD undef = .pointer (some ⟨G, 0, none⟩) := by rw [← hv, ← e]; simp
  have e2' : (act n f).tmps[u]?.getD undef = .pointer (some ⟨H, 0, none⟩) := by rw [← hv', ← e2]; simp
  have e3' : (act n f).tmps[s]?.getD undef = v := by rw [← hs, ← e3]; simp
  simp [results, hr, e', e2', e3', asAddr, hl, hl']

/-- the two results of DivMod -/
def RD (w : World) (z1 z2 : Int) (v : Value) (w' : World) : Prop := Ext w w' ∧ ∃ x y x' y', v = .tuple #[.agg #[x, y], .agg #[x', y'], .bool true] ∧ CV w' x y (z1 / z2) ∧ CV w' x' y' (z1 % z2)

theorem dm_pos (nb : Bool) (a b : Nat) (_hb : 0 < b) : (a : Int) / sg nb b = sg nb (a / b) ∧ (a : Int) % sg nb b = ((a % b : Nat) : Int) := by
  cases nb
  · simp [sg]
  · simp [sg, Int.ediv_neg]
theorem dm_neg (nb : Bool) (a b q r : Nat) (hb : 0 < b) (hr : r < b) (h : a + r = q * b) : (-(a : Int)) / sg nb b = sg (!nb) q ∧ (-(a : Int)) % sg nb b = ((r : Nat) : Int) := by
  have key : (-(a : Int)) / (b : Int) = -(q : Int) ∧ (-(a : Int)) % (b : Int) = (r : Int) := by
    rw [Int.ediv_emod_unique (by omega)]
    refine ⟨?_, by omega, by omega⟩
    have : (a : Int) + r = q * b := by exact_mod_cast h
    rw [Int.mul_neg, Int.mul_comm]; omega
  cases nb
  · simpa [sg] using key
  · simp only [sg, if_true, Int.ediv_neg, Int.emod_neg]
    rw [key.1, key.2]
    simp

set_option maxHeartbeats 16000000 in
theorem divMod_ok (x1 y1 x2 y2 : Value) (z1 z2 : Int) (N : Nat) (w : World) (h1 : IV w N x1 y1 z1) (h2 : IV w N x2 y2 z2) (hN : N < 1099511627776) (hz : z2 ≠ 0) :
    Meets Try.prog 87 #[.agg #[x1, y1], .agg #[x2, y2]] w (RD w z1 z2) := by
  obtain ⟨g1, A1, l1, c1, rfl, rfl, hc1, hd1, hM1, hl1, rfl⟩ := h1
  obtain ⟨g2, A2, l2, c2, rfl, rfl, hc2, hd2, hM2, hl2, rfl⟩ := h2
  have hv2 : 0 < val l2 := by
    rcases Nat.eq_zero_or_pos (val l2) with h | h
    · exfalso; apply hz; rw [h]; cases g2 <;> rfl
    · exact h
  refine fn_W (n := 53) Try.func87 rfl rfl (by kernel_rfl) (by simp) ?_
  refine gg ?_
  refine R1_box (v := .agg _) (.inl rfl) rfl ?_
  intro w1 hB1 hE1 hs1
  refine gg ?_
  refine R1_box (v := .agg _) (.inl rfl) rfl ?_
  intro w2 hB2 hE2 hs2
  refine gg ?_
  refine R1_alloc (.inl rfl) z_Int ?_
  intro w3 hB3 hE3 hs3
  refine gg ?_
  refine R1_alloc (.inl rfl) z_Int ?_
  intro w4 hB4 hE4 hs4
  have hB14 := hB1.ext ((hE2.trans hE3).trans hE4)
  have hB24 := hB2.ext (hE3.trans hE4)
  have hB34 := hB3.ext hE4
  have f0 := blk0 hB14
  have f1 := blk1 hB14
  have k0 := blk0 hB24
  have k1 := blk1 hB24
  have hE := ((hE1.trans hE2).trans hE3).trans hE4
  have z1' := hE1.size
  have z2' := hE2.size
  have z3' := hE3.size
  refine gg ?_
  refine R1_call2 (trim_ok _ _ _ _ w4 (hM2.ext hE) rfl hc2 hd2) ?_
  rintro _ _ ⟨rfl, m2, hm2, rfl, htr2, htv2⟩
  have hm20 : 0 < m2 := by
    rcases Nat.eq_zero_or_pos m2 with h | h
    · subst h; simp [val] at htv2; omega
    · exact h
  refine gg ?_
  refine W_seq ?_
  refine gg ?_
  refine R1_call2 (trim_ok _ _ _ _ w4 (hM1.ext hE) rfl hc1 hd1) ?_
  rintro _ _ ⟨rfl, m1, hm1, rfl, htr1, htv1⟩
  refine gg ?_
  refine R1_call2 (divNat_ok _ _ _ _ _ _ _ _ w4 ((hM1.ext hE).take m1) ((hM2.ext hE).take m2) (List.length_take_of_le hm1) (List.length_take_of_le hm2) (by omega) (by omega) htr1 htr2 (by omega)) ?_
  rintro _ w5 ⟨vq, vr, rfl, hE5, hq, hr⟩
  rw [htv1, htv2] at hq hr
  have f0 := cell_ext hE5 f0
  have f1 := cell_ext hE5 f1
  have k0 := cell_ext hE5 k0
  have k1 := cell_ext hE5 k1
  have hM25 := (((hM2.ext hE).take m2).ext hE5)
  obtain ⟨Ar, lr, cr, rfl, hcr, hcr2, hMr, htr, hvr⟩ := hr
  have hE5' := hE.trans hE5
  have hdm := Nat.div_add_mod (val l1) (val l2)
  have hmlt := Nat.mod_lt (val l1) hv2
  cases g1
  · refine gg ?_
    refine W_seq ?_
    refine W_seq ?_
    refine gg ?_
    refine R1_call2 (build_ok g2 vq _ w5 hq) ?_
    rintro _ w6 ⟨hE6, xq, yq, rfl, cvq0⟩
    refine gg ?_
    refine R1_call2 (build_ok false _ _ w6 (NatV.ext ⟨Ar, lr, cr, rfl, hcr, hcr2, hMr, htr, hvr⟩ hE6)) ?_
    rintro _ w7 ⟨hE7, xr, yr, rfl, cvr⟩
    have cvq := cvq0.ext hE7
    have EB : Ext w4 w7 := (hE5.trans hE6).trans hE7
    refine gg ?_
    refine R1_store2 agg_Int (.inl rfl) rfl rfl cvq.one0 cvq.one1 (hB34.ext EB) (by decide) ?_
    intro w8 hB8 hC8 hs8
    refine gg ?_
    refine R1_store2 agg_Int (.inl rfl) rfl rfl cvr.one0 cvr.one1 ((hB4.ext EB).ch hC8 (show ¬ w3.heap.size = w2.heap.size by omega)) (by decide) ?_
    intro w9 hB9 hC9 hs9
    refine gg ?_
    have hB89 := hB8.ch hC9 (show ¬ w2.heap.size = w3.heap.size by omega)
    have hB48 := (hB4.ext EB).ch hC8 (show ¬ w3.heap.size = w2.heap.size by omega)
    have hE8 : Ext w w8 := hC8.ext_of (hE.trans EB) (fun b hb => by omega)
    have hE9 : Ext w w9 := hC9.ext_of hE8 (fun b hb => by omega)
    have cq9 := (cvq.keep (hB34.ext EB) noInt2 hC8).keep hB48 noInt2 hC9
    have cr9 := (cvr.keep (hB34.ext EB) noInt2 hC8).keep hB48 noInt2 hC9
    have e := dm_pos g2 (val l1) (val l2) hv2
    refine retCCT rfl agg_Int rfl rfl (v := .bool _) rfl hB89 hB9 ⟨hE9, _, _, _, _, rfl, ?_, ?_⟩
    · rw [sg_false, e.1]; exact cq9
    · rw [sg_false, e.2]; exact cr9
  · by_cases hr0 : lr.length = 0
    · have hlr := List.eq_nil_of_length_eq_zero hr0
      have hmod : val l1 % val l2 = 0 := by rw [← hvr, hlr]; rfl
      refine gg ?_
      refine W_seq ?_
      refine W_seq ?_
      refine gg ?_
      refine R1_call2 (build_ok (!g2) vq _ w5 hq) ?_
      rintro _ w6 ⟨hE6, xq, yq, rfl, cvq0⟩
      refine gg ?_
      refine R1_call2 (build_ok false _ _ w6 (NatV.ext ⟨Ar, lr, cr, rfl, hcr, hcr2, hMr, htr, hvr⟩ hE6)) ?_
      rintro _ w7 ⟨hE7, xr, yr, rfl, cvr⟩
      have cvq := cvq0.ext hE7
      have EB : Ext w4 w7 := (hE5.trans hE6).trans hE7
      refine gg ?_
      refine R1_store2 agg_Int (.inl rfl) rfl rfl cvq.one0 cvq.one1 (hB34.ext EB) (by decide) ?_
      intro w8 hB8 hC8 hs8
      refine gg ?_
      refine R1_store2 agg_Int (.inl rfl) rfl rfl cvr.one0 cvr.one1 ((hB4.ext EB).ch hC8 (show ¬ w3.heap.size = w2.heap.size by omega)) (by decide) ?_
      intro w9 hB9 hC9 hs9
      refine gg ?_
      have hB89 := hB8.ch hC9 (show ¬ w2.heap.size = w3.heap.size by omega)
      have hB48 := (hB4.ext EB).ch hC8 (show ¬ w3.heap.size = w2.heap.size by omega)
      have hE8 : Ext w w8 := hC8.ext_of (hE.trans EB) (fun b hb => by omega)
      have hE9 : Ext w w9 := hC9.ext_of hE8 (fun b hb => by omega)
      have cq9 := (cvq.keep (hB34.ext EB) noInt2 hC8).keep hB48 noInt2 hC9
      have cr9 := (cvr.keep (hB34.ext EB) noInt2 hC8).keep hB48 noInt2 hC9
      have e := dm_neg g2 (val l1) (val l2) (val l1 / val l2) 0 hv2 hv2 (by rw [hmod] at hdm; rw [Nat.mul_comm]; omega)
      rw [hmod] at cr9
      refine retCCT rfl agg_Int rfl rfl (v := .bool _) rfl hB89 hB9 ⟨hE9, _, _, _, _, rfl, ?_, ?_⟩
      · rw [sg_true, e.1]; exact cq9
      · rw [sg_true, e.2]; exact cr9
    · have hmod : 0 < val l1 % val l2 := by
        rcases Nat.eq_zero_or_pos (val l1 % val l2) with h | h
        · exact absurd (by rw [val_zero htr (hvr.trans h)]; rfl) hr0
        · exact h
      obtain ⟨Aq, lq, cq, rfl, hcq, hcq2, hMq, htq, hvq⟩ := hq
      have hlq : lq.length < 1099511627776 := by
        have : val lq ≤ val (l1.take m1) := by rw [hvq, htv1]; exact Nat.div_le_self _ _
        have := len_le ((hM1.lim).take m1) htq this
        rw [List.length_take_of_le hm1] at this; omega
      have hlr : lr.length ≤ m2 := by
        have : val lr ≤ val (l2.take m2) := by rw [hvr, htv2]; omega
        have := len_le ((hM2.lim).take m2) htr this
        rw [List.length_take_of_le hm2] at this; exact this
      refine gg ?_
      refine W_seq ?_
      refine W_seq ?_
      refine gg ?_
      refine R1_build1 (v0 := .int _ _) sl_u32 rfl (.inl rfl) rfl rfl ?_
      intro w51 hB51 hE51 hs51
      have hB51' : Blk w51 w5.heap.size 54 (cells [1]) := hB51
      refine gg ?_
      refine R1_call2 (addNat_ok _ _ _ _ lq [1] w51 (hMq.ext hE51) (mag_of_blk hB51' (by intro a ha; simp at ha; omega)) hlq (by decide)) ?_
      rintro vq w52 ⟨hE52, hq⟩
      refine gg ?_
      refine R1_call2 (subNat_ok _ _ _ _ _ _ (l2.take m2) lr w52 (hM25.ext (hE51.trans hE52)) (hMr.ext (hE51.trans hE52)) (List.length_take_of_le hm2) rfl (by omega) hlr (by rw [htv2, hvr]; omega)) ?_
      rintro vr w53 ⟨hE53, hr⟩
      refine gg ?_
      refine R1_call2 (build_ok (!g2) vq _ w53 (hq.ext hE53)) ?_
      rintro _ w6 ⟨hE6, xq, yq, rfl, cvq0⟩
      refine gg ?_
      refine R1_call2 (build_ok false _ _ w6 (hr.ext hE6)) ?_
      rintro _ w7 ⟨hE7, xr, yr, rfl, cvr⟩
      have cvq := cvq0.ext hE7
      have EB : Ext w4 w7 := ((((hE5.trans hE51).trans hE52).trans hE53).trans hE6).trans hE7
      refine gg ?_
      refine R1_store2 agg_Int (.inl rfl) rfl rfl cvq.one0 cvq.one1 (hB34.ext EB) (by decide) ?_
      intro w8 hB8 hC8 hs8
      refine gg ?_
      refine R1_store2 agg_Int (.inl rfl) rfl rfl cvr.one0 cvr.one1 ((hB4.ext EB).ch hC8 (show ¬ w3.heap.size = w2.heap.size by omega)) (by decide) ?_
      intro w9 hB9 hC9 hs9
      refine gg ?_
      have hB89 := hB8.ch hC9 (show ¬ w2.heap.size = w3.heap.size by omega)
      have hB48 := (hB4.ext EB).ch hC8 (show ¬ w3.heap.size = w2.heap.size by omega)
      have hE8 : Ext w w8 := hC8.ext_of (hE.trans EB) (fun b hb => by omega)
      have hE9 : Ext w w9 := hC9.ext_of hE8 (fun b hb => by omega)
      have cq9 := (cvq.keep (hB34.ext EB) noInt2 hC8).keep hB48 noInt2 hC9
      have cr9 := (cvr.keep (hB34.ext EB) noInt2 hC8).keep hB48 noInt2 hC9
      rw [hvq, show val [1] = 1 from rfl] at cq9
      rw [htv2, hvr] at cr9
      have e := dm_neg g2 (val l1) (val l2) (val l1 / val l2 + 1) (val l2 - val l1 % val l2) hv2 (by omega) (by rw [Nat.add_mul, Nat.mul_comm]; omega)
      refine retCCT rfl agg_Int rfl rfl (v := .bool _) rfl hB89 hB9 ⟨hE9, _, _, _, _, rfl, ?_, ?_⟩
      · rw [sg_true, e.1]; exact cq9
      · rw [sg_true, e.2]; exact cr9
end Go.Proofs.Ytimjiaabaanbeaa
