/- Joined: Lwh. -/
import Derived.Test.YtimjiaabaanbeaaQp
/- The law MatrixTransposes. -/
namespace Go.Proofs.Ytimjiaabaanbeaa
open Go Go.Eng Go.Num Go.Proofs

/-- the cells of such a matrix, by name -/
structure FMH (w : World) (base gO : Nat) (gs : Nat → Nat) (r c : Nat) (H : Nat → Nat → Value) : Prop where
  outer : Blk w gO 53 (arr r fun i => .slice (some ⟨gs i, 0, none⟩) c c)
  row : ∀ i, i < r → Blk w (gs i) 35 (arr (c * 2) (H i))
  ent : ∀ i j, i < r → j < c → (∃ b, H i (j * 2) = .bool b) ∧ FV w base (H i (j * 2 + 1))
  ne : ∀ i, i < r → gs i ≠ gO
  inj : ∀ i j, i < r → j < r → gs i = gs j → i = j
theorem FMat.named {w : World} {base gO : Nat} {gs : Nat → Nat} {r c : Nat} (h : FMat w base gO gs r c) : ∃ H, FMH w base gO gs r c H := by
  have : ∃ H : Nat → Nat → Value, ∀ i, i < r → Blk w (gs i) 35 (arr (c * 2) (H i)) ∧ ∀ j, j < c → (∃ b, H i (j * 2) = .bool b) ∧ FV w base (H i (j * 2 + 1)) := by
    have hch : ∀ i, ∃ h : Nat → Value, i < r → Blk w (gs i) 35 (arr (c * 2) h) ∧ ∀ j, j < c → (∃ b, h (j * 2) = .bool b) ∧ FV w base (h (j * 2 + 1)) := fun i => by
      by_cases hi : i < r
      · obtain ⟨h, hb, hc⟩ := h.row i hi
        exact ⟨h, fun _ => ⟨hb, hc⟩⟩
      · exact ⟨fun _ => undef, fun h => absurd h hi⟩
    exact ⟨fun i => Classical.choose (hch i), fun i => Classical.choose_spec (hch i)⟩
  obtain ⟨H, hH⟩ := this
  exact ⟨H, h.outer, fun i hi => (hH i hi).1, fun i j hi hj => (hH i hi).2 j hj, h.ne, h.inj⟩
theorem FMH.at {w : World} {base gO : Nat} {gs : Nat → Nat} {r c i : Nat} {H : Nat → Nat → Value} (h : FMH w base gO gs r c H) (hi : i < r) : w.cell? ⟨gO, 0 + i * 1, none⟩ = some (.slice (some ⟨gs i, 0, none⟩) c c) := by
  rw [h.outer.cell, arr_at (by omega), Nat.zero_add, Nat.mul_one]
theorem FMH.mag {w : World} {base gO : Nat} {gs : Nat → Nat} {r c i j : Nat} {H : Nat → Nat → Value} (h : FMH w base gO gs r c H) (hi : i < r) (hj : j < c) : w.cell? ⟨gs i, 0 + j * 2 + 1, none⟩ = some (H i (j * 2 + 1)) := by
  rw [(h.row i hi).cell, arr_at (by omega), Nat.zero_add]
/-- behind a store into limbs -/
theorem FMH.limb {w w' : World} {base gO g : Nat} {gs : Nat → Nat} {r c : Nat} {H : Nat → Nat → Value} {cs cs' : Array Value} (h : FMH w base gO gs r c H) (hb : Blk w g 54 cs) (hb' : Blk w' g 54 cs') (hs : cs'.size = cs.size) (hC : Ch (fun b => b = g) w w') : FMH w' base gO gs r c H := by
  refine ⟨h.outer.ch hC (blk_ty h.outer hb (by decide)), fun i hi => (h.row i hi).ch hC (blk_ty (h.row i hi) hb (by decide)), fun i j hi hj => ⟨(h.ent i j hi hj).1, ?_⟩, h.ne, h.inj⟩
  obtain ⟨A, n, c', e, hn, hf⟩ := (h.ent i j hi hj).2
  refine ⟨A, n, c', e, hn, hf.imp id ?_⟩
  rintro ⟨g', cs0, e', h1, h2, h3⟩
  by_cases hg : g' = g
  · subst hg
    have : cs0 = cs := by
      unfold Blk at h2 hb
      rw [h2] at hb
      injection hb with hb
      injection hb
    subst this
    exact ⟨g', cs', e', h1, hb', by omega⟩
  · exact ⟨g', cs0, e', h1, h2.ch hC hg, h3⟩
theorem FMH.put {w w' : World} {base gO : Nat} {gs : Nat → Nat} {r c i j : Nat} {H : Nat → Nat → Value} {b : Bool} {y : Value} (h : FMH w base gO gs r c H) (hi : i < r) (_hj : j < c) (hv : FV w base y) (hC : Ch (fun b => b = gs i) w w')
    (hb' : Blk w' (gs i) 35 (((arr (c * 2) (H i)).setIfInBounds (0 + j * 2) (.bool b)).setIfInBounds (0 + j * 2 + 1) y)) : ∃ H', FMH w' base gO gs r c H' := by
  have hT : ∀ y, FV w base y → FV w' base y := fun y hy => hy.keepT (h.row i hi) hC (by decide)
  rw [arr_set, arr_set] at hb'
  refine ⟨fun a => if a = i then upd (upd (H i) (0 + j * 2) (.bool b)) (0 + j * 2 + 1) y else H a, h.outer.ch hC (Ne.symm (h.ne i hi)), fun a ha => ?_, fun a q ha hq => ?_, h.ne, h.inj⟩
  · by_cases e : a = i
    · subst e; rw [if_pos rfl]; exact hb'
    · rw [if_neg e]; exact (h.row a ha).ch hC (fun e' => e (h.inj a i ha hi e'))
  · by_cases e : a = i
    · subst e
      simp only [if_true]
      by_cases hqj : q = j
      · subst hqj
        rw [Nat.zero_add, upd_ne _ _ (show q * 2 ≠ q * 2 + 1 by omega), upd_self, upd_self]
        exact ⟨⟨b, rfl⟩, hT _ hv⟩
      · rw [Nat.zero_add, upd_ne _ _ (by omega), upd_ne _ _ (by omega), upd_ne _ _ (by omega), upd_ne _ _ (by omega)]
        exact ⟨(h.ent a q ha hq).1, hT _ (h.ent a q ha hq).2⟩
    · simp only [if_neg e]
      exact ⟨(h.ent a q ha hq).1, hT _ (h.ent a q ha hq).2⟩
theorem R1_bldI0 {n : Nat} {S : World → World → Prop} {k : Nat} {K : Fr → World → Prop} {f : Fr} {w : World} {d ty : Nat} {x : Operand} {pos : String} {aft : Array Edge} {gd : Option (Nat × Bool)} {b : Bool} (hx : ev n f x = .bool b) (h : K (upd f d (.agg #[.bool b, .slice none 0 0])) w) :
    R1 Try.prog n S k ⟨some d, .build 35 #[(0, x)], ty, pos, aft, gd⟩ K f w := by
  refine R1_pure (v := .agg #[.bool b, .slice none 0 0]) (fun w => ?_) h
  have e : (#[(0, x)] : Array (Nat × Operand)).map (fun (i, x) => (i, ev n f x)) = #[(0, .bool b)] := by simp [hx]
  have hz : (Value.agg #[.bool false, .slice none 0 0]).cells = #[.bool false, .slice none 0 0] := rfl
  have ho : (Value.bool b).cells = #[.bool b] := rfl
  simp [execOp, e, Instr.build, run_underlying Try.underlying35, Instr.fill, hz, ho, size_one (one_of (t := 4) rfl), size_one (one_of (t := 33) rfl)]

set_option maxHeartbeats 16000000 in
theorem lawTransposes {va vx : Value} {r1 rx cx nx : Nat} {len1 : Nat → Nat} {Y : Nat → Nat → Int} {L1 : Nat → Nat → Nat} {nsx : Nat → Int} {w : World}
    (ha : MatL w va r1 len1 Y L1) (hx : GridV w vx rx cx nx nsx) :
    Meets Try.prog 9 #[va, vx] w (Law w) := by
  obtain ⟨Ax, capx, rfl, hx1, hx2, hx3, hx4⟩ := hx
  refine fn_W (n := 98) Try.func9 rfl rfl (by kernel_rfl) (by simp) ?_
  refine gg ?_
  refine R1_box (v := .agg _) (.inl rfl) rfl ?_
  intro w1 hB1 hE1 hs1
  obtain ⟨gX, hgX⟩ : ∃ g, g = w.heap.size := ⟨_, rfl⟩
  rw [← hgX] at hB1 ⊢
  have hX1 : Blk w1 gX 25 #[.int .u8 ((rx : Nat) : Int), .int .u8 ((cx : Nat) : Int), .slice Ax nx capx] := hB1
  have hGx := GridV.agg hx1 hx2 hx3 hx4
  clear hB1 hgX
  refine gg ?_
  refine W_seq ?_
  refine gg ?_
  refine R1_call2 (large_ok _ r1 len1 Y L1 w1 (ha.ext hE1)) ?_
  rintro _ _ ⟨rfl, b1, rfl, hb1⟩
  rcases b1 with _ | _
  rotate_left
  · refine gg ?_
    refine R1_call2 (awake_ok w1) ?_
    rintro _ w3 ⟨hE3, rfl⟩
    refine gg ?_
    exact ret1 (v := .bool _) rfl rfl ⟨hE1.trans hE3, rfl⟩
  have hSa := (hb1 rfl).e ha
  have hr1 : r1 ≤ 600 := (hb1 rfl).1
  refine gg ?_
  refine R1_call2 (transpose_ok _ r1 600 len1 Y w1 (hSa.ext hE1) (by decide)) ?_
  intro v w2 hv
  obtain ⟨Ab, mb, cb, rfl, hE2, hNb⟩ := hv.nm
  clear hv
  refine gg ?_
  refine R1_call2 (rtranspose_ok _ r1 600 len1 Y w2 (hSa.ext (hE1.trans hE2)) (by decide)) ?_
  intro v w3 hv
  obtain ⟨Ac, mc, cc, rfl, hE3, hNc⟩ := hv.nm
  clear hv
  replace hNb := hNb.ext hE3
  refine gg ?_
  refine W_seq ?_
  refine gg ?_
  rw [show (okM r1 len1 != okM r1 len1) = false by cases okM r1 len1 <;> rfl]
  refine gg ?_
  refine R1_call2 (same_nm (N := 600) hNb hNc (fun hok i j hi hj => hSa.bdE hj (by rw [(okM_iff.1 hok).2 j hj]; exact hi)) (fun hok => by have := (okM_iff.1 hok).1; omega) (fun _ => by omega) (by decide)) ?_
  rintro _ w4 ⟨hE4, rfl⟩
  have hE14 := hE2.trans (hE3.trans hE4)
  obtain ⟨x0, x1, x2⟩ := blkT (hX1.ext hE14)
  have hm1 := Nat.mod_lt rx (show 0 < 8 by decide)
  have hm2 := Nat.mod_lt cx (show 0 < 8 by decide)
  obtain ⟨r, hr⟩ : ∃ n, n = 1 + rx % 8 := ⟨_, rfl⟩
  obtain ⟨c, hc⟩ : ∃ n, n = 1 + cx % 8 := ⟨_, rfl⟩
  have hrb : r < 9223372036854775808 := by omega
  have hcb : c < 9223372036854775808 := by omega
  obtain ⟨X, hX⟩ : ∃ X, X = gridM c nx nsx := ⟨_, rfl⟩
  have bX : ∀ i j, i < r → j < c → Bd 1 (X i j) := fun i j _ _ => by rw [hX]; exact gridM_bd hx4 _ i j
  refine gg ?_
  refine R1_load3F (by decide) agg_Grid rfl x0 x1 x2 ?_
  clear x0 x1 x2
  refine gg ?_
  refine R1_call2 (gridMatrix_ok _ rx cx nx 8 nsx w4 (hGx w4 (hE1.trans hE14)) (by decide) (by decide)) ?_
  rintro _ w5 ⟨hE5, gI, gsI, rfl, _, _, hI⟩
  rw [← hr, ← hc, ← hX] at hI
  rw [← hr]
  have hE15 := hE14.trans hE5
  have hE05 := hE1.trans hE15
  refine gg ?_
  refine R1_call2 (transposeF_ok _ r c 1 X w5 (hI.rd bX (by decide) hrb hcb) (by decide) (by omega) (by omega) (by omega) (by omega)) ?_
  rintro _ w6 ⟨hE6, gO, gs, rfl, hgO, hgs, hF⟩
  obtain ⟨base, hbase⟩ : ∃ b, b = w5.heap.size := ⟨_, rfl⟩
  rw [← hbase] at hgO hgs hF
  refine gg ?_
  refine W_seq ?_
  refine gg ?_
  refine W_seqM (fun f w' => f 3 = .pointer (some ⟨gX, 0, none⟩) ∧ f 9 = .slice (some ⟨gI, 0, none⟩) r r ∧ Ext w5 w') ?_ ?_
  · refine gg ?_
    refine W_loop (fun m f w' => ∃ i H, m = c - i ∧ i ≤ c ∧ f 3 = .pointer (some ⟨gX, 0, none⟩) ∧ f 9 = .slice (some ⟨gI, 0, none⟩) r r ∧ f 10 = .slice (some ⟨gO, 0, none⟩) c c ∧ f 47 = .int .i64 ((c : Nat) : Int) ∧ f 48 = .int .i64 ((i : Nat) : Int) ∧ Ext w5 w' ∧ FMH w' base gO gs c r H)
      c (by obtain ⟨H, hH⟩ := hF.named; exact ⟨0, H, rfl, Nat.zero_le _, rfl, rfl, rfl, rfl, rfl, hE6, hH⟩) ?_
    rintro m f w7 ⟨i, H, rfl, hi, hf3, hf9, hf10, hf47, hf48, hE, hH⟩
    rw [ui hf3, ui hf9, ui hf10, ui hf47, ui hf48]
    clear hf3 hf9 hf10 hf47 hf48
    by_cases hlt : i < c
    · have hxi := hH.at hlt
      have hgi := hgs i hlt
      refine gg ?_
      refine W_loop (fun m f w' => ∃ j H, m = r - j ∧ j ≤ r ∧ f 3 = .pointer (some ⟨gX, 0, none⟩) ∧ f 9 = .slice (some ⟨gI, 0, none⟩) r r ∧ f 10 = .slice (some ⟨gO, 0, none⟩) c c ∧ f 47 = .int .i64 ((c : Nat) : Int) ∧ f 48 = .int .i64 ((i : Nat) : Int) ∧ f 12 = .int .i64 ((i : Nat) : Int) ∧ f 55 = .int .i64 ((r : Nat) : Int) ∧ f 56 = .int .i64 ((j : Nat) : Int) ∧ Ext w5 w' ∧ FMH w' base gO gs c r H)
        r ⟨0, H, rfl, Nat.zero_le _, rfl, rfl, rfl, rfl, rfl, rfl, rfl, rfl, hE, hH⟩ ?_
      clear hE hH hxi
      rintro m f w8 ⟨j, H, rfl, hj, hf3, hf9, hf10, hf47, hf48, hf12, hf55, hf56, hE, hH⟩
      rw [ui hf3, ui hf9, ui hf10, ui hf47, ui hf48, ui hf12, ui hf55, ui hf56]
      clear hf3 hf9 hf10 hf47 hf48 hf12 hf55 hf56
      by_cases hjl : j < r
      · have hxi := hH.at hlt
        have hmg := hH.mag hlt hjl
        obtain ⟨A, nl, cl, ey, hnl, hfy⟩ := (hH.ent i j hlt hjl).2
        rw [ey] at hmg
        refine gg ?_
        refine W_seqM (fun f w' => f 3 = .pointer (some ⟨gX, 0, none⟩) ∧ f 9 = .slice (some ⟨gI, 0, none⟩) r r ∧ f 10 = .slice (some ⟨gO, 0, none⟩) c c ∧ f 47 = .int .i64 ((c : Nat) : Int) ∧ f 48 = .int .i64 ((i : Nat) : Int) ∧ f 12 = .int .i64 ((i : Nat) : Int) ∧ f 55 = .int .i64 ((r : Nat) : Int) ∧ f 56 = .int .i64 ((j : Nat) : Int) ∧ f 13 = .int .i64 ((j : Nat) : Int) ∧ Ext w5 w' ∧ FMH w' base gO gs c r H) ?_ ?_
        · refine gg ?_
          refine W_loop (fun m f w' => ∃ k, m = nl - k ∧ k ≤ nl ∧ f 3 = .pointer (some ⟨gX, 0, none⟩) ∧ f 9 = .slice (some ⟨gI, 0, none⟩) r r ∧ f 10 = .slice (some ⟨gO, 0, none⟩) c c ∧ f 47 = .int .i64 ((c : Nat) : Int) ∧ f 48 = .int .i64 ((i : Nat) : Int) ∧ f 12 = .int .i64 ((i : Nat) : Int) ∧ f 55 = .int .i64 ((r : Nat) : Int) ∧ f 56 = .int .i64 ((j : Nat) : Int) ∧ f 13 = .int .i64 ((j : Nat) : Int) ∧ f 67 = .int .i64 ((nl : Nat) : Int) ∧ f 68 = .int .i64 ((k : Nat) : Int) ∧ Ext w5 w' ∧ FMH w' base gO gs c r H)
            nl ⟨0, rfl, Nat.zero_le _, rfl, rfl, rfl, rfl, rfl, rfl, rfl, rfl, rfl, rfl, rfl, hE, hH⟩ ?_
          clear hE hH hxi hmg hfy
          rintro m f w9 ⟨k, rfl, hk, hf3, hf9, hf10, hf47, hf48, hf12, hf55, hf56, hf13, hf67, hf68, hE, hH⟩
          rw [ui hf3, ui hf9, ui hf10, ui hf47, ui hf48, ui hf12, ui hf55, ui hf56, ui hf13, ui hf67, ui hf68]
          clear hf3 hf9 hf10 hf47 hf48 hf12 hf55 hf56 hf13 hf67 hf68
          by_cases hkl : k < nl
          · have hxi := hH.at hlt
            have hmg := hH.mag hlt hjl
            obtain ⟨A', nl', cl', ey', -, hfy⟩ := (hH.ent i j hlt hjl).2
            rw [ey] at ey' hmg
            injection ey' with e1 e2 e3
            subst e1 e2 e3
            rcases hfy with h0 | ⟨g, cs, rfl, hg1, hg2, hg3⟩
            · omega
            refine gg ?_
            refine R1_storeI (one_of rfl) (.inl rfl) rfl rfl hg2 (by omega) ?_
            intro w10 hB10 hC10 hs10
            have hH10 := hH.limb hg2 hB10 (by simp) hC10
            refine gg ?_
            refine ⟨_, ?_, k + 1, rfl, by omega, rfl, rfl, rfl, rfl, rfl, rfl, rfl, rfl, rfl, rfl, rfl, hC10.ext_of hE (fun b hb => by omega), hH10⟩
            omega
          · refine gg ?_
            exact ⟨rfl, rfl, rfl, rfl, rfl, rfl, rfl, rfl, rfl, hE, hH⟩
        clear hE hH hxi hmg hfy
        rintro f w9 ⟨hf3, hf9, hf10, hf47, hf48, hf12, hf55, hf56, hf13, hE, hH⟩
        rw [ui hf3, ui hf9, ui hf10, ui hf47, ui hf48, ui hf12, ui hf55, ui hf56, ui hf13]
        clear hf3 hf9 hf10 hf47 hf48 hf12 hf55 hf56 hf13
        have hxi := hH.at hlt
        refine gg ?_
        refine R1_bldI0 rfl ?_
        refine gg ?_
        refine R1_store2 agg_Int (.inl rfl) rfl rfl rfl rfl (hH.row i hlt) (by rw [arr_size]; omega) ?_
        intro w10 hB10 hC10 hs10
        obtain ⟨H', hH'⟩ := hH.put hlt hjl FV.nil hC10 hB10
        refine gg ?_
        refine ⟨_, ?_, j + 1, H', rfl, by omega, rfl, rfl, rfl, rfl, rfl, rfl, rfl, rfl, hC10.ext_of hE (fun b hb => by omega), hH'⟩
        omega
      · refine gg ?_
        refine ⟨_, ?_, i + 1, H, rfl, by omega, rfl, rfl, rfl, rfl, rfl, hE, hH⟩
        omega
    · refine gg ?_
      exact ⟨rfl, rfl, hE⟩
  rintro f w7 ⟨hf3, hf9, hE57⟩
  rw [ui hf3, ui hf9]
  clear hf3 hf9
  replace hI := hI.ext hE57
  obtain ⟨x0, x1, x2⟩ := blkT (hX1.ext (hE15.trans hE57))
  refine gg ?_
  refine R1_load3F (by decide) agg_Grid rfl x0 x1 x2 ?_
  clear x0 x1 x2
  refine gg ?_
  refine R1_call2 (gridMatrix_ok _ rx cx nx 8 nsx w7 (hGx w7 (hE05.trans hE57)) (by decide) (by decide)) ?_
  rintro _ w8 ⟨hE8, g8, gs8, rfl, _, _, hO8⟩
  rw [← hr, ← hc, ← hX] at hO8
  rw [← hr]
  refine gg ?_
  refine R1_call2 (same_o (N := 1) (hI.ext hE8) hO8 (fun _ _ _ _ => rfl) bX hrb hcb (by decide)) ?_
  rintro _ w9 ⟨hE9, rfl⟩
  refine gg ?_
  refine R1_call2 (awake_ok w9) ?_
  rintro _ w10 ⟨hE10, rfl⟩
  refine gg ?_
  exact ret1 (v := .bool _) rfl rfl ⟨hE05.trans (hE57.trans (hE8.trans (hE9.trans hE10))), rfl⟩
end Go.Proofs.Ytimjiaabaanbeaa
