/- Joined: Awb, Lrf. -/
import Derived.Test.YtcjhcefnedonlaaQx
import Derived.Test.YtcjhcefnedonlaaQw
import Derived.Test.YtcjhcefnedonlaaQe
import Derived.Test.YtcjhcefnedonlaaQj
import Derived.Test.YtcjhcefnedonlaaQf
/- quadformlaw04.awake. -/
namespace Go.Proofs.Ytcjhcefnedonlaa
open Go Go.Eng Go.Num Go.Proofs
open Go.Det (stg)

theorem set_four {a b c e : Value} (l : Array Value) (hl : l.size = 4) : (((l.setIfInBounds 0 a).setIfInBounds 1 b).setIfInBounds 2 c).setIfInBounds 3 e = #[a, b, c, e] := by
  obtain ⟨l⟩ := l
  match l, hl with
  | [_, _, _, _], _ => rfl
section
variable {n : Nat} {S : World → World → Prop} {k : Nat} {K : Fr → World → Prop} {f : Fr} {w : World} {d ty t t2 : Nat} {x y : Operand} {pos : String} {aft : Array Edge} {gd : Option (Nat × Bool)}
/-- a slice literal of two Ints -/
theorem R1_sliceE2 {a b c e : Value} {y0 y1 : Operand} (hS : k = 2 ∨ k = 1 ∧ ∀ w', Ext w w' → S w w') (h0 : ev n f y0 = .agg #[a, b]) (h1 : ev n f y1 = .agg #[c, e])
    (h : ∀ w', Blk w' w.heap.size 35 #[a, b, c, e] → Ext w w' → w'.heap.size = w.heap.size + 1 → K (upd f d (.slice (some ⟨w.heap.size, 0, none⟩) 2 2)) w') : R1 Try.prog n S k ⟨some d, .buildSlice 30 2 #[(0, y0), (1, y1)], ty, pos, aft, gd⟩ K f w := by
  refine R1_new (T := 35) (cs := #[a, b, c, e]) (v := .slice (some ⟨w.heap.size, 0, none⟩) 2 2) hS ?_ h
  obtain ⟨hu, hinfo⟩ := sl_Int
  cases hi : Try.prog.info? 35 with
  | none => rw [hi] at hinfo; simp at hinfo
  | some i =>
    rw [hi] at hinfo
    simp at hinfo
    obtain ⟨hz', hsz, hby⟩ := hinfo
    simp [execOp, Instr.buildSlice, run_underlying hu, sizeOf, typeInfo, hi, hsz, zeroValue, hz', h0, h1, Instr.fill, Value.cells, newRow, Array.range]
    rw [set_four _ (by simp [hsz])]
end
theorem rowE_lit {w : World} {g N : Nat} {a b c e : Value} {z1 z2 : Int} (h : Blk w g 35 #[a, b, c, e]) (h1 : IV w N a b z1) (h2 : IV w N c e z2) : RowE (EI N) w (.slice (some ⟨g, 0, none⟩) 2 2) 2 (fun i => if i = 0 then z1 else z2) := by
  refine ⟨_, _, rfl, Nat.le_refl _, by decide, fun j hj => ?_⟩
  have : j = 0 ∨ j = 1 := by omega
  rcases this with rfl | rfl
  · exact ⟨_, a, b, rfl, by rw [add_lit, h.cell]; rfl, by rw [add_lit, add_lit, h.cell]; rfl, h1⟩
  · exact ⟨_, c, e, rfl, by rw [add_lit, h.cell]; rfl, by rw [add_lit, add_lit, h.cell]; rfl, h2⟩

set_option maxHeartbeats 16000000 in
theorem awake4_ok (w : World) : Meets Try.prog 13 #[] w fun v w' => Ext w w' ∧ v = .bool true := by
  have s0 : stg (lit2 2 1 1 2) 0 0 0 = 2 := by decide
  have s1 : stg (lit2 2 1 1 2) 1 0 0 = 3 := by decide
  have okA : okSt 2 (lit2 2 1 1 2) := fun q hq => by
    obtain rfl : q = 0 := by omega
    rw [s0]; decide
  have noB : ¬ okSt 2 (lit2 0 1 1 0) := fun h => h 0 (by decide) (by decide)
  have okD : okDef 2 (fun _ => 2) (lit2 2 1 1 2) := ⟨okS22, fun i j hi hj => by
    obtain rfl : i = 1 := by omega
    obtain rfl : j = 0 := by omega
    rfl, fun q hq => by
    have : q = 0 ∨ q = 1 := by omega
    rcases this with rfl | rfl
    · rw [s0]; decide
    · rw [s1]; decide⟩
  have hdet : Go.Det.det 2 (augM 2 (lit2 2 1 1 2) (fun i => if i = 0 then 1 else 0)) = 3 := by decide
  have bA := lit2_bd (a := 2) (b := 1) (c := 1) (d := 2) (bd2 (by decide)) (bd2 (by decide)) (bd2 (by decide)) (bd2 (by decide))
  have bB := lit2_bd (a := 0) (b := 1) (c := 1) (d := 0) (bd2 (by decide)) (bd2 (by decide)) (bd2 (by decide)) (bd2 (by decide))
  refine fn_W (n := 83) Try.func13 rfl rfl (by kernel_rfl) (by simp) ?_
  refine gg ?_
  refine R1_build2 sl_i64 rfl (.inl rfl) rfl rfl rfl rfl ?_
  intro w1 hB1 hE1 hs1
  refine gg ?_
  refine R1_build2 sl_i64 rfl (.inl rfl) rfl rfl rfl rfl ?_
  intro w2 hB2 hE2 hs2
  refine gg ?_
  refine R1_build2 sl_si64 rfl (.inl rfl) rfl rfl rfl rfl ?_
  intro w3 hB3 hE3 hs3
  refine gg ?_
  refine R1_call2 (rof_ok _ 2 (fun _ => 2) (lit2 2 1 1 2) w3 (matZ_lit hB3 (hB1.ext (hE2.trans hE3)) (hB2.ext hE3) (by decide) (by decide) (by decide) (by decide))) ?_
  intro v w4 hv
  obtain ⟨hE4, gA, gsA, rfl, _, _, hOA⟩ := hv.get okM22
  have hE04 := hE1.trans (hE2.trans (hE3.trans hE4))
  clear hv hB1 hB2 hB3 hE1 hE2 hE3 hE4
  have hMA : MatE (EI 2) w4 _ 2 (fun _ => 2) (lit2 2 1 1 2) := hOA.read (fun i j _ _ => bA i j) (by decide) (by decide)
  refine gg ?_
  refine R1_call2 (stages_ok _ 2 2 (fun _ => 2) (lit2 2 1 1 2) w4 hMA (by decide) (by decide)) ?_
  rintro _ w5 ⟨hE5, ⟨hp, rfl⟩ | ⟨_, u, gos, ges, rfl, hSt⟩⟩
  · exact absurd ⟨okS22, okA⟩ hp
  obtain ⟨gL, cL, rfl, hcell⟩ := hSt.list (by omega)
  have hc1 := hcell 1 (by decide)
  have hT1 := hSt.2 1 (by decide)
  refine gg ?_
  refine R1_build2 sl_i64 rfl (.inl rfl) rfl rfl rfl rfl ?_
  intro w6 hB6 hE6 hs6
  refine gg ?_
  refine R1_build2 sl_i64 rfl (.inl rfl) rfl rfl rfl rfl ?_
  intro w7 hB7 hE7 hs7
  refine gg ?_
  refine R1_build2 sl_si64 rfl (.inl rfl) rfl rfl rfl rfl ?_
  intro w8 hB8 hE8 hs8
  refine gg ?_
  refine R1_call2 (rof_ok _ 2 (fun _ => 2) (lit2 0 1 1 0) w8 (matZ_lit hB8 (hB6.ext (hE7.trans hE8)) (hB7.ext hE8) (by decide) (by decide) (by decide) (by decide))) ?_
  intro v w9 hv
  obtain ⟨hE9, gU, gsU, rfl, _, _, hOU⟩ := hv.get okM22
  have hE59 := hE6.trans (hE7.trans (hE8.trans hE9))
  clear hv hB6 hB7 hB8 hE6 hE7 hE8 hE9
  refine gg ?_
  refine R1_call2 (stages_ok _ 2 2 (fun _ => 2) (lit2 0 1 1 0) w9 (hOU.read (fun i j _ _ => bB i j) (by decide) (by decide)) (by decide) (by decide)) ?_
  rintro _ w10 ⟨hE10, ⟨_, rfl⟩ | ⟨hp, _⟩⟩
  rotate_left
  · exact absurd hp.2 noB
  refine gg ?_
  refine R1_call2 (rsmall_ok 1 w10 (by decide) (by decide)) ?_
  rintro _ w11 ⟨hE11, x1, y1, rfl, hv1⟩
  refine gg ?_
  refine R1_call2 (rsmall_ok 0 w11 (by decide) (by decide)) ?_
  rintro _ w12 ⟨hE12, x2, y2, rfl, hv2⟩
  refine gg ?_
  refine R1_sliceE2 (.inl rfl) rfl rfl ?_
  intro w13 hB13 hE13 hs13
  have hE413 := hE5.trans (hE59.trans (hE10.trans (hE11.trans (hE12.trans hE13))))
  refine gg ?_
  refine R1_call2 (bsolve_ok _ _ 2 2 2 (fun _ => 2) (lit2 2 1 1 2) _ w13 (hMA.ext hE413) (rowE_lit hB13 ((hv1.ext (hE12.trans hE13)).iv (bd2 (a := 1) (by decide))) ((hv2.ext hE13).iv (bd2 (a := 0) (by decide)))) (by decide) (by decide)) ?_
  rintro _ w14 ⟨hE14, ⟨hp, _⟩ | ⟨_, hp, _⟩ | ⟨_, _, gX, _, rfl, hX⟩⟩
  · exact absurd ⟨okS22, rfl⟩ hp
  · rw [hdet] at hp; cases hp
  have hE514 := hE59.trans (hE10.trans (hE11.trans (hE12.trans (hE13.trans hE14))))
  refine gg ?_
  refine W_seqD [(0, 3), (1, 3), (2, 3), (3, 3), (4, 3), (5, 3), (6, 3), (7, 3), (8, 3), (9, 3), (10, 3), (11, 3), (12, 3), (13, 3), (14, 3), (15, 3), (16, 3), (17, 3), (18, 3), (19, 3), (20, 3), (21, 3), (22, 0), (23, 3), (24, 3), (25, 3), (26, 3), (27, 3), (28, 3), (29, 0), (30, 3), (31, 0), (32, 3), (33, 3), (34, 3), (35, 3), (36, 3), (37, 3), (38, 0), (39, 3), (40, 0), (41, 3), (42, 0), (43, 1), (44, 1), (45, 3), (46, 3), (47, 3), (48, 1), (49, 3), (50, 3)] mixed (by kernel_rfl) (fun w15 hE15 _ => ?_)
  have k1 := cell_ext (hE514.trans hE15) hc1
  have hT := hT1.ext (hE514.trans hE15)
  have k2 := hT.at (i := 0) (by decide)
  obtain ⟨x3, y3, p3, p3', hv3⟩ := hT.entry (i := 0) (j := 0) (by decide) (by decide)
  rw [s1] at hv3
  refine gg ?_
  refine R1_len sl_ssInt rfl ?_
  refine gg ?_
  refine R1_len sl_Rat rfl ?_
  refine gg ?_
  refine R1_indexB (j := 1) sl_ssInt rfl rfl (by omega) ?_
  refine gg ?_
  refine R1_indexB (j := 1) sl_ssInt rfl rfl (by omega) ?_
  refine gg ?_
  refine R1_indexB (j := 1) sl_ssInt rfl rfl (by omega) ?_
  refine gg ?_
  refine R1_index0B sl_Int rfl (by omega) ?_
  refine gg ?_
  refine R1_call1 (rsmall_ok 3 w15 (by decide) (by decide)) ?_
  rintro _ w16 ⟨hE16, tx, ty, rfl, hct⟩
  refine ⟨hE16, ?_⟩
  refine gg ?_
  refine R1_call1 (rsame_ok _ _ _ _ _ _ 2 2 w16 ((hv3.2 rfl).ext hE16) hct (by decide) (by decide) (bd2 (a := 3) (by decide)) (bd2 (a := 3) (by decide))) ?_
  rintro _ w17 ⟨hE17, rfl⟩
  refine ⟨hE17, ?_⟩
  rw [show decide ((3 : Int) = 3) = true from rfl]
  have hE417 := hE413.trans (hE14.trans (hE15.trans (hE16.trans hE17)))
  refine gg ?_
  refine R1_call1 (definite_ok _ 2 2 (fun _ => 2) (lit2 2 1 1 2) w17 (hMA.ext hE417) (by decide) (by decide)) ?_
  rintro _ w18 ⟨hE18, b, rfl, hb⟩
  refine ⟨hE18, ?_⟩
  obtain rfl := hb.2 okD
  refine gg ?_
  exact ret1 (v := .bool _) rfl rfl ⟨hE04.trans (hE417.trans hE18), rfl⟩
end Go.Proofs.Ytcjhcefnedonlaa

/- quadformlaw04.large. -/
namespace Go.Proofs.Ytcjhcefnedonlaa
open Go Go.Eng Go.Num Go.Proofs

set_option maxHeartbeats 8000000 in
theorem large4_ok (v : Value) (r : Nat) (len : Nat → Nat) (M : Nat → Nat → Int) (L : Nat → Nat → Nat) (w : World) (h : MatL w v r len M L) :
    Meets Try.prog 22 #[v] w fun u w' => w = w' ∧ ∃ b, u = .bool b ∧ (b = false → Sm r len L) := by
  obtain ⟨A, cap, rfl, hrc, hcap, hr47, hrow⟩ := h
  refine fn_W (n := 51) Try.func22 rfl rfl (by kernel_rfl) (by simp) ?_
  refine gg ?_
  refine W_seqM (fun f w' => w = w' ∧ ∃ n, f 3 = .int .i64 ((n : Nat) : Int) ∧ (n ≤ 600 → Sm r len L)) ?_ ?_
  · refine gg ?_
    refine W_loop (fun m f w' => w = w' ∧ ∃ i n, m = r - i ∧ i ≤ r ∧ f 0 = .slice A r cap ∧ f 3 = .int .i64 ((n : Nat) : Int) ∧ f 4 = .int .i64 ((i : Nat) : Int) ∧ r ≤ n ∧ n ≤ 281474976710656 ∧ (n < 1000 → ∀ k, k < i → len k ≤ n ∧ ∀ j, j < len k → L k j ≤ n))
      r ⟨rfl, 0, r, rfl, Nat.zero_le _, rfl, rfl, rfl, Nat.le_refl _, by omega, fun _ k hk => absurd hk (by omega)⟩ ?_
    rintro m f w' ⟨rfl, i, n, rfl, hi, hf0, hf3, hf4, hrn, hn, hk⟩
    rw [ui hf0, ui hf3, ui hf4]
    clear hf0 hf3 hf4
    refine W_seq ?_
    by_cases hlt : i < r
    · by_cases hn1 : n < 1000
      · obtain ⟨ad, u, rfl, hu, hru⟩ := hrow i hlt
        obtain ⟨Ai, capi, rfl, hci, hcapi, hc47, hent⟩ := hru
        refine gg ?_
        refine W_loop (fun m f w' => w = w' ∧ ∃ j q, m = len i - j ∧ j ≤ len i ∧ f 0 = .slice (some ad) r cap ∧ f 3 = .int .i64 ((q : Nat) : Int) ∧ f 4 = .int .i64 ((i : Nat) : Int) ∧ f 5 = .int .i64 ((j : Nat) : Int) ∧ n + len i ≤ q ∧ q ≤ 281474976710656 ∧ (q < 1000 → ∀ t, t < j → L i t ≤ q))
          (len i) ⟨rfl, 0, n + len i, rfl, Nat.zero_le _, rfl, rfl, rfl, rfl, Nat.le_refl _, by omega, fun _ t ht => absurd ht (by omega)⟩ ?_
        rintro m f w' ⟨rfl, j, q, rfl, hj, hf0, hf3, hf4, hf5, hnq, hq, hkj⟩
        rw [ui hf0, ui hf3, ui hf4, ui hf5]
        clear hf0 hf3 hf4 hf5
        refine W_seq ?_
        by_cases hjl : j < len i
        · by_cases hq1 : q < 1000
          · obtain ⟨ad2, x, y, rfl, hx, hy, neg, B, l, c, rfl, rfl, hlc, hcc, hM, hll, hl47, _⟩ := hent j hjl
            have hy' : w.cell? ((ad2.add (j * 2)).add 1) = some (.slice B l.length c) := hy
            refine gg ?_
            refine R1_fieldAddrG fa_Int1 rfl ?_
            refine gg ?_
            refine ⟨_, ?_, rfl, j + 1, q + l.length, rfl, by omega, rfl, rfl, rfl, rfl, by omega, by omega, fun h t ht => ?_⟩
            · omega
            · by_cases e : t = j
              · subst e; omega
              · have := hkj (by omega) t (by omega); omega
          · refine gg ?_
            refine ⟨_, ?_, rfl, i + 1, q, rfl, by omega, rfl, rfl, rfl, by omega, hq, fun h => absurd h hq1⟩
            omega
        · refine gg ?_
          refine ⟨_, ?_, rfl, i + 1, q, rfl, by omega, rfl, rfl, rfl, by omega, hq, fun h k hk' => ?_⟩
          · omega
          · by_cases e : k = i
            · subst e
              exact ⟨by omega, fun t ht => hkj h t (by omega)⟩
            · have := hk hn1 k (by omega)
              exact ⟨by omega, fun t ht => by have := this.2 t ht; omega⟩
      · refine gg ?_
        exact ⟨rfl, n, rfl, fun h => by omega⟩
    · refine gg ?_
      refine ⟨rfl, n, rfl, fun h => ⟨by omega, fun k hk' => ?_⟩⟩
      have := hk (by omega) k (by omega)
      exact ⟨by omega, fun j hj => by have := this.2 j hj; omega⟩
  · rintro f w' ⟨rfl, n, hf3, hn⟩
    rw [ui hf3]
    clear hf3
    refine gg ?_
    refine ret1 (v := .bool _) rfl rfl ⟨rfl, _, rfl, fun hb => hn ?_⟩
    have : ¬ (120 < n) := by simpa using hb
    omega

end Go.Proofs.Ytcjhcefnedonlaa
