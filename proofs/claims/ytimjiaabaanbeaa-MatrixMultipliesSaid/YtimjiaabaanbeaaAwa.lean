/- quadformlaw03.awake. -/
import Derived.Test.YtimjiaabaanbeaaMatl
namespace Go.Proofs.Ytimjiaabaanbeaa
open Go Go.Eng Go.Num Go.Proofs

def lit2 (a b c d : Int) : Nat → Nat → Int := fun i j => if i = 0 then (if j = 0 then a else b) else (if j = 0 then c else d)
theorem rowZ_lit {w : World} {g : Nat} {a b : Int} (h : Blk w g 2 #[.int .i64 a, .int .i64 b]) (ha : -9223372036854775808 ≤ a ∧ a < 9223372036854775808) (hb : -9223372036854775808 ≤ b ∧ b < 9223372036854775808) : RowZ w (.slice (some ⟨g, 0, none⟩) 2 2) 2 (fun j => if j = 0 then a else b) := by
  refine ⟨_, _, rfl, Nat.le_refl _, by decide, fun j hj => ⟨_, rfl, ?_, ?_⟩⟩
  · rw [add_lit, h.cell]
    match j, hj with
    | 0, _ => rfl
    | 1, _ => rfl
  · dsimp only
    split
    · exact ha
    · exact hb
theorem matZ_lit {w : World} {gO g0 g1 : Nat} {a b c d : Int} (hO : Blk w gO 66 #[.slice (some ⟨g0, 0, none⟩) 2 2, .slice (some ⟨g1, 0, none⟩) 2 2]) (h0 : Blk w g0 2 #[.int .i64 a, .int .i64 b]) (h1 : Blk w g1 2 #[.int .i64 c, .int .i64 d])
    (ha : -9223372036854775808 ≤ a ∧ a < 9223372036854775808) (hb : -9223372036854775808 ≤ b ∧ b < 9223372036854775808) (hc : -9223372036854775808 ≤ c ∧ c < 9223372036854775808) (hd : -9223372036854775808 ≤ d ∧ d < 9223372036854775808) :
    MatZ w (.slice (some ⟨gO, 0, none⟩) 2 2) 2 (fun _ => 2) (lit2 a b c d) := by
  refine ⟨_, _, rfl, Nat.le_refl _, by decide, fun i hi => ?_⟩
  match i, hi with
  | 0, _ => exact ⟨_, _, rfl, by rw [add_lit, hO.cell]; rfl, rowZ_lit h0 ha hb⟩
  | 1, _ => exact ⟨_, _, rfl, by rw [add_lit, hO.cell]; rfl, rowZ_lit h1 hc hd⟩
theorem okM22 : okM 2 (fun _ => 2) = true := by decide
theorem okS22 : okS 2 (fun _ => 2) = true := by decide
theorem lit2_bd {a b c d : Int} (ha : Bd 2 a) (hb : Bd 2 b) (hc : Bd 2 c) (hd : Bd 2 d) (i j : Nat) : Bd 2 (lit2 a b c d i j) := by
  unfold lit2
  split <;> split <;> assumption
theorem bd2 {a : Int} (h : a.natAbs < 4294967296) : Bd 2 a := by
  refine Bd.mono (N := 1) ?_ (by decide)
  unfold Bd
  have : B ^ 1 = 4294967296 := by decide
  omega

/-- a slice literal of two constants that floats -/
def fB (i d e : Nat) (a b : Value) : Flt := ⟨i, d, e, #[a, b], fun g => .slice (some ⟨g, 0, none⟩) 2 2⟩

set_option maxHeartbeats 16000000 in
theorem awake_ok (w : World) : Meets Try.prog 16 #[] w fun v w' => Ext w w' ∧ v = .bool true := by
  have dA : detB 2 (lit2 2 1 1 2) = 3 := by decide
  have dU : detB 2 (lit2 2 1 1 1) = 1 := by decide
  have iU : ∀ i, i < 2 → ∀ j, j < 2 → invF 2 (lit2 2 1 1 1) i j = lit2 1 (-1) (-1) 2 i j := by decide
  have bA := lit2_bd (a := 2) (b := 1) (c := 1) (d := 2) (bd2 (by decide)) (bd2 (by decide)) (bd2 (by decide)) (bd2 (by decide))
  have bU := lit2_bd (a := 2) (b := 1) (c := 1) (d := 1) (bd2 (by decide)) (bd2 (by decide)) (bd2 (by decide)) (bd2 (by decide))
  have bV := lit2_bd (a := 1) (b := -1) (c := -1) (d := 2) (bd2 (by decide)) (bd2 (by decide)) (bd2 (by decide)) (bd2 (by decide))
  refine fn_W (n := 51) Try.func16 rfl rfl (by kernel_rfl) (by simp) ?_
  refine gg ?_
  refine R1_build2 sl_i64 rfl (.inl rfl) rfl rfl rfl rfl ?_
  intro w1 hB1 hE1 hs1
  refine gg ?_
  refine R1_build2 sl_i64 rfl (.inl rfl) rfl rfl rfl rfl ?_
  intro w2 hB2 hE2 hs2
  refine gg ?_
  refine R1_build2 sl_si64 rfl (.inl rfl) rfl rfl rfl rfl ?_
  intro w3 hB3 hE3 hs3
  refine gg ?_
  refine R1_call2 (rof_ok _ 2 (fun _ => 2) (lit2 2 1 1 2) w3 (matZ_lit hB3 (hB1.ext (hE2.trans hE3)) (hB2.ext hE3) (by decide) (by decide) (by decide) (by decide))) ?_
  intro v w4 hv
  obtain ⟨hE4, gA, gsA, rfl, _, _, hOA⟩ := hv.get okM22
  have hE14 := hE1.trans (hE2.trans (hE3.trans hE4))
  clear hv
  refine gg ?_
  refine R1_call2 (det_ok _ 2 2 (fun _ => 2) (lit2 2 1 1 2) w4 (hOA.read (fun i j _ _ => bA i j) (by decide) (by decide)) (by decide) (by decide)) ?_
  rintro _ w5 ⟨hE5, dx, dy, rfl, hcd⟩
  rw [okS22, if_pos rfl, dA] at hcd
  rw [okS22]
  refine gg ?_
  refine R1_alloc (.inl rfl) z_Int ?_
  intro w6 hB6 hE6 hs6
  have hD6 : Bx w6 w5.heap.size 1 true 0 := Bx.zero true hB6
  refine gg ?_
  refine R1_storeBx (.inl rfl) rfl rfl hD6 ((hcd.ext hE6).ev true (bd2 (a := 3) (by decide))) ?_
  intro w7 hD7 hC7 hk7 hs7
  have hA7 := ((hOA.wm true (N := 2) (fun i j _ _ => bA i j)).ext (hE5.trans hE6)).kp hk7 hC7 (by have := hOA.outer.lt; have := hE5.size; omega) (fun i hi => by have := (hOA.row i hi).lt; have := hE5.size; omega)
  have hE17 : Ext w w7 := hC7.ext_of (hE14.trans (hE5.trans hE6)) (fun b hb => by have := (hE14.trans hE5).size; omega)
  obtain ⟨gD, hgD⟩ : ∃ g, g = w5.heap.size := ⟨_, rfl⟩
  rw [← hgD] at hD7 ⊢
  clear hD6 hB6 hB1 hB2 hB3 hcd hk7 hC7 hs7 hs6 hE6 hE5 hOA hE14 hE4 hE3 hE2 hE1 hs3 hs2 hs1 hgD
  refine gg ?_
  refine R1_build2 sl_i64 rfl (.inl rfl) rfl rfl rfl rfl ?_
  intro w8 hB8 hE8 hs8
  refine gg ?_
  refine R1_build2 sl_i64 rfl (.inl rfl) rfl rfl rfl rfl ?_
  intro w9 hB9 hE9 hs9
  refine gg ?_
  refine R1_build2 sl_si64 rfl (.inl rfl) rfl rfl rfl rfl ?_
  intro w10 hB10 hE10 hs10
  refine gg ?_
  refine R1_call2 (rof_ok _ 2 (fun _ => 2) (lit2 2 1 1 1) w10 (matZ_lit hB10 (hB8.ext (hE9.trans hE10)) (hB9.ext hE10) (by decide) (by decide) (by decide) (by decide))) ?_
  intro v w11 hv
  obtain ⟨hE11, gU, gsU, rfl, _, _, hOU⟩ := hv.get okM22
  clear hv
  refine gg ?_
  refine R1_call2 (inverse_ok _ 2 2 (fun _ => 2) (lit2 2 1 1 1) w11 (hOU.read (fun i j _ _ => bU i j) (by decide) (by decide)) (by decide) (by decide)) ?_
  intro v w12 hv
  obtain ⟨u, rfl, hE12, gV, gsV, rfl, _, _, hOV⟩ := hv.get (by decide)
  clear hv
  have hE712 := hE8.trans (hE9.trans (hE10.trans (hE11.trans hE12)))
  refine gg ?_
  refine R1_call2 (inverse_ok _ 2 2 (fun _ => 2) (lit2 2 1 1 2) w12 ((hA7.ext hE712).o.read (fun i j _ _ => bA i j) (by decide) (by decide)) (by decide) (by decide)) ?_
  intro v w13 hv
  obtain ⟨hE13, rfl⟩ := hv.no (by decide)
  clear hv
  have hV13 := hOV.ext hE13
  have hD13 := hD7.ext (hE712.trans hE13)
  have hE113 := hE17.trans (hE712.trans hE13)
  clear hE17 hE712 hA7 hD7 hOU hOV hB8 hB9 hB10 hE8 hE9 hE10 hE11 hE12 hE13 hs8 hs9 hs10
  refine gg ?_
  refine W_seqG [(0, 3), (1, 3), (2, 3), (3, 3), (4, 3), (5, 3), (6, 3), (7, 3), (8, 3), (9, 0), (10, 1), (11, 1), (12, 3), (13, 3), (14, 3)] [(15, [], []), (16, [], [])] [(17, 1), (18, 1), (19, 1), (20, 3), (21, 3)] mixed (by kernel_rfl) (fun w14 hE14 _ => ?_)
  obtain ⟨ox, oy, hDB, hDv⟩ := hD13.ext hE14
  obtain ⟨d1, d2⟩ := blkP hDB
  refine gg ?_
  refine R1_call1 (rsmall_ok 3 w14 (by decide) (by decide)) ?_
  rintro _ w15 ⟨hE15, tx, ty, rfl, hct⟩
  refine ⟨hE15, ?_⟩
  refine gg ?_
  refine R1_call1 (rsame_ok _ _ _ _ _ _ 2 2 w15 ((hDv.2 rfl).ext hE15) hct (by decide) (by decide) (bd2 (a := 3) (by decide)) (bd2 (a := 3) (by decide))) ?_
  rintro _ w16 ⟨hE16, rfl⟩
  refine ⟨hE16, ?_⟩
  rw [show decide ((3 : Int) = 3) = true from rfl]
  refine gg ?_
  refine Rg_float [] [fB 15 45 2 (.int .i64 1) (.int .i64 (-1)), fB 16 46 2 (.int .i64 (-1)) (.int .i64 2)] [45, 46] (by kernel_rfl) (fun a ha f' w' hA _ => ?_) ?_
  · have hg : ev 51 f' (.tmp 43) = .bool true := by
      show (bif Nat.blt 43 51 then f' 43 else undef) = _
      rw [hA 43 (by decide) rfl]; rfl
    rcases List.mem_cons.1 ha with rfl | ha
    · refine Ro_yesL rfl rfl rfl hg rfl ?_
      refine R1_build2 sl_i64 rfl (.inr ⟨rfl, fun _ h => h⟩) rfl rfl rfl rfl ?_
      intro w'' hB hE _
      exact Ro_nil ⟨rfl, hB, hE⟩
    · rcases List.mem_singleton.1 ha with rfl
      refine Ro_yesL rfl rfl rfl hg rfl ?_
      refine R1_build2 sl_i64 rfl (.inr ⟨rfl, fun _ h => h⟩) rfl rfl rfl rfl ?_
      intro w'' hB hE _
      exact Ro_nil ⟨rfl, hB, hE⟩
  refine Rc_nil (fun w17 hE17 bs hbs _ => ?_)
  obtain ⟨_, hB45⟩ := hbs _ List.mem_cons_self
  obtain ⟨_, hB46⟩ := hbs _ (List.mem_cons_of_mem _ List.mem_cons_self)
  have hB45 : Blk w17 (bs 45) 2 #[.int .i64 1, .int .i64 (-1)] := hB45
  have hB46 : Blk w17 (bs 46) 2 #[.int .i64 (-1), .int .i64 2] := hB46
  show Ro _ _ _ _ _ _ (upd (upd _ 46 (.slice (some ⟨bs 46, 0, none⟩) 2 2)) 45 (.slice (some ⟨bs 45, 0, none⟩) 2 2)) _
  generalize bs 45 = g45 at *
  generalize bs 46 = g46 at *
  refine gg ?_
  refine R1_build2 sl_si64 rfl (.inr ⟨rfl, fun _ h => h⟩) rfl rfl rfl rfl ?_
  intro w18 hB18 hE18 hs18
  refine gg ?_
  refine R1_call1 (rof_ok _ 2 (fun _ => 2) (lit2 1 (-1) (-1) 2) w18 (matZ_lit hB18 (hB45.ext hE18) (hB46.ext hE18) (by decide) (by decide) (by decide) (by decide))) ?_
  intro v w19 hv
  obtain ⟨hE19, gT, gsT, rfl, _, _, hOT⟩ := hv.get okM22
  refine ⟨hE19, ?_⟩
  clear hv
  have hV19 := hV13.ext (hE14.trans (hE15.trans (hE16.trans (hE17.trans (hE18.trans hE19)))))
  refine gg ?_
  refine R1_call1 (rsameM_ok _ _ 2 2 2 (fun _ => 2) (fun _ => 2) _ _ w19 (hV19.readC (fun i j hi hj => by rw [iU i hi j hj]; exact bV i j) (by decide) (by decide)) (hOT.readC (fun i j _ _ => bV i j) (by decide) (by decide)) (by decide)) ?_
  rintro _ w20 ⟨hE20, b, rfl, hb⟩
  refine ⟨hE20, ?_⟩
  have hb : b = true := hb.2 ⟨rfl, fun i hi => ⟨rfl, fun j hj => iU i hi j hj⟩⟩
  subst hb
  refine gg ?_
  exact ret1 (v := .bool _) rfl rfl ⟨hE113.trans (hE14.trans (hE15.trans (hE16.trans (hE17.trans (hE18.trans (hE19.trans hE20)))))), rfl⟩
end Go.Proofs.Ytimjiaabaanbeaa
