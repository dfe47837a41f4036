/- matrix.Transpose, Add, Shape. -/
import Derived.Test.YtimjiaabaanbeaaMatj
namespace Go.Proofs.Ytimjiaabaanbeaa
open Go Go.Eng Go.Num Go.Proofs

theorem shapeV_cases (r : Nat) (len : Nat → Nat) : ∃ (s c : Nat) (ok : Bool), shapeV r len = .tuple #[.int .i64 ((s : Nat) : Int), .int .i64 ((c : Nat) : Int), .bool ok] ∧ ((okM r len = true ∧ ok = true ∧ s = r ∧ c = len 0) ∨ (okM r len = false ∧ ok = false ∧ s = 0 ∧ c = 0)) := by
  by_cases h : okM r len = true
  · exact ⟨_, _, _, shapeV_t h, .inl ⟨h, rfl, rfl, rfl⟩⟩
  · exact ⟨_, _, _, shapeV_f h, .inr ⟨by simpa using h, rfl, rfl, rfl⟩⟩
theorem rmb_bad {w w' : World} {ok : Bool} {r c : Nat} {M : Nat → Nat → Int} (h : ok = false) (hE : Ext w w') : RMB w ok r c M (.tuple #[.slice none 0 0, .bool false]) w' := by
  unfold RMB; rw [if_neg (by rw [h]; decide)]; exact ⟨hE, rfl⟩
theorem rmb_ok {w w0 w' : World} {ok : Bool} {r c : Nat} {M : Nat → Nat → Int} {v : Value} (h : ok = true) (hE : Ext w w0) (hr : RM w0 r c M v w') : RMB w ok r c M (.tuple #[v, .bool true]) w' := by
  unfold RMB; rw [if_pos h]
  obtain ⟨hE2, gO, gs, rfl, h1, h2, h3⟩ := hr
  have := hE.size
  exact ⟨_, rfl, hE.trans hE2, gO, gs, rfl, by omega, fun i hi => by have := h2 i hi; omega, h3⟩

set_option maxHeartbeats 8000000 in
theorem transpose1_ok (i j gA r c N : Nat) (va : Value) (X : Nat → Nat → Int) (w : World) (hA : Blk w gA 22 #[va])
    (ha : MatE (EI N) w va r (fun _ => c) X) (hi : i < c) (hj : j < r) (hN : N < 1099511627776) :
    Meets Try.prog 73 #[.int .i64 ((i : Nat) : Int), .int .i64 ((j : Nat) : Int), .pointer (some ⟨gA, 0, none⟩)] w (RI w (X j i)) := by
  refine fn_W (n := 14) Try.func73 rfl rfl (by kernel_rfl) (by simp) ?_
  refine gg ?_
  refine R1_alloc (.inl rfl) z_Int ?_
  intro w1 hB1 hE1 hs1
  have hR1 : Bx w1 w.heap.size 1 true 0 := Bx.zero true hB1
  have f0 := blkS (hA.ext hE1)
  obtain ⟨ada, capa, ua, rfl, hua, hra⟩ := (ha.ext hE1).at hj
  obtain ⟨ada', capa', xa, ya, rfl, hxa, hya, hva⟩ := hra.at hi
  refine gg ?_
  refine R1_call2 (normalize_ok _ _ _ N w1 hva hN) ?_
  rintro _ w2 ⟨hE2, a1, b1, rfl, hc1⟩
  refine gg ?_
  refine R1_storeBx (.inl rfl) rfl rfl (hR1.ext hE2) (hc1.ev true (N := N) (IV.bd hva)) ?_
  intro w6 hR6 hC6 hk6 hs6
  refine gg ?_
  obtain ⟨x, y, hB, hv⟩ := hR6
  exact retC rfl agg_Int rfl hB ⟨hC6.ext_of (hE1.trans hE2) (fun b hb => by omega), x, y, rfl, hv.2 rfl⟩

set_option maxHeartbeats 8000000 in
theorem transpose_ok (va : Value) (r N : Nat) (len : Nat → Nat) (X : Nat → Nat → Int) (w : World) (ha : MatE (EI N) w va r len X) (hN : N < 1099511627776) :
    Meets Try.prog 35 #[va] w (RMB w (okM r len) (len 0) r (fun i j => X j i)) := by
  obtain ⟨Aa, capa, hva, _⟩ := id ha
  refine fn_W (n := 19) Try.func35 rfl rfl (by kernel_rfl) (by simp) ?_
  refine gg ?_
  refine R1_box (v := va) (.inl rfl) rfl ?_
  intro w1 hB1 hE1 hs1
  have hA1 : Blk w1 w.heap.size 22 #[va] := by rw [hva] at hB1 ⊢; exact hB1
  have f1 := blkS hA1
  refine gg ?_
  refine R1_call2 (shape_ok _ va r len X w1 (ha.ext hE1)) ?_
  rintro _ _ ⟨rfl, rfl⟩
  obtain ⟨s1, c1, ok1, e1, h1⟩ := shapeV_cases r len
  rw [e1]
  rcases h1 with ⟨hok, rfl, rfl, rfl⟩ | ⟨hok, rfl, rfl, rfl⟩
  · obtain ⟨⟨hr1, hr2, hl1, hl2⟩, hlen⟩ := okM_iff.1 hok
    refine gg ?_
    refine W_seq ?_
    refine gg ?_
    refine R1_func0 ?_
    refine gg ?_
    refine R1_call2 (mbuild_ok (len 0) s1 _ _ (fun i j => X j i) w1 (by omega) (by omega) (fun i j hi hj w' hE' => transpose1_ok i j w.heap.size s1 (len 0) N va X w' (hA1.ext hE') ((ha.ext (hE1.trans hE')).sq hlen) hi hj hN)) ?_
    rintro v w5 hv
    have hv' := hv
    obtain ⟨_, gO, gs, rfl, _⟩ := hv'
    refine gg ?_
    exact ret2 (v := .slice _ _ _) (v' := .bool _) rfl rfl rfl (rmb_ok hok hE1 hv)
  · refine gg ?_
    refine W_seq ?_
    refine gg ?_
    exact ret2 (v := .slice _ _ _) (v' := .bool _) rfl rfl rfl (rmb_bad hok hE1)

set_option maxHeartbeats 8000000 in
theorem add1_ok (i j gA gB r c N : Nat) (va vb : Value) (X Y : Nat → Nat → Int) (w : World) (hA : Blk w gA 22 #[va]) (hB : Blk w gB 22 #[vb])
    (ha : MatE (EI N) w va r (fun _ => c) X) (hb : MatE (EI N) w vb r (fun _ => c) Y) (hi : i < r) (hj : j < c) (hN : N < 1099511627776) :
    Meets Try.prog 78 #[.int .i64 ((i : Nat) : Int), .int .i64 ((j : Nat) : Int), .pointer (some ⟨gA, 0, none⟩), .pointer (some ⟨gB, 0, none⟩)] w (RI w (X i j + Y i j)) := by
  refine fn_W (n := 22) Try.func78 rfl rfl (by kernel_rfl) (by simp) ?_
  refine gg ?_
  refine R1_alloc (.inl rfl) z_Int ?_
  intro w1 hB1 hE1 hs1
  have hR1 : Bx w1 w.heap.size 1 true 0 := Bx.zero true hB1
  refine gg ?_
  refine W_seqD [(0, 0), (1, 3), (2, 3), (3, 0), (4, 3), (5, 3), (6, 0), (7, 0), (8, 3), (9, 3), (10, 0), (11, 3), (12, 3), (13, 0), (14, 1), (15, 2)] mixed (by kernel_rfl) (fun w2 hE2 _ => ?_)
  have hE12 := hE1.trans hE2
  have f0 := blkS (hA.ext hE12)
  have f1 := blkS (hB.ext hE12)
  obtain ⟨ada, capa, ua, rfl, hua, hra⟩ := (ha.ext hE12).at hi
  obtain ⟨ada', capa', xa, ya, rfl, hxa, hya, hva⟩ := hra.at hj
  obtain ⟨adb, capb, ub, rfl, hub, hrb⟩ := (hb.ext hE12).at hi
  obtain ⟨adb', capb', xb, yb, rfl, hxb, hyb, hvb⟩ := hrb.at hj
  refine gg ?_
  refine R1_call1 (add_ok _ _ _ _ _ _ N w2 hva hvb hN) ?_
  rintro _ w3 ⟨hE3, a1, b1, rfl, hc1⟩
  refine ⟨hE3, ?_⟩
  refine gg ?_
  refine R1_storeBx (.inl rfl) rfl rfl (hR1.ext (hE2.trans hE3)) (hc1.ev true (N := N + 1) (Bd.add (IV.bd hva) (IV.bd hvb))) ?_
  intro w6 hR6 hC6 hk6 hs6
  refine gg ?_
  obtain ⟨x, y, hB, hv⟩ := hR6
  exact retC rfl agg_Int rfl hB ⟨hC6.ext_of (hE12.trans hE3) (fun b hb => by omega), x, y, rfl, hv.2 rfl⟩

def okAdd (r1 r2 : Nat) (len1 len2 : Nat → Nat) : Bool := okM r1 len1 && okM r2 len2 && decide (r1 = r2) && decide (len1 0 = len2 0)

set_option maxHeartbeats 8000000 in
theorem addM_ok (va vb : Value) (r1 r2 N : Nat) (len1 len2 : Nat → Nat) (X Y : Nat → Nat → Int) (w : World) (ha : MatE (EI N) w va r1 len1 X) (hb : MatE (EI N) w vb r2 len2 Y) (hN : N < 1099511627776) :
    Meets Try.prog 42 #[va, vb] w (RMB w (okAdd r1 r2 len1 len2) r1 (len1 0) (fun i j => X i j + Y i j)) := by
  obtain ⟨Aa, capa, hva, _⟩ := id ha
  obtain ⟨Ab, capb, hvb, _⟩ := id hb
  refine fn_W (n := 44) Try.func42 rfl rfl (by kernel_rfl) (by simp) ?_
  refine gg ?_
  refine R1_box (v := va) (.inl rfl) rfl ?_
  intro w1 hB1 hE1 hs1
  refine gg ?_
  refine R1_box (v := vb) (.inl rfl) rfl ?_
  intro w2 hB2 hE2 hs2
  have hA1 : Blk w1 w.heap.size 22 #[va] := by rw [hva] at hB1 ⊢; exact hB1
  have hA2 : Blk w2 w1.heap.size 22 #[vb] := by rw [hvb] at hB2 ⊢; exact hB2
  have f1 := blkS (hA1.ext hE2)
  have f2 := blkS hA2
  have hE02 := hE1.trans hE2
  refine gg ?_
  refine R1_call2 (shape_ok _ va r1 len1 X w2 (ha.ext hE02)) ?_
  rintro _ _ ⟨rfl, rfl⟩
  obtain ⟨s1, c1, ok1, e1, h1⟩ := shapeV_cases r1 len1
  rw [e1]
  refine gg ?_
  refine R1_call2 (shape_ok _ vb r2 len2 Y w2 (hb.ext hE02)) ?_
  rintro _ _ ⟨rfl, rfl⟩
  obtain ⟨s2, c2, ok2, e2, h2⟩ := shapeV_cases r2 len2
  rw [e2]
  rcases h1 with ⟨hok1, rfl, rfl, rfl⟩ | ⟨hok1, rfl, rfl, rfl⟩
  · rcases h2 with ⟨hok2, rfl, rfl, rfl⟩ | ⟨hok2, rfl, rfl, rfl⟩
    · by_cases hr : s1 = s2
      · by_cases hc : len1 0 = len2 0
        · subst hr
          have hok : okAdd s1 s1 len1 len2 = true := by simp [okAdd, hok1, hok2, hc]
          obtain ⟨⟨hr1, hr2, hl1, hl2⟩, hlen⟩ := okM_iff.1 hok1
          obtain ⟨_, hlen'⟩ := okM_iff.1 hok2
          refine gg ?_
          refine W_seq ?_
          refine gg ?_
          refine R1_func0 ?_
          refine gg ?_
          refine R1_call2 (mbuild_ok s1 (len1 0) _ _ (fun i j => X i j + Y i j) w2 (by omega) (by omega) (fun i j hi hj w' hE' => add1_ok i j w.heap.size w1.heap.size s1 (len1 0) N va vb X Y w' ((hA1.ext hE2).ext hE') (hA2.ext hE') ((ha.ext (hE02.trans hE')).sq hlen) (by rw [hc]; exact (hb.ext (hE02.trans hE')).sq hlen') hi hj hN)) ?_
          rintro v w5 hv
          have hv' := hv
          obtain ⟨_, gO, gs, rfl, _⟩ := hv'
          refine gg ?_
          exact ret2 (v := .slice _ _ _) (v' := .bool _) rfl rfl rfl (rmb_ok hok hE02 hv)
        · refine gg ?_
          refine W_seq ?_
          refine gg ?_
          exact ret2 (v := .slice _ _ _) (v' := .bool _) rfl rfl rfl (rmb_bad (by simp [okAdd, hc]) hE02)
      · refine gg ?_
        refine W_seq ?_
        refine gg ?_
        exact ret2 (v := .slice _ _ _) (v' := .bool _) rfl rfl rfl (rmb_bad (by simp [okAdd, hr]) hE02)
    · refine gg ?_
      refine W_seq ?_
      refine gg ?_
      exact ret2 (v := .slice _ _ _) (v' := .bool _) rfl rfl rfl (rmb_bad (by simp [okAdd, hok2]) hE02)
  · refine gg ?_
    refine W_seq ?_
    refine gg ?_
    exact ret2 (v := .slice _ _ _) (v' := .bool _) rfl rfl rfl (rmb_bad (by simp [okAdd, hok1]) hE02)
end Go.Proofs.Ytimjiaabaanbeaa
