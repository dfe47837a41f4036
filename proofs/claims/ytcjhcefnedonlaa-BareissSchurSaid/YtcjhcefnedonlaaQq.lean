/- Joined: Vec. -/
import Derived.Test.YtcjhcefnedonlaaQn
import Derived.Test.YtcjhcefnedonlaaQo
import Derived.Test.YtcjhcefnedonlaaQm
/- quadformmake: Vector, Column; both Apply functions. -/
namespace Go.Proofs.Ytcjhcefnedonlaa
open Go Go.Eng Go.Num Go.Proofs

set_option maxHeartbeats 8000000 in
theorem vector_ok (A : Option Addr) (m cap n : Nat) (ns : Nat → Int) (w : World) (hN : Nums w A m ns) (hn : n ≤ 1048576) :
    Meets Try.prog 64 #[.slice A m cap, .int .i64 ((n : Nat) : Int)] w fun v w' => Ext w w' ∧ ∃ g, v = .slice (some ⟨g, 0, none⟩) n n ∧ w.heap.size ≤ g ∧ RowW w' g n (tp m ns) := by
  refine fn_W (n := 25) Try.func64 rfl rfl (by kernel_rfl) (by simp) ?_
  refine gg ?_
  refine R1_bldTape rfl ?_
  refine gg ?_
  refine R1_box (v := .agg _) (.inl rfl) rfl ?_
  intro w1 hB1 hE1 hs1
  have hT1 : TapeB w1 w.heap.size A m cap 0 := by unfold TapeB; rw [Nat.zero_min]; exact hB1
  obtain ⟨gT, hgT⟩ : ∃ g, g = w.heap.size := ⟨_, rfl⟩
  rw [← hgT] at hT1 ⊢
  refine gg ?_
  refine R1_make sl_i64 (.inl rfl) rfl rfl (Nat.le_refl _) (by omega) (by omega) ?_
  intro w2 hB2 hE2 hs2
  have hr2 := rowW_made hB2
  obtain ⟨g, hg⟩ : ∃ g, g = w1.heap.size := ⟨_, rfl⟩
  rw [← hg] at hr2 ⊢
  have hgT' : gT < g := by omega
  have hgw : w.heap.size ≤ gT := by omega
  have hE2' := hE1.trans hE2
  have hT2 : TapeB w2 gT A m cap 0 := hT1.ext hE2
  clear hB1 hB2 hE1 hE2 hT1 hs1 hs2 hg hgT
  refine gg ?_
  refine W_seqM (fun f w' => f 6 = .slice (some ⟨g, 0, none⟩) n n ∧ Ext w w' ∧ RowW w' g n (tp m ns)) ?_ ?_
  · refine gg ?_
    refine W_loop (fun q f w' => ∃ i, q = n - i ∧ i ≤ n ∧ f 5 = .pointer (some ⟨gT, 0, none⟩) ∧ f 6 = .slice (some ⟨g, 0, none⟩) n n ∧ f 14 = .int .i64 ((n : Nat) : Int) ∧ f 15 = .int .i64 ((i : Nat) : Int) ∧ Ext w w' ∧ TapeB w' gT A m cap i ∧ RowW w' g n (fun k => if k < i then tp m ns k else 0))
      n ⟨0, rfl, Nat.zero_le _, rfl, rfl, rfl, rfl, hE2', hT2, hr2.congr fun _ _ => by rw [if_neg (by omega)]⟩ ?_
    clear hE2' hT2 hr2
    rintro q f w3 ⟨i, rfl, hi, hf5, hf6, hf14, hf15, hE, hT, hr⟩
    rw [ui hf5, ui hf6, ui hf14, ui hf15]
    clear hf5 hf6 hf14 hf15
    by_cases hlt : i < n
    · refine gg ?_
      refine R1_call2 (next_ok gT A m cap i ns w w3 hE hN hgw hT) ?_
      rintro _ w4 ⟨rfl, hT4, hC4, _⟩
      have hE4 : Ext w w4 := hC4.ext_of hE (fun b hb => by omega)
      have hr4 : RowW w4 g n _ := Blk.ch hr hC4 (by omega)
      refine gg ?_
      refine R1_storeI (one_of rfl) (.inl rfl) rfl rfl hr4 (by rw [arr_size]; omega) ?_
      intro w5 hB5 hC5 hs5
      have hr5 := RowW.set hB5
      refine gg ?_
      refine ⟨_, ?_, i + 1, rfl, by omega, rfl, rfl, rfl, rfl, hC5.ext_of hE4 (fun b hb => by omega), Blk.ch hT4 hC5 (by omega), hr5.congr fun k _ => ?_⟩
      · omega
      · simp only [setZ]
        by_cases e : k = i
        · rw [if_pos e, if_pos (by omega), e]
        · rw [if_neg e]
          by_cases h1 : k < i
          · rw [if_pos h1, if_pos (by omega)]
          · rw [if_neg h1, if_neg (by omega)]
    · refine gg ?_
      exact ⟨rfl, hE, hr.congr fun k hk => by rw [if_pos (by omega)]⟩
  clear hE2' hT2 hr2
  rintro f w3 ⟨hf6, hE, hr⟩
  rw [ui hf6]
  clear hf6
  refine gg ?_
  exact ret1 rfl rfl ⟨hE, g, rfl, by omega, hr⟩

set_option maxHeartbeats 8000000 in
theorem column_ok (A : Option Addr) (m cap n : Nat) (ns : Nat → Int) (w : World) (hN : Nums w A m ns) (hn : n ≤ 1048576) :
    Meets Try.prog 23 #[.slice A m cap, .int .i64 ((n : Nat) : Int)] w fun v w' => Ext w w' ∧ GrowB w' v n true 1 (tp m ns) ∧ ∀ b, some b = v.ownBlock → w.heap.size ≤ b := by
  refine fn_W (n := 23) Try.func23 rfl rfl (by kernel_rfl) (by simp) ?_
  refine gg ?_
  refine W_seqM (fun f w' => ∃ v, f 5 = v ∧ Ext w w' ∧ GrowB w' v n true 1 (tp m ns) ∧ ∀ b, some b = v.ownBlock → w.heap.size ≤ b) ?_ ?_
  · refine gg ?_
    refine R1_call2 (vector_ok A m cap n ns w hN hn) ?_
    rintro _ w1 ⟨hE1, g, rfl, hg, hr⟩
    refine gg ?_
    refine W_loop (fun q f w' => ∃ i v, q = n - i ∧ i ≤ n ∧ f 5 = v ∧ f 10 = .slice (some ⟨g, 0, none⟩) n n ∧ f 11 = .int .i64 ((n : Nat) : Int) ∧ f 12 = .int .i64 ((i : Nat) : Int) ∧ Ext w1 w' ∧ GrowB w' v i true 1 (tp m ns) ∧ ∀ b, some b = v.ownBlock → w1.heap.size ≤ b)
      n ⟨0, .slice none 0 0, rfl, Nat.zero_le _, rfl, rfl, rfl, rfl, Ext.refl _, GrowB.nil, fun b hb => by cases hb⟩ ?_
    rintro q f w2 ⟨i, v, rfl, hi, hf5, hf10, hf11, hf12, hE, hG, hown⟩
    rw [ui hf5, ui hf10, ui hf11, ui hf12]
    clear hf5 hf10 hf11 hf12
    by_cases hlt : i < n
    · have hx := RowW.at (Blk.ext hr hE) hlt
      have htr := tp_range hN i
      have hb1 : Bd 1 (tp m ns i) := by
        unfold Bd
        have : B ^ 1 = 4294967296 := by decide
        omega
      refine gg ?_
      refine R1_call2 (rsmall_ok (tp m ns i) w2 (by omega) (by omega)) ?_
      rintro _ w3 ⟨hE3, x, y, rfl, hcv⟩
      refine gg ?_
      refine R1_sliceE1 (.inl rfl) rfl ?_
      intro w4 hB4 hE4 hs4
      obtain ⟨p1, p2⟩ := blkP hB4
      refine gg ?_
      refine R1_appE (.inl rfl) rfl rfl (hG.ext (hE3.trans hE4)) p1 p2 ((hcv.ext hE4).ev true hb1) (by omega) ?_
      intro v' w5 hG5 hk5 hC5 hv5
      have hs := (hE.trans (hE3.trans hE4)).size
      refine gg ?_
      refine ⟨_, ?_, i + 1, v', rfl, by omega, rfl, rfl, rfl, rfl, hC5.ext_of (hE.trans (hE3.trans hE4)) hown, hG5.congr fun k _ => ?_, fun b hb => ?_⟩
      · omega
      · split
        · rename_i e; rw [e]
        · rfl
      · rcases hv5 with e | e
        · rw [e] at hb; exact hown b hb
        · rw [e] at hb; injection hb with hb; omega
    · refine gg ?_
      obtain rfl : i = n := by omega
      exact ⟨v, rfl, hE1.trans hE, hG, fun b hb => by have := hown b hb; have := hE1.size; omega⟩
  rintro f w1 ⟨v, hf5, hE, hG, hown⟩
  rw [ui hf5]
  clear hf5
  refine gg ?_
  exact ret1 rfl rfl ⟨hE, hG, hown⟩

/-- a matrix times a column -/
def appM (n : Nat) (M : Nat → Nat → Int) (b : Nat → Int) : Nat → Int := fun i => sumTo n fun j => M i j * b j
def okApp (r : Nat) (len : Nat → Nat) (c : Nat) : Bool := okM r len && decide (c = len 0)
/-- a new list of Ints and a bool -/
def RVB (w : World) (ok : Bool) (r N : Nat) (g : Nat → Int) (v : Value) (w' : World) : Prop :=
  Ext w w' ∧ ∃ A m cp, v = .tuple #[.slice A m cp, .bool ok] ∧ RowE (EC N) w' (.slice A m cp) (if ok then r else 0) g
theorem appM_bd {n N : Nat} {M : Nat → Nat → Int} {b : Nat → Int} {i k : Nat} (hk : k ≤ n) (hn : n ≤ 16) (hM : ∀ j, j < n → Bd N (M i j)) (hb : ∀ j, j < n → Bd N (b j)) : Bd (N + N + 1) (sumTo k fun j => M i j * b j) :=
  sumTo_bd (by omega) fun t ht => (hM t (by omega)).mul (hb t (by omega))
theorem rowE_nil (E : World → Value → Value → Int → Prop) (w : World) (g : Nat → Int) : RowE E w (.slice none 0 0) 0 g := ⟨none, 0, rfl, Nat.le_refl _, by omega, fun j hj => absurd hj (by omega)⟩
theorem rvb_bad {w w' : World} {ok : Bool} {r N : Nat} {g : Nat → Int} (h : ok = false) (hE : Ext w w') : RVB w ok r N g (.tuple #[.slice none 0 0, .bool false]) w' := by
  subst h; exact ⟨hE, _, _, _, rfl, rowE_nil _ _ _⟩
theorem RowB.rowC {w : World} {g c N : Nat} {M : Nat → Int} (h : RowB w g c true (fun _ => N) M) (hc : c < 9223372036854775808) : RowE (EC N) w (.slice (some ⟨g, 0, none⟩) c c) c M := by
  refine ⟨_, _, rfl, Nat.le_refl _, hc, fun j hj => ?_⟩
  obtain ⟨x, y, e1, e2, hv⟩ := h.at hj
  exact ⟨_, x, y, rfl, by rw [add_lit]; exact e1, by rw [add_lit]; exact e2, hv.2 rfl, hv.bd⟩
theorem RowE.bd {w : World} {v : Value} {c N j : Nat} {g : Nat → Int} (h : RowE (EI N) w v c g) (hj : j < c) : Bd N (g j) := by
  obtain ⟨A, cap, rfl, h1, h2, h3⟩ := h
  obtain ⟨ad, x, y, e, hx, hy, hv⟩ := h3 j hj
  exact IV.bd hv

set_option maxHeartbeats 16000000 in
theorem rapply_ok (va vb : Value) (r c N : Nat) (len : Nat → Nat) (M : Nat → Nat → Int) (b : Nat → Int) (w : World) (ha : MatE (EI N) w va r len M) (hb : RowE (EI N) w vb c b) (hN : N < 34359738368) :
    Meets Try.prog 42 #[va, vb] w (RVB w (okApp r len c) r (N + N + 1) (appM c M b)) := by
  obtain ⟨A, cap, rfl, _⟩ := id ha
  obtain ⟨Ab, capb, rfl, hcb, hcapb, hbe⟩ := id hb
  refine fn_W (n := 40) Try.func42 rfl rfl (by kernel_rfl) (by simp) ?_
  refine gg ?_
  refine R1_call2 (rshape_ok _ _ r len M w ha) ?_
  rintro _ w0 ⟨hE0, rfl⟩
  obtain ⟨s1, c1, ok1, e1, h1⟩ := shapeV_cases r len
  rw [e1]
  rcases h1 with ⟨hok, rfl, rfl, rfl⟩ | ⟨hok, rfl, rfl, rfl⟩
  rotate_left
  · refine gg ?_
    refine W_seq ?_
    refine gg ?_
    exact ret2 rfl rfl rfl (rvb_bad (by unfold okApp; rw [hok]; rfl) hE0)
  by_cases hcl : c = len 0
  rotate_left
  · refine gg ?_
    refine W_seq ?_
    refine gg ?_
    exact ret2 rfl rfl rfl (rvb_bad (by unfold okApp; rw [decide_eq_false hcl, Bool.and_false]) hE0)
  obtain ⟨⟨hr1, hr2, hl1, hl2⟩, hlen⟩ := okM_iff.1 hok
  have hM := ha.sq (c := c) (fun i hi => by rw [hlen i hi, hcl])
  have hokA : okApp s1 len c = true := by unfold okApp; rw [hok, decide_eq_true hcl]; rfl
  have hc16 : c ≤ 16 := by omega
  have hbM : ∀ i j, i < s1 → j < c → Bd N (M i j) := fun i j hi hj => hM.bd hi hj
  have hbb : ∀ j, j < c → Bd N (b j) := fun j hj => hb.bd hj
  obtain ⟨r, hr⟩ : ∃ r, r = s1 := ⟨_, rfl⟩
  rw [← hr] at hokA hbM hM hr1 hr2 ⊢
  clear ha hok hlen e1 hl1 hl2
  obtain ⟨A', cap', e, hrc, hcap, hrow⟩ := id hM
  injection e with e1 _ e3
  subst e1 e3
  refine gg ?_
  refine W_seq ?_
  refine gg ?_
  refine W_seqM (fun f w' => ∃ v, f 9 = v ∧ Ext w0 w' ∧ GrowB w' v r true (N + N + 1) (appM c M b)) ?_ ?_
  · refine gg ?_
    refine W_loop (fun q f w' => ∃ i v, q = r - i ∧ i ≤ r ∧ f 1 = .slice Ab c capb ∧ f 9 = v ∧ f 26 = .slice A r cap ∧ f 27 = .int .i64 ((r : Nat) : Int) ∧ f 28 = .int .i64 ((i : Nat) : Int) ∧ Ext w0 w' ∧ GrowB w' v i true (N + N + 1) (appM c M b) ∧ ∀ b, some b = v.ownBlock → w0.heap.size ≤ b)
      r ⟨0, .slice none 0 0, rfl, Nat.zero_le _, rfl, rfl, rfl, rfl, rfl, Ext.refl _, GrowB.nil, fun b hb => by cases hb⟩ ?_
    rintro q f w2 ⟨i, v, rfl, hi, hf1, hf9, hf26, hf27, hf28, hE, hG, hown⟩
    rw [ui hf1, ui hf9, ui hf26, ui hf27, ui hf28]
    clear hf1 hf9 hf26 hf27 hf28
    by_cases hlt : i < r
    · obtain ⟨ad, u, rfl, hx, hru⟩ := hrow i hlt
      have hx1 := cell_ext (hE0.trans hE) hx
      refine gg ?_
      refine R1_call2 (dot_ok u _ c N (M i) b w2 (hru.ext (hE0.trans hE)) (hb.ext (hE0.trans hE)) (by omega) (by omega)) ?_
      rintro _ w3 ⟨hE3, x, y, rfl, hcv⟩
      refine gg ?_
      refine R1_sliceE1 (.inl rfl) rfl ?_
      intro w4 hB4 hE4 hs4
      obtain ⟨p1, p2⟩ := blkP hB4
      refine gg ?_
      refine R1_appE (.inl rfl) rfl rfl (hG.ext (hE3.trans hE4)) p1 p2 ((hcv.ext hE4).ev true (appM_bd (Nat.le_refl _) hc16 (fun t ht => hbM i t hlt ht) hbb)) (by omega) ?_
      intro v' w5 hG5 hk5 hC5 hv5
      have hs := (hE.trans (hE3.trans hE4)).size
      refine gg ?_
      refine ⟨_, ?_, i + 1, v', rfl, by omega, rfl, rfl, rfl, rfl, rfl, hC5.ext_of (hE.trans (hE3.trans hE4)) hown, hG5.congr fun k _ => ?_, fun b hb => ?_⟩
      · omega
      · split
        · rename_i e; rw [e]; rfl
        · rfl
      · rcases hv5 with e | e
        · rw [e] at hb; exact hown b hb
        · rw [e] at hb; injection hb with hb; omega
    · refine gg ?_
      obtain rfl : i = r := by omega
      exact ⟨v, rfl, hE, hG⟩
  rintro f w2 ⟨v, hf9, hE, hy⟩
  rw [ui hf9]
  clear hf9
  obtain ⟨Av, cv, rfl⟩ := hy.slice
  refine gg ?_
  refine ret2 (v := .slice _ _ _) (v' := .bool _) rfl rfl rfl ?_
  unfold RVB
  rw [hokA, if_pos rfl]
  exact ⟨hE0.trans hE, _, _, _, rfl, hy.rowC⟩
end Go.Proofs.Ytcjhcefnedonlaa
