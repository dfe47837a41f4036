/- Joined: Exc, Sol. -/
import Derived.Test.YtcjhcefnedonlaaQu
import Derived.Test.YtcjhcefnedonlaaQv
import Derived.Test.YtcjhcefnedonlaaQn
/- bareiss.exchange; the entries of Solve's table. -/
namespace Go.Proofs.Ytcjhcefnedonlaa
open Go Go.Eng Go.Num Go.Proofs
open Go.Det (sw swp2 swp2_sw sw_sw sw_lt)

section
variable {w w' : World} {gO gE r c N : Nat} {ps : Nat → Nat} {cn : Bool} {M : Nat → Nat → Int}
theorem TMat.swap {k p : Nat} (h : TMat w gO gE ps r c cn N M) (hk : k < r) (hp : p < r) (hC : Ch (fun b => b = gO) w w') (hkp : Kp w w')
    (hB : Blk w' gO 30 (arr r (upd (upd (fun i => .slice (some ⟨gE, 0 + ps i * c * 2, none⟩) c c) k (.slice (some ⟨gE, 0 + ps p * c * 2, none⟩) c c)) p (.slice (some ⟨gE, 0 + ps k * c * 2, none⟩) c c)))) :
    TMat w' gO gE (fun i => ps (sw k p i)) r c cn N (swp2 k p M) := by
  refine ⟨?_, ?_, h.ne, fun i hi => h.lt _ (sw_lt hk hp hi), fun i j hi hj e => ?_⟩
  · rw [arr_congr (h' := fun i => .slice (some ⟨gE, 0 + ps (sw k p i) * c * 2, none⟩) c c)] at hB
    · exact hB
    · intro i _
      unfold sw
      by_cases e1 : i = p
      · subst e1
        rw [upd_self]
        by_cases e2 : i = k
        · rw [if_pos e2, e2]
        · rw [if_neg e2, if_pos rfl]
      · rw [upd_ne _ _ e1]
        by_cases e2 : i = k
        · subst e2; rw [upd_self, if_pos rfl]
        · rw [upd_ne _ _ e2, if_neg e2, if_neg e1]
  · obtain ⟨F, h1, h2⟩ := h.flat
    refine ⟨F, h1.kp hkp hC h.ne, fun i j hi hj => ?_⟩
    rw [swp2_sw]
    exact h2 _ j (sw_lt hk hp hi) hj
  · have := h.inj _ _ (sw_lt hk hp hi) (sw_lt hk hp hj) e
    rw [← sw_sw k p i, this, sw_sw]
end
/-- what exchange leaves -/
def RExc (w : World) (gO gE : Nat) (ps : Nat → Nat) (n c : Nat) (cn : Bool) (N k : Nat) (A : Nat → Nat → Int) (v : Value) (w' : World) : Prop :=
  (v = .bool false ∧ Ext w w' ∧ ∀ i, k ≤ i → i < n → A i k = 0) ∨ (v = .bool true ∧ ∃ p, k ≤ p ∧ p < n ∧ A p k ≠ 0 ∧ Ch (fun b => b = gO) w w' ∧ Kp w w' ∧ TMat w' gO gE (fun i => ps (sw k p i)) n c cn N (swp2 k p A))

set_option maxHeartbeats 16000000 in
theorem exchange_ok (gO gE n c N k : Nat) (ps : Nat → Nat) (cn : Bool) (A : Nat → Nat → Int) (w : World) (hT : TMat w gO gE ps n c cn N A) (hk : k < n) (hc : k < c) (hn : n < 1048576) (hN : N < 1099511627776) :
    Meets Try.prog 66 #[.slice (some ⟨gO, 0, none⟩) n n, .int .i64 ((k : Nat) : Int)] w (RExc w gO gE ps n c cn N k A) := by
  refine fn_W (n := 36) Try.func66 rfl rfl (by kernel_rfl) (by simp) ?_
  refine gg ?_
  refine W_seqM (fun f w' => Ext w w' ∧ ∀ a, k ≤ a → a < n → A a k = 0) ?_ ?_
  · refine gg ?_
    refine W_loop (fun m f w' => ∃ i, m = n - i ∧ k ≤ i ∧ i ≤ n ∧ f 0 = .slice (some ⟨gO, 0, none⟩) n n ∧ f 1 = .int .i64 ((k : Nat) : Int) ∧ f 5 = .int .i64 ((i : Nat) : Int) ∧ Ext w w' ∧ ∀ a, k ≤ a → a < i → A a k = 0)
      (n - k) ⟨k, rfl, Nat.le_refl _, by omega, rfl, rfl, rfl, Ext.refl _, fun a h1 h2 => absurd h1 (by omega)⟩ ?_
    rintro m f w1 ⟨i, rfl, hki, hi, hf0, hf1, hf5, hE, hall⟩
    rw [ui hf0, ui hf1, ui hf5]
    clear hf0 hf1 hf5
    refine W_seq ?_
    by_cases hlt : i < n
    · have hT1 := hT.ext hE
      have k1 := hT1.at hlt
      obtain ⟨x, y, p1, p1', hv⟩ := hT1.entry hlt hc
      refine gg ?_
      refine R1_call2 (sign_ok _ _ _ _ w1 hv.1 hN) ?_
      rintro _ w2 ⟨hE2, rfl⟩
      clear k1 p1 p1'
      by_cases hz : A i k = 0
      · have hs : (A i k).sign = 0 := by rw [hz]; rfl
        refine gg ?_
        refine ⟨_, ?_, i + 1, rfl, by omega, by omega, rfl, rfl, rfl, hE.trans hE2, fun a h1 h2 => ?_⟩
        · omega
        · by_cases e : a = i
          · subst e; exact hz
          · exact hall a h1 (by omega)
      · have hs : ¬ (A i k).sign = 0 := fun e => hz (Int.sign_eq_zero_iff_zero.1 e)
        refine gg ?_
        refine W_seqD [(0, 3), (1, 3), (2, 3), (3, 3), (4, 3), (5, 3), (6, 3), (7, 0), (8, 3), (9, 3), (10, 3), (11, 0), (12, 3), (13, 2), (14, 3), (15, 2)] mixed (by kernel_rfl) (fun w3 hE3 _ => ?_)
        have hT3 := hT1.ext (hE2.trans hE3)
        have k1 := hT3.at hlt
        have k2 := hT3.at hk
        refine gg ?_
        refine R1_storeS (one_of rfl) (.inl rfl) rfl rfl hT3.outer (by rw [arr_size]; omega) ?_
        intro w4 hB4 hC4 hs4
        rw [arr_set, show 0 + k * 1 = k by omega] at hB4
        have hk4 := kp_ch hT3.outer (noInt_rows fun _ _ => ⟨_, _, _, rfl⟩).noU hC4
        clear k1 k2
        refine gg ?_
        refine R1_storeS (one_of rfl) (.inl rfl) rfl rfl hB4 (by rw [arr_size]; omega) ?_
        intro w5 hB5 hC5 hs5
        rw [arr_set, show 0 + i * 1 = i by omega] at hB5
        have hk5 := kp_ch hB4 (noInt_rows fun a _ => by
          by_cases e : a = k
          · subst e; exact ⟨_, _, _, upd_self _ _ _⟩
          · exact ⟨_, _, _, upd_ne _ _ e⟩).noU hC5
        have hE03 := hE.trans (hE2.trans hE3)
        have hC35 := hC4.trans hC5
        refine gg ?_
        exact ret1 (v := .bool _) rfl rfl (.inr ⟨rfl, i, hki, hlt, hz, (hE03.mono fun _ _ h => h.elim).trans hC35, (kp_ext hE03).trans (hk4.trans hk5), hT3.swap hk hlt hC35 (hk4.trans hk5) hB5⟩)
    · refine gg ?_
      exact ⟨hE, fun a h1 h2 => hall a h1 (by omega)⟩
  rintro f w1 ⟨hE, hall⟩
  refine gg ?_
  exact ret1 (v := .bool _) rfl rfl (.inl ⟨rfl, hE, hall⟩)

/-- the table that Solve starts from -/
def augM (n : Nat) (M : Nat → Nat → Int) (b : Nat → Int) : Nat → Nat → Int := fun i j => if j = n then b i else M i j
set_option maxHeartbeats 8000000 in
theorem solve1_ok (i j gN gB gA n N : Nat) (va vb : Value) (M : Nat → Nat → Int) (b : Nat → Int) (w : World) (hNn : Blk w gN 3 #[.int .i64 ((n : Nat) : Int)]) (hB : Blk w gB 30 #[vb]) (hA : Blk w gA 25 #[va])
    (ha : MatE (EI N) w va n (fun _ => n) M) (hb : RowE (EI N) w vb n b) (hi : i < n) (hj : j < n + 1) (_hn : n ≤ 16) :
    Meets Try.prog 65 #[.int .i64 ((i : Nat) : Int), .int .i64 ((j : Nat) : Int), .pointer (some ⟨gN, 0, none⟩), .pointer (some ⟨gB, 0, none⟩), .pointer (some ⟨gA, 0, none⟩)] w (REV w N false (augM n M b i j)) := by
  refine fn_W (n := 22) Try.func65 rfl rfl (by kernel_rfl) (by simp) ?_
  refine gg ?_
  refine R1_alloc (.inl rfl) z_Int ?_
  intro w1 hB1 hE1 hs1
  have hR1 : Bx w1 w.heap.size 1 false 0 := Bx.zero false hB1
  have f0 := blkS (hNn.ext hE1)
  have f1 := blkS (hB.ext hE1)
  have f2 := blkS (hA.ext hE1)
  refine gg ?_
  refine W_seq ?_
  by_cases hjn : j = n
  · obtain ⟨ab, cb, xb, yb, rfl, hxb, hyb, hvb⟩ := (hb.ext hE1).at hi
    refine gg ?_
    refine R1_storeBx (N' := N) (.inl rfl) rfl rfl hR1 ⟨hvb, fun e => by cases e⟩ ?_
    intro w6 hR6 hC6 hk6 hs6
    refine gg ?_
    obtain ⟨x, y, hB, hv⟩ := hR6
    refine retC rfl agg_Int rfl hB ⟨hC6.ext_of hE1 (fun b hb => by omega), x, y, rfl, ?_⟩
    unfold augM; rw [if_pos hjn]; exact hv
  · obtain ⟨ada, capa, ua, rfl, hua, hra⟩ := (ha.ext hE1).at hi
    obtain ⟨ada', capa', xa, ya, rfl, hxa, hya, hva⟩ := hra.at (show j < n by omega)
    refine gg ?_
    refine R1_storeBx (N' := N) (.inl rfl) rfl rfl hR1 ⟨hva, fun e => by cases e⟩ ?_
    intro w6 hR6 hC6 hk6 hs6
    refine gg ?_
    obtain ⟨x, y, hB, hv⟩ := hR6
    refine retC rfl agg_Int rfl hB ⟨hC6.ext_of hE1 (fun b hb => by omega), x, y, rfl, ?_⟩
    unfold augM; rw [if_neg hjn]; exact hv
end Go.Proofs.Ytcjhcefnedonlaa

/- bareiss.Solve. -/
namespace Go.Proofs.Ytcjhcefnedonlaa
open Go Go.Eng Go.Num Go.Proofs
open Go.Det (sw swp2 swp2_sw sw_sw sw_lt JI PR jst cr)

section
variable {w w' : World} {gO gE r c N i j : Nat} {ps : Nat → Nat} {cn : Bool} {M : Nat → Nat → Int} {z : Int}
theorem TMat.put {F : Nat → Int} (h : TMat w gO gE ps r c cn N M) (hi : i < r) (hj : j < c) (hF : ∀ i j, i < r → j < c → F (ps i * c + j) = M i j) (hr : RowB w' gE (r * c) cn (fun _ => N) (setZ F (ps i * c + j) z)) (hC : Ch (fun b => b = gE) w w') : TMat w' gO gE ps r c cn N (set2 M i j z) := by
  refine ⟨h.outer.ch hC h.ne.symm, ⟨_, hr, fun a b ha hb => ?_⟩, h.ne, h.lt, h.inj⟩
  simp only [setZ, set2]
  by_cases e : ps a * c + b = ps i * c + j
  · obtain ⟨e1, e2⟩ := idx_inj hb hj e
    rw [if_pos e, if_pos ⟨h.inj a i ha hi e1, e2⟩]
  · rw [if_neg e, if_neg fun q => e (by rw [q.1, q.2])]
    exact hF a b ha hb
end
section
variable {n : Nat} {S : World → World → Prop} {k : Nat} {K : Fr → World → Prop} {f : Fr} {w : World} {d ty t t2 : Nat} {x y : Operand} {pos : String} {aft : Array Edge} {gd : Option (Nat × Bool)}
/-- a store of an entry of a table -/
theorem R1_storeT {gO gE r c N i j : Nat} {ps : Nat → Nat} {cn : Bool} {M : Nat → Nat → Int} {z : Int} {a b : Value} (h0 : k = 2 ∨ k = 1 ∧ ∀ w', Ch (fun b => b = gE) w w' → S w w') (hx : ev n f x = .pointer (some ⟨gE, 0 + ps i * c * 2 + j * 2, none⟩)) (hy : ev n f y = .agg #[a, b]) (hT : TMat w gO gE ps r c cn N M) (hi : i < r) (hj : j < c) (hv : EV w N cn a b z)
    (h : ∀ w', TMat w' gO gE ps r c cn N (set2 M i j z) → Ch (fun b => b = gE) w w' → Kp w w' → w'.heap.size = w.heap.size → K f w') :
    R1 Try.prog n S k ⟨none, .store 35 x y, ty, pos, aft, gd⟩ K f w := by
  obtain ⟨F, hF, hFM⟩ := id hT.flat
  refine Go.Proofs.Ytcjhcefnedonlaa.R1_storeP h0 hx hy hF (idx_lt (hT.lt i hi) hj) hv ?_
  intro w' hr hC hk hs
  exact h w' (hT.put hi hj hFM hr hC) hC hk hs
end

/-- a list of Rats of the call's own -/
def RatB (w : World) (g n : Nat) (a b : Nat → Int) : Prop :=
  ∃ h, Blk w g 55 (arr (n * 4) h) ∧ ∀ i, i < n → CV w (h (i * 4)) (h (i * 4 + 1)) (a i) ∧ CV w (h (i * 4 + 2)) (h (i * 4 + 3)) (b i)
theorem CV.kinds {w : World} {x y : Value} {z : Int} (h : CV w x y z) : (∃ q, x = .bool q) ∧ ∃ A m c, y = .slice A m c := by
  obtain ⟨neg, A, l, c, rfl, rfl, _⟩ := h
  exact ⟨⟨_, rfl⟩, _, _, _, rfl⟩
theorem ratB_noInt {w : World} {n : Nat} {h : Nat → Value} {a b : Nat → Int} (hc : ∀ i, i < n → CV w (h (i * 4)) (h (i * 4 + 1)) (a i) ∧ CV w (h (i * 4 + 2)) (h (i * 4 + 3)) (b i)) : NoInt (arr (n * 4) h) := by
  intro i k z hz
  by_cases hi : i < n * 4
  · rw [arr_at hi] at hz
    have hz := Option.some.inj hz
    obtain ⟨h1, h2⟩ := hc (i / 4) (by omega)
    obtain ⟨⟨_, e0⟩, _, _, _, e1⟩ := h1.kinds
    obtain ⟨⟨_, e2⟩, _, _, _, e3⟩ := h2.kinds
    have hm : i % 4 = 0 ∨ i % 4 = 1 ∨ i % 4 = 2 ∨ i % 4 = 3 := by omega
    rcases hm with hm | hm | hm | hm
    · rw [show i / 4 * 4 = i by omega] at e0; rw [e0] at hz; cases hz
    · rw [show i / 4 * 4 + 1 = i by omega] at e1; rw [e1] at hz; cases hz
    · rw [show i / 4 * 4 + 2 = i by omega] at e2; rw [e2] at hz; cases hz
    · rw [show i / 4 * 4 + 3 = i by omega] at e3; rw [e3] at hz; cases hz
  · simp [arr, hi] at hz
theorem RatB.ext {w w' : World} {g n : Nat} {a b : Nat → Int} (h : RatB w g n a b) (hE : Ext w w') : RatB w' g n a b := by
  obtain ⟨h, hb, hc⟩ := h
  exact ⟨h, hb.ext hE, fun i hi => ⟨(hc i hi).1.ext hE, (hc i hi).2.ext hE⟩⟩
theorem RatB.congr {w : World} {g n : Nat} {a b a' b' : Nat → Int} (h : RatB w g n a b) (e : ∀ i, i < n → a i = a' i ∧ b i = b' i) : RatB w g n a' b' := by
  obtain ⟨h, hb, hc⟩ := h
  exact ⟨h, hb, fun i hi => by rw [← (e i hi).1, ← (e i hi).2]; exact hc i hi⟩
theorem ratB_made {w : World} {g n : Nat} (h : Blk w g 55 (madeCells (Value.agg #[.bool false, .slice none 0 0, .bool false, .slice none 0 0]).cells (n * 4))) : RatB w g n (fun _ => 0) (fun _ => 0) := by
  rw [arr_made] at h
  refine ⟨_, h, fun i hi => ?_⟩
  have e0 : (Value.agg #[.bool false, .slice none 0 0, .bool false, .slice none 0 0]).cells = #[.bool false, .slice none 0 0, .bool false, .slice none 0 0] := rfl
  simp only [e0]
  rw [show i * 4 % (#[Value.bool false, .slice none 0 0, .bool false, .slice none 0 0] : Array Value).size = 0 by simp, show (i * 4 + 1) % (#[Value.bool false, .slice none 0 0, .bool false, .slice none 0 0] : Array Value).size = 1 by simp, show (i * 4 + 2) % (#[Value.bool false, .slice none 0 0, .bool false, .slice none 0 0] : Array Value).size = 2 by simp, show (i * 4 + 3) % (#[Value.bool false, .slice none 0 0, .bool false, .slice none 0 0] : Array Value).size = 3 by simp]
  exact ⟨CV.zero w, CV.zero w⟩
section
variable {n : Nat} {S : World → World → Prop} {k : Nat} {K : Fr → World → Prop} {f : Fr} {w : World} {d ty t t2 : Nat} {x y : Operand} {pos : String} {aft : Array Edge} {gd : Option (Nat × Bool)}
theorem R1_storeRat {g m i : Nat} {a b : Nat → Int} {za zb : Int} {v0 v1 v2 v3 : Value} (h0 : k = 2 ∨ k = 1 ∧ ∀ w', Ch (fun b => b = g) w w' → S w w') (hx : ev n f x = .pointer (some ⟨g, 0 + i * 4, none⟩)) (hy : ev n f y = .agg #[v0, v1, v2, v3]) (hr : RatB w g m a b) (hi : i < m) (hv : CV w v0 v1 za) (hv' : CV w v2 v3 zb)
    (h : ∀ w', RatB w' g m (setZ a i za) (setZ b i zb) → Ch (fun b => b = g) w w' → Kp w w' → w'.heap.size = w.heap.size → K f w') :
    R1 Try.prog n S k ⟨none, .store 55 x y, ty, pos, aft, gd⟩ K f w := by
  obtain ⟨hh, hB, hc⟩ := hr
  refine R1_store4 agg_Rat h0 hx hy hv.one0 hv.one1 hv'.one0 hv'.one1 hB (by rw [arr_size]; omega) ?_
  intro w' hB' hC hs
  have hk := kp_ch hB (ratB_noInt hc).noU hC
  refine h w' ⟨_, by rw [arr_set, arr_set, arr_set, arr_set] at hB'; exact hB', fun q hq => ?_⟩ hC hk hs
  by_cases hqj : q = i
  · subst hqj
    simp only [setZ, if_true, Nat.zero_add]
    refine ⟨?_, ?_⟩
    · rw [upd_ne _ _ (show q * 4 ≠ q * 4 + 3 by omega), upd_ne _ _ (show q * 4 ≠ q * 4 + 2 by omega), upd_ne _ _ (show q * 4 ≠ q * 4 + 1 by omega), upd_self, upd_ne _ _ (show q * 4 + 1 ≠ q * 4 + 3 by omega), upd_ne _ _ (show q * 4 + 1 ≠ q * 4 + 2 by omega), upd_self]
      exact hv.kp hk
    · rw [upd_ne _ _ (show q * 4 + 2 ≠ q * 4 + 3 by omega), upd_self, upd_self]
      exact hv'.kp hk
  · simp only [setZ, if_neg hqj, Nat.zero_add]
    have u : ∀ t, t < 4 → upd (upd (upd (upd hh (i * 4) v0) (i * 4 + 1) v1) (i * 4 + 2) v2) (i * 4 + 3) v3 (q * 4 + t) = hh (q * 4 + t) := fun t ht => by
      rw [upd_ne _ _ (by omega), upd_ne _ _ (by omega), upd_ne _ _ (by omega), upd_ne _ _ (by omega)]
    have u0 : upd (upd (upd (upd hh (i * 4) v0) (i * 4 + 1) v1) (i * 4 + 2) v2) (i * 4 + 3) v3 (q * 4) = hh (q * 4) := u 0 (by omega)
    rw [u0, u 1 (by omega), u 2 (by omega), u 3 (by omega)]
    exact ⟨(hc q hq).1.kp hk, (hc q hq).2.kp hk⟩
end
/-- what Solve leaves -/
def RSol (w : World) (p : Prop) (n : Nat) (A : Nat → Nat → Int) (v : Value) (w' : World) : Prop :=
  Ext w w' ∧ ((¬ p ∧ v = .tuple #[.slice none 0 0, .int .i64 3]) ∨ (p ∧ Go.Det.det n A = 0 ∧ v = .tuple #[.slice none 0 0, .int .i64 8]) ∨ (p ∧ Go.Det.det n A ≠ 0 ∧ ∃ g, w.heap.size ≤ g ∧ v = .tuple #[.slice (some ⟨g, 0, none⟩) n n, .int .i64 0] ∧ RatB w' g n (fun i => lowN (cr n A i n) (Go.Det.det n A)) (fun i => lowD (cr n A i n) (Go.Det.det n A))))
theorem low_neg {a d : Int} (hd : d ≠ 0) : lowN (-a) (-d) = lowN a d ∧ lowD (-a) (-d) = lowD a d := by
  have hg : lowG (-a) (-d) = - lowG a d := by
    unfold lowG
    have e : Int.gcd (-a) (-d) = Int.gcd a d := by simp [Int.gcd]
    rw [e]
    by_cases h : d < 0
    · rw [if_neg (by omega), if_pos h]; omega
    · rw [if_pos (by omega), if_neg h]
  have h1 : lowG a d ∣ a := by
    unfold lowG; split
    · exact Int.neg_dvd.2 (Int.gcd_dvd_left ..)
    · exact Int.gcd_dvd_left ..
  have h2 : lowG a d ∣ d := by
    unfold lowG; split
    · exact Int.neg_dvd.2 (Int.gcd_dvd_right ..)
    · exact Int.gcd_dvd_right ..
  unfold lowN lowD
  rw [hg, Int.ediv_neg, Int.ediv_neg, Int.neg_ediv_of_dvd h1, Int.neg_ediv_of_dvd h2, Int.neg_neg, Int.neg_neg]
  exact ⟨rfl, rfl⟩
theorem low_sgn {s a d : Int} (hs : s = 1 ∨ s = -1) (hd : d ≠ 0) : lowN (s * a) (s * d) = lowN a d ∧ lowD (s * a) (s * d) = lowD a d := by
  rcases hs with rfl | rfl
  · rw [Int.one_mul, Int.one_mul]; exact ⟨rfl, rfl⟩
  · rw [Int.neg_mul, Int.one_mul, Int.neg_mul, Int.one_mul]; exact low_neg hd

set_option maxHeartbeats 32000000 in
theorem bsolve_ok (va vb : Value) (r N lb : Nat) (len : Nat → Nat) (M : Nat → Nat → Int) (bg : Nat → Int) (w : World) (ha : MatE (EI N) w va r len M) (hb : RowE (EI N) w vb lb bg) (hN1 : 1 ≤ N) (hN : N < 1048576) :
    Meets Try.prog 24 #[va, vb] w (RSol w (okS r len = true ∧ lb = r) r (augM r M bg)) := by
  obtain ⟨Aa, capa, hva, _⟩ := id ha
  obtain ⟨Ab, capb, hvb, _⟩ := id hb
  refine fn_W (n := 116) Try.func24 rfl rfl (by kernel_rfl) (by simp) ?_
  refine gg ?_
  refine R1_box (v := va) (.inl rfl) rfl ?_
  intro w1 hB1 hE1 hs1
  have hA1 : Blk w1 w.heap.size 25 #[va] := by rw [hva] at hB1 ⊢; exact hB1
  obtain ⟨gA, hgA⟩ : ∃ g, g = w.heap.size := ⟨_, rfl⟩
  rw [← hgA] at hA1 ⊢
  refine gg ?_
  refine R1_box (v := vb) (.inl rfl) rfl ?_
  intro w2 hB2 hE2 hs2
  have hA2 : Blk w2 w1.heap.size 30 #[vb] := by rw [hvb] at hB2 ⊢; exact hB2
  obtain ⟨gB, hgB⟩ : ∃ g, g = w1.heap.size := ⟨_, rfl⟩
  rw [← hgB] at hA2 ⊢
  replace hA1 := hA1.ext hE2
  have f1 := blkS hA1
  have f2 := blkS hA2
  clear hB1 hB2
  have hE02 := hE1.trans hE2
  refine gg ?_
  refine R1_call2 (square_ok _ va r len M w2 (ha.ext hE02)) ?_
  rintro _ _ ⟨rfl, n, rfl, hn⟩
  refine gg ?_
  refine R1_alloc (.inl rfl) z_int ?_
  intro w3 hB3 hE3 hs3
  refine gg ?_
  refine R1_storeI (one_of rfl) (.inl rfl) rfl rfl hB3 (by simp [Value.cells]) ?_
  intro w4 hB4 hC4 hs4
  have hN4 : Blk w4 w2.heap.size 3 #[.int .i64 ((n : Nat) : Int)] := hB4
  obtain ⟨gN, hgN⟩ : ∃ g, g = w2.heap.size := ⟨_, rfl⟩
  rw [← hgN] at hN4 ⊢
  have hE24 : Ext w2 w4 := hC4.ext_of hE3 (fun b hb => by omega)
  have hE04 := hE02.trans hE24
  replace hA1 := hA1.ext hE24
  replace hA2 := hA2.ext hE24
  replace f1 := blkS hA1
  replace f2 := blkS hA2
  have f3 := blkS hN4
  clear hB3 hB4 hE3 hC4 hE24 hE02 hE1 hE2
  by_cases hok : okS r len = true
  rotate_left
  · have hok' : okS r len = false := by simpa using hok
    rw [hok']
    refine gg ?_
    refine W_seq ?_
    refine gg ?_
    exact ret2 (v := .slice _ _ _) (v' := .int _ _) rfl rfl rfl ⟨hE04, .inl ⟨fun h => (by cases h.1), rfl⟩⟩
  obtain rfl := hn hok
  obtain ⟨hr1, hr2, hlen⟩ := okS_iff.1 hok
  rw [hok]
  clear hn
  by_cases hlb : lb = n
  rotate_left
  · subst hvb
    refine gg ?_
    refine W_seq ?_
    refine gg ?_
    exact ret2 (v := .slice _ _ _) (v' := .int _ _) rfl rfl rfl ⟨hE04, .inl ⟨fun h => hlb h.2, rfl⟩⟩
  obtain rfl : n = lb := hlb.symm
  have hM := (ha.sq hlen).ext hE04
  have hbr := hb.ext hE04
  obtain ⟨A0, hA0⟩ : ∃ A0, A0 = augM n M bg := ⟨_, rfl⟩
  rw [← hA0]
  have hvb' : vb = .slice Ab n capb := hvb
  rw [hvb'] at f2
  refine gg ?_
  refine W_seq ?_
  refine gg ?_
  refine R1_func0 ?_
  refine gg ?_
  refine R1_call2 (table_ok n (n + 1) _ N false _ A0 w4 (by omega) (by omega) (by omega) (fun i j hi hj w' hE' => by
    rw [hA0]
    exact solve1_ok i j gN gB gA n N va vb M bg w' (hN4.ext hE') (hA2.ext hE') (hA1.ext hE') (hM.ext hE') (hbr.ext hE') hi hj hr2)) ?_
  rintro _ w5 ⟨hE5, gO, gE, rfl, hgO, hgE, hT⟩
  clear f1 f2 f3
  refine gg ?_
  refine R1_call2 (small_ok 1 w5 (by decide) (by decide)) ?_
  rintro _ w6 ⟨hE6, a1, b1, rfl, hc1⟩
  have hb1 : Bd N 1 := Bd.mono (N := 1) (by unfold Bd; decide) hN1
  have hO6 := (hT.ext hE6).outer.lt
  have hF6 : gE < w6.heap.size := by obtain ⟨_, h4, _⟩ := (hT.ext hE6).flat; exact h4.lt
  have hNlt := hN4.lt
  have hs45 := hE5.size
  have hs56 := hE6.size
  have hs04 := hE04.size
  refine gg ?_
  refine R1_alloc (.inl rfl) z_Int ?_
  intro w7a hBa_ hEa_ hsa_
  have hG0_ : Bx w7a w6.heap.size 1 true 0 := Bx.zero true hBa_
  obtain ⟨gL, hg_⟩ : ∃ g, g = w6.heap.size := ⟨_, rfl⟩
  rw [← hg_] at hG0_ ⊢
  refine gg ?_
  refine R1_storeBx (.inl rfl) rfl rfl hG0_ ((hc1.ext hEa_).ev true hb1) ?_
  intro w7 hL hCb_ hkb_ hsb_
  have hE7 : Ext w6 w7 := hCb_.ext_of hEa_ (fun b hb => by omega)
  have hfr_gL : w6.heap.size ≤ gL := by omega
  clear hG0_ hBa_ hEa_ hsa_ hsb_ hCb_ hkb_ hg_
  replace hT := hT.ext (hE6.trans hE7)
  have hE47 := hE5.trans (hE6.trans hE7)
  replace hN4 := hN4.ext hE47
  have hE07 := hE04.trans hE47
  have f3 := blkS hN4
  have hgNL : gN ≠ gL ∧ gN ≠ gO ∧ gN ≠ gE ∧ gL ≠ gO ∧ gL ≠ gE := by omega
  have hge : w.heap.size ≤ gO ∧ w.heap.size ≤ gE ∧ w.heap.size ≤ gL := by omega
  have hEO := hT.ne
  clear hc1 hb1 hO6 hF6 hNlt hs45 hs56 hs04 hE5 hE6 hE7 hE47 hE04 hA1 hA2 hM hbr hgO hgE hfr_gL ha hb
  refine gg ?_
  refine W_seqM (fun f w' => ∃ A P l s ps, f 6 = .pointer (some ⟨gN, 0, none⟩) ∧ f 8 = .slice (some ⟨gO, 0, none⟩) n n ∧ f 9 = .pointer (some ⟨gL, 0, none⟩) ∧ Ext w w' ∧ TMat w' gO gE ps n (n + 1) false (Nb N n) A ∧ Bx w' gL (Nb N n) false l ∧ JI n n A P l ∧ PR n P A0 s ∧ Blk w' gN 3 #[.int .i64 ((n : Nat) : Int)]) ?_ ?_
  · refine gg ?_
    refine W_loop (fun m f w' => ∃ k A P l s ps, m = n - k ∧ k ≤ n ∧ f 6 = .pointer (some ⟨gN, 0, none⟩) ∧ f 8 = .slice (some ⟨gO, 0, none⟩) n n ∧ f 9 = .pointer (some ⟨gL, 0, none⟩) ∧ f 37 = .int .i64 ((n : Nat) : Int) ∧ f 38 = .int .i64 ((k : Nat) : Int) ∧ Ext w w' ∧ TMat w' gO gE ps n (n + 1) false (Nb N k) A ∧ Bx w' gL (Nb N k) false l ∧ JI n k A P l ∧ PR n P A0 s ∧ Blk w' gN 3 #[.int .i64 ((n : Nat) : Int)])
      n ⟨0, A0, A0, 1, 1, fun i => i, rfl, Nat.zero_le _, rfl, rfl, rfl, rfl, rfl, hE07, hT, ?_, JI.start n A0, PR.start n A0, hN4⟩ ?_
    · obtain ⟨x, y, q1, q2⟩ := hL
      exact ⟨x, y, q1, q2.1, fun e => by cases e⟩
    clear hE07 hT hL hN4 f3
    rintro m f w8 ⟨k, A, P, l, s, ps, rfl, hk, hf6, hf8, hf9, hf37, hf38, hE, hT, hL, hJ, hP, hN8⟩
    rw [ui hf6, ui hf8, ui hf9, ui hf37, ui hf38]
    clear hf6 hf8 hf9 hf37 hf38
    by_cases hlt : k < n
    rotate_left
    · obtain rfl : k = n := by omega
      refine gg ?_
      exact ⟨A, P, l, s, ps, rfl, rfl, rfl, hE, hT, hL, hJ, hP, hN8⟩
    have hNb := Nb_big hN (show k + 1 ≤ 16 by omega)
    have hNk := Nb_mono N k
    refine gg ?_
    refine W_seq ?_
    refine gg ?_
    refine R1_call2 (exchange_ok gO gE n (n + 1) (Nb N k) k ps false A w8 hT hlt (by omega) (by omega) (by omega)) ?_
    rintro _ w9 (⟨rfl, hE9, hall⟩ | ⟨rfl, p, hkp, hp, hpz, hC9, hk9, hT9⟩)
    · refine gg ?_
      have hd := hJ.sing hlt hall
      rw [hP.det] at hd
      refine ret2 (v := .slice _ _ _) (v' := .int _ _) rfl rfl rfl ⟨hE.trans hE9, .inr (.inl ⟨⟨rfl, rfl⟩, ?_, rfl⟩)⟩
      rcases Int.mul_eq_zero.1 hd with h | h
      · rcases hP.1 with e | e <;> rw [e] at h <;> cases h
      · exact h
    have hL9 := hL.kp hk9 hC9 (by omega)
    have hN9 := hN8.ch hC9 (by omega)
    have hE9 : Ext w w9 := hC9.ext_of hE (fun b hb => by omega)
    obtain ⟨s', hP'⟩ := hP.swap hlt hp
    have hJ' := hJ.swap hkp hp
    obtain ⟨A', hA'⟩ : ∃ A', A' = swp2 k p A := ⟨_, rfl⟩
    have hkk : A' k k ≠ 0 := by
      rw [hA', swp2_sw]
      unfold sw
      rw [if_pos rfl]; exact hpz
    rw [← hA'] at hT9 hJ'
    obtain ⟨ps', hps'⟩ : ∃ ps', ps' = fun i => ps (sw k p i) := ⟨_, rfl⟩
    rw [← hps'] at hT9
    obtain ⟨P', hP''⟩ : ∃ P', P' = swp2 k p P := ⟨_, rfl⟩
    rw [← hP''] at hP' hJ'
    have hbd : ∀ a b, a < n → b < n + 1 → Bd (Nb N k) (A' a b) := fun a b ha hb => hT9.bd ha hb
    clear hT hL hN8 hJ hP hA' hps' hP'' hpz hE hk9 hC9 hkp hp A P s ps p
    have k1 := hT9.at hlt
    refine gg ?_
    clear k1
    refine W_seqM (fun f w' => f 6 = .pointer (some ⟨gN, 0, none⟩) ∧ f 8 = .slice (some ⟨gO, 0, none⟩) n n ∧ f 9 = .pointer (some ⟨gL, 0, none⟩) ∧ f 37 = .int .i64 ((n : Nat) : Int) ∧ f 38 = .int .i64 ((k : Nat) : Int) ∧ f 10 = .int .i64 ((k : Nat) : Int) ∧ f 11 = .slice (some ⟨gE, 0 + ps' k * (n + 1) * 2, none⟩) (n + 1) (n + 1) ∧ Ext w w' ∧ TMat w' gO gE ps' n (n + 1) false (Nb N (k + 1)) (fun a b => if a ≠ k ∧ k < b then jst k A' l a b else A' a b) ∧ Bx w' gL (Nb N k) false l ∧ Blk w' gN 3 #[.int .i64 ((n : Nat) : Int)]) ?_ ?_
    · refine gg ?_
      refine W_loop (fun m f w' => ∃ i, m = n - i ∧ i ≤ n ∧ f 6 = .pointer (some ⟨gN, 0, none⟩) ∧ f 8 = .slice (some ⟨gO, 0, none⟩) n n ∧ f 9 = .pointer (some ⟨gL, 0, none⟩) ∧ f 37 = .int .i64 ((n : Nat) : Int) ∧ f 38 = .int .i64 ((k : Nat) : Int) ∧ f 10 = .int .i64 ((k : Nat) : Int) ∧ f 11 = .slice (some ⟨gE, 0 + ps' k * (n + 1) * 2, none⟩) (n + 1) (n + 1) ∧ f 49 = .slice (some ⟨gO, 0, none⟩) n n ∧ f 50 = .int .i64 ((n : Nat) : Int) ∧ f 51 = .int .i64 ((i : Nat) : Int) ∧ Ext w w' ∧ TMat w' gO gE ps' n (n + 1) false (Nb N (k + 1)) (fun a b => if a < i ∧ a ≠ k ∧ k < b then jst k A' l a b else A' a b) ∧ Bx w' gL (Nb N k) false l ∧ Blk w' gN 3 #[.int .i64 ((n : Nat) : Int)])
        n ⟨0, rfl, Nat.zero_le _, rfl, rfl, rfl, rfl, rfl, rfl, rfl, rfl, rfl, rfl, hE9, hT9.congr hNk (fun a b _ _ => by rw [if_neg (by omega)]), hL9, hN9⟩ ?_
      clear hT9 hL9 hN9 hE9
      rintro m f w10 ⟨i, rfl, hi, hf6, hf8, hf9, hf37, hf38, hf10, hf11, hf49, hf50, hf51, hE, hT, hL, hNn⟩
      rw [ui hf6, ui hf8, ui hf9, ui hf37, ui hf38, ui hf10, ui hf11, ui hf49, ui hf50, ui hf51]
      clear hf6 hf8 hf9 hf37 hf38 hf10 hf11 hf49 hf50 hf51
      by_cases hil : i < n
      rotate_left
      · refine gg ?_
        exact ⟨rfl, rfl, rfl, rfl, rfl, rfl, rfl, hE, hT.congr (Nat.le_refl _) (fun a b ha hb => by
          by_cases h : a ≠ k ∧ k < b
          · rw [if_pos h, if_pos ⟨by omega, h⟩]
          · rw [if_neg h, if_neg (fun q => h q.2)]), hL, hNn⟩
      have k1 := hT.at hil
      refine gg ?_
      clear k1
      by_cases hik : i = k
      · refine gg ?_
        refine W_seq ?_
        refine gg ?_
        refine ⟨_, ?_, i + 1, rfl, by omega, rfl, rfl, rfl, rfl, rfl, rfl, rfl, rfl, rfl, rfl, hE, hT.congr (Nat.le_refl _) (fun a b ha hb => ?_), hL, hNn⟩
        · omega
        · by_cases h : a < i ∧ a ≠ k ∧ k < b
          · rw [if_pos h, if_pos (by omega)]
          · rw [if_neg h, if_neg (by omega)]
      refine gg ?_
      refine W_seq ?_
      refine gg ?_
      refine W_loop (fun m f w' => ∃ j, m = n + 1 - j ∧ k < j ∧ j ≤ n + 1 ∧ f 6 = .pointer (some ⟨gN, 0, none⟩) ∧ f 8 = .slice (some ⟨gO, 0, none⟩) n n ∧ f 9 = .pointer (some ⟨gL, 0, none⟩) ∧ f 37 = .int .i64 ((n : Nat) : Int) ∧ f 38 = .int .i64 ((k : Nat) : Int) ∧ f 10 = .int .i64 ((k : Nat) : Int) ∧ f 11 = .slice (some ⟨gE, 0 + ps' k * (n + 1) * 2, none⟩) (n + 1) (n + 1) ∧ f 49 = .slice (some ⟨gO, 0, none⟩) n n ∧ f 50 = .int .i64 ((n : Nat) : Int) ∧ f 51 = .int .i64 ((i : Nat) : Int) ∧ f 12 = .int .i64 ((i : Nat) : Int) ∧ f 13 = .slice (some ⟨gE, 0 + ps' i * (n + 1) * 2, none⟩) (n + 1) (n + 1) ∧ f 14 = .int .i64 ((j : Nat) : Int) ∧ Ext w w' ∧ TMat w' gO gE ps' n (n + 1) false (Nb N (k + 1)) (fun a b => if (a < i ∨ a = i ∧ b < j) ∧ a ≠ k ∧ k < b then jst k A' l a b else A' a b) ∧ Bx w' gL (Nb N k) false l ∧ Blk w' gN 3 #[.int .i64 ((n : Nat) : Int)])
        (n + 1 - (k + 1)) ⟨k + 1, rfl, by omega, by omega, rfl, rfl, rfl, rfl, rfl, rfl, rfl, rfl, rfl, rfl, rfl, rfl, rfl, hE, hT.congr (Nat.le_refl _) (fun a b _ _ => ?_), hL, hNn⟩ ?_
      · by_cases h : a < i ∧ a ≠ k ∧ k < b
        · rw [if_pos h, if_pos (by omega)]
        · rw [if_neg h, if_neg (by omega)]
      clear hE hT hL hNn
      rintro m f w11 ⟨j, rfl, hkj, hj, hf6, hf8, hf9, hf37, hf38, hf10, hf11, hf49, hf50, hf51, hf12, hf13, hf14, hE, hT, hL, hNn⟩
      rw [ui hf6, ui hf8, ui hf9, ui hf37, ui hf38, ui hf10, ui hf11, ui hf49, ui hf50, ui hf51, ui hf12, ui hf13, ui hf14]
      clear hf6 hf8 hf9 hf37 hf38 hf10 hf11 hf49 hf50 hf51 hf12 hf13 hf14
      have f3 := blkS hNn
      refine W_seq ?_
      by_cases hjn : j ≤ n
      rotate_left
      · refine gg ?_
        refine ⟨_, ?_, i + 1, rfl, by omega, rfl, rfl, rfl, rfl, rfl, rfl, rfl, rfl, rfl, rfl, hE, hT.congr (Nat.le_refl _) (fun a b ha hb => ?_), hL, hNn⟩
        · omega
        · by_cases h : a < i + 1 ∧ a ≠ k ∧ k < b
          · rw [if_pos h, if_pos (by omega)]
          · rw [if_neg h, if_neg (by omega)]
      refine gg ?_
      clear f3
      refine W_regD [(0, 3), (1, 3), (2, 3), (3, 3), (4, 3), (5, 0), (6, 3), (7, 3), (8, 3), (9, 0), (10, 3), (11, 3), (12, 3), (13, 0), (14, 3), (15, 3), (16, 3), (17, 0), (18, 0), (19, 1), (20, 3), (21, 2)] mixed (by kernel_rfl) (fun w12 hE12 _ => ?_)
      have hT2 := hT.ext hE12
      obtain ⟨x1, y1, p1, p1', hv1⟩ := hT2.entry (i := k) (j := k) hlt (by omega)
      obtain ⟨x2, y2, p2, p2', hv2⟩ := hT2.entry (i := i) (j := k) hil (by omega)
      obtain ⟨x3, y3, p3, p3', hv3⟩ := hT2.entry (i := k) (j := j) hlt (by omega)
      obtain ⟨x4, y4, p4, p4', hv4⟩ := hT2.entry (i := i) (j := j) hil (by omega)
      rw [if_neg (by omega)] at hv1 hv2 hv3 hv4
      obtain ⟨x5, y5, hB5, hv5⟩ := hL.ext hE12
      obtain ⟨p5, p5'⟩ := blkP hB5
      refine gg ?_
      refine R1_call1 (cross_ok _ _ _ _ _ _ _ _ _ _ _ _ _ _ _ (Nb N (k + 1)) w12 hv1.1 hv2.1 hv3.1 hv4.1 (hv5.1.mono hNk) (by omega) hJ'.ne) ?_
      rintro _ w13 ⟨hE13, a, b, rfl, hc⟩
      refine ⟨hE13, ?_⟩
      have hbj : Bd (Nb N (k + 1)) (jst k A' l i j) := by
        have e : Nb N (k + 1) = Nb N k + Nb N k + 1 := by simp only [Nb]; omega
        rw [e]
        exact (((hbd k k hlt (by omega)).mul (hbd i j hil (by omega))).sub ((hbd i k hil (by omega)).mul (hbd k j hlt (by omega)))).ediv
      have hc : CV w13 a b (jst k A' l i j) := hc
      refine gg ?_
      refine R1_storeT (.inl rfl) rfl rfl (hT2.ext hE13) hil (by omega) (hc.ev false hbj) ?_
      intro w14 hT14 hC14 hk14 hs14
      have hE1213 := hE12.trans hE13
      refine gg ?_
      refine ⟨_, ?_, j + 1, rfl, by omega, by omega, rfl, rfl, rfl, rfl, rfl, rfl, rfl, rfl, rfl, rfl, rfl, rfl, rfl, hC14.ext_of (hE.trans hE1213) (fun b hb => by omega), hT14.congr (Nat.le_refl _) (fun a' b' ha' hb' => ?_), (hL.ext hE1213).kp hk14 hC14 (by omega), (hNn.ext hE1213).ch hC14 (by omega)⟩
      · omega
      · simp only [set2]
        by_cases e : a' = i ∧ b' = j
        · rw [if_pos e, if_pos (by omega), e.1, e.2]
        · rw [if_neg e]
          by_cases h : (a' < i ∨ a' = i ∧ b' < j) ∧ a' ≠ k ∧ k < b'
          · rw [if_pos h, if_pos (by omega)]
          · rw [if_neg h, if_neg (by omega)]
    rintro f w10 ⟨hf6, hf8, hf9, hf37, hf38, hf10, hf11, hE, hT, hL, hNn⟩
    rw [ui hf6, ui hf8, ui hf9, ui hf37, ui hf38, ui hf10, ui hf11]
    clear hf6 hf8 hf9 hf37 hf38 hf10 hf11
    obtain ⟨x1, y1, p1, p1', hv1⟩ := hT.entry (i := k) (j := k) hlt (by omega)
    rw [if_neg (by omega)] at hv1
    refine gg ?_
    refine R1_storeBx (.inl rfl) rfl rfl hL hv1 ?_
    intro w11 hL11 hC11 hk11 hs11
    refine gg ?_
    refine ⟨_, ?_, k + 1, _, P', A' k k, s', ps', rfl, by omega, rfl, rfl, rfl, rfl, rfl, hC11.ext_of hE (fun b hb => by omega), hT.kp hk11 hC11 (by omega) (by omega), hL11, hJ'.step hlt hkk (fun a b ha h1 h2 => ?_), hP', hNn.ch hC11 (by omega)⟩
    · omega
    · by_cases e : a = k
      · rw [if_pos e, if_neg (by omega)]
      · rw [if_neg e, if_pos ⟨e, h1⟩]
  clear hE07 hT hL hN4 f3
  rintro f w8 ⟨A, P, l, s, ps, hf6, hf8, hf9, hE, hT, hL, hJ, hP, hN8⟩
  rw [ui hf6, ui hf8, ui hf9]
  clear hf6 hf8 hf9
  have f3 := blkS hN8
  refine gg ?_
  refine R1_make sl_Rat (.inl rfl) rfl rfl (Nat.le_refl _) (by omega) (by omega) ?_
  intro w9 hB9 hE9 hs9
  have hX := ratB_made hB9
  obtain ⟨gX, hgX⟩ : ∃ g, g = w8.heap.size := ⟨_, rfl⟩
  rw [← hgX] at hX ⊢
  clear hB9 f3
  have hNb := Nb_big hN hr2
  have hlne := hJ.ne
  refine gg ?_
  refine W_seqM (fun f w' => f 15 = .slice (some ⟨gX, 0, none⟩) n n ∧ Ext w w' ∧ RatB w' gX n (fun q => lowN (A q n) l) (fun q => lowD (A q n) l)) ?_ ?_
  · refine gg ?_
    refine W_loop (fun m f w' => ∃ i, m = n - i ∧ i ≤ n ∧ f 6 = .pointer (some ⟨gN, 0, none⟩) ∧ f 8 = .slice (some ⟨gO, 0, none⟩) n n ∧ f 9 = .pointer (some ⟨gL, 0, none⟩) ∧ f 15 = .slice (some ⟨gX, 0, none⟩) n n ∧ f 95 = .slice (some ⟨gO, 0, none⟩) n n ∧ f 96 = .int .i64 ((n : Nat) : Int) ∧ f 97 = .int .i64 ((i : Nat) : Int) ∧ Ext w8 w' ∧ RatB w' gX n (fun q => if q < i then lowN (A q n) l else 0) (fun q => if q < i then lowD (A q n) l else 0))
      n ⟨0, rfl, Nat.zero_le _, rfl, rfl, rfl, rfl, rfl, rfl, rfl, hE9, hX.congr (fun q _ => ⟨by rw [if_neg (by omega)], by rw [if_neg (by omega)]⟩)⟩ ?_
    clear hE9 hX hs9
    rintro m f w10 ⟨i, rfl, hi, hf6, hf8, hf9, hf15, hf95, hf96, hf97, hE10, hX⟩
    rw [ui hf6, ui hf8, ui hf9, ui hf15, ui hf95, ui hf96, ui hf97]
    clear hf6 hf8 hf9 hf15 hf95 hf96 hf97
    by_cases hil : i < n
    rotate_left
    · refine gg ?_
      exact ⟨rfl, hE.trans hE10, hX.congr (fun q hq => ⟨by rw [if_pos (by omega)], by rw [if_pos (by omega)]⟩)⟩
    have k1 := (hT.ext hE10).at hil
    refine gg ?_
    clear k1
    refine W_regD [(0, 3), (1, 3), (2, 3), (3, 0), (4, 3), (5, 0), (6, 0), (7, 1), (8, 3), (9, 3), (10, 3), (11, 3), (12, 2)] mixed (by kernel_rfl) (fun w11 hE11 _ => ?_)
    have hE811 := hE10.trans hE11
    obtain ⟨x1, y1, p1, p1', hv1⟩ := (hT.ext hE811).entry (i := i) (j := n) hil (by omega)
    obtain ⟨x5, y5, hB5, hv5⟩ := hL.ext hE811
    obtain ⟨p5, p5'⟩ := blkP hB5
    have f3 := blkS (hN8.ext hE811)
    refine gg ?_
    refine R1_call1 (ratNew_ok _ _ _ _ _ _ (Nb N n) w11 hv1.1 hv5.1 (by omega) hlne) ?_
    rintro _ w12 ⟨_, rfl, hE12, x, y, x', y', rfl, hc1, hc2⟩
    refine ⟨hE12, ?_⟩
    refine gg ?_
    refine R1_indexB sl_Rat rfl rfl (by omega) ?_
    refine gg ?_
    refine R1_storeRat (.inl rfl) rfl rfl (hX.ext (hE11.trans hE12)) hil hc1 hc2 ?_
    intro w13 hX13 hC13 hk13 hs13
    refine gg ?_
    refine ⟨_, ?_, i + 1, rfl, by omega, rfl, rfl, rfl, rfl, rfl, rfl, rfl, hC13.ext_of (hE811.trans hE12) (fun b hb => by omega), hX13.congr (fun q hq => ?_)⟩
    · omega
    · simp only [setZ]
      by_cases e : q = i
      · rw [if_pos e, if_pos e, if_pos (by omega), if_pos (by omega), e]; exact ⟨rfl, rfl⟩
      · rw [if_neg e, if_neg e]
        by_cases h : q < i
        · rw [if_pos h, if_pos h, if_pos (by omega), if_pos (by omega)]; exact ⟨rfl, rfl⟩
        · rw [if_neg h, if_neg h, if_neg (by omega), if_neg (by omega)]; exact ⟨rfl, rfl⟩
  rintro f w10 ⟨hf15, hE10, hX10⟩
  rw [ui hf15]
  have hld : l = s * Go.Det.det n A0 := by rw [hJ.eq, hP.det]
  have hd0 : Go.Det.det n A0 ≠ 0 := fun e => hlne (by rw [hld, e, Int.mul_zero])
  refine gg ?_
  refine ret2 (v := .slice _ _ _) (v' := .int _ _) rfl rfl rfl ⟨hE10, .inr (.inr ⟨⟨rfl, rfl⟩, hd0, gX, (by have := hE.size; omega), rfl, hX10.congr (fun q hq => ?_)⟩)⟩
  rw [hJ.lt q n hq hq (Nat.le_refl _) (Nat.le_refl _), hP.cr, hld]
  exact low_sgn hP.1 hd0
end Go.Proofs.Ytcjhcefnedonlaa
