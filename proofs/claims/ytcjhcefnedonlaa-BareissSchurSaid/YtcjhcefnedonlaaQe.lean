/- Joined: Matj, Matk, Matl, Awa, Lwa, Frm. -/
import Derived.Test.YtcjhcefnedonlaaQd
import Derived.Test.YtcjhcefnedonlaaRows
import Derived.Test.YtcjhcefnedonlaaQa
import Derived.ProofKit
import Derived.SizedLaws
/- matrix.Det, Mul, negated. -/
namespace Go.Proofs.Ytcjhcefnedonlaa
open Go Go.Eng Go.Num Go.Proofs

/-- the end of a function: an Int in a box, and a bool -/
theorem retCB {P : Program} {n : Nat} {f : Fr} {w : World} {fn : Func} {t u : Tmp} {T G : Nat} {post : Value → World → Prop} {x y v : Value} (hr : fn.results = #[.cell t T, .tmp u]) (hT : aggTy P T 2 = true) (hv : ev n f (.tmp t) = .pointer (some ⟨G, 0, none⟩)) (hb : Blk w G T #[x, y]) (hu : ev n f (.tmp u) = v) (h : post (.tuple #[.agg #[x, y], v]) w) :
    bodyPost P fn (Ret post) .ret (act n f) w := by
  refine bodyPost_ret (v := .tuple #[.agg #[x, y], v]) ?_ rfl ⟨_, rfl, h⟩
  have e := congrFun (act_eval n f) (.tmp t)
  have e2 := congrFun (act_eval n f) (.tmp u)
  simp only [Act.eval] at e e2
  have h0 : w.cell? ⟨G, 0, none⟩ = some x := by rw [hb.cell]; rfl
  have h1 : w.cell? ((⟨G, 0, none⟩ : Addr).add 1) = some y := by rw [add_lit, hb.cell]; rfl
  have hl := run_load_two (P := P) hT h0 h1
  simp only [Instr.loadAt, Instr.sureAddr, Sem.run_bind, Sem.run_pure, Result.andThen_ok] at hl
  have e' : (act n f).tmps[t]?.getD undef = .pointer (some ⟨G, 0, none⟩) := by rw [← hv, ← e]; simp
  have e2' : (act n f).tmps[u]?.getD undef = v := by rw [← hu, ← e2]; simp
  simp [results, hr, e', e2', asAddr, hl]

/-- what a function that returns an Int and a bool leaves -/
def RIB (w : World) (ok : Bool) (z : Int) (v : Value) (w' : World) : Prop :=
  Ext w w' ∧ ∃ x y, v = .tuple #[.agg #[x, y], .bool ok] ∧ CV w' x y (if ok then z else 0)
def okS (r : Nat) (len : Nat → Nat) : Bool := okM r len && decide (r = len 0)
theorem okS_iff {r : Nat} {len : Nat → Nat} : okS r len = true ↔ 1 ≤ r ∧ r ≤ 16 ∧ ∀ i, i < r → len i = r := by
  simp only [okS, Bool.and_eq_true, decide_eq_true_eq, okM_iff]
  constructor
  · rintro ⟨⟨⟨h1, h2, h3, h4⟩, h5⟩, h6⟩
    exact ⟨h1, h2, fun i hi => by rw [h5 i hi, ← h6]⟩
  · rintro ⟨h1, h2, h3⟩
    have h0 := h3 0 (by omega)
    exact ⟨⟨⟨h1, h2, by omega, by omega⟩, fun i hi => by rw [h3 i hi, h0]⟩, h0.symm⟩
/-- all rows have the same length -/
theorem MatE.sq {E : World → Value → Value → Int → Prop} {w : World} {v : Value} {r c : Nat} {len : Nat → Nat} {M : Nat → Nat → Int} (h : MatE E w v r len M) (hl : ∀ i, i < r → len i = c) : MatE E w v r (fun _ => c) M := by
  obtain ⟨A, cap, rfl, h1, h2, h3⟩ := h
  refine ⟨A, cap, rfl, h1, h2, fun i hi => ?_⟩
  obtain ⟨ad, u, e, hu, hr⟩ := h3 i hi
  rw [hl i hi] at hr
  exact ⟨ad, u, e, hu, hr⟩

/-- an entry of a matrix, read -/
theorem MatE.at {E : World → Value → Value → Int → Prop} {w : World} {v : Value} {r c i : Nat} {M : Nat → Nat → Int} (h : MatE E w v r (fun _ => c) M) (hi : i < r) :
    ∃ ad cap u, v = .slice (some ad) r cap ∧ w.cell? (ad.add (i * 1)) = some u ∧ RowE E w u c (M i) := by
  obtain ⟨A, cap, rfl, h1, h2, h3⟩ := h
  obtain ⟨ad, u, rfl, hu, hr⟩ := h3 i hi
  exact ⟨ad, cap, u, rfl, hu, hr⟩
theorem RowE.at {E : World → Value → Value → Int → Prop} {w : World} {v : Value} {c j : Nat} {g : Nat → Int} (h : RowE E w v c g) (hj : j < c) :
    ∃ ad cap x y, v = .slice (some ad) c cap ∧ w.cell? (ad.add (j * 2)) = some x ∧ w.cell? ((ad.add (j * 2)).add 1) = some y ∧ E w x y (g j) := by
  obtain ⟨A, cap, rfl, h1, h2, h3⟩ := h
  obtain ⟨ad, x, y, rfl, hx, hy, he⟩ := h3 j hj
  exact ⟨ad, cap, x, y, rfl, hx, hy, he⟩

theorem MatE.bd {w : World} {v : Value} {r c N i j : Nat} {M : Nat → Nat → Int} (h : MatE (EI N) w v r (fun _ => c) M) (hi : i < r) (hj : j < c) : Bd N (M i j) := by
  obtain ⟨_, _, u, _, _, hr⟩ := h.at hi
  obtain ⟨_, _, _, _, _, _, _, hv⟩ := hr.at hj
  exact IV.bd hv

def okMul (r1 r2 : Nat) (len1 len2 : Nat → Nat) : Bool := okM r1 len1 && okM r2 len2 && decide (len1 0 = r2)

end Go.Proofs.Ytcjhcefnedonlaa

/- matrix.adjugate, Inverse. -/
namespace Go.Proofs.Ytcjhcefnedonlaa
open Go Go.Eng Go.Num Go.Proofs

/-- Faddeev and Leverrier: one step, and the steps -/
def adjStep (n : Nat) (M : Nat → Nat → Int) (k : Nat) (P : Nat → Nat → Int) : Nat → Nat → Int :=
  fun i j => if i = j then mulM n M P i j + (sumTo n fun t => mulM n M P t t) / (-(k : Int)) else mulM n M P i j
def adjP (n : Nat) (M : Nat → Nat → Int) : Nat → Nat → Nat → Int
  | 0 => scal 1
  | k + 1 => adjStep n M (k + 1) (adjP n M k)
/-- the adjugate, as the program reckons it -/
def adjF (n : Nat) (M : Nat → Nat → Int) : Nat → Nat → Int := fun i j => if n % 2 = 0 then - adjP n M (n - 1) i j else adjP n M (n - 1) i j

theorem mulM_bd {n N N' i j : Nat} {X Y : Nat → Nat → Int} (hn : n ≤ 16) (hX : ∀ t, t < n → Bd N (X i t)) (hY : ∀ t, t < n → Bd N' (Y t j)) : Bd (N + N' + 1) (mulM n X Y i j) :=
  sumTo_bd (by omega) fun t ht => (hX t ht).mul (hY t ht)
theorem adjStep_bd {n N N' k : Nat} {M P : Nat → Nat → Int} (hn : n ≤ 16) (hM : ∀ i j, i < n → j < n → Bd N (M i j)) (hP : ∀ i j, i < n → j < n → Bd N' (P i j)) : ∀ i j, i < n → j < n → Bd (N + N' + 3) (adjStep n M k P i j) := by
  intro i j hi hj
  have h : ∀ i j, i < n → j < n → Bd (N + N' + 1) (mulM n M P i j) := fun i j hi hj => mulM_bd hn (fun t ht => hM i t hi ht) (fun t ht => hP t j ht hj)
  unfold adjStep
  split
  · have hs : Bd (N + N' + 1 + 1) (sumTo n fun t => mulM n M P t t) := sumTo_bd (by omega) fun t ht => h t t ht ht
    exact ((h i j hi hj).mono (by omega)).add hs.ediv
  · exact (h i j hi hj).mono (by omega)
theorem adjP_bd {n N : Nat} {M : Nat → Nat → Int} (hn : n ≤ 16) (hM : ∀ i j, i < n → j < n → Bd N (M i j)) : ∀ k i j, i < n → j < n → Bd (1 + k * (N + 3)) (adjP n M k i j) := by
  intro k
  induction k with
  | zero =>
    intro i j _ _
    rw [Nat.zero_mul, Nat.add_zero]
    unfold adjP scal Bd
    split <;> decide
  | succ k ih =>
    intro i j hi hj
    have := adjStep_bd (k := k + 1) hn hM ih i j hi hj
    rw [Nat.succ_mul]
    exact this.mono (by omega)
theorem okM_const {r c : Nat} (h1 : 1 ≤ r) (h2 : r ≤ 16) (h3 : 1 ≤ c) (h4 : c ≤ 16) : okM r (fun _ => c) = true := okM_iff.2 ⟨⟨h1, h2, h3, h4⟩, fun _ _ => rfl⟩

end Go.Proofs.Ytcjhcefnedonlaa

/- matrix.Inverse. -/
namespace Go.Proofs.Ytcjhcefnedonlaa
open Go Go.Eng Go.Num Go.Proofs

theorem detGo_bd {n N : Nat} : ∀ (m k : Nat) (M : Nat → Nat → Int) (neg : Bool) (last : Int), (∀ i j, Bd (Nb N k) (M i j)) → Bd (Nb N k) last → Bd (Nb N (k + m)) (detGo n m k M neg last) := by
  intro m
  induction m with
  | zero => intro k M neg last hM hl; unfold detGo; split <;> first | exact hl.neg | exact hl
  | succ m ih =>
    intro k M neg last hM hl
    unfold detGo
    split
    · exact Bd.zero _
    · have hs : ∀ i j, Bd (Nb N k) (swp k (pivot n k M) M i j) := fun i j => by
        simp only [swp]
        split
        · exact hM _ _
        · split <;> exact hM _ _
      have h2 := ih (k + 1) (elim k last (swp k (pivot n k M) M)) (neg != decide (pivot n k M ≠ k)) (swp k (pivot n k M) M k k) (fun i j => elim_bd hs) ((hs k k).mono (Nb_mono N k))
      rw [show k + (m + 1) = k + 1 + m by omega]
      exact h2
/-- the matrix's entries, and 0 outside -/
def cut (n : Nat) (M : Nat → Nat → Int) : Nat → Nat → Int := fun i j => if i < n ∧ j < n then M i j else 0
theorem findP_congr {n k : Nat} {M M' : Nat → Nat → Int} (hk : k < n) (h : ∀ i j, i < n → j < n → M i j = M' i j) : ∀ fuel p, findP n k M fuel p = findP n k M' fuel p := by
  intro fuel
  induction fuel with
  | zero => intro p; rfl
  | succ fuel ih =>
    intro p
    simp only [findP]
    by_cases hp : p < n
    · rw [h p k hp hk, ih]
    · rw [if_neg (fun e => hp e.1), if_neg (fun e => hp e.1)]
theorem findP_le {n k : Nat} {M : Nat → Nat → Int} : ∀ fuel p, p ≤ n → p ≤ findP n k M fuel p ∧ findP n k M fuel p ≤ n := by
  intro fuel
  induction fuel with
  | zero => intro p hp; exact ⟨Nat.le_refl _, hp⟩
  | succ fuel ih =>
    intro p hp
    simp only [findP]
    split
    · rename_i h
      have := ih (p + 1) (by omega)
      omega
    · omega
theorem detGo_congr {n : Nat} : ∀ (m k : Nat) (M M' : Nat → Nat → Int) (neg : Bool) (last : Int), k + m = n → (∀ i j, i < n → j < n → M i j = M' i j) → detGo n m k M neg last = detGo n m k M' neg last := by
  intro m
  induction m with
  | zero => intro k M M' neg last _ _; rfl
  | succ m ih =>
    intro k M M' neg last hk h
    have hp : pivot n k M = pivot n k M' := findP_congr (by omega) h _ _
    have hpl : pivot n k M' ≤ n := (findP_le (n := n) (k := k) (M := M') (n - k) k (by omega)).2
    simp only [detGo, hp]
    split
    · rfl
    · rename_i hne
      have hpl : pivot n k M' < n := by omega
      have hs : ∀ i j, i < n → j < n → swp k (pivot n k M') M i j = swp k (pivot n k M') M' i j := fun i j hi hj => by
        simp only [swp]
        split
        · exact h _ _ hpl hj
        · split
          · exact h _ _ (by omega) hj
          · exact h _ _ hi hj
      rw [hs k k (by omega) (by omega)]
      refine ih (k + 1) _ _ _ _ (by omega) (fun i j hi hj => ?_)
      simp only [elim]
      rw [hs k k (by omega) (by omega), hs i j hi hj, hs i k hi (by omega), hs k j (by omega) hj]
theorem detB_congr {n : Nat} {M M' : Nat → Nat → Int} (h : ∀ i j, i < n → j < n → M i j = M' i j) : detB n M = detB n M' := detGo_congr n 0 M M' false 1 (by omega) h
theorem detB_bd {n N : Nat} {M : Nat → Nat → Int} (hN : 1 ≤ N) (h : ∀ i j, i < n → j < n → Bd N (M i j)) : Bd (Nb N n) (detB n M) := by
  have e : detB n M = detB n (cut n M) := detB_congr fun i j hi hj => by simp [cut, hi, hj]
  rw [e]
  have := detGo_bd (n := n) (N := N) n 0 (cut n M) false 1 (fun i j => by
    unfold cut
    split
    · rename_i hh; exact h i j hh.1 hh.2
    · exact Bd.zero _) (Bd.mono (N := 1) (show (1 : Int).natAbs < B ^ 1 by decide) hN)
  rwa [Nat.zero_add] at this

def okI (r : Nat) (len : Nat → Nat) (M : Nat → Nat → Int) : Bool := okS r len && decide (detB r M = 1 ∨ detB r M = -1)
def invF (n : Nat) (M : Nat → Nat → Int) : Nat → Nat → Int := fun i j => detB n M * adjF n M i j

theorem clip_eq {z c : Int} (hc : c ≠ 0) (h : clip z = c) : z = c := by
  unfold clip at h
  split at h
  · exact h
  · exact absurd h.symm hc
theorem clip_of {z : Int} (h1 : -9223372036854775808 ≤ z) (h2 : z < 9223372036854775808) : clip z = z := (fits_t h1 h2).2

end Go.Proofs.Ytcjhcefnedonlaa

/- quadformlaw03.awake. -/
namespace Go.Proofs.Ytcjhcefnedonlaa
open Go Go.Eng Go.Num Go.Proofs

def lit2 (a b c d : Int) : Nat → Nat → Int := fun i j => if i = 0 then (if j = 0 then a else b) else (if j = 0 then c else d)
theorem rowZ_lit {w : World} {g : Nat} {a b : Int} (h : Blk w g 2 #[.int .i64 a, .int .i64 b]) (ha : -9223372036854775808 ≤ a ∧ a < 9223372036854775808) (hb : -9223372036854775808 ≤ b ∧ b < 9223372036854775808) : RowZ w (.slice (some ⟨g, 0, none⟩) 2 2) 2 (fun j => if j = 0 then a else b) := by
  refine ⟨_, _, rfl, Nat.le_refl _, by decide, fun j hj => ⟨_, rfl, ?_, ?_⟩⟩
  · rw [add_lit, h.cell]
    match j, hj with
    | 0, _ => rfl
    | 1, _ => rfl
  · dsimp only
    split
    · exact ha
    · exact hb
theorem matZ_lit {w : World} {gO g0 g1 : Nat} {a b c d : Int} (hO : Blk w gO 81 #[.slice (some ⟨g0, 0, none⟩) 2 2, .slice (some ⟨g1, 0, none⟩) 2 2]) (h0 : Blk w g0 2 #[.int .i64 a, .int .i64 b]) (h1 : Blk w g1 2 #[.int .i64 c, .int .i64 d])
    (ha : -9223372036854775808 ≤ a ∧ a < 9223372036854775808) (hb : -9223372036854775808 ≤ b ∧ b < 9223372036854775808) (hc : -9223372036854775808 ≤ c ∧ c < 9223372036854775808) (hd : -9223372036854775808 ≤ d ∧ d < 9223372036854775808) :
    MatZ w (.slice (some ⟨gO, 0, none⟩) 2 2) 2 (fun _ => 2) (lit2 a b c d) := by
  refine ⟨_, _, rfl, Nat.le_refl _, by decide, fun i hi => ?_⟩
  match i, hi with
  | 0, _ => exact ⟨_, _, rfl, by rw [add_lit, hO.cell]; rfl, rowZ_lit h0 ha hb⟩
  | 1, _ => exact ⟨_, _, rfl, by rw [add_lit, hO.cell]; rfl, rowZ_lit h1 hc hd⟩
theorem okM22 : okM 2 (fun _ => 2) = true := by decide
theorem okS22 : okS 2 (fun _ => 2) = true := by decide
theorem lit2_bd {a b c d : Int} (ha : Bd 2 a) (hb : Bd 2 b) (hc : Bd 2 c) (hd : Bd 2 d) (i j : Nat) : Bd 2 (lit2 a b c d i j) := by
  unfold lit2
  split <;> split <;> assumption
theorem bd2 {a : Int} (h : a.natAbs < 4294967296) : Bd 2 a := by
  refine Bd.mono (N := 1) ?_ (by decide)
  unfold Bd
  have : B ^ 1 = 4294967296 := by decide
  omega

/-- a slice literal of two constants that floats -/
def fB (i d e : Nat) (a b : Value) : Flt := ⟨i, d, e, #[a, b], fun g => .slice (some ⟨g, 0, none⟩) 2 2⟩

end Go.Proofs.Ytcjhcefnedonlaa

/- quadformlaw03.MatrixIdentity: the walk. -/
namespace Go.Proofs.Ytcjhcefnedonlaa
open Go Go.Eng Go.Num Go.Proofs

def Law (w : World) (v : Value) (w' : World) : Prop := Ext w w' ∧ v = .bool true
theorem scal_bd (a : Int) (h : Bd 1 a) (i j : Nat) : Bd 1 (scal a i j) := by
  unfold scal
  split
  · exact h
  · exact Bd.zero 1
theorem bd1_1 : Bd 1 1 := show (1 : Int).natAbs < B ^ 1 by decide
theorem sameM_refl {r : Nat} {len : Nat → Nat} {M : Nat → Nat → Int} : sameM r r len len M M := ⟨rfl, fun _ _ => ⟨rfl, fun _ _ => rfl⟩⟩

end Go.Proofs.Ytcjhcefnedonlaa

/- The frame of a law's row: what the walk gives is what the statement asks. -/
namespace Go.Proofs.Ytcjhcefnedonlaa
open Go Go.Eng Go.ChangeShapes Go.WideShapes Go.ChangeAt Go.RowKit

theorem own0 : ownKnob Try.prog.godebug = none := by kernel_rfl
theorem laid0 : laidOutB Try.prog = true := by kernel_rfl

theorem below_of_ext {w w' : World} (h : Ext w w') : Below w.heap.size w w' := ⟨h.os, h.tape, h.output, h.size, fun _ hk => h.blk hk⟩

section
variable {H : Type} {enc : TypeId × Value → H} {P : Program}
theorem trodAll_stays (hl : laidOutB P = true) {W W' : World} {sp : Nat → Bool} : ∀ {ts : List TypeId} {vs : List Value} {ds : List (DataW H)} {ps : List MemPlace}, (ts.all fun t => P.readableRec t && decide (t < P.types.size)) = true →
    DataW.TrodAll enc P W 0 (fun _ => true) true ts vs ds ps → (∀ p ∈ ps, W.sameAt W' p) → (∀ p ∈ ps, sp p.block = true) → DataW.TrodAll enc P W' 0 sp true ts vs ds ps
  | [], _, _, _, _, h, _, _ => by
    obtain ⟨rfl, rfl, rfl⟩ := trodAll_nil h
    exact trodAll_mk0
  | t :: ts, _, _, _, hr, h, hs, hsp => by
    obtain ⟨v, vs1, d, ds1, a, b, rfl, rfl, rfl, h1, h2⟩ := trodAll_cons h
    simp only [List.all_cons, Bool.and_eq_true, decide_eq_true_eq] at hr
    refine ⟨a, b, WideElems.Trod_stays hl hr.1.1 hr.1.2 h1 (fun p hp => hs p (by simp [hp])) (fun p hp => hsp p (by simp [hp])), ?_, rfl⟩
    exact trodAll_stays hl (by simpa using hr.2) h2 (fun p hp => hs p (by simp [hp])) (fun p hp => hsp p (by simp [hp]))

theorem law_post {fn : Func} {s : ChangeSpec} {W W' : World} {args : Array Value} {ds gs : List (DataW H)} {before : List MemPlace} {tb : TypeId} (hl : laidOutB P = true)
    (hr : (fn.params.toList.all fun t => P.readableRec t && decide (t < P.types.size)) = true) (hv : s.vars = [])
    (hW : DataW.Whole enc P fn.params.toList s.vars false W args.toList ds gs before) (hs : s.fn H (ds ++ gs) = { results := [.lit (.bool true)], args := ds })
    (ht : fn.resultTypes = #[tb]) (hb : P.underlying tb = some .bool) (hE : Ext W W') : s.post enc P fn false true false false W args (.bool true) W' := by
  have hWW := hW
  obtain ⟨p, q, hA, hV, hpq, hz, hn⟩ := hW
  rw [hv] at hV
  obtain ⟨rfl, rfl⟩ := trodVars_none hV
  have hbel := below_of_ext hE
  have hlt : ∀ x ∈ p, x.block < W.heap.size := fun x hx => by
    have := hWW.lt x (by rw [hpq]; simp [hx])
    simpa using this
  have hargs : ∀ sp : Nat → Bool, (∀ x ∈ before, sp x.block = true) → DataW.TrodAll enc P W' 0 sp true fn.params.toList args.toList ds p := fun sp hsp =>
    trodAll_stays hl hr hA (fun x hx => hbel.same (hlt x hx)) (fun x hx => hsp x (by rw [hpq]; simp [hx]))
  have hres : ∀ (b : Nat) (sp : Nat → Bool) (hd : Bool), DataW.TrodAll enc P W' b sp hd fn.resultTypes.toList ((Value.bool true).resultList fn.resultTypes.size) [.lit (.bool true)] [] := fun b sp hd => by
    rw [ht]
    exact trodAll_mk1 (shut_bool hb true)
  have hvars : ∀ sp : Nat → Bool, DataW.TrodVars enc P W' sp s.vars [] [] := fun sp => by rw [hv]; rfl
  have hold : ∀ x ∈ before, (fun b => decide (b < W.heap.size)) x.block = true := fun x hx => by simpa using hWW.lt x hx
  refine ⟨ds, [], before, [], p, [], hWW, ?_, ?_, ?_, World.keptBut_mono (fun x hx => ⟨hx, ?_⟩) (hbel.frame _), fun _ => ?_⟩
  · rw [hs]; exact hres _ _ _
  · rw [hs]; exact hargs _ hold
  · rw [hs]; exact hvars _
  · rw [hpq, List.mem_append] at hx
    exact Or.inr hx
  · refine ⟨ok_one ht rfl (okWide_bool_mk hb true), _, _, ([] ++ p) ++ [], ⟨[] ++ p, [], trodAll_append (hargs _ (fun _ _ => rfl)) (hres _ _ _), hvars _, rfl, ?_, ?_⟩, ?_⟩
    · intro b off hp
      have hpb : MemPlace.cell b off ∈ before := by rw [hpq]; simpa using hp
      rw [World.frozen?_of_block (w := W) (a := ⟨b, off, none⟩) (hE.blk (show b < W.heap.size from hWW.lt _ hpb))]
      exact hz b off hpb
    · intro ha
      have := hn ha
      rw [hpq] at this
      simpa using this
    · intro x hx _
      rw [hpq]
      simpa using hx
end
end Go.Proofs.Ytcjhcefnedonlaa
