/- Joined: Rsq. -/
import Derived.Test.YtcjhcefnedonlaaQj
import Derived.Test.YtcjhcefnedonlaaQi
/- The reference's Square, Det; matrix.Adjugate; the reference's Times. -/
namespace Go.Proofs.Ytcjhcefnedonlaa
open Go Go.Eng Go.Num Go.Proofs

/-- the number of rows of a square matrix, or 0 -/
def sqV (r : Nat) (len : Nat → Nat) : Value := .tuple #[.int .i64 (((if okS r len then r else 0 : Nat)) : Int), .bool (okS r len)]
theorem sqV_cases (r : Nat) (len : Nat → Nat) : ∃ (s : Nat), sqV r len = .tuple #[.int .i64 ((s : Nat) : Int), .bool (okS r len)] ∧ s = if okS r len then r else 0 := ⟨_, rfl, rfl⟩
theorem okS_of {r : Nat} {len : Nat → Nat} : okS r len = (okM r len && decide (r = len 0)) := rfl

set_option maxHeartbeats 8000000 in
theorem rsquare_ok (E : World → Value → Value → Int → Prop) (v : Value) (r : Nat) (len : Nat → Nat) (M : Nat → Nat → Int) (w : World) (h : MatE E w v r len M) :
    Meets Try.prog 52 #[v] w fun u w' => Ext w w' ∧ u = sqV r len := by
  refine fn_W (n := 21) Try.func52 rfl rfl (by kernel_rfl) (by simp) ?_
  refine gg ?_
  refine R1_call2 (rshape_ok E v r len M w h) ?_
  rintro _ w1 ⟨hE1, rfl⟩
  obtain ⟨s, c, ok, e, hc⟩ := shapeV_cases r len
  rw [e]
  rcases hc with ⟨h1, rfl, rfl, rfl⟩ | ⟨h1, rfl, rfl, rfl⟩
  · refine gg ?_
    refine W_seq ?_
    by_cases hs : s = len 0
    · refine gg ?_
      refine ret2 rfl rfl rfl ⟨hE1, ?_⟩
      unfold sqV
      rw [okS_of, h1, decide_eq_true hs]; rfl
    · refine gg ?_
      refine ret2 rfl rfl rfl ⟨hE1, ?_⟩
      unfold sqV
      rw [okS_of, h1, decide_eq_false hs]; rfl
  · refine gg ?_
    refine W_seq ?_
    refine gg ?_
    refine ret2 rfl rfl rfl ⟨hE1, ?_⟩
    unfold sqV
    rw [okS_of, h1]; rfl

/-- c times a matrix -/
def timesM (a : Int) (M : Nat → Nat → Int) : Nat → Nat → Int := fun i j => a * M i j
end Go.Proofs.Ytcjhcefnedonlaa
