/- Joined: Stg, Slv. -/
import Derived.Test.YtncbjgblcofddaaGreatDoorQh
/- The stages of the elimination,in plain Lean; positive definiteness. -/
namespace Go.Det
def stg (M:Mt):Nat→Mt
 | 0=>M
 | k + 1=>fun i j=>(stg M k 0 0 * stg M k (i + 1) (j + 1) - stg M k (i + 1) 0 * stg M k 0 (j + 1)) / (match k with | 0=>1 | q + 1=>stg M q 0 0)
def stL (M:Mt):Nat→Int
 | 0=>1
 | k + 1=>stg M k 0 0
theorem stg_succ (M:Mt) (k i j:Nat):stg M (k + 1) i j = (stg M k 0 0 * stg M k (i + 1) (j + 1) - stg M k (i + 1) 0 * stg M k 0 (j + 1)) / stL M k:=by
 cases k <;> rfl
theorem bm_zero' (A:Mt) (i j:Nat):bm 0 A i j = A i j:=by
 simp [bm,det,sm,sgn]
theorem stg_bm (M:Mt):∀ k,(∀ q,1≤q→q≤k→det q M ≠ 0)→(∀ i j,stg M k i j = bm k M (k + i) (k + j))∧stL M k = det k M:=by
 intro k
 induction k with
 | zero=>exact fun _=>⟨fun i j=>by rw [bm_zero',Nat.zero_add,Nat.zero_add]; rfl,rfl⟩
 | succ k ih =>
  intro h
  obtain ⟨h1,h2⟩:=ih fun q hq1 hq2=>h q hq1 (by omega)
  have h00:stg M k 0 0 = det (k + 1) M:=by rw [h1,Nat.add_zero,bm_self]
  refine ⟨fun i j=>?_,h00⟩
  have hd:det k M ≠ 0:=by
   rcases Nat.eq_zero_or_pos k with rfl | hp
   · simp [det]
   · exact h k hp (by omega)
  rw [stg_succ,h1,h1,h1,h1,h2,Nat.add_zero,show k + (i + 1) = k + 1 + i by omega,show k + (j + 1) = k + 1 + j by omega,← bareiss k M _ _ hd,Int.mul_ediv_cancel_left _ hd]
def nrm (n:Nat) (G:Mt) (y:Nat→Int):Int:=sm n fun i=>y i * sm n fun j=>G i j * y j
theorem nrm_minor (k:Nat) (G:Mt) (hd:det k G ≠ 0):∃ y:Nat→Int,y k = det k G∧nrm (k + 1) (tr G) y = det k G * det (k + 1) G:=by
 obtain ⟨x,hx⟩:=solve k G (G k)
 have hb:=border hd hx
 refine ⟨fun i=>if i < k then x i else det k G,if_neg (Nat.lt_irrefl k),?_⟩
 have key:∀ c,(sm (k + 1) fun j=>tr G c j * (if j < k then x j else det k G)) = bm k G k c:=fun c=>by
  simp only [sm,tr]
  rw [if_neg (Nat.lt_irrefl k),hb c,Int.add_comm,Int.mul_comm]
  congr 1
  exact sm_congr fun r hr=>by rw [if_pos hr,Int.mul_comm]
 unfold nrm
 rw [sm_congr (fun c _=>by rw [key c])]
 simp only [sm]
 rw [sm_zero fun c hc=>by rw [hb c,hx c hc,Int.mul_zero],if_neg (Nat.lt_irrefl k),bm_self,Int.zero_add]
theorem minors_pos (n:Nat) (G:Mt) (h:∀ m y,m≤n→(∃ i,i < m∧y i ≠ 0)→0 < nrm m (tr G) y):∀ k,k≤n→0 < det k G:=by
 intro k
 induction k with
 | zero=>intro _; simp [det]
 | succ k ih =>
  intro hk
  have h1:=ih (by omega)
  obtain ⟨y,hy,hn⟩:=nrm_minor k G (by omega)
  have h2:=h (k + 1) y hk ⟨k,by omega,by rw [hy]; omega⟩
  rw [hn] at h2
  rcases Int.lt_trichotomy 0 (det (k + 1) G) with h3 | h3 | h3
  · exact h3
  · rw [← h3,Int.mul_zero] at h2; omega
  · have:=Int.mul_neg_of_pos_of_neg h1 h3; omega
theorem sq_nonneg (a:Int):0≤a * a:=by
 rcases Int.le_total 0 a with h | h
 · exact Int.mul_nonneg h h
 · have:=Int.mul_nonneg (Int.neg_nonneg.2 h) (Int.neg_nonneg.2 h); rwa [Int.neg_mul_neg] at this
end Go.Det
namespace Go.Det
theorem uniq (k:Nat) (P:Mt) (u:Nat→Int) (hd:det k P ≠ 0) (h:∀ r,r < k→(sm k fun c=>P r c * u c) = 0):∀ c,c < k→u c = 0:=by
 intro c hc
 cases k with
 | zero=>omega
 | succ m =>
  have h1:mul (m + 1) (mul (m + 1) (adj m P) P) (fun q _=>u q) c 0 = det (m + 1) P * u c:=by
   simp only [mul]
   rw [sm_one (c:=c) hc fun q hq hn=>?_]
   · have:=adj_mul m P c c hc hc
     rw [if_pos rfl] at this
     simp only [mul] at this
     rw [this]
   · have:=adj_mul m P c q hc hq
     rw [if_neg (Ne.symm hn)] at this
     simp only [mul] at this
     rw [this,Int.zero_mul]
  rw [mul_assoc] at h1
  have h2:mul (m + 1) (adj m P) (mul (m + 1) P fun q _=>u q) c 0 = 0:=by
   simp only [mul]
   exact sm_zero fun q hq=>by rw [h q hq,Int.mul_zero]
  rw [h2] at h1
  rcases Int.mul_eq_zero.1 h1.symm with h | h
  · exact absurd h hd
  · exact h
def sw (k p i:Nat):Nat:=if i = k then p else if i = p then k else i
theorem swp2_sw (k p:Nat) (A:Mt) (i:Nat):swp2 k p A i = A (sw k p i):=by
 unfold swp2 sw; split
 · rfl
 · split <;> rfl
theorem sw_lt {n k p i:Nat} (hk:k < n) (hp:p < n) (hi:i < n):sw k p i < n:=by unfold sw; split; exact hp; split; exact hk; exact hi
theorem sw_low {k p i:Nat} (hp:k≤p) (hi:i < k):sw k p i = i:=by unfold sw; rw [if_neg (by omega),if_neg (by omega)]
theorem sw_ge {k p i:Nat} (hp:k≤p) (hi:k≤i):k≤sw k p i:=by unfold sw; split; exact hp; split; exact Nat.le_refl _; exact hi
theorem sw_sw (k p i:Nat):sw k p (sw k p i) = i:=by
 unfold sw
 by_cases h1:i = k
 · rw [if_pos h1]
   by_cases h2:p = k
   · rw [if_pos h2]; omega
   · rw [if_neg h2,if_pos rfl]; exact h1.symm
 · rw [if_neg h1]
   by_cases h2:i = p
   · rw [if_pos h2,if_pos rfl]; exact h2.symm
   · rw [if_neg h2,if_neg h1,if_neg h2]
def PR (n:Nat) (P M:Mt) (s:Int):Prop:=(s = 1 ∨ s = -1)∧∀ T:(Nat→Int)→Nat→Int,det n (fun r=>T (P r)) = s * det n (fun r=>T (M r))
theorem PR.det {n:Nat} {P M:Mt} {s:Int} (h:PR n P M s):Go.Det.det n P = s * Go.Det.det n M:=h.2 fun r=>r
end Go.Det
