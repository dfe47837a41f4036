/- Joined: Lla, Llb, Llc, Lld. -/
import Derived.Test.YtncbjgblcofddaaGreatDoorQv
/- Gram matrices of a changed basis,in plain Lean: what becomes of the bordered minors. -/
namespace Go.Det
def bil (n:Nat) (G:Mt) (u v:Nat→Int):Int:=sm n fun a=>u a * sm n fun b=>G a b * v b
def gr (n:Nat) (T G:Mt):Mt:=fun i j=>bil n G (T i) (T j)
theorem gr_mul (n:Nat) (T G:Mt):gr n T G = mul n T (mul n G (tr T)):=rfl
theorem gr_det (n:Nat) (T G:Mt):det n (gr n T G) = det n T * det n T * det n G:=by
 rw [gr_mul,det_mul,det_mul,det_tr]; grind
def Sy (n:Nat) (G:Mt):Prop:=∀ a b,a < n→b < n→G a b = G b a
theorem bil_symm {n:Nat} {G:Mt} (hG:Sy n G) (u v:Nat→Int):bil n G u v = bil n G v u:=by
 unfold bil
 rw [show (sm n fun a=>u a * sm n fun b=>G a b * v b) = sm n fun a=>sm n fun b=>u a * (G a b * v b) from sm_congr fun a _=>(sm_mul _ _ _).symm]
 rw [show (sm n fun a=>v a * sm n fun b=>G a b * u b) = sm n fun a=>sm n fun b=>v a * (G a b * u b) from sm_congr fun a _=>(sm_mul _ _ _).symm]
 rw [sm_swap]
 exact sm_congr fun a ha=>sm_congr fun b hb=>by rw [hG b a hb ha]; grind
theorem gr_symm {n:Nat} {T G:Mt} (hG:Sy n G) (i j:Nat):gr n T G i j = gr n T G j i:=bil_symm hG _ _
theorem gr_tr {n:Nat} {T G:Mt} (hG:Sy n G):tr (gr n T G) = gr n T G:=by
 funext i j; exact gr_symm hG j i
theorem bil_lin_left (n:Nat) (G:Mt) (u v x:Nat→Int) (a b:Int):bil n G (fun c=>a * u c + b * v c) x = a * bil n G u x + b * bil n G v x:=by
 unfold bil
 rw [← sm_lin]
 exact sm_congr fun c _=>by grind
theorem bil_lin_right (n:Nat) (G:Mt) (u v x:Nat→Int) (a b:Int):bil n G x (fun c=>a * u c + b * v c) = a * bil n G x u + b * bil n G x v:=by
 unfold bil
 rw [← sm_lin]
 refine sm_congr fun c _=>?_
 rw [show (sm n fun d=>G c d * (a * u d + b * v d)) = a * (sm n fun d=>G c d * u d) + b * sm n fun d=>G c d * v d by
  rw [← sm_lin]; exact sm_congr fun d _=>by grind]
 grind
theorem gr_one {n:Nat} {G:Mt} {i j:Nat} (hi:i < n) (hj:j < n):gr n one G i j = G i j:=by
 rw [gr_mul,one_mul n _ i j hi]
 simp only [mul]
 rw [sm_one (c:=j) hj fun b hb hn=>by simp only [tr,one]; rw [if_neg (Ne.symm hn),Int.mul_zero]]
 simp only [tr,one,if_true,Int.mul_one]
theorem bm_symm {H:Mt} (hs:tr H = H) (k i j:Nat):bm k H i j = bm k H j i:=by
 have:=bm_tr k H i j
 rw [hs] at this
 exact this
theorem bm_dup {k:Nat} {H:Mt} {i:Nat} (j:Nat) (hi:i < k):bm k H i j = 0:=by
 unfold bm
 refine (ma_det (k + 1)).eq0 _ i k (by omega) (by omega) (by omega) fun c hc=>?_
 rw [if_pos hi,if_neg (Nat.lt_irrefl k)]
def PM (n:Nat) (H:Mt):Prop:=∀ m,m≤n→0 < det m H
theorem step_diag {H:Mt} (hs:tr H = H) {k:Nat} (hd:det k H ≠ 0) (i:Nat):det (k + 1) H * bm k H i i = det k H * bm (k + 1) H i i + bm k H i k * bm k H i k:=by
 have:=bareiss k H i i hd
 rw [bm_self,bm_symm hs k k i] at this
 omega
theorem step_any {H:Mt} (hs:tr H = H) {k:Nat} (hd:det k H ≠ 0) (i j:Nat):det (k + 1) H * bm k H i j = det k H * bm (k + 1) H i j + bm k H i k * bm k H j k:=by
 have:=bareiss k H i j hd
 rw [bm_self,bm_symm hs k k j] at this
 omega
def qf (n k:Nat) (H:Mt) (y:Nat→Int):Int:=sm n fun i=>y i * sm n fun j=>bm k H i j * y j
theorem qf_step {n k:Nat} {H:Mt} (hs:tr H = H) (hd:det k H ≠ 0) (y:Nat→Int):det (k + 1) H * qf n k H y = det k H * qf n (k + 1) H y + (sm n fun i=>bm k H i k * y i) * (sm n fun i=>bm k H i k * y i):=by
 unfold qf
 rw [← sm_mul,← sm_mul,← sm_mulr,← sm_add]
 refine sm_congr fun i _=>?_
 rw [show det (k + 1) H * (y i * sm n fun j=>bm k H i j * y j) = y i * sm n fun j=>det (k + 1) H * bm k H i j * y j by
  rw [show det (k + 1) H * (y i * sm n fun j=>bm k H i j * y j) = y i * (det (k + 1) H * sm n fun j=>bm k H i j * y j) by grind,← sm_mul]
  congr 1
  exact sm_congr fun j _=>by grind]
 rw [show (sm n fun j=>det (k + 1) H * bm k H i j * y j) = det k H * (sm n fun j=>bm (k + 1) H i j * y j) + bm k H i k * sm n fun j=>bm k H j k * y j by
  rw [← sm_lin]
  exact sm_congr fun j _=>by rw [step_any hs hd]; grind]
 grind
theorem qf_nonneg {n:Nat} {H:Mt} (hs:tr H = H) (hp:PM n H) (y:Nat→Int):∀ d k,k + d = n→0≤qf n k H y
 | 0,k,e=>by
  have:k = n:=by omega
  subst this
  unfold qf
  rw [sm_zero fun i hi=>by rw [sm_zero fun j hj=>by rw [bm_dup j hi,Int.zero_mul],Int.mul_zero]]
  exact Int.le_refl _
 | d + 1,k,e=>by
  have ih:=qf_nonneg hs hp y d (k + 1) (by omega)
  have h1:=hp k (by omega)
  have h2:=hp (k + 1) (by omega)
  have h:=qf_step (n:=n) hs (show det k H ≠ 0 by omega) y
  have h3:0≤det (k + 1) H * qf n k H y:=by
   rw [h]
   have:=Int.mul_nonneg (Int.le_of_lt h1) ih
   have:=sq_nonneg (sm n fun i=>bm k H i k * y i)
   omega
  exact Int.nonneg_of_mul_nonneg_right h3 h2
theorem bil_qf (n:Nat) (H:Mt) (y:Nat→Int):bil n H y y = qf n 0 H y:=by
 unfold bil qf
 refine sm_congr fun i _=>?_
 congr 1
 exact sm_congr fun j _=>by rw [bm_zero']
theorem bil_nonneg {n:Nat} {H:Mt} (hs:tr H = H) (hp:PM n H) (y:Nat→Int):0≤bil n H y y:=by
 rw [bil_qf]; exact qf_nonneg hs hp y n 0 (by omega)
theorem cauchy {n:Nat} {H:Mt} (hs:tr H = H) (hp:PM n H) (x y:Nat→Int) (hy:0 < bil n H y y):bil n H x y * bil n H x y≤bil n H x x * bil n H y y:=by
 have hsy:Sy n H:=fun a b _ _=>by
  have:=congrFun (congrFun hs b) a
  exact this
 have h:=bil_nonneg hs hp (fun c=>bil n H y y * x c + (- bil n H x y) * y c)
 rw [bil_lin_left,bil_lin_right,bil_lin_right,bil_symm hsy y x] at h
 generalize bil n H x x = X at *
 generalize bil n H y y = Y at *
 generalize bil n H x y = Z at *
 have e:Y * (Y * X + -Z * Z) + -Z * (Y * Z + -Z * Y) = Y * (X * Y - Z * Z):=by grind
 rw [e] at h
 have:=Int.nonneg_of_mul_nonneg_right h hy
 omega
end Go.Det
namespace Go.Det
section
variable {n:Nat} {H:Mt}
theorem diag_pos (hs:tr H = H) (hp:PM n H) {i:Nat} (hi:i < n):∀ d c,c + d = i→0 < bm c H i i
 | 0,c,e=>by
  have:c = i:=by omega
  subst this
  rw [bm_self]; exact hp _ hi
 | d + 1,c,e=>by
  have ih:=diag_pos hs hp hi d (c + 1) (by omega)
  have h1:=hp c (by omega)
  have h2:=hp (c + 1) (by omega)
  have h:=step_diag hs (show det c H ≠ 0 by omega) i
  have h3:=Int.mul_pos h1 ih
  have h4:=sq_nonneg (bm c H i c)
  have h5:0 < det (c + 1) H * bm c H i i:=by omega
  exact Int.pos_of_mul_pos_right h5 h2
theorem sq_le_sq {a b:Int} (_hb:0≤b) (h:a.natAbs≤b.natAbs):a * a≤b * b:=by
 have e1:a * a = ((a.natAbs * a.natAbs:Nat):Int):=by rw [Int.natAbs_mul_self]
 have e2:b * b = ((b.natAbs * b.natAbs:Nat):Int):=by rw [Int.natAbs_mul_self]
 rw [e1,e2]
 exact Int.ofNat_le.2 (Nat.mul_le_mul h h)
structure Red (n:Nat) (H:Mt):Prop where
 sized:∀ i j,j < i→i < n→2 * bm j H i j≤det (j + 1) H∧-(2 * bm j H i j)≤det (j + 1) H
 lov:∀ i,i + 1 < n→3 * (det (i + 1) H * det (i + 1) H)≤4 * (det i H * det (i + 2) H + bm i H (i + 1) i * bm i H (i + 1) i)
theorem four_sq {a d:Int} (h1:2 * a≤d) (h2:-(2 * a)≤d):4 * (a * a)≤d * d:=by
 have h:=sq_le_sq (a:=2 * a) (b:=d) (by omega) (by omega)
 have:2 * a * (2 * a) = 4 * (a * a):=by grind
 omega
theorem Red.half (h:Red n H) {i:Nat} (hi:i + 1 < n):det (i + 1) H * det (i + 1) H≤2 * (det i H * det (i + 2) H):=by
 obtain ⟨h1,h2⟩:=h.sized (i + 1) i (by omega) hi
 have h3:=four_sq h1 h2
 have h4:=h.lov i hi
 omega
end
theorem pow_chain {e:Nat→Nat} {n:Nat} (hpos:∀ k,k≤n→0 < e k) (h0:e 0 = 1) (hc:∀ k,k + 1 < n→e (k + 1) * e (k + 1)≤e k * e (k + 2)):∀ k,k < n→e k ^ (k + 1)≤e (k + 1) ^ k
 | 0,_=>by rw [h0]; simp
 | k + 1,hk=>by
  have ih:=pow_chain hpos h0 hc k (by omega)
  have h:=hc k hk
  have h1:(e (k + 1) * e (k + 1)) ^ (k + 1)≤(e k * e (k + 2)) ^ (k + 1):=Nat.pow_le_pow_left h _
  rw [Nat.mul_pow,Nat.mul_pow] at h1
  have h2:e k ^ (k + 1) * e (k + 2) ^ (k + 1)≤e (k + 1) ^ k * e (k + 2) ^ (k + 1):=Nat.mul_le_mul_right _ ih
  have h3:=Nat.le_trans h1 h2
  have hp:0 < e (k + 1) ^ k:=Nat.pow_pos (hpos (k + 1) (by omega))
  refine Nat.le_of_mul_le_mul_left ?_ hp
  rw [show e (k + 1) ^ k * e (k + 1) ^ (k + 1 + 1) = e (k + 1) ^ (k + 1) * e (k + 1) ^ (k + 1) by rw [← Nat.pow_add,← Nat.pow_add]; congr 1; omega]
  exact h3
theorem pow_root {e:Nat→Nat} {n:Nat} (h:∀ k,k < n→e k ^ (k + 1)≤e (k + 1) ^ k) {k:Nat} (hk1:1≤k):∀ m,k≤m→m≤n→e k ^ m≤e m ^ k
 | 0,h1,_=>by omega
 | m + 1,h1,h2=>by
  by_cases e1:k = m + 1
  · subst e1; exact Nat.le_refl _
  · have ih:=pow_root h hk1 m (by omega) (by omega)
    have hm:=h m (by omega)
    have a1:(e k ^ (m + 1)) ^ m≤(e (m + 1) ^ k) ^ m:=by
     calc (e k ^ (m + 1)) ^ m = (e k ^ m) ^ (m + 1):=by rw [← Nat.pow_mul,← Nat.pow_mul,Nat.mul_comm]
      _≤(e m ^ k) ^ (m + 1):=Nat.pow_le_pow_left ih _
      _ = (e m ^ (m + 1)) ^ k:=by rw [← Nat.pow_mul,← Nat.pow_mul,Nat.mul_comm]
      _≤(e (m + 1) ^ m) ^ k:=Nat.pow_le_pow_left hm _
      _ = (e (m + 1) ^ k) ^ m:=by rw [← Nat.pow_mul,← Nat.pow_mul,Nat.mul_comm]
    exact (Nat.pow_le_pow_iff_left (by omega)).1 a1
def lg (H:Mt) (k:Nat):Nat:=(det k H).toNat * (det k H).toNat * 2 ^ (k * k)
theorem lg_pow {n:Nat} {H:Mt} (hp:PM n H) (hr:Red n H) {k:Nat} (hk1:1≤k) (hk:k≤n):lg H k ^ n≤lg H n ^ k:=by
 have hpos:∀ k,k≤n→0 < lg H k:=fun k hk=>by
  have:=hp k hk
  have h1:0 < (det k H).toNat:=by omega
  exact Nat.mul_pos (Nat.mul_pos h1 h1) (Nat.pow_pos (by decide))
 refine pow_root (pow_chain hpos (by simp [lg,det]) fun k hk=>?_) hk1 n hk (Nat.le_refl _)
 have h1:=hr.half hk
 have p0:=hp k (by omega)
 have p1:=hp (k + 1) (by omega)
 have p2:=hp (k + 2) (by omega)
 unfold lg
 obtain ⟨a,ha⟩ : ∃ a:Nat,det k H = a:=⟨(det k H).toNat,by omega⟩
 obtain ⟨b,hb⟩ : ∃ b:Nat,det (k + 1) H = b:=⟨(det (k + 1) H).toNat,by omega⟩
 obtain ⟨c,hc⟩ : ∃ c:Nat,det (k + 2) H = c:=⟨(det (k + 2) H).toNat,by omega⟩
 rw [ha,hb,hc] at h1 ⊢
 simp only [Int.toNat_natCast]
 have h2:b * b≤2 * (a * c):=by exact_mod_cast h1
 have h3:b * b * (b * b)≤2 * (a * c) * (2 * (a * c)):=Nat.mul_le_mul h2 h2
 rw [show b * b * 2 ^ ((k + 1) * (k + 1)) * (b * b * 2 ^ ((k + 1) * (k + 1))) = b * b * (b * b) * 2 ^ ((k + 1) * (k + 1) + (k + 1) * (k + 1)) by rw [Nat.pow_add]; grind]
 rw [show a * a * 2 ^ (k * k) * (c * c * 2 ^ ((k + 2) * (k + 2))) = a * c * (a * c) * 2 ^ (k * k + (k + 2) * (k + 2)) by rw [Nat.pow_add]; grind]
 rw [show k * k + (k + 2) * (k + 2) = 2 + ((k + 1) * (k + 1) + (k + 1) * (k + 1)) by grind,Nat.pow_add 2 2]
 have:=Nat.mul_le_mul_right (2 ^ ((k + 1) * (k + 1) + (k + 1) * (k + 1))) h3
 refine Nat.le_trans this ?_
 rw [show 2 * (a * c) * (2 * (a * c)) * 2 ^ ((k + 1) * (k + 1) + (k + 1) * (k + 1)) = a * c * (a * c) * (2 ^ 2 * 2 ^ ((k + 1) * (k + 1) + (k + 1) * (k + 1))) by grind]
 exact Nat.le_refl _
theorem lg_tab:∀ n,n < 9→∀ k,k < n→1≤k→(10000 * 10000 * 2 ^ (n * n)) ^ k < (65536 * 65536 * 2 ^ (k * k)) ^ n:=by decide +kernel
theorem minor_small {n:Nat} {H:Mt} (hp:PM n H) (hr:Red n H) (hn:n≤8) (hd:det n H≤10000):∀ k,k≤n→det k H≤65535:=by
 intro k hk
 by_cases e0:k = 0
 · subst e0; simp [det]
 by_cases en:k = n
 · subst en; omega
 refine Classical.byContradiction fun hc=>?_
 have hc:65536≤(det k H).toNat:=by omega
 have h1:=lg_pow hp hr (k:=k) (by omega) hk
 have h2:=lg_tab n (by omega) k (by omega) (by omega)
 have p:=hp n (Nat.le_refl _)
 have h3:lg H n≤10000 * 10000 * 2 ^ (n * n):=Nat.mul_le_mul_right _ (Nat.mul_le_mul (by omega) (by omega))
 have h4:65536 * 65536 * 2 ^ (k * k)≤lg H k:=Nat.mul_le_mul_right _ (Nat.mul_le_mul hc hc)
 have h5:=Nat.pow_le_pow_left h3 k
 have h6:=Nat.pow_le_pow_left h4 n
 omega
end Go.Det
namespace Go.Det
section
variable {n:Nat} {H:Mt}
structure SI (n k j:Nat) (H:Mt) (U:Int):Prop where
 red:Red k H
 sz:∀ c,j≤c→c < k→2 * bm c H k c≤det (c + 1) H∧-(2 * bm c H k c)≤det (c + 1) H
 bd:∀ c,c < k→bm c H k c≤U * det (c + 1) H∧-(bm c H k c)≤U * det (c + 1) H
theorem SI.skip (hp:PM n H) {k j:Nat} {U:Int} (hU:0≤U) (hk:k < n) (hj:j < k) (h:SI n k (j + 1) H U) (hz:2 * bm j H k j≤det (j + 1) H∧-(2 * bm j H k j)≤det (j + 1) H):SI n k j H (2 * U + 1):=by
 refine ⟨h.red,fun c h1 h2=>?_,fun c hc=>?_⟩
 · by_cases e:c = j
   · subst e; exact hz
   · exact h.sz c (by omega) h2
 · obtain ⟨b1,b2⟩:=h.bd c hc
   have hpc:=hp (c + 1) (by omega)
   have e1:(2 * U + 1) * det (c + 1) H = U * det (c + 1) H + (U + 1) * det (c + 1) H:=by grind
   have e2:0≤(U + 1) * det (c + 1) H:=Int.mul_nonneg (by omega) (Int.le_of_lt hpc)
   omega
end
end Go.Det
namespace Go.Det
section
variable {n k:Nat} {G T:Mt} {D B:Int}
theorem Red.one (H:Mt):Red 1 H:=⟨fun i j h1 h=>by omega,fun i h=>by omega⟩
theorem gr_one_det {m:Nat} (hm:m≤n):det m (gr n one G) = det m G:=det_congr fun i j hi hj=>gr_one (by omega) (by omega)
end
end Go.Det
