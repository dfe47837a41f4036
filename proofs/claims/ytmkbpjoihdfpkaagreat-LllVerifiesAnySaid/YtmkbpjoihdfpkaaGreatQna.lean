/- Joined: Lla, Llb, Llc, Lld. -/
import Derived.Test.YtmkbpjoihdfpkaaGreatQv
/- Gram matrices of a changed basis,in plain Lean: what becomes of the bordered minors. -/
namespace Go.Det
def bil (n:Nat) (G:Mt) (u v:Nat→Int):Int:=sm n fun a=>u a * sm n fun b=>G a b * v b
def gr (n:Nat) (T G:Mt):Mt:=fun i j=>bil n G (T i) (T j)
theorem gr_mul (n:Nat) (T G:Mt):gr n T G = mul n T (mul n G (tr T)):=rfl
theorem gr_det (n:Nat) (T G:Mt):det n (gr n T G) = det n T * det n T * det n G:=by
 rw [gr_mul,det_mul,det_mul,det_tr]; grind
def Sy (n:Nat) (G:Mt):Prop:=∀ a b,a < n→b < n→G a b = G b a
theorem bil_symm {n:Nat} {G:Mt} (hG:Sy n G) (u v:Nat→Int):bil n G u v = bil n G v u:=by
 unfold bil
 rw [show (sm n fun a=>u a * sm n fun b=>G a b * v b) = sm n fun a=>sm n fun b=>u a * (G a b * v b) from sm_congr fun a _=>(sm_mul _ _ _).symm]
 rw [show (sm n fun a=>v a * sm n fun b=>G a b * u b) = sm n fun a=>sm n fun b=>v a * (G a b * u b) from sm_congr fun a _=>(sm_mul _ _ _).symm]
 rw [sm_swap]
 exact sm_congr fun a ha=>sm_congr fun b hb=>by rw [hG b a hb ha]; grind
theorem gr_symm {n:Nat} {T G:Mt} (hG:Sy n G) (i j:Nat):gr n T G i j = gr n T G j i:=bil_symm hG _ _
theorem gr_tr {n:Nat} {T G:Mt} (hG:Sy n G):tr (gr n T G) = gr n T G:=by
 funext i j; exact gr_symm hG j i
theorem bil_lin_left (n:Nat) (G:Mt) (u v x:Nat→Int) (a b:Int):bil n G (fun c=>a * u c + b * v c) x = a * bil n G u x + b * bil n G v x:=by
 unfold bil
 rw [← sm_lin]
 exact sm_congr fun c _=>by grind
theorem bil_lin_right (n:Nat) (G:Mt) (u v x:Nat→Int) (a b:Int):bil n G x (fun c=>a * u c + b * v c) = a * bil n G x u + b * bil n G x v:=by
 unfold bil
 rw [← sm_lin]
 refine sm_congr fun c _=>?_
 rw [show (sm n fun d=>G c d * (a * u d + b * v d)) = a * (sm n fun d=>G c d * u d) + b * sm n fun d=>G c d * v d by
  rw [← sm_lin]; exact sm_congr fun d _=>by grind]
 grind
theorem bil_congr {n:Nat} {G:Mt} {u u' v v':Nat→Int} (h1:∀ c,c < n→u c = u' c) (h2:∀ c,c < n→v c = v' c):bil n G u v = bil n G u' v':=by
 unfold bil
 refine sm_congr fun a ha=>?_
 rw [h1 a ha]
 congr 1
 exact sm_congr fun b hb=>by rw [h2 b hb]
theorem gr_one {n:Nat} {G:Mt} {i j:Nat} (hi:i < n) (hj:j < n):gr n one G i j = G i j:=by
 rw [gr_mul,one_mul n _ i j hi]
 simp only [mul]
 rw [sm_one (c:=j) hj fun b hb hn=>by simp only [tr,one]; rw [if_neg (Ne.symm hn),Int.mul_zero]]
 simp only [tr,one,if_true,Int.mul_one]
def rop (q:Int) (i0 j0:Nat) (H:Mt):Mt:=setR H i0 fun b=>H i0 b - q * H j0 b
def opS (q:Int) (i0 j0:Nat) (H:Mt):Mt:=tr (rop q i0 j0 (tr (rop q i0 j0 H)))
theorem gr_rop (n:Nat) (T G:Mt) (q:Int) (i0 j0:Nat):gr n (rop q i0 j0 T) G = opS q i0 j0 (gr n T G):=by
 have hr:∀ i x,bil n G (rop q i0 j0 T i) x = if i = i0 then bil n G (T i0) x - q * bil n G (T j0) x else bil n G (T i) x:=fun i x=>by
  unfold rop setR
  by_cases e:i = i0
  · rw [if_pos e,show (fun c=>if i = i0 then T i0 c - q * T j0 c else T i c) = fun c=>1 * T i0 c + (-q) * T j0 c by funext c; rw [if_pos e]; grind,bil_lin_left]; grind
  · rw [if_neg e,show (fun c=>if i = i0 then T i0 c - q * T j0 c else T i c) = T i by funext c; rw [if_neg e]]
 have hc:∀ j x,bil n G x (rop q i0 j0 T j) = if j = i0 then bil n G x (T i0) - q * bil n G x (T j0) else bil n G x (T j):=fun j x=>by
  unfold rop setR
  by_cases e:j = i0
  · rw [if_pos e,show (fun c=>if j = i0 then T i0 c - q * T j0 c else T j c) = fun c=>1 * T i0 c + (-q) * T j0 c by funext c; rw [if_pos e]; grind,bil_lin_right]; grind
  · rw [if_neg e,show (fun c=>if j = i0 then T i0 c - q * T j0 c else T j c) = T j by funext c; rw [if_neg e]]
 funext i j
 simp only [gr,opS,tr,rop,setR]
 have h1:=hr i (rop q i0 j0 T j)
 simp only [rop] at h1
 rw [h1]
 have h2:=fun x=>hc j x
 simp only [rop] at h2
 rw [h2,h2,h2]
 by_cases e1:i = i0 <;> by_cases e2:j = i0 <;> simp only [e1,e2,if_true,if_false] <;> grind
theorem last_row (m:Nat) (H:Mt) (i j:Nat) (u:Nat→Int) (a b:Int) (x y:Nat) (h:∀ c,u c = a * H x c + b * H y c) :
 bm m (fun r=>if r = i then u else H r) i j = (if i < m then bm m (fun r=>if r = i then u else H r) i j else a * bm m H x j + b * bm m H y j):=by
 by_cases hi:i < m
 · rw [if_pos hi]
 rw [if_neg hi]
 have e:=(ma_det (m + 1)).lin (fun r c=>H (if r < m then r else i) (if c < m then c else j)) m (fun c=>H x (if c < m then c else j)) (fun c=>H y (if c < m then c else j)) a b (by omega)
 have e0:bm m (fun r=>if r = i then u else H r) i j = det (m + 1) (setR (fun r c=>H (if r < m then r else i) (if c < m then c else j)) m fun c=>a * H x (if c < m then c else j) + b * H y (if c < m then c else j)):=by
  unfold bm
  refine det_congr fun r c hr hc=>?_
  simp only [setR]
  by_cases h1:r = m
  · rw [if_pos h1,if_neg (show ¬ r < m by omega),if_pos rfl,h]
  · rw [if_neg h1,if_pos (show r < m by omega),if_neg (show ¬ r = i by omega)]
 have e1:∀ z,det (m + 1) (setR (fun r c=>H (if r < m then r else i) (if c < m then c else j)) m fun c=>H z (if c < m then c else j)) = bm m H z j:=fun z=>by
  unfold bm
  refine det_congr fun r c hr hc=>?_
  simp only [setR]
  by_cases h1:r = m
  · rw [if_pos h1,if_neg (show ¬ r < m by omega)]
  · rw [if_neg h1,if_pos (show r < m by omega),if_pos (show r < m by omega)]
 rw [e0,e,e1,e1]
theorem bm_rop_low {m i0:Nat} (q:Int) (j0:Nat) (H:Mt) (i j:Nat) (hm:m≤i0):bm m (rop q i0 j0 H) i j = if i = i0 then bm m H i0 j - q * bm m H j0 j else bm m H i j:=by
 by_cases e:i = i0
 · subst e
   rw [if_pos rfl]
   have h:=last_row m H i j (fun b=>H i b - q * H j0 b) 1 (-q) i j0 (fun c=>by grind)
   rw [if_neg (show ¬ i < m by omega)] at h
   rw [show rop q i j0 H = fun r=>if r = i then (fun b=>H i b - q * H j0 b) else H r by
    funext r c; simp only [rop,setR]; split <;> rfl,h]
   grind
 · rw [if_neg e]
   unfold bm
   refine det_congr fun r c hr hc=>?_
   simp only [rop,setR]
   rw [if_neg]
   split <;> omega
theorem bm_rop_high {m i0 j0:Nat} (q:Int) (H:Mt) (i j:Nat) (hm:i0 < m) (hj:j0 < m) (hne:i0 ≠ j0) (hi:m≤i):bm m (rop q i0 j0 H) i j = bm m H i j:=by
 unfold bm
 rw [← (ma_det (m + 1)).addRow (fun r c=>H (if r < m then r else i) (if c < m then c else j)) i0 j0 (-q) (by omega) (by omega) hne]
 refine det_congr fun r c hr hc=>?_
 simp only [rop,setR]
 by_cases e:r = i0
 · subst e
   rw [if_pos (by rw [if_pos hm]),if_pos rfl,if_pos hm,if_pos hj]; grind
 · rw [if_neg (by split <;> omega),if_neg e]
theorem det_rop {m i0 j0:Nat} (q:Int) (H:Mt) (h:j0 < i0):det m (rop q i0 j0 H) = det m H:=by
 by_cases hm:i0 < m
 · rw [← (ma_det m).addRow H i0 j0 (-q) hm (by omega) (by omega)]
   refine det_congr fun r c hr hc=>?_
   simp only [rop,setR]
   by_cases e:r = i0
   · rw [if_pos e,if_pos e]; grind
   · rw [if_neg e,if_neg e]
 · exact det_congr fun r c hr hc=>by simp only [rop,setR]; rw [if_neg (by omega)]
theorem det_opS {m i0 j0:Nat} (q:Int) (H:Mt) (h:j0 < i0):det m (opS q i0 j0 H) = det m H:=by
 unfold opS
 rw [det_tr,det_rop q _ h,det_tr,det_rop q _ h]
theorem bm_opS_low {m i0:Nat} (q:Int) (j0:Nat) (H:Mt) (i j:Nat) (hm:m≤i0) :
 bm m (opS q i0 j0 H) i j = if j = i0 then (if i = i0 then bm m H i0 i0 - q * bm m H j0 i0 else bm m H i i0) - q * (if i = i0 then bm m H i0 j0 - q * bm m H j0 j0 else bm m H i j0) else (if i = i0 then bm m H i0 j - q * bm m H j0 j else bm m H i j):=by
 unfold opS
 rw [bm_tr,bm_rop_low q j0 _ j i hm,bm_tr,bm_tr,bm_tr,bm_rop_low q j0 H _ _ hm,bm_rop_low q j0 H _ _ hm,bm_rop_low q j0 H _ _ hm]
theorem bm_opS_high {m i0 j0:Nat} (q:Int) (H:Mt) (i j:Nat) (hm:i0 < m) (h:j0 < i0) (hi:m≤i) (hj:m≤j):bm m (opS q i0 j0 H) i j = bm m H i j:=by
 unfold opS
 rw [bm_tr,bm_rop_high q _ j i hm (by omega) (by omega) hj,bm_tr,bm_rop_high q _ i j hm (by omega) (by omega) hi]
def opW (p:Nat) (H:Mt):Mt:=fun a b=>H (sw p (p + 1) a) (sw p (p + 1) b)
theorem sw_high {p i:Nat} (h:p + 2≤i):sw p (p + 1) i = i:=by unfold sw; rw [if_neg (by omega),if_neg (by omega)]
theorem gr_sw (n:Nat) (T G:Mt) (p:Nat):gr n (swp2 p (p + 1) T) G = opW p (gr n T G):=by
 funext i j
 simp only [gr,opW,swp2_sw]
theorem bm_opW_low {m p:Nat} (H:Mt) (i j:Nat) (hm:m≤p):bm m (opW p H) i j = bm m H (sw p (p + 1) i) (sw p (p + 1) j):=by
 unfold bm opW
 refine det_congr fun r c hr hc=>?_
 have e:∀ x z,sw p (p + 1) (if x < m then x else z) = if x < m then x else sw p (p + 1) z:=fun x z=>by
  by_cases h:x < m
  · rw [if_pos h,if_pos h,sw_low (by omega) (by omega)]
  · rw [if_neg h,if_neg h]
 rw [e,e]
theorem det_sw2 {m p:Nat} (A:Mt) (hp:p + 1 < m):det m (fun r c=>A (sw p (p + 1) r) (sw p (p + 1) c)) = det m A:=by
 have e1:∀ C:Mt,det m (fun r=>C (sw p (p + 1) r)) = - det m C:=fun C=>by
  rw [← (ma_det m).swap C p (p + 1) (by omega) hp (by omega)]
  congr 1
  funext r
  rw [swp2_sw]
 rw [e1 (fun r c=>A r (sw p (p + 1) c)),← det_tr]
 rw [show tr (fun r c=>A r (sw p (p + 1) c)) = fun r=>(tr A) (sw p (p + 1) r) from rfl,e1,det_tr]
 omega
theorem bm_opW_high {m p:Nat} (H:Mt) (i j:Nat) (hm:p + 2≤m) (hi:m≤i) (hj:m≤j):bm m (opW p H) i j = bm m H i j:=by
 unfold bm opW
 rw [← det_sw2 (m:=m + 1) (p:=p) (fun r c=>H (if r < m then r else i) (if c < m then c else j)) (by omega)]
 refine det_congr fun r c hr hc=>?_
 have e:∀ x z,x < m + 1→m≤z→sw p (p + 1) (if x < m then x else z) = if sw p (p + 1) x < m then sw p (p + 1) x else z:=fun x z hx hz=>by
  by_cases h:x < m
  · rw [if_pos h,if_pos (sw_lt (by omega) (by omega) h)]
  · rw [if_neg h,sw_high (by omega),sw_high (by omega),if_neg h]
 rw [e r i hr hi,e c j hc hj]
theorem det_opW_low {m p:Nat} (H:Mt) (hm:m≤p):det m (opW p H) = det m H :=
 det_congr fun r c hr hc=>by unfold opW; rw [sw_low (by omega) (by omega),sw_low (by omega) (by omega)]
theorem det_opW_high {m p:Nat} (H:Mt) (hm:p + 2≤m):det m (opW p H) = det m H:=det_sw2 H (by omega)
theorem bm_symm {H:Mt} (hs:tr H = H) (k i j:Nat):bm k H i j = bm k H j i:=by
 have:=bm_tr k H i j
 rw [hs] at this
 exact this
theorem bm_dup {k:Nat} {H:Mt} {i:Nat} (j:Nat) (hi:i < k):bm k H i j = 0:=by
 unfold bm
 refine (ma_det (k + 1)).eq0 _ i k (by omega) (by omega) (by omega) fun c hc=>?_
 rw [if_pos hi,if_neg (Nat.lt_irrefl k)]
def PM (n:Nat) (H:Mt):Prop:=∀ m,m≤n→0 < det m H
theorem step_diag {H:Mt} (hs:tr H = H) {k:Nat} (hd:det k H ≠ 0) (i:Nat):det (k + 1) H * bm k H i i = det k H * bm (k + 1) H i i + bm k H i k * bm k H i k:=by
 have:=bareiss k H i i hd
 rw [bm_self,bm_symm hs k k i] at this
 omega
theorem step_any {H:Mt} (hs:tr H = H) {k:Nat} (hd:det k H ≠ 0) (i j:Nat):det (k + 1) H * bm k H i j = det k H * bm (k + 1) H i j + bm k H i k * bm k H j k:=by
 have:=bareiss k H i j hd
 rw [bm_self,bm_symm hs k k j] at this
 omega
def qf (n k:Nat) (H:Mt) (y:Nat→Int):Int:=sm n fun i=>y i * sm n fun j=>bm k H i j * y j
theorem qf_step {n k:Nat} {H:Mt} (hs:tr H = H) (hd:det k H ≠ 0) (y:Nat→Int):det (k + 1) H * qf n k H y = det k H * qf n (k + 1) H y + (sm n fun i=>bm k H i k * y i) * (sm n fun i=>bm k H i k * y i):=by
 unfold qf
 rw [← sm_mul,← sm_mul,← sm_mulr,← sm_add]
 refine sm_congr fun i _=>?_
 rw [show det (k + 1) H * (y i * sm n fun j=>bm k H i j * y j) = y i * sm n fun j=>det (k + 1) H * bm k H i j * y j by
  rw [show det (k + 1) H * (y i * sm n fun j=>bm k H i j * y j) = y i * (det (k + 1) H * sm n fun j=>bm k H i j * y j) by grind,← sm_mul]
  congr 1
  exact sm_congr fun j _=>by grind]
 rw [show (sm n fun j=>det (k + 1) H * bm k H i j * y j) = det k H * (sm n fun j=>bm (k + 1) H i j * y j) + bm k H i k * sm n fun j=>bm k H j k * y j by
  rw [← sm_lin]
  exact sm_congr fun j _=>by rw [step_any hs hd]; grind]
 grind
theorem qf_nonneg {n:Nat} {H:Mt} (hs:tr H = H) (hp:PM n H) (y:Nat→Int):∀ d k,k + d = n→0≤qf n k H y
 | 0,k,e=>by
  have:k = n:=by omega
  subst this
  unfold qf
  rw [sm_zero fun i hi=>by rw [sm_zero fun j hj=>by rw [bm_dup j hi,Int.zero_mul],Int.mul_zero]]
  exact Int.le_refl _
 | d + 1,k,e=>by
  have ih:=qf_nonneg hs hp y d (k + 1) (by omega)
  have h1:=hp k (by omega)
  have h2:=hp (k + 1) (by omega)
  have h:=qf_step (n:=n) hs (show det k H ≠ 0 by omega) y
  have h3:0≤det (k + 1) H * qf n k H y:=by
   rw [h]
   have:=Int.mul_nonneg (Int.le_of_lt h1) ih
   have:=sq_nonneg (sm n fun i=>bm k H i k * y i)
   omega
  exact Int.nonneg_of_mul_nonneg_right h3 h2
theorem bil_qf (n:Nat) (H:Mt) (y:Nat→Int):bil n H y y = qf n 0 H y:=by
 unfold bil qf
 refine sm_congr fun i _=>?_
 congr 1
 exact sm_congr fun j _=>by rw [bm_zero']
theorem bil_nonneg {n:Nat} {H:Mt} (hs:tr H = H) (hp:PM n H) (y:Nat→Int):0≤bil n H y y:=by
 rw [bil_qf]; exact qf_nonneg hs hp y n 0 (by omega)
theorem cauchy {n:Nat} {H:Mt} (hs:tr H = H) (hp:PM n H) (x y:Nat→Int) (hy:0 < bil n H y y):bil n H x y * bil n H x y≤bil n H x x * bil n H y y:=by
 have hsy:Sy n H:=fun a b _ _=>by
  have:=congrFun (congrFun hs b) a
  exact this
 have h:=bil_nonneg hs hp (fun c=>bil n H y y * x c + (- bil n H x y) * y c)
 rw [bil_lin_left,bil_lin_right,bil_lin_right,bil_symm hsy y x] at h
 generalize bil n H x x = X at *
 generalize bil n H y y = Y at *
 generalize bil n H x y = Z at *
 have e:Y * (Y * X + -Z * Z) + -Z * (Y * Z + -Z * Y) = Y * (X * Y - Z * Z):=by grind
 rw [e] at h
 have:=Int.nonneg_of_mul_nonneg_right h hy
 omega
end Go.Det
namespace Go.Det
section
variable {n:Nat} {H:Mt}
theorem diag_pos (hs:tr H = H) (hp:PM n H) {i:Nat} (hi:i < n):∀ d c,c + d = i→0 < bm c H i i
 | 0,c,e=>by
  have:c = i:=by omega
  subst this
  rw [bm_self]; exact hp _ hi
 | d + 1,c,e=>by
  have ih:=diag_pos hs hp hi d (c + 1) (by omega)
  have h1:=hp c (by omega)
  have h2:=hp (c + 1) (by omega)
  have h:=step_diag hs (show det c H ≠ 0 by omega) i
  have h3:=Int.mul_pos h1 ih
  have h4:=sq_nonneg (bm c H i c)
  have h5:0 < det (c + 1) H * bm c H i i:=by omega
  exact Int.pos_of_mul_pos_right h5 h2
theorem diag_le (hs:tr H = H) (hp:PM n H) {i:Nat} (hi:i < n):∀ c,c≤i→bm c H i i≤det c H * H i i
 | 0,_=>by rw [bm_zero']; simp [det]
 | c + 1,hc=>by
  have ih:=diag_le hs hp hi c (by omega)
  have h1:=hp c (by omega)
  have h2:=hp (c + 1) (by omega)
  have h:=step_diag hs (show det c H ≠ 0 by omega) i
  have h4:=sq_nonneg (bm c H i c)
  have h5:=Int.mul_le_mul_of_nonneg_left ih (Int.le_of_lt h2)
  have h6:det c H * bm (c + 1) H i i≤det c H * (det (c + 1) H * H i i):=by
   have:det (c + 1) H * (det c H * H i i) = det c H * (det (c + 1) H * H i i):=by grind
   omega
  exact Int.le_of_mul_le_mul_left h6 h1
theorem lam_sq (hs:tr H = H) (hp:PM n H) {i c:Nat} (hi:i < n) (hc:c < i):bm c H i c * bm c H i c≤det (c + 1) H * (det c H * H i i):=by
 have h1:=hp c (by omega)
 have h2:=hp (c + 1) (by omega)
 have h:=step_diag hs (show det c H ≠ 0 by omega) i
 have h3:=diag_pos hs hp hi (i - (c + 1)) (c + 1) (by omega)
 have h4:=Int.mul_pos h1 h3
 have h5:=Int.mul_le_mul_of_nonneg_left (diag_le hs hp hi c (by omega)) (Int.le_of_lt h2)
 omega
theorem sq_le_sq {a b:Int} (_hb:0≤b) (h:a.natAbs≤b.natAbs):a * a≤b * b:=by
 have e1:a * a = ((a.natAbs * a.natAbs:Nat):Int):=by rw [Int.natAbs_mul_self]
 have e2:b * b = ((b.natAbs * b.natAbs:Nat):Int):=by rw [Int.natAbs_mul_self]
 rw [e1,e2]
 exact Int.ofNat_le.2 (Nat.mul_le_mul h h)
theorem norm_le (hs:tr H = H) (hp:PM n H) {i:Nat} (hi:i < n) {D U:Int} (hU:0≤U) (hD:∀ m,m≤n→det m H≤D)
 (hl:∀ c,c < i→bm c H i c * bm c H i c≤U * U * (det (c + 1) H * det (c + 1) H)):∀ d c,c + d = i→bm c H i i≤det c H * (D + (d:Int) * (U * U * D))
 | 0,c,e=>by
  have:c = i:=by omega
  subst this
  rw [bm_self]
  have h1:=hp c (by omega)
  have h2:=hD (c + 1) (by omega)
  have h3:=hp (c + 1) (by omega)
  have h4:D≤det c H * D:=by
   have:=Int.mul_le_mul_of_nonneg_right (show (1:Int)≤det c H by omega) (show 0≤D by omega)
   omega
  have:det c H * (D + ((0:Nat):Int) * (U * U * D)) = det c H * D:=by simp
  omega
 | d + 1,c,e=>by
  have ih:=norm_le hs hp hi hU hD hl d (c + 1) (by omega)
  have h1:=hp c (by omega)
  have h2:=hp (c + 1) (by omega)
  have h:=step_diag hs (show det c H ≠ 0 by omega) i
  have hlc:=hl c (by omega)
  have hDc:=hD (c + 1) (by omega)
  have h5:=Int.mul_le_mul_of_nonneg_left ih (Int.le_of_lt h1)
  have hUU:0≤U * U:=sq_nonneg U
  have h6:U * U * (det (c + 1) H * det (c + 1) H)≤det (c + 1) H * (det c H * (U * U * D)):=by
   have a1:det (c + 1) H≤det c H * D:=by
    have:=Int.mul_le_mul_of_nonneg_right (show (1:Int)≤det c H by omega) (show 0≤D by omega)
    omega
   have a2:=Int.mul_le_mul_of_nonneg_left a1 (Int.mul_nonneg hUU (Int.le_of_lt h2))
   have e1:U * U * (det (c + 1) H * det (c + 1) H) = U * U * det (c + 1) H * det (c + 1) H:=by grind
   have e2:det (c + 1) H * (det c H * (U * U * D)) = U * U * det (c + 1) H * (det c H * D):=by grind
   omega
  have h7:det (c + 1) H * bm c H i i≤det (c + 1) H * (det c H * (D + ((d + 1:Nat):Int) * (U * U * D))):=by
   have e3:det (c + 1) H * (det c H * (D + ((d + 1:Nat):Int) * (U * U * D))) = det c H * (det (c + 1) H * (D + (d:Int) * (U * U * D))) + det (c + 1) H * (det c H * (U * U * D)):=by
    rw [Int.natCast_add]; grind
   omega
  exact Int.le_of_mul_le_mul_left h7 h2
structure Red (n:Nat) (H:Mt):Prop where
 sized:∀ i j,j < i→i < n→2 * bm j H i j≤det (j + 1) H∧-(2 * bm j H i j)≤det (j + 1) H
 lov:∀ i,i + 1 < n→3 * (det (i + 1) H * det (i + 1) H)≤4 * (det i H * det (i + 2) H + bm i H (i + 1) i * bm i H (i + 1) i)
theorem four_sq {a d:Int} (h1:2 * a≤d) (h2:-(2 * a)≤d):4 * (a * a)≤d * d:=by
 have h:=sq_le_sq (a:=2 * a) (b:=d) (by omega) (by omega)
 have:2 * a * (2 * a) = 4 * (a * a):=by grind
 omega
theorem Red.half (h:Red n H) {i:Nat} (hi:i + 1 < n):det (i + 1) H * det (i + 1) H≤2 * (det i H * det (i + 2) H):=by
 obtain ⟨h1,h2⟩:=h.sized (i + 1) i (by omega) hi
 have h3:=four_sq h1 h2
 have h4:=h.lov i hi
 omega
theorem stage_le (hs:tr H = H) (hp:PM n H) (hr:Red n H) {D:Int} (hD:∀ m,m≤n→det m H≤D) {i j:Nat} (hji:j≤i) (hi:i < n):∀ d c,c + d = j→4 * bm c H i j≤det c H * ((4 + d:Int) * D)∧-(4 * bm c H i j)≤det c H * ((4 + d:Int) * D)
 | 0,c,e=>by
  have:c = j:=by omega
  subst this
  have h1:=hp c (by omega)
  have h2:=hp (c + 1) (by omega)
  have h3:=hD (c + 1) (by omega)
  have h4:D≤det c H * D:=by
   have:=Int.mul_le_mul_of_nonneg_right (show (1:Int)≤det c H by omega) (show 0≤D by omega)
   omega
  have e4:det c H * ((4 + ((0:Nat):Int)) * D) = 4 * (det c H * D):=by simp; grind
  rw [e4]
  by_cases e:c = i
  · subst e
    rw [bm_self]; omega
  · obtain ⟨a1,a2⟩:=hr.sized i c (by omega) hi
    omega
 | d + 1,c,e=>by
  obtain ⟨ih1,ih2⟩:=stage_le hs hp hr hD hji hi d (c + 1) (by omega)
  have h1:=hp c (by omega)
  have h2:=hp (c + 1) (by omega)
  have h3:=hD (c + 1) (by omega)
  have h:=step_any hs (show det c H ≠ 0 by omega) i j
  obtain ⟨a1,a2⟩:=hr.sized i c (by omega) hi
  obtain ⟨b1,b2⟩:=hr.sized j c (by omega) (by omega)
  have hl:4 * (bm c H i c * bm c H j c)≤det (c + 1) H * det (c + 1) H∧-(4 * (bm c H i c * bm c H j c))≤det (c + 1) H * det (c + 1) H:=by
   have q1:=four_sq a1 a2
   have q2:=four_sq b1 b2
   have q3:=sq_nonneg (bm c H i c - bm c H j c)
   have q4:=sq_nonneg (bm c H i c + bm c H j c)
   have e3:(bm c H i c - bm c H j c) * (bm c H i c - bm c H j c) = bm c H i c * bm c H i c + bm c H j c * bm c H j c - 2 * (bm c H i c * bm c H j c):=by grind
   have e4:(bm c H i c + bm c H j c) * (bm c H i c + bm c H j c) = bm c H i c * bm c H i c + bm c H j c * bm c H j c + 2 * (bm c H i c * bm c H j c):=by grind
   omega
  have hd:det (c + 1) H * det (c + 1) H≤det (c + 1) H * (det c H * D):=by
   have:=Int.mul_le_mul_of_nonneg_right (show (1:Int)≤det c H by omega) (show 0≤D by omega)
   exact Int.mul_le_mul_of_nonneg_left (by omega) (Int.le_of_lt h2)
  have k1:=Int.mul_le_mul_of_nonneg_left ih1 (Int.le_of_lt h1)
  have k2:=Int.mul_le_mul_of_nonneg_left ih2 (Int.le_of_lt h1)
  have e5:det (c + 1) H * (det c H * ((4 + ((d + 1:Nat):Int)) * D)) = det c H * (det (c + 1) H * ((4 + (d:Int)) * D)) + det (c + 1) H * (det c H * D):=by rw [Int.natCast_add]; grind
  have e6:det c H * (4 * bm (c + 1) H i j) = 4 * (det c H * bm (c + 1) H i j):=by grind
  have e7:det c H * -(4 * bm (c + 1) H i j) = -(4 * (det c H * bm (c + 1) H i j)):=by grind
  have e8:det (c + 1) H * (4 * bm c H i j) = 4 * (det (c + 1) H * bm c H i j):=by grind
  have e9:det (c + 1) H * -(4 * bm c H i j) = -(4 * (det (c + 1) H * bm c H i j)):=by grind
  constructor
  · refine Int.le_of_mul_le_mul_left (a:=det (c + 1) H) ?_ h2
    omega
  · refine Int.le_of_mul_le_mul_left (a:=det (c + 1) H) ?_ h2
    omega
end
theorem pow_chain {e:Nat→Nat} {n:Nat} (hpos:∀ k,k≤n→0 < e k) (h0:e 0 = 1) (hc:∀ k,k + 1 < n→e (k + 1) * e (k + 1)≤e k * e (k + 2)):∀ k,k < n→e k ^ (k + 1)≤e (k + 1) ^ k
 | 0,_=>by rw [h0]; simp
 | k + 1,hk=>by
  have ih:=pow_chain hpos h0 hc k (by omega)
  have h:=hc k hk
  have h1:(e (k + 1) * e (k + 1)) ^ (k + 1)≤(e k * e (k + 2)) ^ (k + 1):=Nat.pow_le_pow_left h _
  rw [Nat.mul_pow,Nat.mul_pow] at h1
  have h2:e k ^ (k + 1) * e (k + 2) ^ (k + 1)≤e (k + 1) ^ k * e (k + 2) ^ (k + 1):=Nat.mul_le_mul_right _ ih
  have h3:=Nat.le_trans h1 h2
  have hp:0 < e (k + 1) ^ k:=Nat.pow_pos (hpos (k + 1) (by omega))
  refine Nat.le_of_mul_le_mul_left ?_ hp
  rw [show e (k + 1) ^ k * e (k + 1) ^ (k + 1 + 1) = e (k + 1) ^ (k + 1) * e (k + 1) ^ (k + 1) by rw [← Nat.pow_add,← Nat.pow_add]; congr 1; omega]
  exact h3
theorem pow_root {e:Nat→Nat} {n:Nat} (h:∀ k,k < n→e k ^ (k + 1)≤e (k + 1) ^ k) {k:Nat} (hk1:1≤k):∀ m,k≤m→m≤n→e k ^ m≤e m ^ k
 | 0,h1,_=>by omega
 | m + 1,h1,h2=>by
  by_cases e1:k = m + 1
  · subst e1; exact Nat.le_refl _
  · have ih:=pow_root h hk1 m (by omega) (by omega)
    have hm:=h m (by omega)
    have a1:(e k ^ (m + 1)) ^ m≤(e (m + 1) ^ k) ^ m:=by
     calc (e k ^ (m + 1)) ^ m = (e k ^ m) ^ (m + 1):=by rw [← Nat.pow_mul,← Nat.pow_mul,Nat.mul_comm]
      _≤(e m ^ k) ^ (m + 1):=Nat.pow_le_pow_left ih _
      _ = (e m ^ (m + 1)) ^ k:=by rw [← Nat.pow_mul,← Nat.pow_mul,Nat.mul_comm]
      _≤(e (m + 1) ^ m) ^ k:=Nat.pow_le_pow_left hm _
      _ = (e (m + 1) ^ k) ^ m:=by rw [← Nat.pow_mul,← Nat.pow_mul,Nat.mul_comm]
    exact (Nat.pow_le_pow_iff_left (by omega)).1 a1
def lg (H:Mt) (k:Nat):Nat:=(det k H).toNat * (det k H).toNat * 2 ^ (k * k)
theorem lg_pow {n:Nat} {H:Mt} (hp:PM n H) (hr:Red n H) {k:Nat} (hk1:1≤k) (hk:k≤n):lg H k ^ n≤lg H n ^ k:=by
 have hpos:∀ k,k≤n→0 < lg H k:=fun k hk=>by
  have:=hp k hk
  have h1:0 < (det k H).toNat:=by omega
  exact Nat.mul_pos (Nat.mul_pos h1 h1) (Nat.pow_pos (by decide))
 refine pow_root (pow_chain hpos (by simp [lg,det]) fun k hk=>?_) hk1 n hk (Nat.le_refl _)
 have h1:=hr.half hk
 have p0:=hp k (by omega)
 have p1:=hp (k + 1) (by omega)
 have p2:=hp (k + 2) (by omega)
 unfold lg
 obtain ⟨a,ha⟩ : ∃ a:Nat,det k H = a:=⟨(det k H).toNat,by omega⟩
 obtain ⟨b,hb⟩ : ∃ b:Nat,det (k + 1) H = b:=⟨(det (k + 1) H).toNat,by omega⟩
 obtain ⟨c,hc⟩ : ∃ c:Nat,det (k + 2) H = c:=⟨(det (k + 2) H).toNat,by omega⟩
 rw [ha,hb,hc] at h1 ⊢
 simp only [Int.toNat_natCast]
 have h2:b * b≤2 * (a * c):=by exact_mod_cast h1
 have h3:b * b * (b * b)≤2 * (a * c) * (2 * (a * c)):=Nat.mul_le_mul h2 h2
 rw [show b * b * 2 ^ ((k + 1) * (k + 1)) * (b * b * 2 ^ ((k + 1) * (k + 1))) = b * b * (b * b) * 2 ^ ((k + 1) * (k + 1) + (k + 1) * (k + 1)) by rw [Nat.pow_add]; grind]
 rw [show a * a * 2 ^ (k * k) * (c * c * 2 ^ ((k + 2) * (k + 2))) = a * c * (a * c) * 2 ^ (k * k + (k + 2) * (k + 2)) by rw [Nat.pow_add]; grind]
 rw [show k * k + (k + 2) * (k + 2) = 2 + ((k + 1) * (k + 1) + (k + 1) * (k + 1)) by grind,Nat.pow_add 2 2]
 have:=Nat.mul_le_mul_right (2 ^ ((k + 1) * (k + 1) + (k + 1) * (k + 1))) h3
 refine Nat.le_trans this ?_
 rw [show 2 * (a * c) * (2 * (a * c)) * 2 ^ ((k + 1) * (k + 1) + (k + 1) * (k + 1)) = a * c * (a * c) * (2 ^ 2 * 2 ^ ((k + 1) * (k + 1) + (k + 1) * (k + 1))) by grind]
 exact Nat.le_refl _
theorem lg_tab:∀ n,n < 9→∀ k,k < n→1≤k→(10000 * 10000 * 2 ^ (n * n)) ^ k < (65536 * 65536 * 2 ^ (k * k)) ^ n:=by decide +kernel
theorem minor_small {n:Nat} {H:Mt} (hp:PM n H) (hr:Red n H) (hn:n≤8) (hd:det n H≤10000):∀ k,k≤n→det k H≤65535:=by
 intro k hk
 by_cases e0:k = 0
 · subst e0; simp [det]
 by_cases en:k = n
 · subst en; omega
 refine Classical.byContradiction fun hc=>?_
 have hc:65536≤(det k H).toNat:=by omega
 have h1:=lg_pow hp hr (k:=k) (by omega) hk
 have h2:=lg_tab n (by omega) k (by omega) (by omega)
 have p:=hp n (Nat.le_refl _)
 have h3:lg H n≤10000 * 10000 * 2 ^ (n * n):=Nat.mul_le_mul_right _ (Nat.mul_le_mul (by omega) (by omega))
 have h4:65536 * 65536 * 2 ^ (k * k)≤lg H k:=Nat.mul_le_mul_right _ (Nat.mul_le_mul hc hc)
 have h5:=Nat.pow_le_pow_left h3 k
 have h6:=Nat.pow_le_pow_left h4 n
 omega
theorem entry_small {n:Nat} {H:Mt} (hs:tr H = H) (hp:PM n H) (hr:Red n H) (hn:n≤8) (hd:det n H≤10000) {i j:Nat} (hi:i < n) (hj:j < n):-262144 < H i j∧H i j < 262144:=by
 have key:∀ i j,j≤i→i < n→-262144 < H i j∧H i j < 262144:=fun i j hji hi=>by
  have h:=stage_le hs hp hr (minor_small hp hr hn hd) hji hi j 0 (by omega)
  rw [bm_zero'] at h
  have e:det 0 H = 1:=rfl
  rw [e] at h
  omega
 by_cases h:j≤i
 · exact key i j h hi
 · have e:H i j = H j i:=by
    have:=congrFun (congrFun hs i) j
    exact this.symm
   rw [e]; exact key j i (by omega) hj
theorem first_small {n:Nat} {H:Mt} (hp:PM n H) (hr:Red n H) (hn:1≤n):(H 0 0) ^ n≤2 ^ (n * (n - 1) / 2) * det n H:=by
 have h:=lg_pow hp hr (k:=1) (by omega) hn
 have p1:=hp 1 hn
 have pn:=hp n (Nat.le_refl _)
 have e1:det 1 H = H 0 0:=by simp [det,sm,sgn]
 unfold lg at h
 obtain ⟨a,ha⟩ : ∃ a:Nat,det 1 H = a:=⟨(det 1 H).toNat,by omega⟩
 obtain ⟨b,hb⟩ : ∃ b:Nat,det n H = b:=⟨(det n H).toNat,by omega⟩
 rw [← e1]
 rw [ha,hb] at h ⊢
 simp only [Int.toNat_natCast,Nat.pow_one,Nat.mul_one] at h
 obtain ⟨m,rfl⟩ : ∃ m,n = m + 1:=⟨n - 1,by omega⟩
 have e2:(m + 1) * (m + 1 - 1) / 2 * 2 = (m + 1) * m:=by
  rw [show m + 1 - 1 = m by omega]
  have:(m + 1) * m % 2 = 0:=by
   rcases Nat.mod_two_eq_zero_or_one m with h | h
   · rw [Nat.mul_mod,h]; simp
   · rw [Nat.mul_mod,Nat.add_mod,h]
  omega
 obtain ⟨t,ht⟩ : ∃ t,t = (m + 1) * (m + 1 - 1) / 2:=⟨_,rfl⟩
 rw [← ht] at e2 ⊢
 have h2:(a ^ (m + 1)) * (a ^ (m + 1))≤(2 ^ t * b) * (2 ^ t * b):=by
  rw [Nat.mul_pow,Nat.mul_pow] at h
  rw [show (m + 1) * (m + 1) = (m + 1) + 2 * t by rw [Nat.mul_comm 2 t,e2]; grind,Nat.pow_add 2 (m + 1) (2 * t),Nat.pow_mul 2 2 t] at h
  have hp2:0 < 2 ^ (m + 1):=Nat.pow_pos (by decide)
  refine Nat.le_of_mul_le_mul_left ?_ hp2
  have e5:(2 ^ 2) ^ t = 2 ^ t * 2 ^ t:=by rw [← Nat.pow_mul,Nat.mul_comm,Nat.mul_two,Nat.pow_add]
  rw [e5] at h
  calc 2 ^ (m + 1) * (a ^ (m + 1) * a ^ (m + 1)) = a ^ (m + 1) * a ^ (m + 1) * 2 ^ (m + 1):=by grind
   _≤_:=h
   _ = _:=by grind
 have h3:a ^ (m + 1)≤2 ^ t * b:=by
  refine Classical.byContradiction fun hc=>?_
  have hc:2 ^ t * b < a ^ (m + 1):=by omega
  have:=Nat.mul_lt_mul_of_lt_of_lt hc hc
  omega
 exact_mod_cast h3
end Go.Det
namespace Go.Det
section
variable {n:Nat} {H:Mt}
def nearZ (a b:Int):Int:=(a + a + b) / (b + b)
theorem nearZ_sized {a b:Int} (hb:0 < b):2 * (a - nearZ a b * b)≤b∧-(2 * (a - nearZ a b * b))≤b:=by
 unfold nearZ
 have h1:=Int.emod_nonneg (a + a + b) (show b + b ≠ 0 by omega)
 have h2:=Int.emod_lt_of_pos (a + a + b) (show 0 < b + b by omega)
 have h3:=Int.mul_ediv_add_emod (a + a + b) (b + b)
 have e:(b + b) * ((a + a + b) / (b + b)) = 2 * ((a + a + b) / (b + b) * b):=by grind
 omega
theorem nearZ_abs {a b U:Int} (hb:0 < b) (h1:a≤U * b) (h2:-a≤U * b):nearZ a b≤U + 1∧-(nearZ a b)≤U + 1:=by
 obtain ⟨s1,s2⟩:=nearZ_sized (a:=a) hb
 constructor
 · refine Classical.byContradiction fun hc=>?_
   have h3:(U + 2) * b≤nearZ a b * b:=Int.mul_le_mul_of_nonneg_right (by omega) (Int.le_of_lt hb)
   have e:(U + 2) * b = U * b + 2 * b:=by grind
   omega
 · refine Classical.byContradiction fun hc=>?_
   have h3:nearZ a b * b≤(-(U + 2)) * b:=Int.mul_le_mul_of_nonneg_right (by omega) (Int.le_of_lt hb)
   have e:(-(U + 2)) * b = -(U * b) - 2 * b:=by grind
   omega
theorem bm_dupC (hs:tr H = H) {k j:Nat} (i:Nat) (hj:j < k):bm k H i j = 0:=by rw [bm_symm hs,bm_dup i hj]
theorem lam_opS (hs:tr H = H) {q:Int} {i0 j0:Nat} (h:j0 < i0) {i c:Nat} (hc:c < i) :
 bm c (opS q i0 j0 H) i c = if i = i0 then (if c < j0 then bm c H i0 c - q * bm c H j0 c else if c = j0 then bm c H i0 c - q * det (c + 1) H else bm c H i0 c) else bm c H i c:=by
 by_cases hl:i0 < c
 · rw [bm_opS_high q H i c hl h (by omega) (Nat.le_refl _),if_neg (by omega)]
 · rw [bm_opS_low q j0 H i c (by omega)]
   by_cases e:c = i0
   · subst e
     rw [if_pos rfl,if_neg (by omega),if_neg (by omega),if_neg (by omega),bm_dupC hs i h]
     omega
   · rw [if_neg e]
     by_cases e1:i = i0
     · subst e1
       rw [if_pos rfl,if_pos rfl]
       by_cases e2:c < j0
       · rw [if_pos e2]
       · rw [if_neg e2]
         by_cases e3:c = j0
         · subst e3
           rw [if_pos rfl,bm_self]
         · rw [if_neg e3,bm_dup c (show j0 < c by omega)]
           omega
     · rw [if_neg e1,if_neg e1]
theorem opS_diag {q:Int} {i0 j0 i:Nat} (hi:i ≠ i0):opS q i0 j0 H i i = H i i:=by
 simp only [opS,tr,rop,setR]
 rw [if_neg hi,if_neg hi]
theorem PM.opS (hp:PM n H) {q:Int} {i0 j0:Nat} (h:j0 < i0):PM n (opS q i0 j0 H):=fun m hm=>by rw [det_opS q H h]; exact hp m hm
structure SI (n k j:Nat) (H:Mt) (U:Int):Prop where
 red:Red k H
 sz:∀ c,j≤c→c < k→2 * bm c H k c≤det (c + 1) H∧-(2 * bm c H k c)≤det (c + 1) H
 bd:∀ c,c < k→bm c H k c≤U * det (c + 1) H∧-(bm c H k c)≤U * det (c + 1) H
theorem SI.step (hs:tr H = H) (hp:PM n H) {k j:Nat} {U:Int} (hU:0≤U) (hk:k < n) (hj:j < k) (h:SI n k (j + 1) H U) :
 SI n k j (opS (nearZ (bm j H k j) (det (j + 1) H)) k j H) (2 * U + 1):=by
 obtain ⟨q,hq⟩ : ∃ q,q = nearZ (bm j H k j) (det (j + 1) H):=⟨_,rfl⟩
 rw [← hq]
 have hd:=fun m=>det_opS (m:=m) q H hj
 have hlam:∀ i c,c < i→i ≠ k→bm c (opS q k j H) i c = bm c H i c:=fun i c hc hi=>by rw [lam_opS hs hj hc,if_neg hi]
 have hpj:=hp (j + 1) (by omega)
 have hs1:=nearZ_sized (a:=bm j H k j) hpj
 have hq1:=nearZ_abs hpj (h.bd j hj).1 (h.bd j hj).2
 rw [← hq] at hs1 hq1
 refine ⟨⟨fun i c hc hi=>?_,fun i hi=>?_⟩,fun c h1 h2=>?_,fun c hc=>?_⟩
 · rw [hlam i c hc (by omega),hd]; exact h.red.sized i c hc hi
 · rw [hlam (i + 1) i (by omega) (by omega),hd,hd,hd]; exact h.red.lov i hi
 · rw [lam_opS hs hj h2,if_pos rfl,hd,if_neg (by omega)]
   by_cases e:c = j
   · subst e; rw [if_pos rfl]; exact hs1
   · rw [if_neg e]; exact h.sz c (by omega) h2
 · rw [lam_opS hs hj hc,if_pos rfl,hd]
   have hpc:=hp (c + 1) (by omega)
   obtain ⟨b1,b2⟩:=h.bd c hc
   have e1:(2 * U + 1) * det (c + 1) H = U * det (c + 1) H + (U + 1) * det (c + 1) H:=by grind
   have e2:0≤(U + 1) * det (c + 1) H:=Int.mul_nonneg (by omega) (Int.le_of_lt hpc)
   by_cases e:c < j
   · rw [if_pos e]
     obtain ⟨r1,r2⟩:=h.red.sized j c e hj
     have k0:(q * bm c H j c).natAbs≤((U + 1) * det (c + 1) H).natAbs:=by
      rw [Int.natAbs_mul,Int.natAbs_mul]
      exact Nat.mul_le_mul (by omega) (by omega)
     omega
   · rw [if_neg e]
     by_cases e':c = j
     · subst e'
       rw [if_pos rfl]
       have e3:(U + 1) * det (c + 1) H = U * det (c + 1) H + det (c + 1) H:=by grind
       have e4:0≤U * det (c + 1) H:=Int.mul_nonneg hU (Int.le_of_lt hpc)
       omega
     · rw [if_neg e']; omega
theorem SI.skip (hp:PM n H) {k j:Nat} {U:Int} (hU:0≤U) (hk:k < n) (hj:j < k) (h:SI n k (j + 1) H U) (hz:2 * bm j H k j≤det (j + 1) H∧-(2 * bm j H k j)≤det (j + 1) H):SI n k j H (2 * U + 1):=by
 refine ⟨h.red,fun c h1 h2=>?_,fun c hc=>?_⟩
 · by_cases e:c = j
   · subst e; exact hz
   · exact h.sz c (by omega) h2
 · obtain ⟨b1,b2⟩:=h.bd c hc
   have hpc:=hp (c + 1) (by omega)
   have e1:(2 * U + 1) * det (c + 1) H = U * det (c + 1) H + (U + 1) * det (c + 1) H:=by grind
   have e2:0≤(U + 1) * det (c + 1) H:=Int.mul_nonneg (by omega) (Int.le_of_lt hpc)
   omega
structure PI (n p:Nat) (T V G:Mt) (f0 f1 g0 g1:Int):Prop where
 row0:∀ c,V p c = f0 * T p c + f1 * T (p + 1) c
 row1:∀ c,V (p + 1) c = g0 * T p c + g1 * T (p + 1) c
 other:∀ i,i ≠ p→i ≠ p + 1→V i = T i
 dt:det n V = det n T ∨ det n V = - det n T
 dm:∀ m,m ≠ p + 1→det m (gr n V G) = det m (gr n T G)
 hi:∀ m i j,p + 2≤m→m≤i→m≤j→bm m (gr n V G) i j = bm m (gr n T G) i j
 l0:∀ c j,c≤p→(j < p ∨ p + 2≤j)→bm c (gr n V G) p j = f0 * bm c (gr n T G) p j + f1 * bm c (gr n T G) (p + 1) j
 l1:∀ c j,c≤p→(j < p ∨ p + 2≤j)→bm c (gr n V G) (p + 1) j = g0 * bm c (gr n T G) p j + g1 * bm c (gr n T G) (p + 1) j
 lo:∀ c i j,c≤p→(i < p ∨ p + 2≤i)→(j < p ∨ p + 2≤j)→bm c (gr n V G) i j = bm c (gr n T G) i j
theorem PI.start (n p:Nat) (T G:Mt):PI n p T T G 1 0 0 1 where
 row0:=fun c=>by omega
 row1:=fun c=>by omega
 other:=fun i _ _=>rfl
 dt:=.inl rfl
 dm:=fun m _=>rfl
 hi:=fun m i j _ _ _=>rfl
 l0:=fun c j _ _=>by omega
 l1:=fun c j _ _=>by omega
 lo:=fun c i j _ _ _=>rfl
theorem sw_a (p:Nat):sw p (p + 1) p = p + 1:=by unfold sw; rw [if_pos rfl]
theorem sw_b (p:Nat):sw p (p + 1) (p + 1) = p:=by unfold sw; rw [if_neg (by omega),if_pos rfl]
theorem sw_c {p j:Nat} (h:j < p ∨ p + 2≤j):sw p (p + 1) j = j:=by unfold sw; rw [if_neg (by omega),if_neg (by omega)]
theorem PI.swap {p:Nat} {T V G:Mt} {f0 f1 g0 g1:Int} (h:PI n p T V G f0 f1 g0 g1) (hp:p + 1 < n):PI n p T (swp2 p (p + 1) V) G g0 g1 f0 f1 where
 row0:=fun c=>by rw [swp2_sw,sw_a]; exact h.row1 c
 row1:=fun c=>by rw [swp2_sw,sw_b]; exact h.row0 c
 other:=fun i h1 h2=>by rw [swp2_sw,sw_c (by omega)]; exact h.other i h1 h2
 dt:=by
  rw [(ma_det n).swap V p (p + 1) (by omega) hp (by omega)]
  rcases h.dt with e | e
  · right; rw [e]
  · left; rw [e]; omega
 dm:=fun m hm=>by
  rw [gr_sw]
  by_cases e:m≤p
  · rw [det_opW_low _ e]; exact h.dm m hm
  · rw [det_opW_high _ (by omega)]; exact h.dm m hm
 hi:=fun m i j h1 h2 h3=>by rw [gr_sw,bm_opW_high _ i j h1 h2 h3]; exact h.hi m i j h1 h2 h3
 l0:=fun c j h1 h2=>by rw [gr_sw,bm_opW_low _ _ _ h1,sw_a,sw_c h2]; exact h.l1 c j h1 h2
 l1:=fun c j h1 h2=>by rw [gr_sw,bm_opW_low _ _ _ h1,sw_b,sw_c h2]; exact h.l0 c j h1 h2
 lo:=fun c i j h1 h2 h3=>by rw [gr_sw,bm_opW_low _ _ _ h1,sw_c h2,sw_c h3]; exact h.lo c i j h1 h2 h3
theorem PI.sub {p:Nat} {T V G:Mt} {f0 f1 g0 g1:Int} (h:PI n p T V G f0 f1 g0 g1) (q:Int):PI n p T (rop q (p + 1) p V) G f0 f1 (g0 - q * f0) (g1 - q * f1) where
 row0:=fun c=>by
  simp only [rop,setR]
  rw [if_neg (by omega)]; exact h.row0 c
 row1:=fun c=>by
  simp only [rop,setR]
  rw [if_pos trivial,h.row0 c,h.row1 c]; grind
 other:=fun i h1 h2=>by
  funext c
  simp only [rop,setR]
  rw [if_neg h2,h.other i h1 h2]
 dt:=by rw [det_rop q V (by omega)]; exact h.dt
 dm:=fun m hm=>by rw [gr_rop,det_opS q _ (by omega)]; exact h.dm m hm
 hi:=fun m i j h1 h2 h3=>by rw [gr_rop,bm_opS_high q _ i j (by omega) (by omega) h2 h3]; exact h.hi m i j h1 h2 h3
 l0:=fun c j h1 h2=>by
  rw [gr_rop,bm_opS_low q p _ p j (by omega),if_neg (by omega),if_neg (by omega)]; exact h.l0 c j h1 h2
 l1:=fun c j h1 h2=>by
  rw [gr_rop,bm_opS_low q p _ (p + 1) j (by omega),if_neg (by omega),if_pos rfl,h.l0 c j h1 h2,h.l1 c j h1 h2]; grind
 lo:=fun c i j h1 h2 h3=>by
  rw [gr_rop,bm_opS_low q p _ i j (by omega),if_neg (by omega),if_neg (by omega)]; exact h.lo c i j h1 h2 h3
structure PN (n p:Nat) (V G:Mt) (a b c:Int):Prop where
 pa:bm p (gr n V G) p p = a
 pb:bm p (gr n V G) (p + 1) p = b
 pc:bm p (gr n V G) (p + 1) (p + 1) = c
theorem PN.swap {p:Nat} {V G:Mt} {a b c:Int} (hG:Sy n G) (h:PN n p V G a b c):PN n p (swp2 p (p + 1) V) G c b a where
 pa:=by rw [gr_sw,bm_opW_low _ _ _ (Nat.le_refl _),sw_a]; exact h.pc
 pb:=by rw [gr_sw,bm_opW_low _ _ _ (Nat.le_refl _),sw_a,sw_b,bm_symm (gr_tr hG)]; exact h.pb
 pc:=by rw [gr_sw,bm_opW_low _ _ _ (Nat.le_refl _),sw_b]; exact h.pa
theorem PN.sub {p:Nat} {V G:Mt} {a b c:Int} (hG:Sy n G) (h:PN n p V G a b c) (q:Int):PN n p (rop q (p + 1) p V) G a (b - q * a) (c - q * (b + (b - q * a))) where
 pa:=by rw [gr_rop,bm_opS_low q p _ p p (by omega),if_neg (by omega),if_neg (by omega)]; exact h.pa
 pb:=by rw [gr_rop,bm_opS_low q p _ (p + 1) p (by omega),if_neg (by omega),if_pos rfl,h.pb,h.pa]
 pc:=by
  rw [gr_rop,bm_opS_low q p _ (p + 1) (p + 1) (by omega),if_pos rfl,if_pos rfl,if_pos rfl,h.pb,h.pa,h.pc,bm_symm (gr_tr hG),h.pb]
  grind
theorem PN.disc {p:Nat} {V G:Mt} {a b c:Int} (hG:Sy n G) (h:PN n p V G a b c) (hd:det p (gr n V G) ≠ 0):a * c = det p (gr n V G) * det (p + 2) (gr n V G) + b * b:=by
 have e:=step_diag (gr_tr hG (T:=V)) hd (p + 1)
 rw [h.pb,h.pc,bm_self,← bm_self p,h.pa] at e
 exact e
end
end Go.Det
namespace Go.Det
theorem nat_le_of_sq {x:Int} {X:Int} (_hX:0≤X) (h:x * x≤X * X):x.natAbs≤X.natAbs:=by
 refine Classical.byContradiction fun hc=>?_
 have h1:X.natAbs < x.natAbs:=by omega
 have h2:=Nat.mul_lt_mul_of_lt_of_lt h1 h1
 have e1:x * x = ((x.natAbs * x.natAbs:Nat):Int):=by rw [Int.natAbs_mul_self]
 have e2:X * X = ((X.natAbs * X.natAbs:Nat):Int):=by rw [Int.natAbs_mul_self]
 rw [e1,e2] at h
 have:=Int.ofNat_le.1 h
 omega
def pot (H:Mt):Nat→Nat
 | 0=>1
 | m + 1=>pot H m * (det (m + 1) H).toNat
theorem pot_pos {n:Nat} {H:Mt} (hp:PM n H):∀ m,m≤n→0 < pot H m
 | 0,_=>Nat.one_pos
 | m + 1,h=>Nat.mul_pos (pot_pos hp m (by omega)) (by have:=hp (m + 1) h; omega)
theorem pot_eq {H H':Mt}:∀ m,(∀ q,1≤q→q≤m→det q H' = det q H)→pot H' m = pot H m
 | 0,_=>rfl
 | m + 1,h=>by simp only [pot]; rw [pot_eq m fun q h1 h2=>h q h1 (by omega),h (m + 1) (by omega) (Nat.le_refl _)]
theorem pot_lt {n p:Nat} {H H':Mt} (hp':PM n H') (hd:∀ m,m ≠ p + 1→det m H' = det m H) (hlt:det (p + 1) H' < det (p + 1) H):∀ m,p + 1≤m→m≤n→pot H' m < pot H m
 | 0,h,_=>by omega
 | m + 1,h,hn=>by
  simp only [pot]
  by_cases e:p = m
  · subst e
    rw [pot_eq p fun q h1 h2=>hd q (by omega)]
    have hpp:=pot_pos hp' p (by omega)
    rw [pot_eq p fun q h1 h2=>hd q (by omega)] at hpp
    have:=hp' (p + 1) hn
    exact Nat.mul_lt_mul_of_pos_left (by omega) hpp
  · have ih:=pot_lt hp' hd hlt m (by omega) (by omega)
    rw [hd (m + 1) (by omega)]
    have:=hp' (m + 1) hn
    rw [hd (m + 1) (by omega)] at this
    exact Nat.mul_lt_mul_of_pos_right ih (by omega)
structure LI (n k:Nat) (G T:Mt) (D B:Int):Prop where
 uni:det n T = 1 ∨ det n T = -1
 pos:PM n (gr n T G)
 red:Red k (gr n T G)
 dle:∀ m,m≤n→det m (gr n T G)≤D
 nle:∀ i,i < n→gr n T G i i≤B
section
variable {n k:Nat} {G T:Mt} {D B:Int}
theorem Red.zero (H:Mt):Red 0 H:=⟨fun i j _ h=>by omega,fun i h=>by omega⟩
theorem Red.one (H:Mt):Red 1 H:=⟨fun i j h1 h=>by omega,fun i h=>by omega⟩
theorem Red.le {k':Nat} {H:Mt} (h:Red k H) (hk:k'≤k):Red k' H:=⟨fun i j h1 h2=>h.sized i j h1 (by omega),fun i h1=>h.lov i (by omega)⟩
theorem gr_one_det {m:Nat} (hm:m≤n):det m (gr n one G) = det m G:=det_congr fun i j hi hj=>gr_one (by omega) (by omega)
theorem gr_one_bm {m i j:Nat} (hm:m≤n) (hi:i < n) (hj:j < n):bm m (gr n one G) i j = bm m G i j:=by
 unfold bm
 refine det_congr fun r c hr hc=>gr_one ?_ ?_
 · split <;> omega
 · split <;> omega
theorem LI.start (hp:PM n G) (hD:∀ m,m≤n→det m G≤D) (hB:∀ i,i < n→G i i≤B):LI n 1 G one D B where
 uni:=.inl (det_one n)
 pos:=fun m hm=>by rw [gr_one_det hm]; exact hp m hm
 red:=Red.one _
 dle:=fun m hm=>by rw [gr_one_det hm]; exact hD m hm
 nle:=fun i hi=>by rw [gr_one hi hi]; exact hB i hi
theorem LI.D1 (h:LI n k G T D B):1≤D:=by
 have:=h.dle 0 (Nat.zero_le _)
 simp only [det] at this
 exact this
theorem LI.npos (hG:Sy n G) (h:LI n k G T D B) {i:Nat} (hi:i < n):0 < gr n T G i i:=by
 have:=diag_pos (gr_tr hG (T:=T)) h.pos hi i 0 (by omega)
 rw [bm_zero'] at this
 exact this
theorem lam_le {H:Mt} (hs:tr H = H) (hp:PM n H) (hD:∀ m,m≤n→det m H≤D) {i c:Nat} (hi:i < n) (hc:c < i) (hB:H i i≤B) :
 bm c H i c≤D * B * det (c + 1) H∧-(bm c H i c)≤D * B * det (c + 1) H:=by
 have h:=lam_sq hs hp hi hc
 have p1:=hp (c + 1) (by omega)
 have p0:=hp c (by omega)
 have d0:=hD c (by omega)
 have hH:0 < H i i:=by
  have:=diag_pos hs hp hi i 0 (by omega)
  rw [bm_zero'] at this
  exact this
 have h1:det c H * H i i≤D * B:=Int.mul_le_mul d0 hB (Int.le_of_lt hH) (by omega)
 have hDB:1≤D * B:=by
  have:=Int.mul_le_mul (show (1:Int)≤det c H by omega) (show (1:Int)≤H i i by omega) (by omega) (by omega)
  omega
 have h2:D * B≤D * B * (D * B) * det (c + 1) H:=by
  have a1:=Int.mul_le_mul_of_nonneg_left hDB (show 0≤D * B by omega)
  have a2:=Int.mul_le_mul_of_nonneg_left (show (1:Int)≤det (c + 1) H by omega) (show 0≤D * B * (D * B) by have:=sq_nonneg (D * B); omega)
  omega
 have h3:=Int.mul_le_mul_of_nonneg_left (Int.le_trans h1 h2) (Int.le_of_lt p1)
 have h4:bm c H i c * bm c H i c≤D * B * det (c + 1) H * (D * B * det (c + 1) H):=by
  have e:det (c + 1) H * (D * B * (D * B) * det (c + 1) H) = D * B * det (c + 1) H * (D * B * det (c + 1) H):=by grind
  omega
 have hX:0≤D * B * det (c + 1) H:=Int.mul_nonneg (by omega) (by omega)
 have:=nat_le_of_sq hX h4
 omega
theorem LI.si (hG:Sy n G) (h:LI n k G T D B) (hk:k < n):SI n k k (gr n T G) (D * B) :=
 ⟨h.red,fun c h1 h2=>absurd h1 (by omega),fun c hc=>lam_le (gr_tr hG) h.pos h.dle hk hc (h.nle k hk)⟩
theorem SI.norm (hG:Sy n G) (hp:PM n (gr n T G)) (hD:∀ m,m≤n→det m (gr n T G)≤D) {j:Nat} {U:Int} (hU:0≤U) (hk:k < n) (h:SI n k j (gr n T G) U):gr n T G k k≤D + (k:Int) * (U * U * D):=by
 have:=norm_le (gr_tr hG (T:=T)) hp hk hU hD (fun c hc=>?_) k 0 (by omega)
 · rw [bm_zero'] at this
   have e:det 0 (gr n T G) = 1:=rfl
   rw [e,Int.one_mul] at this
   exact this
 · obtain ⟨b1,b2⟩:=h.bd c hc
   have hX:0≤U * det (c + 1) (gr n T G):=Int.mul_nonneg hU (Int.le_of_lt (hp (c + 1) (by omega)))
   have:=sq_le_sq hX (a:=bm c (gr n T G) k c) (by omega)
   have e:U * det (c + 1) (gr n T G) * (U * det (c + 1) (gr n T G)) = U * U * (det (c + 1) (gr n T G) * det (c + 1) (gr n T G)):=by grind
   omega
theorem SI.short (hG:Sy n G) (hp:PM n (gr n T G)) (hD:∀ m,m≤n→det m (gr n T G)≤D) {U:Int} (hk:k < n) (hn:n≤8) (h:SI n k 0 (gr n T G) U):gr n T G k k≤9 * D:=by
 have h':SI n k 0 (gr n T G) 1:=⟨h.red,h.sz,fun c hc=>by
  obtain ⟨a,b⟩:=h.sz c (Nat.zero_le _) hc
  have:=hp (c + 1) (by omega)
  omega⟩
 have:=h'.norm hG hp hD (by omega) hk
 rw [show (1 * 1 * D:Int) = D by omega] at this
 have hd:0≤D:=by have:=hD 0 (Nat.zero_le _); simp only [det] at this; omega
 have e:D + (k:Int) * D≤D + 8 * D:=by
  have:=Int.mul_le_mul_of_nonneg_right (show (k:Int)≤8 by omega) hd
  omega
 omega
theorem LI.sub (hG:Sy n G) {j k':Nat} {B':Int} (h:LI n k' G T D B) (q:Int) (hj:j < k) (hk:k < n) (hk':k'≤k) (hB:B≤B') (hn:gr n (rop q k j T) G k k≤B'):LI n k' G (rop q k j T) D B' where
 uni:=by rw [det_rop q T hj]; exact h.uni
 pos:=by rw [gr_rop]; exact h.pos.opS hj
 red:=by
  rw [gr_rop]
  refine ⟨fun i c hc hi=>?_,fun i hi=>?_⟩
  · rw [lam_opS (gr_tr hG) hj hc,if_neg (by omega),det_opS q _ hj]; exact h.red.sized i c hc hi
  · rw [lam_opS (gr_tr hG) hj (by omega),if_neg (by omega),det_opS q _ hj,det_opS q _ hj,det_opS q _ hj]; exact h.red.lov i hi
 dle:=fun m hm=>by rw [gr_rop,det_opS q _ hj]; exact h.dle m hm
 nle:=fun i hi=>by
  by_cases e:i = k
  · subst e; exact hn
  · rw [gr_rop,opS_diag e]
    exact Int.le_trans (h.nle i hi) hB
theorem pot_rop {j i:Nat} (q:Int) (hj:j < i) (m:Nat):pot (gr n (rop q i j T) G) m = pot (gr n T G) m:=pot_eq m fun p _ _=>by rw [gr_rop,det_opS q _ hj]
theorem LI.plane (_hG:Sy n G) {p:Nat} {V:Mt} {f0 f1 g0 g1 a b c B':Int} (hpn:p + 1 < n) (h:LI n (p + 1) G T D B) (hI:PI n p T V G f0 f1 g0 g1) (hN:PN n p V G a b c) (ha:0 < a) (hlt:a < det (p + 1) (gr n T G)) (hB:B≤B')
 (h0:gr n V G p p≤B') (h1:gr n V G (p + 1) (p + 1)≤B'):LI n p G V D B'∧pot (gr n V G) n < pot (gr n T G) n:=by
 have hda:det (p + 1) (gr n V G) = a:=by rw [← bm_self]; exact hN.pa
 have hpos:PM n (gr n V G):=fun m hm=>by
  by_cases e:m = p + 1
  · subst e; rw [hda]; exact ha
  · rw [hI.dm m e]; exact h.pos m hm
 refine ⟨⟨?_,hpos,⟨fun i j hj hi=>?_,fun i hi=>?_⟩,fun m hm=>?_,fun i hi=>?_⟩,?_⟩
 · rcases hI.dt with e | e
   · rw [e]; exact h.uni
   · rw [e]
     rcases h.uni with e | e
     · right; rw [e]
     · left; rw [e]; rfl
 · rw [hI.lo j i j (by omega) (by omega) (by omega),hI.dm (j + 1) (by omega)]
   exact h.red.sized i j hj (by omega)
 · rw [hI.lo i (i + 1) i (by omega) (by omega) (by omega),hI.dm (i + 1) (by omega),hI.dm i (by omega),hI.dm (i + 2) (by omega)]
   exact h.red.lov i (by omega)
 · by_cases e:m = p + 1
   · subst e; rw [hda]; have:=h.dle (p + 1) hm; omega
   · rw [hI.dm m e]; exact h.dle m hm
 · by_cases e:i = p
   · subst e; exact h0
   · by_cases e1:i = p + 1
     · subst e1; exact h1
     · have:gr n V G i i = gr n T G i i:=by simp only [gr]; rw [hI.other i e e1]
       rw [this]; exact Int.le_trans (h.nle i hi) hB
 · exact pot_lt hpos hI.dm (by rw [hda]; exact hlt) n (by omega) (Nat.le_refl _)
theorem plane_norm (hG:Sy n G) {p:Nat} {V:Mt} {f0 f1 g0 g1 a b c F:Int} (hpn:p + 1 < n) (hn:n≤8) (h:LI n (p + 1) G T D B) (hk:SI n (p + 1) 0 (gr n T G) B) (hI:PI n p T V G f0 f1 g0 g1) (hN:PN n p V G a b c) (ha:0 < a) (haD:a≤D) (hb1:2 * b≤a) (hb2:-(2 * b)≤a)
 (hF:1≤F) (k0:f0.natAbs≤F.natAbs) (k1:f1.natAbs≤F.natAbs) (k2:g0.natAbs≤F.natAbs) (k3:g1.natAbs≤F.natAbs) :
 gr n V G p p≤D + 8 * (2 * F * (2 * F) * D)∧gr n V G (p + 1) (p + 1)≤D + 8 * (2 * F * (2 * F) * D):=by
 have hda:det (p + 1) (gr n V G) = a:=by rw [← bm_self]; exact hN.pa
 have hpos:PM n (gr n V G):=fun m hm=>by
  by_cases e:m = p + 1
  · subst e; rw [hda]; exact ha
  · rw [hI.dm m e]; exact h.pos m hm
 have hD:∀ m,m≤n→det m (gr n V G)≤D:=fun m hm=>by
  by_cases e:m = p + 1
  · subst e; rw [hda]; exact haD
  · rw [hI.dm m e]; exact h.dle m hm
 have hD1:=h.D1
 have hx:∀ x y u v d:Int,0≤d→2 * x≤d→-(2 * x)≤d→2 * y≤d→-(2 * y)≤d→u.natAbs≤F.natAbs→v.natAbs≤F.natAbs→(u * x + v * y) * (u * x + v * y)≤2 * F * (2 * F) * (d * d):=fun x y u v d hd h1 h2 h3 h4 h5 h6=>by
  have e:2 * F * (2 * F) * (d * d) = 2 * F * d * (2 * F * d):=by grind
  rw [e]
  refine sq_le_sq (Int.mul_nonneg (by omega) hd) ?_
  have q1:(u * x).natAbs≤(F * d).natAbs:=by
   rw [Int.natAbs_mul,Int.natAbs_mul]; exact Nat.mul_le_mul h5 (by omega)
  have q2:(v * y).natAbs≤(F * d).natAbs:=by
   rw [Int.natAbs_mul,Int.natAbs_mul]; exact Nat.mul_le_mul h6 (by omega)
  have e2:2 * F * d = F * d + F * d:=by grind
  have e3:0≤F * d:=Int.mul_nonneg (by omega) hd
  rw [e2]
  omega
 have hU:0≤2 * F:=by omega
 have hsz:=fun c (hc:c < p)=>h.red.sized p c hc (by omega)
 have hsz':=fun c (hc:c < p + 1)=>hk.sz c (Nat.zero_le _) hc
 have hfin:∀ i:Nat,i≤8→D + (i:Int) * (2 * F * (2 * F) * D)≤D + 8 * (2 * F * (2 * F) * D):=fun i hi=>by
  have h0:0≤2 * F * (2 * F) * D:=Int.mul_nonneg (sq_nonneg _) (by omega)
  have:=Int.mul_le_mul_of_nonneg_right (show (i:Int)≤8 by omega) h0
  omega
 constructor
 · have:=norm_le (gr_tr hG (T:=V)) hpos (show p < n by omega) hU hD (fun c hc=>?_) p 0 (by omega)
   · rw [bm_zero'] at this
     have e:det 0 (gr n V G) = 1:=rfl
     rw [e,Int.one_mul] at this
     exact Int.le_trans this (hfin p (by omega))
   · rw [hI.l0 c c (by omega) (by omega),hI.dm (c + 1) (by omega)]
     exact hx _ _ _ _ _ (Int.le_of_lt (h.pos (c + 1) (by omega))) (hsz c hc).1 (hsz c hc).2 (hsz' c (by omega)).1 (hsz' c (by omega)).2 k0 k1
 · have:=norm_le (gr_tr hG (T:=V)) hpos hpn hU hD (fun c hc=>?_) (p + 1) 0 (by omega)
   · rw [bm_zero'] at this
     have e:det 0 (gr n V G) = 1:=rfl
     rw [e,Int.one_mul] at this
     exact Int.le_trans this (hfin (p + 1) (by omega))
   · by_cases e:c = p
     · subst e
       rw [hN.pb,hda]
       have:=hx b 0 1 0 a (Int.le_of_lt ha) hb1 hb2 (by omega) (by omega) (by omega) (by omega)
       have e:(1 * b + 0 * 0:Int) = b:=by omega
       rw [e] at this
       exact this
     · rw [hI.l1 c c (by omega) (by omega),hI.dm (c + 1) (by omega)]
       exact hx _ _ _ _ _ (Int.le_of_lt (h.pos (c + 1) (by omega))) (hsz c (by omega)).1 (hsz c (by omega)).2 (hsz' c hc).1 (hsz' c hc).2 k2 k3
theorem LI.next (_hG:Sy n G) {U:Int} (h:LI n k G T D B) (hk1:1≤k) (hk:k < n) (hs:SI n k 0 (gr n T G) U) (hl:3 * (det k (gr n T G) * det k (gr n T G))≤4 * (det (k - 1) (gr n T G) * det (k + 1) (gr n T G) + bm (k - 1) (gr n T G) k (k - 1) * bm (k - 1) (gr n T G) k (k - 1))):LI n (k + 1) G T D B:=by
 refine ⟨h.uni,h.pos,⟨fun i j hj hi=>?_,fun i hi=>?_⟩,h.dle,h.nle⟩
 · by_cases e:i = k
   · subst e; exact hs.sz j (Nat.zero_le _) hj
   · exact h.red.sized i j hj (by omega)
 · by_cases e:i + 1 = k
   · subst e
     rw [show i + 1 - 1 = i by omega] at hl
     exact hl
   · exact h.red.lov i (by omega)
end
structure PA (A B C:Int) (a b c f0 f1 g0 g1:Int):Prop where
 ea:a = A * (f0 * f0) + 2 * B * (f0 * f1) + C * (f1 * f1)
 eb:b = A * (f0 * g0) + B * (f0 * g1 + f1 * g0) + C * (f1 * g1)
 ec:c = A * (g0 * g0) + 2 * B * (g0 * g1) + C * (g1 * g1)
theorem PA.start (A B C:Int):PA A B C A B C 1 0 0 1:=⟨by grind,by grind,by grind⟩
theorem PA.swap {A B C a b c f0 f1 g0 g1:Int} (h:PA A B C a b c f0 f1 g0 g1):PA A B C c b a g0 g1 f0 f1:=⟨h.ec,by rw [h.eb]; grind,h.ea⟩
theorem PA.sub {A B C a b c f0 f1 g0 g1:Int} (h:PA A B C a b c f0 f1 g0 g1) (q:Int):PA A B C a (b - q * a) (c - q * (b + (b - q * a))) f0 f1 (g0 - q * f0) (g1 - q * f1) :=
 ⟨h.ea,by rw [h.eb,h.ea]; grind,by rw [h.ec,h.eb,h.ea]; grind⟩
theorem PA.coef {A B C a b c f0 f1 g0 g1 E:Int} (h:PA A B C a b c f0 f1 g0 g1) (hd:1≤A * C - B * B) (hA:0 < A) (_hC:0 < C) (ha:0≤a) (hc:0≤c) (eA:A≤E) (eC:C≤E) (ea:a≤E) (ec:c≤E) :
 f0.natAbs≤E.natAbs∧f1.natAbs≤E.natAbs∧g0.natAbs≤E.natAbs∧g1.natAbs≤E.natAbs:=by
 have key:∀ x y z:Int,z = A * (x * x) + 2 * B * (x * y) + C * (y * y)→0≤z→z≤E→x * x≤E * E∧y * y≤E * E:=fun x y z e hz hzE=>by
  have e1:A * z = (A * x + B * y) * (A * x + B * y) + (A * C - B * B) * (y * y):=by rw [e]; grind
  have e2:C * z = (C * y + B * x) * (C * y + B * x) + (A * C - B * B) * (x * x):=by rw [e]; grind
  have s1:=sq_nonneg (A * x + B * y)
  have s2:=sq_nonneg (C * y + B * x)
  have m1:=Int.mul_le_mul_of_nonneg_right hd (sq_nonneg y)
  have m2:=Int.mul_le_mul_of_nonneg_right hd (sq_nonneg x)
  have m3:A * z≤E * E:=Int.mul_le_mul eA hzE hz (by omega)
  have m4:C * z≤E * E:=Int.mul_le_mul eC hzE hz (by omega)
  omega
 have h1:=key f0 f1 a h.ea ha ea
 have h2:=key g0 g1 c h.ec hc ec
 have hE:0≤E:=by omega
 exact ⟨nat_le_of_sq hE h1.1,nat_le_of_sq hE h1.2,nat_le_of_sq hE h2.1,nat_le_of_sq hE h2.2⟩
theorem plane_c {a b c d:Int} (ha:0 < a) (hd:0≤d) (h:a * c = d + b * b) (h1:2 * b≤a) (h2:-(2 * b)≤a):c≤d + a:=by
 refine Classical.byContradiction fun hc=>?_
 have h3:=four_sq h1 h2
 have h4:a * (d + a + 1)≤a * c:=Int.mul_le_mul_of_nonneg_left (by omega) (Int.le_of_lt ha)
 have e:a * (d + a + 1) = a * d + a * a + a:=by grind
 have h5:=Int.mul_le_mul_of_nonneg_right (show (1:Int)≤a by omega) hd
 have h6:=sq_nonneg a
 omega
end Go.Det
