/- Joined: Num, Knu, Nat, Nata, Natb, Natc, Natd, Nate, Natf, Natg. -/
import Derived.Test.YtncbjgblcofddaaGreatDoorQa
/- Plain: numbers as lists of limbs. -/
namespace Go.Num
def B:Nat:=4294967296
def val:List Nat→Nat
 | []=>0
 | x :: l=>x + B * val l
def Lim (l:List Nat):Prop:=∀ x ∈ l,x < 4294967296
def Trimd (l:List Nat):Prop:=∀ h:l ≠ [],l.getLast h ≠ 0
theorem val_append (l m:List Nat):val (l ++ m) = val l + B ^ l.length * val m:=by
 induction l with
 | nil=>simp [val]
 | cons x l ih=>simp only [List.cons_append,val,ih,List.length_cons,Nat.pow_succ]; rw [Nat.mul_add,← Nat.mul_assoc,Nat.mul_comm B (B ^ l.length)]; omega
theorem val_take_succ (l:List Nat) (k:Nat) (h:k < l.length):val (l.take (k + 1)) = val (l.take k) + B ^ k * l.getD k 0:=by
 rw [List.take_succ_eq_append_getElem h,val_append]
 simp [val,List.length_take,Nat.min_eq_left (Nat.le_of_lt h),List.getD,h]
theorem val_lt (l:List Nat) (h:Lim l):val l < B ^ l.length:=by
 induction l with
 | nil=>simp [val]
 | cons x l ih =>
  have h1:=ih fun y hy=>h y (List.mem_cons_of_mem _ hy)
  have h2:x < B:=h x List.mem_cons_self
  simp only [val,List.length_cons,Nat.pow_succ]
  have:B * val l + B≤B ^ l.length * B:=by
   have:=Nat.mul_le_mul_left B (Nat.succ_le_of_lt h1)
   rw [Nat.mul_succ] at this
   rw [Nat.mul_comm (B ^ l.length) B]; exact this
  omega
theorem Lim.take {l:List Nat} (h:Lim l) (k:Nat):Lim (l.take k):=fun x hx=>h x (List.mem_of_mem_take hx)
theorem Lim.getD {l:List Nat} (h:Lim l) (k:Nat):l.getD k 0 < 4294967296:=by
 by_cases hk:k < l.length
 · simp [List.getD,hk]; exact h _ (List.getElem_mem _)
 · simp [List.getD,hk]
theorem Trimd.nil:Trimd []:=fun h=>absurd rfl h
theorem trimd_take {l:List Nat} {k:Nat} (hk:k < l.length) (h:l.getD k 0 ≠ 0):Trimd (l.take (k + 1)):=by
 have key:∀ m:List Nat,m = l.take k ++ [l[k]]→Trimd m:=by
  rintro m rfl hne
  rw [List.getLast_append_of_ne_nil _ (by simp)]
  simpa [List.getD,hk] using h
 exact key _ (List.take_succ_eq_append_getElem hk)
theorem take_set_succ (L:List Nat) (i x:Nat) (h:i < L.length):(L.set i x).take (i + 1) = L.take i ++ [x]:=by
 rw [List.take_succ_eq_append_getElem (by simpa using h),List.take_set_of_le (Nat.le_refl i)]
 simp
theorem val_set_succ (L:List Nat) (i x:Nat) (h:i < L.length):val ((L.set i x).take (i + 1)) = val (L.take i) + B ^ i * x:=by
 rw [take_set_succ L i x h,val_append]
 simp [val,Nat.min_eq_left (Nat.le_of_lt h)]
theorem Lim.set {L:List Nat} (h:Lim L) {i x:Nat} (hx:x < 4294967296):Lim (L.set i x):=by
 intro y hy
 rcases List.mem_or_eq_of_mem_set hy with h' | h'
 · exact h y h'
 · rw [h']; exact hx
theorem lim_replicate (n:Nat):Lim (List.replicate n 0):=by
 intro x hx
 rw [List.eq_of_mem_replicate hx]; decide
theorem val_take_all (l:List Nat):val (l.take l.length) = val l:=by rw [List.take_length]
theorem add_step (p v1 c s x y:Nat) (h:v1 + c * p = s):v1 + p * ((c + (x + y)) % B) + (c + (x + y)) / B * (p * B) = s + p * x + p * y:=by
 have e:=Nat.div_add_mod (c + (x + y)) B
 generalize (c + (x + y)) / B = q at *
 generalize (c + (x + y)) % B = r at *
 subst h
 have:p * (c + (x + y)) = p * (B * q + r):=by rw [e]
 rw [Nat.mul_add,Nat.mul_add,Nat.mul_add] at this
 have e2:q * (p * B) = p * (B * q):=by rw [Nat.mul_comm q,Nat.mul_assoc]
 rw [e2,Nat.mul_comm c p]; omega
theorem add_step1 (p v1 c s x:Nat) (h:v1 + c * p = s):v1 + p * ((c + x) % B) + (c + x) / B * (p * B) = s + p * x:=by
 have:=add_step p v1 c s x 0 h
 simpa using this
theorem val_split (l:List Nat) (k:Nat) (h:k≤l.length):val l = val (l.take k) + B ^ k * val (l.drop k):=by
 conv=>lhs; rw [← List.take_append_drop k l]
 rw [val_append,List.length_take_of_le h]
theorem val_take_lt {l:List Nat} (h:Lim l) (k:Nat):val (l.take k) < B ^ k:=by
 have h1:=val_lt _ (h.take k)
 refine Nat.lt_of_lt_of_le h1 (Nat.pow_le_pow_right (by decide) ?_)
 exact List.length_take_le _ _
theorem drop_cons (l:List Nat) (k:Nat) (h:k < l.length):l.drop k = l.getD k 0 :: l.drop (k + 1):=by
 rw [List.drop_eq_getElem_cons h]; simp [List.getD,h]
theorem val_top {l:List Nat} (hne:l ≠ []) (ht:Trimd l):B ^ (l.length - 1)≤val l:=by
 have hl:0 < l.length:=List.length_pos_iff.2 hne
 rw [val_split l (l.length - 1) (by omega),drop_cons l _ (by omega)]
 have e:l.drop (l.length - 1 + 1) = []:=by rw [List.drop_eq_nil_iff]; omega
 rw [e]
 have h0:l.getD (l.length - 1) 0 ≠ 0:=by
  have:=ht hne
  rw [List.getLast_eq_getElem] at this
  have hlt:l.length - 1 < l.length:=by omega
  simpa [List.getD,hlt] using this
 have:B ^ (l.length - 1) * 1≤B ^ (l.length - 1) * val [l.getD (l.length - 1) 0]:=Nat.mul_le_mul_left _ (by simp only [val]; omega)
 omega
theorem val_lt_len {l1 l2:List Nat} (h1:Lim l1) (h2:Trimd l2) (h:l1.length < l2.length):val l1 < val l2:=by
 have hne:l2 ≠ []:=by rintro rfl; simp at h
 have a:=val_lt l1 h1
 have b:=val_top hne h2
 have c:B ^ l1.length≤B ^ (l2.length - 1):=Nat.pow_le_pow_right (by decide) (by omega)
 omega
theorem val_lt_at {l1 l2:List Nat} (h1:Lim l1) (hl:l1.length = l2.length) {j:Nat} (hj:j < l1.length) (hd:l1.drop (j + 1) = l2.drop (j + 1)) (hlt:l1.getD j 0 < l2.getD j 0):val l1 < val l2:=by
 rw [val_split l1 j (by omega),val_split l2 j (by omega),drop_cons l1 j hj,drop_cons l2 j (by omega),hd]
 simp only [val]
 have a:=val_take_lt h1 j
 generalize l2.drop (j + 1) = d at *
 generalize l1.getD j 0 = x at *
 generalize l2.getD j 0 = y at *
 have:B ^ j * (x + B * val d) + B ^ j≤B ^ j * (y + B * val d):=by
  rw [← Nat.mul_succ]; exact Nat.mul_le_mul_left _ (by omega)
 omega
def cmpZ (a b:Nat):Int:=if a < b then -1 else if b < a then 1 else 0
theorem sub_limb (a b br:Nat) (ha:a < 4294967296) (hb:b < 4294967296) (hbr:br≤1) :
 ((a + (18446744073709551616 - br)) % 18446744073709551616 + (18446744073709551616 - b)) % 18446744073709551616 % 4294967296 + b + br
  = a + 4294967296 * (((a + (18446744073709551616 - br)) % 18446744073709551616 + (18446744073709551616 - b)) % 18446744073709551616 / 9223372036854775808) ∧
 ((a + (18446744073709551616 - br)) % 18446744073709551616 + (18446744073709551616 - b)) % 18446744073709551616 / 9223372036854775808≤1:=by omega
theorem sub_limb0 (a br:Nat) (ha:a < 4294967296) (hbr:br≤1) :
 (a + (18446744073709551616 - br)) % 18446744073709551616 % 4294967296 + br
  = a + 4294967296 * ((a + (18446744073709551616 - br)) % 18446744073709551616 / 9223372036854775808) ∧
 (a + (18446744073709551616 - br)) % 18446744073709551616 / 9223372036854775808≤1:=by omega
theorem sub_step (p d v2 v1 a b br x nb:Nat) (h:d + v2 = v1 + br * p) (hx:x + b + br = a + B * nb):d + p * x + (v2 + p * b) = v1 + p * a + nb * (p * B):=by
 have e:p * (x + b + br) = p * (a + B * nb):=by rw [hx]
 simp only [Nat.mul_add] at e
 have e2:nb * (p * B) = p * (B * nb):=by rw [Nat.mul_comm nb,Nat.mul_assoc]
 have e3:br * p = p * br:=Nat.mul_comm _ _
 omega
theorem sub_step0 (p d v2 v1 a br x nb:Nat) (h:d + v2 = v1 + br * p) (hx:x + br = a + B * nb):d + p * x + v2 = v1 + p * a + nb * (p * B):=by
 have:=sub_step p d v2 v1 a 0 br x nb h (by omega)
 rw [Nat.mul_zero,Nat.add_zero] at this; exact this
theorem val_take_ge (l:List Nat) (k:Nat) (h:l.length≤k):val (l.take k) = val l:=by rw [List.take_of_length_le h]
theorem val_set (L:List Nat) (k x:Nat) (h:k < L.length):val (L.set k x) + B ^ k * L.getD k 0 = val L + B ^ k * x:=by
 rw [val_split L k (by omega),val_split (L.set k x) k (by simp; omega),drop_cons L k h,drop_cons (L.set k x) k (by simpa using h)]
 rw [List.take_set_of_le (Nat.le_refl k),List.drop_set_of_lt (by omega)]
 simp [val,List.getD,h,Nat.mul_add]
 omega
theorem mul_step (P c p x y r Q:Nat) (hv:P + c * p = Q):∀ P',P' + p * r = P + p * ((c + (x * y + r)) % B)→P' + (c + (x * y + r)) / B * (p * B) = Q + p * (x * y):=by
 intro P' h
 have e:=Nat.div_add_mod (c + (x * y + r)) B
 generalize (c + (x * y + r)) / B = q at *
 generalize (c + (x * y + r)) % B = s at *
 subst hv
 have:p * (c + (x * y + r)) = p * (B * q + s):=by rw [e]
 simp only [Nat.mul_add] at this
 have e2:q * (p * B) = p * (B * q):=by rw [Nat.mul_comm q,Nat.mul_assoc]
 rw [e2,Nat.mul_comm c p]
 omega
theorem mul_small (x y:Nat) (hx:x < 4294967296) (hy:y < 4294967296):x * y≤18446744065119617025:=by
 have:x * y≤4294967295 * 4294967295:=Nat.mul_le_mul (by omega) (by omega)
 omega
theorem val_one (l:List Nat) (h:Lim l) (hl:l.length≤1):val l < 4294967296:=by
 have:=val_lt l h
 have h2:B ^ l.length≤B ^ 1:=Nat.pow_le_pow_right (by decide) hl
 rw [Nat.pow_one] at h2
 exact Nat.lt_of_lt_of_le this h2
theorem getD_set_ne {L:List Nat} {i j x:Nat} (h:i ≠ j):(L.set i x).getD j 0 = L.getD j 0:=by
 simp [List.getD,List.getElem?_set_ne h]
theorem val_zeros (n:Nat):val (List.replicate n 0) = 0:=by
 induction n with
 | zero=>rfl
 | succ n ih=>simp [List.replicate_succ,val,ih]
theorem getD_replicate (n j:Nat):(List.replicate n 0).getD j 0 = 0:=by
 by_cases h:j < n <;> simp [List.getD,h]
theorem shl_or (r x:Nat) (hr:r < 4294967296) (hx:x < 4294967296):r * 2 ^ 32 % 18446744073709551616 ||| x = r * 4294967296 + x∧r * 4294967296 + x < 18446744073709551616:=by
 have e:r * 2 ^ 32 % 18446744073709551616 = 2 ^ 32 * r:=by omega
 rw [e,← Nat.two_pow_add_eq_or_of_lt (i:=32) (b:=x) (by omega) r]
 omega
theorem div_step (b r x V W:Nat) (hb:0 < b) (hr:r < b) (hx:x < B) (h:V = W * b + r) :
 (r * B + x) / b < B∧(r * B + x) % b < b∧x + B * V = ((r * B + x) / b + B * W) * b + (r * B + x) % b:=by
 refine ⟨?_,Nat.mod_lt _ hb,?_⟩
 · rw [Nat.div_lt_iff_lt_mul hb]
   have:(r + 1) * B≤b * B:=Nat.mul_le_mul_right _ hr
   rw [Nat.add_mul] at this
   rw [Nat.mul_comm B b]; omega
 · have e:=Nat.div_add_mod (r * B + x) b
   generalize (r * B + x) / b = q at *
   generalize (r * B + x) % b = s at *
   subst h
   rw [Nat.add_mul,Nat.mul_add,Nat.mul_comm q b,Nat.mul_assoc,Nat.mul_comm B r]
   omega
theorem drop_set (L:List Nat) (j x:Nat) (h:j < L.length):(L.set j x).drop j = x :: L.drop (j + 1):=by
 rw [drop_cons _ j (by simpa using h),List.drop_set_of_lt (by omega)]
 simp [List.getD,h]
theorem shl_add (s c x:Nat) (hs:s < 32) (hc:c < 2 ^ s) (hx:x < 4294967296):c ||| x * 2 ^ s % 18446744073709551616 = c + x * 2 ^ s∧c + x * 2 ^ s < 18446744073709551616∧(c + x * 2 ^ s) / 4294967296 < 2 ^ s:=by
 have h1:2 ^ s≤2 ^ 31:=Nat.pow_le_pow_right (by decide) (by omega)
 have h2:x * 2 ^ s + 2 ^ s≤4294967296 * 2 ^ s:=by rw [← Nat.succ_mul]; exact Nat.mul_le_mul_right _ hx
 have h0:0 < 2 ^ s:=Nat.two_pow_pos s
 have h3:x * 2 ^ s % 18446744073709551616 = 2 ^ s * x:=by rw [Nat.mul_comm]; apply Nat.mod_eq_of_lt; rw [Nat.mul_comm]; omega
 refine ⟨?_,by omega,?_⟩
 · rw [h3,Nat.or_comm,← Nat.two_pow_add_eq_or_of_lt hc x,Nat.mul_comm]; omega
 · rw [Nat.div_lt_iff_lt_mul (by decide)]; rw [Nat.mul_comm (2 ^ s) 4294967296]; omega
theorem shl_step (p V c x s W:Nat) (h:V + c * p = W * 2 ^ s):V + p * ((c + x * 2 ^ s) % B) + (c + x * 2 ^ s) / B * (p * B) = (W + p * x) * 2 ^ s:=by
 have e:=add_step1 p V c (W * 2 ^ s) (x * 2 ^ s) h
 rw [e,Nat.add_mul,Nat.mul_assoc]
def sr (s:Nat):List Nat→List Nat
 | []=>[]
 | [x]=>[x / 2 ^ s]
 | x :: y :: l=>(x + B * y) / 2 ^ s % B :: sr s (y :: l)
theorem sr_len (s:Nat):∀ l,(sr s l).length = l.length
 | []=>rfl
 | [_]=>rfl
 | _ :: y :: l=>by simp [sr,sr_len s (y :: l)]
theorem sr_val (s:Nat) (hs:s < 32):∀ l,Lim l→val (sr s l) = val l / 2 ^ s
 | [],_=>by simp [sr,val]
 | [x],_=>by simp [sr,val]
 | x :: y :: l,h=>by
  have ih:=sr_val s hs (y :: l) (fun z hz=>h z (List.mem_cons_of_mem _ hz))
  have hx:x < B:=h x List.mem_cons_self
  simp only [sr,val] at ih ⊢
  rw [ih]
  generalize val l = W
  have hB:B = 2 ^ s * 2 ^ (32 - s):=by rw [← Nat.pow_add,show s + (32 - s) = 32 by omega]; rfl
  have hp:0 < 2 ^ s:=Nat.two_pow_pos s
  generalize 2 ^ s = p at *
  generalize 2 ^ (32 - s) = r at *
  have e1:(x + B * y) / p = x / p + r * y:=by rw [hB,Nat.mul_assoc,Nat.add_mul_div_left _ _ hp]
  have e2:(x + B * (y + B * W)) / p = x / p + r * (y + B * W):=by rw [hB,Nat.mul_assoc,Nat.add_mul_div_left _ _ hp]
  have e3:(y + B * W) / p = y / p + r * W:=by rw [hB,Nat.mul_assoc,Nat.add_mul_div_left _ _ hp]
  rw [e1,e2,e3]
  have hq:=Nat.div_add_mod y p
  have hm:=Nat.mod_lt y hp
  have hxp:x / p < r:=by rw [Nat.div_lt_iff_lt_mul hp,Nat.mul_comm r p,← hB]; exact hx
  generalize hyq:y / p = yq at *
  generalize hyr:y % p = yr at *
  have e4:x / p + r * y = (x / p + r * yr) + B * yq:=by rw [← hq,hB,Nat.mul_add,← Nat.mul_assoc,Nat.mul_comm r p]; omega
  have hlt:x / p + r * yr < B:=by
   have:r * yr + r≤r * p:=by rw [← Nat.mul_succ]; exact Nat.mul_le_mul_left _ hm
   rw [hB,Nat.mul_comm p r]; omega
  rw [e4,Nat.add_mul_mod_self_left,Nat.mod_eq_of_lt hlt]
  have e5:r * (y + B * W) = r * yr + B * yq + B * (r * W):=by
   rw [Nat.mul_add,← hq,Nat.mul_add,← Nat.mul_assoc r p,Nat.mul_comm r p,← hB,Nat.mul_left_comm]; omega
  rw [e5,Nat.mul_add]; omega
theorem sr_lim (s:Nat):∀ l,Lim l→Lim (sr s l)
 | [],h=>h
 | [x],h=>by
  intro z hz
  simp [sr] at hz
  subst hz
  exact Nat.lt_of_le_of_lt (Nat.div_le_self _ _) (h x List.mem_cons_self)
 | x :: y :: l,h=>by
  intro z hz
  rw [sr] at hz
  rcases List.mem_cons.1 hz with rfl | hz
  · exact Nat.mod_lt _ (by decide)
  · exact sr_lim s (y :: l) (fun z hz=>h z (List.mem_cons_of_mem _ hz)) z hz
theorem sr_get (s:Nat):∀ (l:List Nat) (i:Nat),i < l.length→(sr s l).getD i 0 = if i + 1 < l.length then (l.getD i 0 + B * l.getD (i + 1) 0) / 2 ^ s % B else l.getD i 0 / 2 ^ s
 | [],i,h=>by simp at h
 | [x],i,h=>by
  have:i = 0:=by simpa using h
  subst this
  simp [sr,List.getD]
 | x :: y :: l,i,h=>by
  rcases i with _ | i
  · simp [sr,List.getD]
  · have:=sr_get s (y :: l) i (by simpa using h)
    simp only [sr,List.getD_cons_succ,List.length_cons,Nat.add_lt_add_iff_right] at this ⊢
    rw [this]
theorem ext_getD {a b:List Nat} (hl:a.length = b.length) (h:∀ j,j < a.length→a.getD j 0 = b.getD j 0):a = b:=by
 apply List.ext_getElem hl
 intro i h1 h2
 have:=h i h1
 simpa [List.getD,h1,h2] using this
theorem getD_set_self {L:List Nat} {j x:Nat} (h:j < L.length):(L.set j x).getD j 0 = x:=by simp [List.getD,h]
theorem sr_get2 (s:Nat) (l:List Nat) (i:Nat) (h:i + 1 < l.length):(sr s l).getD i 0 = (l.getD (i + 1) 0 * 4294967296 + l.getD i 0) / 2 ^ s % 4294967296:=by
 rw [sr_get s l i (by omega),if_pos h,Nat.add_comm,Nat.mul_comm B]; unfold B; rfl
theorem sr_get1 (s:Nat) (l:List Nat) (i:Nat) (h:i < l.length) (h':¬ i + 1 < l.length):(sr s l).getD i 0 = l.getD i 0 / 2 ^ s:=by
 rw [sr_get s l i h,if_neg h']
def okLen (j b:Nat):Bool:=if j = 0 then b == 0 else decide (0 < b∧2 ^ (b - 1)≤j∧j < 2 ^ b)
theorem okLen_shift (x n b:Nat) (hx:2 ^ n≤x) (h:okLen (x / 2 ^ n) b = true):okLen x (n + b) = true:=by
 have hp:0 < 2 ^ n:=Nat.two_pow_pos n
 have h1:0 < x / 2 ^ n:=Nat.div_pos hx hp
 unfold okLen at h ⊢
 rw [if_neg (by omega)] at h
 rw [if_neg (by omega)]
 simp only [decide_eq_true_eq] at h ⊢
 obtain ⟨hb,h2,h3⟩:=h
 refine ⟨by omega,?_,?_⟩
 · have:=(Nat.le_div_iff_mul_le hp).1 h2
   rw [show n + b - 1 = (b - 1) + n by omega,Nat.pow_add]; exact this
 · have:=(Nat.div_lt_iff_lt_mul hp).1 h3
   rw [Nat.pow_add,Nat.mul_comm]; exact this
def tabOk (s:ByteArray):Bool:=(List.range 256).all fun j=>match s[j]? with | some b=>okLen j b.toNat && decide (b.toNat≤8) | none=>false
theorem tab_at {s:ByteArray} (h:tabOk s = true) {j:Nat} (hj:j < 256):∃ b,s[j]? = some b∧okLen j b.toNat = true∧b.toNat≤8:=by
 have:=List.all_eq_true.1 h j (List.mem_range.2 hj)
 cases e:s[j]? with
 | none=>rw [e] at this; cases this
 | some b =>
  rw [e] at this
  simp only [Bool.and_eq_true,decide_eq_true_eq] at this
  exact ⟨b,rfl,this.1,this.2⟩
end Go.Num
namespace Go.Num
section
variable {D vl v2 v1 ul u3 u2 u1 U V g r:Nat}
structure Top (D vl v2 v1 ul u3 u2 u1 U V:Nat):Prop where
 hV:V = vl + D * (v2 + B * v1)
 hU:U = ul + D * (u3 + B * (u2 + B * u1))
 dpos:0 < D
 hvl:vl < D
 hul:ul < D
 hv2:v2 < B
 hv1:v1 < B
 hu3:u3 < B
 hu2:u2 < B
 hu1:u1 < B
 norm:B≤2 * v1
 lt:U < B * V
theorem Top.v1pos (h:Top D vl v2 v1 ul u3 u2 u1 U V):0 < v1:=by have:=h.norm; unfold B at this; omega
theorem Top.V_ge (h:Top D vl v2 v1 ul u3 u2 u1 U V):D * B * v1≤V:=by
 rw [h.hV,Nat.mul_add,Nat.mul_assoc]; omega
theorem Top.u1_le (h:Top D vl v2 v1 ul u3 u2 u1 U V):u1≤v1:=by
 rcases Nat.lt_or_ge v1 u1 with hlt | hge
 · exfalso
   have h1:D * (B * (B * (v1 + 1)))≤U:=by
    rw [h.hU]
    have:B * (B * (v1 + 1))≤u3 + B * (u2 + B * u1):=by
     have:B * (v1 + 1)≤u2 + B * u1:=Nat.le_trans (Nat.mul_le_mul_left _ hlt) (by omega)
     exact Nat.le_trans (Nat.mul_le_mul_left _ this) (by omega)
    exact Nat.le_trans (Nat.mul_le_mul_left _ this) (by omega)
   have h2:V < D * (B * (v1 + 1)):=by
    rw [h.hV]
    have:v2 + B * v1 + 1≤B * (v1 + 1):=by rw [Nat.mul_succ]; have:=h.hv2; omega
    have:=Nat.mul_le_mul_left D this
    rw [Nat.mul_succ] at this
    have:=h.hvl; omega
   have h3:=Nat.mul_le_mul_left B (Nat.le_of_lt h2)
   have e:B * (D * (B * (v1 + 1))) = D * (B * (B * (v1 + 1))):=by rw [Nat.mul_left_comm]
   have:=h.lt
   omega
 · exact hge
theorem Top.U_lt (h:Top D vl v2 v1 ul u3 u2 u1 U V):U < D * (u3 + B * (u2 + B * u1) + 1):=by
 rw [h.hU,Nat.mul_succ]; have:=h.hul; omega
theorem Top.start (h:Top D vl v2 v1 ul u3 u2 u1 U V):U < ((u1 * B + u2) / v1 + 1) * V∧(u1 * B + u2) / v1≤B + 1∧(u1 * B + u2) / v1 * v1 + (u1 * B + u2) % v1 = u1 * B + u2:=by
 have hp:=h.v1pos
 have e:=Nat.div_add_mod (u1 * B + u2) v1
 have hm:=Nat.mod_lt (u1 * B + u2) hp
 refine ⟨?_,?_,by rw [Nat.mul_comm]; exact e⟩
 · generalize hq:(u1 * B + u2) / v1 = q at *
   generalize (u1 * B + u2) % v1 = s at *
   have h1:u1 * B + u2 + 1≤(q + 1) * v1:=by rw [Nat.add_mul,Nat.one_mul,Nat.mul_comm q v1]; omega
   have h2:u3 + B * (u2 + B * u1) + 1≤B * ((q + 1) * v1):=by
    have:=Nat.mul_le_mul_left B h1
    rw [Nat.mul_succ] at this
    have e2:B * (u1 * B + u2) = B * (u2 + B * u1):=by rw [Nat.add_comm,Nat.mul_comm u1]
    have:=h.hu3
    omega
   have h3:=Nat.mul_le_mul_left D h2
   have h4:=Nat.mul_le_mul_left (q + 1) h.V_ge
   have e3:(q + 1) * (D * B * v1) = D * (B * ((q + 1) * v1)):=by
    rw [Nat.mul_assoc,Nat.mul_left_comm,Nat.mul_left_comm (q + 1) B]
   have:=h.U_lt
   omega
 · have h1:=h.u1_le
   have h2:u1 * B + u2 < (B + 2) * v1:=by
    have:=Nat.mul_le_mul_right B h1
    rw [Nat.add_mul,Nat.mul_comm B v1]
    have:=h.norm; have:=h.hu2; omega
   have:=(Nat.div_lt_iff_lt_mul hp).2 h2
   omega
theorem Top.big (h:Top D vl v2 v1 ul u3 u2 u1 U V) (hg:B≤g):U < g * V:=Nat.lt_of_lt_of_le h.lt (Nat.mul_le_mul_right _ hg)
theorem Top.second (h:Top D vl v2 v1 ul u3 u2 u1 U V) (hr:g * v1 + r = u1 * B + u2) (hc:r * B + u3 < g * v2):U < g * V:=by
 have h1:u3 + B * (u2 + B * u1) + 1≤g * (v2 + B * v1):=by
  have e:B * (u2 + B * u1) = B * (g * v1) + B * r:=by rw [← Nat.mul_add,hr,Nat.add_comm,Nat.mul_comm u1]
  have e2:g * (v2 + B * v1) = g * v2 + B * (g * v1):=by rw [Nat.mul_add,Nat.mul_left_comm]
  have e3:r * B = B * r:=Nat.mul_comm _ _
  omega
 have h2:=Nat.mul_le_mul_left D h1
 have h3:D * (g * (v2 + B * v1))≤g * V:=by
  rw [h.hV,Nat.mul_left_comm]; exact Nat.mul_le_mul_left _ (by omega)
 have:=h.U_lt
 omega
theorem Top.stop (h:Top D vl v2 v1 ul u3 u2 u1 U V) (hr:g * v1 + r = u1 * B + u2) (hg:g < B) (hc:g * v2≤r * B + u3):g * V < U + V:=by
 have e1:g * V = g * vl + D * (g * v2 + B * (g * v1)):=by
  rw [h.hV,Nat.mul_add,Nat.mul_left_comm g D,Nat.mul_add g,Nat.mul_left_comm g B]
 have h1:g * v2 + B * (g * v1)≤u3 + B * (u2 + B * u1):=by
  have e:B * (u2 + B * u1) = B * (g * v1) + B * r:=by rw [← Nat.mul_add,hr,Nat.add_comm,Nat.mul_comm u1]
  have e3:r * B = B * r:=Nat.mul_comm _ _
  omega
 have h2:=Nat.mul_le_mul_left D h1
 have h3:g * vl < D * B * v1:=by
  have a:g * vl≤g * D:=Nat.mul_le_mul_left _ (Nat.le_of_lt h.hvl)
  have b:g * D < B * D:=Nat.mul_lt_mul_of_pos_right hg h.dpos
  have c:D * B * 1≤D * B * v1:=Nat.mul_le_mul_left _ h.v1pos
  rw [Nat.mul_comm B D] at b
  omega
 have:=h.V_ge
 have:=h.hU
 omega
theorem Top.brk (h:Top D vl v2 v1 ul u3 u2 u1 U V) (hr:g * v1 + r = u1 * B + u2) (hb:B≤r):g < B∧g * v2≤r * B + u3:=by
 have h1:=h.u1_le
 have hg:g < B:=by
  rcases Nat.lt_or_ge g B with hlt | hge
  · exact hlt
  · exfalso
    have a:=Nat.mul_le_mul_right v1 hge
    have b:=Nat.mul_le_mul_right B h1
    rw [Nat.mul_comm B v1] at a
    have:=h.hu2
    omega
 refine ⟨hg,?_⟩
 have a:g * v2≤B * B:=Nat.mul_le_mul (Nat.le_of_lt hg) (Nat.le_of_lt h.hv2)
 have b:B * B≤r * B:=Nat.mul_le_mul_right _ hb
 omega
end
def seg (R:List Nat) (o i:Nat):List Nat:=(R.drop o).take i
theorem seg_zero (R:List Nat) (o:Nat):seg R o 0 = []:=by simp [seg]
theorem val_seg_succ (R:List Nat) (o i:Nat) (h:o + i < R.length):val (seg R o (i + 1)) = val (seg R o i) + B ^ i * R.getD (o + i) 0:=by
 unfold seg
 rw [val_take_succ _ _ (by rw [List.length_drop]; omega)]
 simp [List.getD]
theorem seg_congr {R R':List Nat} (o i:Nat) (hl:R.length = R'.length) (h:∀ q,o≤q→q < o + i→R.getD q 0 = R'.getD q 0):seg R o i = seg R' o i:=by
 unfold seg
 apply ext_getD
 · simp [hl]
 · intro j hj
   rw [List.length_take,List.length_drop] at hj
   have:=h (o + j) (by omega) (by omega)
   have hji:j < i:=by omega
   simp only [List.getD,List.getElem?_take,hji,if_true,List.getElem?_drop] at this ⊢
   exact this
theorem lim_seg {R:List Nat} (h:Lim R) (o i:Nat):Lim (seg R o i):=fun x hx=>h x (List.mem_of_mem_drop (List.mem_of_mem_take hx))
theorem val_seg_lt {R:List Nat} (h:Lim R) (o i:Nat):val (seg R o i) < B ^ i:=by
 have h1:=val_lt _ (lim_seg h o i)
 refine Nat.lt_of_lt_of_le h1 (Nat.pow_le_pow_right (by decide) ?_)
 unfold seg; exact List.length_take_le _ _
theorem msub_step (p d gv v c br q y x a nb:Nat) (h:d + gv = v + (c + br) * p) (hx:x + (c + q * y) % B + br = a + B * nb):d + p * x + (gv + p * (q * y)) = v + p * a + ((c + q * y) / B + nb) * (p * B):=by
 have e:=Nat.div_add_mod (c + q * y) B
 generalize (c + q * y) / B = k at *
 generalize (c + q * y) % B = s at *
 have e1:p * (x + s + br) = p * (a + B * nb):=by rw [hx]
 have e2:p * (B * k + s) = p * (c + q * y):=by rw [e]
 simp only [Nat.mul_add] at e1 e2
 have e3:(k + nb) * (p * B) = p * (B * k) + p * (B * nb):=by
  rw [Nat.add_mul,Nat.mul_comm k,Nat.mul_comm nb,Nat.mul_assoc,Nat.mul_assoc]
 have e4:(c + br) * p = p * c + p * br:=by rw [Nat.mul_comm,Nat.mul_add]
 omega
theorem msub_limb (a l br:Nat) (ha:a < 4294967296) (hl:l < 4294967296) (hbr:br≤1) :
 ((a + (18446744073709551616 - l)) % 18446744073709551616 + (18446744073709551616 - br)) % 18446744073709551616 % 4294967296 + l + br
  = a + 4294967296 * (((a + (18446744073709551616 - l)) % 18446744073709551616 + (18446744073709551616 - br)) % 18446744073709551616 / 9223372036854775808) ∧
 ((a + (18446744073709551616 - l)) % 18446744073709551616 + (18446744073709551616 - br)) % 18446744073709551616 / 9223372036854775808≤1:=by omega
theorem take_of_lt {l:List Nat} {k:Nat} (hk:k≤l.length) (h:val l < B ^ k):val (l.take k) = val l∧val (l.drop k) = 0:=by
 have e:=val_split l k hk
 rcases Nat.eq_zero_or_pos (val (l.drop k)) with h0 | h0
 · rw [h0] at e; exact ⟨by omega,h0⟩
 · have:=Nat.mul_le_mul_left (B ^ k) h0
   omega
theorem top_ge {V:List Nat} {k p:Nat} (hV:Lim V) (hk:V.length = k + 2) (h:p * B ^ (k + 1)≤val V):p≤V.getD (k + 1) 0:=by
 have e:val V = val (V.take (k + 1)) + B ^ (k + 1) * V.getD (k + 1) 0:=by
  rw [← val_take_succ V (k + 1) (by omega),val_take_ge V _ (by omega)]
 have h1:=val_take_lt hV (k + 1)
 rcases Nat.lt_or_ge (V.getD (k + 1) 0) p with hlt | hge
 · exfalso
   have:=Nat.mul_le_mul_left (B ^ (k + 1)) hlt
   rw [Nat.mul_succ] at this
   rw [Nat.mul_comm p] at h
   omega
 · exact hge
theorem shifted_top (l:List Nat) (k s:Nat) (hl:Lim l) (hk:l.length = k + 2) (hs:s < 32) (h31:2147483648≤l.getD (k + 1) 0 * 2 ^ s) (h32:l.getD (k + 1) 0 * 2 ^ s < 4294967296) :
 val l * 2 ^ s < B ^ (k + 2)∧2147483648 * B ^ (k + 1)≤val l * 2 ^ s:=by
 have hp:0 < 2 ^ s:=Nat.two_pow_pos s
 have hB:B = 2 ^ s * 2 ^ (32 - s):=by rw [← Nat.pow_add,show s + (32 - s) = 32 by omega]; rfl
 have e:val l = val (l.take (k + 1)) + B ^ (k + 1) * l.getD (k + 1) 0:=by
  rw [← val_take_succ l (k + 1) (by omega),val_take_ge l _ (by omega)]
 have a:=val_take_lt hl (k + 1)
 have h32':l.getD (k + 1) 0 * 2 ^ s < B:=h32
 generalize l.getD (k + 1) 0 = x at *
 generalize val (l.take (k + 1)) = y at *
 generalize hq:B ^ (k + 1) = q at *
 have hx:(x + 1) * 2 ^ s≤B:=by
  rw [hB,Nat.mul_comm] at *
  refine Nat.mul_le_mul_left _ ?_
  exact Nat.lt_of_mul_lt_mul_left h32'
 refine ⟨?_,?_⟩
 · have b:val l < q * (x + 1):=by rw [Nat.mul_succ]; omega
   have c:=Nat.mul_lt_mul_of_pos_right b hp
   have d:=Nat.mul_le_mul_left q hx
   rw [← Nat.mul_assoc] at d
   have e2:B ^ (k + 2) = q * B:=by rw [Nat.pow_succ,hq]
   omega
 · have f:q * x≤val l:=by omega
   have g:=Nat.mul_le_mul_right (2 ^ s) f
   have i:=Nat.mul_le_mul_left q h31
   rw [← Nat.mul_assoc] at i
   rw [Nat.mul_comm _ q]; omega
theorem first_rem (R V:List Nat) (d k:Nat) (hR:Lim R) (hlen:R.length = d + (k + 2)) (hk:V.length = k + 2) (htop:R.getD (d + (k + 1)) 0 + 1≤V.getD (k + 1) 0):val (R.drop d) < val V:=by
 have hl:(R.drop d).length = k + 2:=by rw [List.length_drop]; omega
 have e1:val (R.drop d) = val ((R.drop d).take (k + 1)) + B ^ (k + 1) * (R.drop d).getD (k + 1) 0:=by
  rw [← val_take_succ _ (k + 1) (by omega),val_take_ge _ _ (by omega)]
 have e2:val V = val (V.take (k + 1)) + B ^ (k + 1) * V.getD (k + 1) 0:=by
  rw [← val_take_succ V (k + 1) (by omega),val_take_ge V _ (by omega)]
 have e3:(R.drop d).getD (k + 1) 0 = R.getD (d + (k + 1)) 0:=by simp [List.getD]
 have a:val ((R.drop d).take (k + 1)) < B ^ (k + 1):=val_take_lt (fun x hx=>hR x (List.mem_of_mem_drop hx)) _
 have b:=Nat.mul_le_mul_left (B ^ (k + 1)) htop
 rw [Nat.mul_succ] at b
 rw [e3] at e1
 omega
theorem ld_step {R R' V Q:List Nat} {j k q W:Nat} (hR:Lim R) (hlen:j + (k + 3)≤R.length) (hlen':R'.length = R.length) (hV:V.length = k + 2) (hVl:Lim V) (hq:j < Q.length)
 (h1:val (R.drop (j + 1)) < val V) (h2:W = val (Q.drop (j + 1)) * (B ^ (j + 1) * val V) + val R) (hsame:∀ i,i < j ∨ j + k + 3≤i→R'.getD i 0 = R.getD i 0)
 (hdiv:val (seg R j (k + 3)) = q * val V + val (seg R' j (k + 3))) (hrem:val (seg R' j (k + 3)) < val V) :
 val (R'.drop j) < val V∧W = val ((Q.set j q).drop j) * (B ^ j * val V) + val R':=by
 have hdrop:val (R.drop j) = R.getD j 0 + B * val (R.drop (j + 1)):=by rw [drop_cons R j (by omega),val]
 have hVlt:=val_lt V hVl
 rw [hV] at hVlt
 have hb:=hR.getD j
 have hlt:val (R.drop j) < B ^ (k + 3):=by
  have:B * val (R.drop (j + 1)) + B≤B * val V:=by rw [← Nat.mul_succ]; exact Nat.mul_le_mul_left _ h1
  have c:B * val V≤B * B ^ (k + 2):=Nat.mul_le_mul_left _ (Nat.le_of_lt hVlt)
  have e:B * B ^ (k + 2) = B ^ (k + 3):=by rw [Nat.mul_comm,← Nat.pow_succ]
  have hb':R.getD j 0 < B:=hb
  omega
 obtain ⟨ht,hz⟩:=take_of_lt (l:=R.drop j) (k:=k + 3) (by rw [List.length_drop]; omega) hlt
 have htail:(R'.drop j).drop (k + 3) = (R.drop j).drop (k + 3):=by
  rw [List.drop_drop,List.drop_drop]
  apply ext_getD (by simp [hlen'])
  intro i _
  have:=hsame (j + (k + 3) + i) (by omega)
  simp only [List.getD,List.getElem?_drop] at this ⊢
  exact this
 have hhead:R'.take j = R.take j:=by
  apply ext_getD (by simp [hlen'])
  intro i hi
  rw [List.length_take] at hi
  have hij:i < j:=by omega
  have:=hsame i (by omega)
  simp only [List.getD,List.getElem?_take,hij,if_true] at this ⊢
  exact this
 have e1:val (R'.drop j) = val (seg R' j (k + 3)):=by
  rw [val_split (R'.drop j) (k + 3) (by rw [List.length_drop]; omega),htail,hz,Nat.mul_zero,Nat.add_zero,seg]
 have e2:val (R.drop j) = val (seg R j (k + 3)):=ht.symm
 refine ⟨by rw [e1]; exact hrem,?_⟩
 have s1:=val_split R j (by omega)
 have s2:=val_split R' j (by omega)
 rw [hhead,e1] at s2
 rw [e2,hdiv] at s1
 rw [drop_set Q j q hq]
 simp only [val]
 rw [h2,s1,s2,Nat.pow_succ,Nat.add_mul,Nat.mul_add]
 have e3:val (Q.drop (j + 1)) * (B ^ j * B * val V) = B * val (Q.drop (j + 1)) * (B ^ j * val V):=by
  rw [Nat.mul_assoc (B ^ j),Nat.mul_left_comm (B ^ j) B,← Nat.mul_assoc,Nat.mul_comm _ B]
 have e4:B ^ j * (q * val V) = q * (B ^ j * val V):=Nat.mul_left_comm _ _ _
 omega
theorem long_div {a b s Q R:Nat} (h:a * 2 ^ s = Q * (b * 2 ^ s) + R) (hR:R < b * 2 ^ s):Q = a / b∧R / 2 ^ s = a % b:=by
 have hp:0 < 2 ^ s:=Nat.two_pow_pos s
 generalize 2 ^ s = p at *
 rw [← Nat.mul_assoc] at h
 have hle:Q * b≤a:=by
  rcases Nat.lt_or_ge a (Q * b) with h1 | h1
  · have:=Nat.mul_lt_mul_of_pos_right h1 hp; omega
  · exact h1
 obtain ⟨r,rfl⟩ : ∃ r,a = Q * b + r:=⟨a - Q * b,by omega⟩
 rw [Nat.add_mul] at h
 have e:R = r * p:=by omega
 subst e
 have hr:r < b:=Nat.lt_of_mul_lt_mul_right hR
 have hb:0 < b:=by omega
 rw [Nat.mul_div_cancel _ hp]
 refine ⟨?_,?_⟩
 · rw [Nat.mul_comm Q b,Nat.mul_add_div hb,Nat.div_eq_of_lt hr]; omega
 · rw [Nat.mul_comm Q b,Nat.mul_add_mod,Nat.mod_eq_of_lt hr]
theorem div_uniq {a b q r:Nat} (h:a = q * b + r) (hr:r < b):q = a / b∧r = a % b:=by
 have:=long_div (s:=0) (a:=a) (b:=b) (Q:=q) (R:=r) (by simpa using h) (by simpa using hr)
 simpa using this
theorem fin_ok {U V g d p a x c:Nat} (h:d + g * V = U + c * p) (hx:x + c = a) (hlt:U + p * a < (g + 1) * V):d + p * x + g * V = U + p * a∧U + p * a = g * V + (d + p * x)∧d + p * x < V:=by
 subst hx
 have e:p * (x + c) = p * x + c * p:=by rw [Nat.mul_add,Nat.mul_comm c]
 rw [Nat.add_mul,Nat.one_mul] at hlt
 omega
theorem fin_back {U V g d p a x c S:Nat} (hg:0 < g) (h:d + g * V = U + c * p) (hx:x + c = a + B) (hlo:g * V < U + p * a + V) (hS:S < p * B) (hd:d + p * x < p * B) (hV:V < p) (hs:∃ k,S + k * (p * B) = d + p * x + V) :
 U + p * a = (g - 1) * V + S∧S < V:=by
 obtain ⟨k,hs⟩:=hs
 have e:p * (x + c) = p * a + p * B:=by rw [hx,Nat.mul_add]
 have e1:p * (x + c) = p * x + c * p:=by rw [Nat.mul_add,Nat.mul_comm c]
 obtain ⟨j,rfl⟩ : ∃ j,g = j + 1:=⟨g - 1,by omega⟩
 rw [Nat.add_mul,Nat.one_mul] at h hlo
 rw [Nat.add_sub_cancel]
 have hB:2≤B:=by decide
 have hpB:p * 2≤p * B:=Nat.mul_le_mul_left _ hB
 have hpos:0 < p:=by omega
 have hk:k = 1:=by
  rcases Nat.lt_or_ge k 1 with h1 | h1
  · have:k = 0:=by omega
    subst this
    rw [Nat.zero_mul] at hs
    omega
  · rcases Nat.lt_or_ge k 2 with h2 | h2
    · omega
    · have:=Nat.mul_le_mul_right (p * B) h2
      omega
 subst hk
 rw [Nat.one_mul] at hs
 omega
end Go.Num
namespace Go.Proofs.YtncbjgblcofddaaGreatDoor
open Go Go.Eng Go.Num Go.Proofs
structure Mag (w:World) (A:Option Addr) (l:List Nat):Prop where
 lim:Lim l
 cell:∀ j,j < l.length→∃ ad,A = some ad∧w.cell? (ad.add (j * 1)) = some (.int .u32 ((l.getD j 0:Nat):Int))
theorem Mag.at {w:World} {A:Option Addr} {l:List Nat} (h:Mag w A l) {j:Nat} (hj:j < l.length):∃ ad,A = some ad∧∀ i,i < l.length→w.cell? (ad.add (i * 1)) = some (.int .u32 ((l.getD i 0:Nat):Int)):=by
 obtain ⟨ad,rfl,_⟩:=h.cell j hj
 refine ⟨ad,rfl,fun i hi=>?_⟩
 obtain ⟨ad',e,h'⟩:=h.cell i hi
 injection e with e; subst e; exact h'
theorem Mag.ext {w w':World} {A:Option Addr} {l:List Nat} (h:Mag w A l) (hE:Ext w w'):Mag w' A l :=
 ⟨h.lim,fun j hj=>by obtain ⟨ad,e,hc⟩:=h.cell j hj; exact ⟨ad,e,cell_ext hE hc⟩⟩
theorem Mag.ch {w w':World} {M:Nat→Prop} {A:Option Addr} {l:List Nat} (h:Mag w A l) (hC:Ch M w w') (hn:∀ ad,A = some ad→¬ M ad.block):Mag w' A l :=
 ⟨h.lim,fun j hj=>by
  obtain ⟨ad,e,hc⟩:=h.cell j hj
  refine ⟨ad,e,?_⟩
  rw [← hc]
  refine cell_ch hC ?_ ?_
  · exact World.block_lt_of_cell? w _ hc
  · rw [block_add]; exact hn ad e⟩
theorem Mag.none_len {w:World} {A:Option Addr} {l:List Nat} (h:Mag w A l) (e:A = none):l.length = 0:=by
 rcases Nat.eq_zero_or_pos l.length with h0 | h0
 · exact h0
 · obtain ⟨ad,e',_⟩:=h.cell 0 h0; rw [e] at e'; cases e'
theorem Mag.nil (w:World) (A:Option Addr):Mag w A []:=⟨(fun _ h=>by cases h),(fun j h=>by simp at h)⟩
theorem Mag.take {w:World} {A:Option Addr} {l:List Nat} (h:Mag w A l) (k:Nat):Mag w A (l.take k) :=
 ⟨h.lim.take k,fun j hj=>by
  rw [List.length_take] at hj
  obtain ⟨ad,e,hc⟩:=h.cell j (by omega)
  have hjk:j < k:=by omega
  exact ⟨ad,e,by rw [hc]; simp [List.getD,hjk]⟩⟩
def cells (L:List Nat):Array Value:=(L.map fun x=>Value.int .u32 ((x:Nat):Int)).toArray
theorem cells_size (L:List Nat):(cells L).size = L.length:=by simp [cells]
theorem cells_set (L:List Nat) (i x:Nat):(cells L).setIfInBounds (0 + i * 1) (.int .u32 ((x:Nat):Int)) = cells (L.set i x):=by
 simp [cells,List.map_set]
theorem cells_made (m:Nat):madeCells (Value.int .u32 0).cells (m * 1) = cells (List.replicate m 0):=by
 apply Array.toList_inj.1
 simp only [Value.cells,Nat.mul_one,toList_madeCells_one,cells,List.map_replicate]; rfl
theorem cells_at {w:World} {g:Nat} {T:TypeId} {L:List Nat} (hb:Blk w g T (cells L)) {j:Nat} (hj:j < L.length):w.cell? ⟨g,0 + j * 1,none⟩ = some (.int .u32 ((L.getD j 0:Nat):Int)):=by
 rw [hb.cell]; simp [cells,hj,List.getD]
theorem mag_of_blk {w:World} {g:Nat} {T:TypeId} {L:List Nat} (hb:Blk w g T (cells L)) (hl:Lim L):Mag w (some ⟨g,0,none⟩) L :=
 ⟨hl,fun j hj=>⟨_,rfl,by rw [add_lit]; exact cells_at hb hj⟩⟩
theorem trim_ok (A:Option Addr) (n c:Nat) (l:List Nat) (w:World) (h:Mag w A l) (hn:l.length = n) (hc:n≤c) (hc2:c < 9223372036854775808) :
 Meets Tryz.prog 121 #[.slice A n c] w fun v w'=>w = w'∧∃ m,m≤l.length∧v = .slice A m c∧Trimd (l.take m)∧val (l.take m) = val l:=by
 subst hn
 refine fn_W (n:=21) Tryz.func121 rfl rfl (by kernel_rfl) (by simp) ?_
 refine gg ?_
 refine W_seq ?_
 refine W_block ?_
 refine W_loop (fun m f w'=>w' = w∧m≤l.length∧f 0 = .slice A m c∧val (l.take m) = val l) l.length ⟨rfl,Nat.le_refl _,rfl,by simp⟩ ?_
 rintro m f w' ⟨rfl,hm,h0,hv⟩
 rw [ui h0]
 refine W_seq ?_
 rcases m with _ | m
 · refine gg ?_
   refine ret1 rfl rfl ⟨rfl,0,by omega,rfl,by simp [Trimd.nil],hv⟩
 · obtain ⟨ad,rfl,hcell⟩:=h.at (j:=m) (by omega)
   have hcm:=hcell m (by omega)
   refine gg ?_
   refine W_cond rfl (fun hc=>?_) (fun hc=>?_)
   · refine gg ?_
     refine ⟨m,by omega,rfl,by omega,rfl,?_⟩
     have h0:l.getD m 0 = 0:=by simpa using hc
     rw [← hv,val_take_succ l m (by omega),h0]; simp
   · refine gg ?_
     refine ret1 rfl rfl ⟨rfl,m + 1,by omega,rfl,trimd_take (by omega) (by simpa using hc),hv⟩
def NatV (w:World) (v:Value) (m:Nat):Prop:=∃ A l c,v = .slice A l.length c∧l.length≤c∧c < 9223372036854775808∧Mag w A l∧Trimd l∧val l = m
theorem natV_trim {w:World} {A:Option Addr} {c m N:Nat} {l:List Nat} (h:Mag w A l) (hm:m≤l.length) (hc:l.length≤c) (hc2:c < 9223372036854775808) (ht:Trimd (l.take m)) (hv:val (l.take m) = val l) (hN:val l = N):NatV w (.slice A m c) N :=
 ⟨A,l.take m,c,by rw [List.length_take_of_le hm],by rw [List.length_take_of_le hm]; omega,hc2,h.take m,ht,hv.trans hN⟩
set_option maxHeartbeats 4000000 in
theorem addNat_ok (A1 A2:Option Addr) (c1 c2:Nat) (l1 l2:List Nat) (w:World) (h1:Mag w A1 l1) (h2:Mag w A2 l2) (hl1:l1.length < 1099511627776) (hl2:l2.length < 1099511627776) :
 Meets Tryz.prog 155 #[.slice A1 l1.length c1,.slice A2 l2.length c2] w fun v w'=>Ext w w'∧NatV w' v (val l1 + val l2):=by
 refine fn_W (n:=83) Tryz.func155 rfl rfl (by kernel_rfl) (by simp) ?_
 refine gg ?_
 refine W_seqM (fun f w'=>w = w'∧∃ (A A':Option Addr) (c c':Nat) (l l':List Nat),f 0 = .slice A l.length c∧f 1 = .slice A' l'.length c'∧Mag w A l∧Mag w A' l'∧l'.length≤l.length∧l.length < 1099511627776∧val l + val l' = val l1 + val l2) ?_ ?_
 · refine gg ?_
   refine W_cond rfl (fun hc=>?_) (fun hc=>?_)
   · have hc:l1.length < l2.length:=by simpa using hc
     refine gg ?_
     exact ⟨rfl,A2,A1,c2,c1,l2,l1,rfl,rfl,h2,h1,by omega,by omega,Nat.add_comm _ _⟩
   · have hc:¬ l1.length < l2.length:=by simpa using hc
     refine gg ?_
     exact ⟨rfl,A1,A2,c1,c2,l1,l2,rfl,rfl,h1,h2,by omega,by omega,rfl⟩
 · rintro f w0 ⟨rfl,A,A',c,c',l,l',hf0,hf1,hm,hm',hle,hlt,hsum⟩
   rw [ui hf0,ui hf1]
   refine gg ?_
   refine R1_make sl_u32 (.inl rfl) rfl rfl (Nat.le_refl _) (by omega) (by omega) ?_
   intro w1 hB hE hsz
   rw [cells_made] at hB
   refine gg ?_
   refine W_seqM (fun f w'=>∃ cy L,f 0 = .slice A l.length c∧f 1 = .slice A' l'.length c'∧f 5 = .slice (some ⟨w.heap.size,0,none⟩) (l.length + 1) (l.length + 1)∧f 6 = .int .u64 ((cy:Nat):Int) ∧
    Ext w w'∧Blk w' w.heap.size 107 (cells L)∧L.length = l.length + 1∧Lim L∧cy≤1∧val (L.take l'.length) + cy * B ^ l'.length = val (l.take l'.length) + val (l'.take l'.length)) ?_ ?_
   · refine gg ?_
     refine W_loop (fun m f w'=>∃ i cy L,m = l'.length - i∧i≤l'.length∧f 0 = .slice A l.length c∧f 1 = .slice A' l'.length c'∧f 5 = .slice (some ⟨w.heap.size,0,none⟩) (l.length + 1) (l.length + 1)∧f 6 = .int .u64 ((cy:Nat):Int) ∧
      f 21 = .int .i64 ((l'.length:Nat):Int)∧f 22 = .int .i64 ((i:Nat):Int)∧Ext w w'∧Blk w' w.heap.size 107 (cells L)∧L.length = l.length + 1∧Lim L∧cy≤1∧val (L.take i) + cy * B ^ i = val (l.take i) + val (l'.take i))
      l'.length ⟨0,0,_,rfl,Nat.zero_le _,rfl,rfl,rfl,rfl,rfl,rfl,hE,hB,by simp,lim_replicate _,by omega,by simp [val]⟩ ?_
     clear hB hE hsz w1
     rintro m f w1 ⟨i,cy,L,rfl,hi,hf0,hf1,hf5,hf6,hf21,hf22,hE,hB,hL,hLim,hcy,hv⟩
     rw [ui hf0,ui hf1,ui hf5,ui hf6,ui hf21,ui hf22]
     by_cases hlt:i < l'.length
     · refine gg ?_
       refine W_seqD [(0,3),(1,3),(2,3),(3,3),(4,0),(5,3),(6,3),(7,3),(8,3),(9,0),(10,3),(11,3),(12,3),(13,3)] mixed (by kernel_rfl) (fun w2 hE2 _=>?_)
       obtain ⟨ad,rfl,hc1⟩:=(hm.ext (hE.trans hE2)).at (j:=i) (by omega)
       obtain ⟨ad',rfl,hc2⟩:=(hm'.ext (hE.trans hE2)).at (j:=i) (by omega)
       have hx:=hc1 i (by omega)
       have hy:=hc2 i (by omega)
       have bx:=hm.lim.getD i
       have bY:=hm'.lim.getD i
       refine gg ?_
       refine R1_storeI (one_of rfl) (.inl rfl) rfl rfl (hB.ext hE2) (by rw [cells_size]; omega) ?_
       intro w3 hB3 hC3 hs3
       rw [cells_set] at hB3
       refine gg ?_
       refine ⟨_,?_,i + 1,_,_,rfl,by omega,rfl,rfl,rfl,rfl,rfl,rfl,hC3.ext_of (hE.trans hE2) (fun b hb=>by omega),hB3,by simpa using hL,hLim.set (Nat.mod_lt _ (by decide)),?_,?_⟩
       · omega
       · omega
       · rw [val_set_succ _ _ _ (by omega),val_take_succ _ _ (by omega),val_take_succ _ _ (by omega),Nat.pow_succ]
         exact (add_step _ _ _ _ _ _ hv).trans (by omega)
     · refine gg ?_
       have:i = l'.length:=by omega
       subst this
       exact ⟨cy,L,rfl,rfl,rfl,rfl,hE,hB,hL,hLim,hcy,hv⟩
   · clear hB hE hsz w1
     rintro f w1 ⟨cy,L,hf0,hf1,hf5,hf6,hE,hB,hL,hLim,hcy,hv⟩
     rw [ui hf0,ui hf1,ui hf5,ui hf6]
     refine W_seqM (fun f w'=>∃ cy L,f 0 = .slice A l.length c∧f 5 = .slice (some ⟨w.heap.size,0,none⟩) (l.length + 1) (l.length + 1)∧f 6 = .int .u64 ((cy:Nat):Int) ∧
      Ext w w'∧Blk w' w.heap.size 107 (cells L)∧L.length = l.length + 1∧Lim L∧cy≤1∧val (L.take l.length) + cy * B ^ l.length = val l + val l') ?_ ?_
     · refine gg ?_
       refine W_loop (fun m f w'=>∃ i cy L,m = l.length - l'.length - i∧i≤l.length - l'.length∧f 0 = .slice A l.length c∧f 1 = .slice A' l'.length c'∧f 5 = .slice (some ⟨w.heap.size,0,none⟩) (l.length + 1) (l.length + 1)∧f 6 = .int .u64 ((cy:Nat):Int) ∧
        f 50 = .int .i64 ((l.length - l'.length:Nat):Int)∧f 51 = .int .i64 ((i:Nat):Int)∧Ext w w'∧Blk w' w.heap.size 107 (cells L)∧L.length = l.length + 1∧Lim L∧cy≤1∧val (L.take (l'.length + i)) + cy * B ^ (l'.length + i) = val (l.take (l'.length + i)) + val l')
        (l.length - l'.length) ⟨0,_,_,rfl,Nat.zero_le _,rfl,rfl,rfl,rfl,rfl,rfl,hE,hB,hL,hLim,hcy,by rw [val_take_all] at hv; exact hv⟩ ?_
       clear hv hB hE hL hLim hcy w1 hf0 hf1 hf5 hf6 f cy L
       rintro m f w1 ⟨i,cy,L,rfl,hi,hf0,hf1,hf5,hf6,hf50,hf51,hE,hB,hL,hLim,hcy,hv⟩
       rw [ui hf0,ui hf1,ui hf5,ui hf6,ui hf50,ui hf51]
       by_cases hlt:i < l.length - l'.length
       · obtain ⟨ad,rfl,hc1⟩:=(hm.ext hE).at (j:=l'.length + i) (by omega)
         have hx:=hc1 (l'.length + i) (by omega)
         have bx:=hm.lim.getD (l'.length + i)
         refine gg ?_
         refine R1_storeI (one_of rfl) (.inl rfl) rfl rfl hB (by rw [cells_size]; omega) ?_
         intro w3 hB3 hC3 hs3
         rw [cells_set] at hB3
         refine gg ?_
         refine ⟨_,?_,i + 1,_,_,rfl,by omega,rfl,rfl,rfl,rfl,rfl,rfl,hC3.ext_of hE (fun b hb=>by omega),hB3,by simpa using hL,hLim.set (Nat.mod_lt _ (by decide)),?_,?_⟩
         · omega
         · omega
         · rw [← Nat.add_assoc,val_set_succ _ _ _ (by omega),val_take_succ _ _ (by omega),Nat.pow_succ]
           exact (add_step1 _ _ _ _ _ hv).trans (by omega)
       · refine gg ?_
         have e:l'.length + i = l.length:=by omega
         rw [e,val_take_all] at hv
         exact ⟨cy,L,rfl,rfl,rfl,hE,hB,hL,hLim,hcy,hv⟩
     · clear hv hB hE hL hLim hcy w1 hf0 hf1 hf5 hf6 f cy L
       rintro f w1 ⟨cy,L,hf0,hf5,hf6,hE,hB,hL,hLim,hcy,hv⟩
       rw [ui hf0,ui hf5,ui hf6]
       refine gg ?_
       refine R1_storeI (one_of rfl) (.inl rfl) rfl rfl hB (by rw [cells_size]; omega) ?_
       intro w3 hB3 hC3 hs3
       rw [cells_set] at hB3
       refine gg ?_
       have hE3:=hC3.ext_of hE (fun b hb=>by omega)
       refine R1_call2 (trim_ok _ _ _ _ w3 (mag_of_blk hB3 (hLim.set (Nat.mod_lt _ (by decide)))) (by simpa using hL) (Nat.le_refl _) (by omega)) ?_
       rintro v w4 ⟨rfl,m,hm4,rfl,htr,hval⟩
       refine gg ?_
       refine ret1 (v:=.slice _ _ _) rfl rfl ⟨hE3,natV_trim (mag_of_blk hB3 (hLim.set (Nat.mod_lt _ (by decide)))) hm4 ?_ ?_ htr hval ?_⟩
       · simp; omega
       · omega
       · have e:L.set l.length (cy % 4294967296) = (L.set l.length (cy % 4294967296)).take (l.length + 1):=by rw [List.take_of_length_le]; simp; omega
         rw [e,val_set_succ _ _ _ (by omega),Nat.mod_eq_of_lt (by omega),← hsum,← hv,Nat.mul_comm]
end Go.Proofs.YtncbjgblcofddaaGreatDoor
namespace Go.Proofs.YtncbjgblcofddaaGreatDoor
open Go Go.Eng Go.Num Go.Proofs
set_option maxHeartbeats 4000000 in
theorem compareNat_ok (A1 A2:Option Addr) (n1 n2 c1 c2:Nat) (l1 l2:List Nat) (w:World) (h1:Mag w A1 l1) (h2:Mag w A2 l2) (hn1:l1.length = n1) (hn2:l2.length = n2) (hl1:n1 < 1099511627776) (hl2:n2 < 1099511627776) (t1:Trimd l1) (t2:Trimd l2) :
 Meets Tryz.prog 120 #[.slice A1 n1 c1,.slice A2 n2 c2] w fun v w'=>Ext w w'∧v = .int .i64 (cmpZ (val l1) (val l2)):=by
 subst hn1 hn2
 refine fn_W (n:=45) Tryz.func120 rfl rfl (by kernel_rfl) (by simp) ?_
 by_cases hlt:l1.length < l2.length
 · refine gg ?_
   refine ret1 (v:=.int _ _) rfl rfl ⟨Ext.refl _,?_⟩
   rw [cmpZ,if_pos (val_lt_len h1.lim t2 hlt)]
 by_cases hgt:l2.length < l1.length
 · refine gg ?_
   refine ret1 (v:=.int _ _) rfl rfl ⟨Ext.refl _,?_⟩
   have:=val_lt_len h2.lim t1 hgt
   rw [cmpZ,if_neg (by omega),if_pos this]; rfl
 have heq:l1.length = l2.length:=by omega
 refine gg ?_
 refine W_seq ?_
 refine gg ?_
 refine W_loop (fun m f w'=>∃ k,m = k∧k≤l1.length∧f 0 = .slice A1 l1.length c1∧f 1 = .slice A2 l2.length c2∧f 5 = .int .i64 ((k:Int) - 1)∧Ext w w'∧l1.drop k = l2.drop k) l1.length ⟨_,rfl,Nat.le_refl _,rfl,rfl,rfl,Ext.refl _,by rw [heq]; simp [← heq]⟩ ?_
 rintro m f w1 ⟨k,rfl,hk,hf0,hf1,hf5,hE,hd⟩
 rw [ui hf0,ui hf1]
 rcases m with _ | j
 · rw [ui hf5]
   refine W_seq ?_
   refine gg ?_
   refine ret1 (v:=.int _ _) rfl rfl ⟨hE,?_⟩
   have:val l1 = val l2:=by simp at hd; rw [hd]
   rw [cmpZ,if_neg (by omega),if_neg (by omega)]; rfl
 · have e5:(((j + 1:Nat):Int) - 1) = (j:Int):=by omega
   rw [e5] at hf5
   rw [ui hf5]
   refine W_seq ?_
   refine gg ?_
   refine W_seqD [(0,3),(1,3),(2,3),(3,0),(4,3),(5,3),(6,3),(7,0),(8,3),(9,3)] mixed (by kernel_rfl) (fun w2 hE2 _=>?_)
   have hE':=hE.trans hE2
   obtain ⟨ad,rfl,hc1⟩:=(h1.ext hE').at (j:=j) (by omega)
   obtain ⟨ad',rfl,hc2⟩:=(h2.ext hE').at (j:=j) (by omega)
   have hx:=hc1 j (by omega)
   have hy:=hc2 j (by omega)
   by_cases ha:l1.getD j 0 < l2.getD j 0
   · refine gg ?_
     refine ret1 (v:=.int _ _) rfl rfl ⟨hE',?_⟩
     rw [cmpZ,if_pos (val_lt_at h1.lim heq (by omega) hd ha)]
   · refine gg ?_
     refine W_seqD [(0,3),(1,3),(2,3),(3,0),(4,3),(5,3),(6,3),(7,0),(8,3),(9,3)] mixed (by kernel_rfl) (fun w3 hE3 _=>?_)
     have hx:=cell_ext hE3 hx
     have hy:=cell_ext hE3 hy
     by_cases hb:l2.getD j 0 < l1.getD j 0
     · refine gg ?_
       refine ret1 (v:=.int _ _) rfl rfl ⟨hE'.trans hE3,?_⟩
       have:=val_lt_at h2.lim heq.symm (by omega) hd.symm hb
       rw [cmpZ,if_neg (by omega),if_pos this]; rfl
     · refine gg ?_
       refine ⟨j,by omega,j,rfl,by omega,rfl,rfl,rfl,hE'.trans hE3,?_⟩
       rw [drop_cons l1 j (by omega),drop_cons l2 j (by omega),hd,show l1.getD j 0 = l2.getD j 0 by omega]
set_option maxHeartbeats 4000000 in
theorem subNat_ok (A1 A2:Option Addr) (n1 n2 c1 c2:Nat) (l1 l2:List Nat) (w:World) (h1:Mag w A1 l1) (h2:Mag w A2 l2) (hn1:l1.length = n1) (hn2:l2.length = n2) (hl1:n1 < 1099511627776) (hl:n2≤n1) (hle:val l2≤val l1) :
 Meets Tryz.prog 156 #[.slice A1 n1 c1,.slice A2 n2 c2] w fun v w'=>Ext w w'∧NatV w' v (val l1 - val l2):=by
 subst hn1 hn2
 refine fn_W (n:=45) Tryz.func156 rfl rfl (by kernel_rfl) (by simp) ?_
 refine gg ?_
 refine R1_make sl_u32 (.inl rfl) rfl rfl (Nat.le_refl _) (by omega) (by omega) ?_
 intro w1 hB hE hsz
 rw [cells_made] at hB
 refine gg ?_
 refine W_seqM (fun f w'=>∃ L,f 5 = .slice (some ⟨w.heap.size,0,none⟩) l1.length l1.length∧Ext w w'∧Blk w' w.heap.size 107 (cells L)∧L.length = l1.length∧Lim L∧val L + val l2 = val l1) ?_ ?_
 · refine gg ?_
   refine W_loop (fun m f w'=>∃ i br L,m = l1.length - i∧i≤l1.length∧f 0 = .slice A1 l1.length c1∧f 1 = .slice A2 l2.length c2∧f 5 = .slice (some ⟨w.heap.size,0,none⟩) l1.length l1.length∧f 6 = .int .u64 ((br:Nat):Int) ∧
    f 13 = .int .i64 ((l1.length:Nat):Int)∧f 14 = .int .i64 ((i:Nat):Int)∧Ext w w'∧Blk w' w.heap.size 107 (cells L)∧L.length = l1.length∧Lim L∧br≤1∧val (L.take i) + val (l2.take i) = val (l1.take i) + br * B ^ i)
    l1.length ⟨0,0,_,rfl,Nat.zero_le _,rfl,rfl,rfl,rfl,rfl,rfl,hE,hB,by simp,lim_replicate _,by omega,by simp [val]⟩ ?_
   clear hB hE hsz w1
   rintro m f w1 ⟨i,br,L,rfl,hi,hf0,hf1,hf5,hf6,hf13,hf14,hE,hB,hL,hLim,hbr,hv⟩
   rw [ui hf0,ui hf1,ui hf5,ui hf6,ui hf13,ui hf14]
   by_cases hlt:i < l1.length
   · obtain ⟨ad,rfl,hc1⟩:=(h1.ext hE).at (j:=i) (by omega)
     have hx:=hc1 i (by omega)
     have bx:=h1.lim.getD i
     refine gg ?_
     refine R1_subm_u64 rfl rfl (by omega) ?_
     refine gg ?_
     by_cases hi2:i < l2.length
     · obtain ⟨ad',rfl,hc2⟩:=(h2.ext hE).at (j:=i) (by omega)
       have hy:=hc2 i (by omega)
       have bY:=h2.lim.getD i
       refine W_seq ?_
       refine gg ?_
       refine R1_subm_u64 rfl rfl (by omega) ?_
       refine gg ?_
       refine R1_storeI (one_of rfl) (.inl rfl) rfl rfl hB (by rw [cells_size]; omega) ?_
       intro w3 hB3 hC3 hs3
       rw [cells_set] at hB3
       refine gg ?_
       have hs:=sub_limb (l1.getD i 0) (l2.getD i 0) br bx bY hbr
       refine ⟨_,?_,i + 1,_,_,rfl,by omega,rfl,rfl,rfl,rfl,rfl,rfl,hC3.ext_of hE (fun b hb=>by omega),hB3,by simpa using hL,hLim.set (Nat.mod_lt _ (by decide)),hs.2,?_⟩
       · omega
       · rw [val_set_succ _ _ _ (by omega),val_take_succ _ _ (by omega),val_take_succ _ _ (by omega),Nat.pow_succ]
         exact sub_step _ _ _ _ _ _ _ _ _ hv hs.1
     · refine W_seq ?_
       refine gg ?_
       refine R1_storeI (one_of rfl) (.inl rfl) rfl rfl hB (by rw [cells_size]; omega) ?_
       intro w3 hB3 hC3 hs3
       rw [cells_set] at hB3
       refine gg ?_
       have hs:=sub_limb0 (l1.getD i 0) br bx hbr
       refine ⟨_,?_,i + 1,_,_,rfl,by omega,rfl,rfl,rfl,rfl,rfl,rfl,hC3.ext_of hE (fun b hb=>by omega),hB3,by simpa using hL,hLim.set (Nat.mod_lt _ (by decide)),hs.2,?_⟩
       · omega
       · rw [val_set_succ _ _ _ (by omega),val_take_succ l1 _ (by omega),val_take_ge l2 (i + 1) (by omega),Nat.pow_succ]
         rw [val_take_ge l2 i (by omega)] at hv
         exact sub_step0 _ _ _ _ _ _ _ _ hv hs.1
   · refine gg ?_
     have:i = l1.length:=by omega
     subst this
     rw [val_take_ge _ _ (by omega),val_take_ge _ _ (by omega),val_take_ge _ _ (by omega)] at hv
     have b0:=val_lt L hLim
     have:br = 0:=by
      rcases Nat.lt_or_ge 0 br with h | h
      · have:B ^ l1.length≤br * B ^ l1.length:=Nat.le_mul_of_pos_left _ h
        rw [hL] at b0; omega
      · omega
     subst this
     exact ⟨L,rfl,hE,hB,hL,hLim,by omega⟩
 · clear hB hE hsz w1
   rintro f w1 ⟨L,hf5,hE,hB,hL,hLim,hv⟩
   rw [ui hf5]
   refine gg ?_
   refine R1_call2 (trim_ok _ _ _ _ w1 (mag_of_blk hB hLim) hL (Nat.le_refl _) (by omega)) ?_
   rintro v w4 ⟨rfl,m,hm4,rfl,htr,hval⟩
   refine gg ?_
   exact ret1 (v:=.slice _ _ _) rfl rfl ⟨hE,natV_trim (mag_of_blk hB hLim) hm4 (by omega) (by omega) htr hval (by omega)⟩
end Go.Proofs.YtncbjgblcofddaaGreatDoor
namespace Go.Proofs.YtncbjgblcofddaaGreatDoor
open Go Go.Eng Go.Num Go.Proofs
theorem or_step (i a x:Nat) (hi:i≤1) (ha:a < B ^ i) (hx:x < 4294967296):a ||| (x * 2 ^ (32 * i)) % 18446744073709551616 = a + B ^ i * x∧a + B ^ i * x < 18446744073709551616∧a < 18446744073709551616:=by
 have hB:B = 4294967296:=rfl
 rcases (by omega:i = 0 ∨ i = 1) with rfl | rfl
 · simp only [Nat.pow_zero] at ha
   have:a = 0:=by omega
   subst this
   simp; omega
 · rw [hB,Nat.pow_one] at *
   have e:x * 2 ^ (32 * 1) % 18446744073709551616 = 2 ^ 32 * x:=by omega
   have e2:=Nat.two_pow_add_eq_or_of_lt (i:=32) (b:=a) (by omega) x
   rw [e,Nat.or_comm,← e2]
   omega
set_option maxHeartbeats 4000000 in
theorem word_ok (A:Option Addr) (n c:Nat) (l:List Nat) (w:World) (h:Mag w A l) (hn:l.length = n) (hl:n≤2) :
 Meets Tryz.prog 185 #[.slice A n c] w fun v w'=>w = w'∧v = .int .u64 ((val l:Nat):Int):=by
 subst hn
 refine fn_W (n:=22) Tryz.func185 rfl rfl (by kernel_rfl) (by simp) ?_
 refine gg ?_
 refine W_seq ?_
 refine gg ?_
 refine W_loop (fun m f w'=>∃ i,m = l.length - i∧i≤l.length∧f 3 = .int .u64 ((val (l.take i):Nat):Int)∧f 6 = .slice A l.length c∧f 7 = .int .i64 ((l.length:Nat):Int)∧f 8 = .int .i64 ((i:Nat):Int)∧w = w')
  l.length ⟨0,rfl,Nat.zero_le _,rfl,rfl,rfl,rfl,rfl⟩ ?_
 rintro m f w1 ⟨i,rfl,hi,hf3,hf6,hf7,hf8,rfl⟩
 rw [ui hf3,ui hf6,ui hf7,ui hf8]
 by_cases hlt:i < l.length
 · obtain ⟨ad,rfl,hc⟩:=h.at (j:=i) (by omega)
   have hx:=hc i (by omega)
   have bx:=h.lim.getD i
   have hor:=or_step i (val (l.take i)) (l.getD i 0) (by omega) (val_take_lt h.lim i) bx
   refine gg ?_
   refine R1_shl_u64 rfl rfl (by omega) ?_
   refine gg ?_
   refine R1_or_u64 rfl rfl hor.2.2 (Nat.mod_lt _ (by decide)) ?_
   refine gg ?_
   refine ⟨_,?_,i + 1,rfl,by omega,?_,rfl,rfl,rfl,rfl⟩
   · omega
   · rw [val_take_succ l i (by omega),← hor.1]; rfl
 · refine gg ?_
   refine ret1 (v:=.int _ _) rfl rfl ⟨rfl,?_⟩
   rw [List.take_of_length_le (by omega)]
set_option maxHeartbeats 4000000 in
theorem fromWord_ok (x:Nat) (w:World) (hx:x < 18446744073709551616) :
 Meets Tryz.prog 157 #[.int .u64 ((x:Nat):Int)] w fun v w'=>Ext w w'∧NatV w' v x:=by
 refine fn_W (n:=10) Tryz.func157 rfl rfl (by kernel_rfl) (by simp) ?_
 refine gg ?_
 refine R1_build2 (v0:=.int _ _) (v1:=.int _ _) sl_u32 rfl (.inl rfl) rfl rfl rfl rfl ?_
 intro w1 hB hE hsz
 have hB':Blk w1 w.heap.size 107 (cells [x % 4294967296,x / 2 ^ 32 % 4294967296]):=hB
 have hl:Lim [x % 4294967296,x / 2 ^ 32 % 4294967296]:=by
  intro y hy
  simp at hy
  omega
 refine gg ?_
 refine R1_call2 (trim_ok _ _ _ _ w1 (mag_of_blk hB' hl) rfl (Nat.le_refl _) (by omega)) ?_
 rintro v w4 ⟨rfl,m,hm4,rfl,htr,hval⟩
 refine gg ?_
 refine ret1 (v:=.slice _ _ _) rfl rfl ⟨hE,natV_trim (mag_of_blk hB' hl) hm4 (by simp) (by omega) htr hval ?_⟩
 simp only [val,B]
 omega
def Lb (w:World) (g:Nat) (L:List Nat):Prop:=∃ sp,Blk w g 107 (cells L ++ sp)
theorem Lb.of {w:World} {g:Nat} {L:List Nat} (h:Blk w g 107 (cells L)):Lb w g L:=⟨#[],by simpa using h⟩
theorem Lb.at {w:World} {g:Nat} {L:List Nat} (h:Lb w g L) {j:Nat} (hj:j < L.length):w.cell? ⟨g,0 + j * 1,none⟩ = some (.int .u32 ((L.getD j 0:Nat):Int)):=by
 obtain ⟨sp,hb⟩:=h
 rw [hb.cell,Array.getElem?_append_left (by rw [cells_size]; omega)]
 simp [cells,hj,List.getD]
theorem Lb.mag {w:World} {g:Nat} {L:List Nat} (h:Lb w g L) (hl:Lim L):Mag w (some ⟨g,0,none⟩) L :=
 ⟨hl,fun j hj=>⟨_,rfl,by rw [add_lit]; exact h.at hj⟩⟩
theorem Lb.ext {w w':World} {g:Nat} {L:List Nat} (h:Lb w g L) (hE:Ext w w'):Lb w' g L:=by
 obtain ⟨sp,hb⟩:=h; exact ⟨sp,hb.ext hE⟩
theorem Lb.lt {w:World} {g:Nat} {L:List Nat} (h:Lb w g L):g < w.heap.size:=by
 obtain ⟨sp,hb⟩:=h; exact hb.lt
theorem Lb.set {w:World} {g:Nat} {L:List Nat} {sp:Array Value} {i x:Nat} (hi:i < L.length) (h:Blk w g 107 ((cells L ++ sp).setIfInBounds (0 + i * 1) (.int .u32 ((x:Nat):Int)))):Lb w g (L.set i x):=by
 refine ⟨sp,?_⟩
 have e:(cells L ++ sp).setIfInBounds (0 + i * 1) (.int .u32 ((x:Nat):Int)) = cells (L.set i x) ++ sp:=by
  rw [← cells_set]
  apply Array.toList_inj.1
  simp [cells,hi]
 rw [← e]; exact h
theorem own_lb {w:World} {base:Nat} {v:Value} {l:List Nat} (h:w.ownsRow base 107 1 v l.length (l.map fun x=>Value.int .u32 ((x:Nat):Int))) :
 (v = .slice none 0 0∧l = []) ∨ ∃ g c,v = .slice (some ⟨g,0,none⟩) l.length c∧base≤g∧l.length≤c∧c≤9223372036854775807∧Lb w g l:=by
 rcases h.2 with ⟨rfl,h0⟩ | ⟨g,cap,cur,rfl,hb,hg,hnc,hcm,hcs,htake⟩
 · exact .inl ⟨rfl,List.eq_nil_of_length_eq_zero h0⟩
 · refine .inr ⟨g,cap,rfl,hb,hnc,hcm,⟨(cur.toList.drop l.length).toArray,?_⟩⟩
   unfold Blk
   rw [hg]
   congr 2
   apply Array.toList_inj.1
   rw [Nat.mul_one] at htake
   simp only [cells,Array.toList_append]
   rw [← htake]
   simp
theorem mag_src {w:World} {A:Option Addr} {l:List Nat} (h:Mag w A l):∀ j u,(l.map fun x=>Value.int .u32 ((x:Nat):Int))[j]? = some u→∃ ad,A = some ad∧w.cell? (ad.add j) = some u:=by
 intro j u hu
 rw [List.getElem?_map] at hu
 rcases hj:l[j]? with _ | x
 · rw [hj] at hu; cases hu
 · rw [hj] at hu
   have hlt:j < l.length:=by
    rcases Nat.lt_or_ge j l.length with h' | h'
    · exact h'
    · rw [List.getElem?_eq_none h'] at hj; cases hj
   obtain ⟨ad,e,hc⟩:=h.cell j hlt
   refine ⟨ad,e,?_⟩
   rw [Nat.mul_one] at hc
   rw [hc,← hu]
   simp [List.getD,hj]
theorem limbs_one (l:List Nat):∀ u ∈ (l.map fun x=>Value.int .u32 ((x:Nat):Int)),u.oneCell' = true:=by
 intro u hu
 obtain ⟨x,_,rfl⟩:=List.mem_map.1 hu
 rfl
set_option maxHeartbeats 4000000 in
theorem clone_ok (A:Option Addr) (n c:Nat) (l:List Nat) (w:World) (h:Mag w A l) (hn:l.length = n) (hl:n < 1099511627776) (hz:A = none→n = 0) :
 Meets Tryz.prog 158 #[.slice A n c] w fun v w'=>Ext w w'∧((v = .slice none 0 0∧l = []) ∨ ∃ g c',v = .slice (some ⟨g,0,none⟩) n c'∧w.heap.size≤g∧n≤c'∧c'≤9223372036854775807∧Lb w' g l):=by
 subst hn
 refine fn_W (n:=8) Tryz.func158 rfl rfl (by kernel_rfl) (by simp) ?_
 refine gg ?_
 refine W_seq ?_
 refine gg ?_
 refine R1_eqnil sl_u32 rfl ?_
 refine gg ?_
 rcases A with _ | ad
 · refine W_true rfl ?_
   refine gg ?_
   exact ret1 (v:=.slice _ _ _) rfl rfl ⟨Ext.refl _,.inl ⟨rfl,List.eq_nil_of_length_eq_zero (hz rfl)⟩⟩
 · refine W_false rfl ?_
   refine gg ?_
   refine R1_build0 sl_u32 (.inl rfl) ?_
   intro w1 hB hE hsz
   refine gg ?_
   refine R1_append (base:=w.heap.size) (m0:=0) (xs:=[]) (news:=l.map fun x=>Value.int .u32 ((x:Nat):Int)) (v:=.slice _ _ _) sl_u32 rfl (by decide) (.inl rfl) rfl ⟨rfl,.inr ⟨_,_,_,rfl,Nat.le_refl _,hB,Nat.le_refl _,by decide,rfl,rfl⟩⟩ rfl (by simp) (mag_src (h.ext hE)) (limbs_one l) (by omega) (by omega) (by omega) ?_
   intro v' w' hown hC _
   refine gg ?_
   refine ret1 (v:=v') rfl rfl ⟨hC.ext_of hE (fun b hb=>by simp [Value.ownBlock] at hb; omega),?_⟩
   rw [Nat.zero_add,List.nil_append] at hown
   rcases own_lb hown with ⟨rfl,rfl⟩ | ⟨g,c',rfl,hg,hc1,hc2,hb⟩
   · exact .inl ⟨rfl,rfl⟩
   · exact .inr ⟨g,c',rfl,hg,hc1,hc2,hb⟩
end Go.Proofs.YtncbjgblcofddaaGreatDoor
namespace Go.Proofs.YtncbjgblcofddaaGreatDoor
open Go Go.Eng Go.Num Go.Proofs
theorem idx2 (i j:Nat):0 + i * 1 + j * 1 = 0 + (i + j) * 1:=by omega
set_option maxHeartbeats 8000000 in
theorem mulNat_ok (A1 A2:Option Addr) (n1 n2 c1 c2:Nat) (l1 l2:List Nat) (w:World) (h1:Mag w A1 l1) (h2:Mag w A2 l2) (hn1:l1.length = n1) (hn2:l2.length = n2) (hl1:n1 < 1099511627776) (hl2:n2 < 1099511627776) :
 Meets Tryz.prog 150 #[.slice A1 n1 c1,.slice A2 n2 c2] w fun v w'=>Ext w w'∧NatV w' v (val l1 * val l2):=by
 subst hn1 hn2
 refine fn_W (n:=86) Tryz.func150 rfl rfl (by kernel_rfl) (by simp) ?_
 refine gg ?_
 by_cases hsm:l1.length≤1∧l2.length≤1
 · obtain ⟨s1,s2⟩:=hsm
   have v1:=val_one l1 h1.lim s1
   have v2:=val_one l2 h2.lim s2
   have v3:=mul_small _ _ v1 v2
   refine W_seq ?_
   refine gg ?_
   refine R1_call2 (word_ok _ _ _ _ w h1 rfl (by omega)) ?_
   rintro _ w1 ⟨rfl,rfl⟩
   refine gg ?_
   refine R1_call2 (word_ok _ _ _ _ w h2 rfl (by omega)) ?_
   rintro _ w1 ⟨rfl,rfl⟩
   refine gg ?_
   refine R1_mul_u64 rfl rfl (by omega) ?_
   refine gg ?_
   refine R1_call2 (fromWord_ok _ w (by omega)) ?_
   rintro v w1 ⟨hE,hV⟩
   refine gg ?_
   exact ret1 (v:=v) rfl rfl ⟨hE,hV⟩
 · refine W_seqM (fun f w'=>w = w'∧f 0 = .slice A1 l1.length c1∧f 1 = .slice A2 l2.length c2) ?_ ?_
   · by_cases s1:l1.length≤1
     · refine gg ?_
       exact ⟨rfl,rfl,rfl⟩
     · refine gg ?_
       exact ⟨rfl,rfl,rfl⟩
   rintro f w' ⟨rfl,hf0,hf1⟩
   rw [ui hf0,ui hf1]
   clear hf0 hf1 hsm
   refine gg ?_
   refine R1_make sl_u32 (.inl rfl) rfl rfl (Nat.le_refl _) (by omega) (by omega) ?_
   intro w1 hB hE hsz
   rw [cells_made] at hB
   refine gg ?_
   refine W_seqM (fun f w'=>∃ L,f 5 = .slice (some ⟨w.heap.size,0,none⟩) (l1.length + l2.length) (l1.length + l2.length)∧Ext w w'∧Blk w' w.heap.size 107 (cells L)∧L.length = l1.length + l2.length∧Lim L∧val L = val l1 * val l2) ?_ ?_
   · refine gg ?_
     refine W_loop (fun m f w'=>∃ i L,m = l1.length - i∧i≤l1.length∧f 1 = .slice A2 l2.length c2∧f 5 = .slice (some ⟨w.heap.size,0,none⟩) (l1.length + l2.length) (l1.length + l2.length)∧f 32 = .slice A1 l1.length c1 ∧
      f 33 = .int .i64 ((l1.length:Nat):Int)∧f 34 = .int .i64 ((i:Nat):Int)∧Ext w w'∧Blk w' w.heap.size 107 (cells L)∧L.length = l1.length + l2.length∧Lim L∧val L = val (l1.take i) * val l2∧∀ j,i + l2.length≤j→L.getD j 0 = 0)
      l1.length ⟨0,_,rfl,Nat.zero_le _,rfl,rfl,rfl,rfl,rfl,hE,hB,by simp,lim_replicate _,by simp [val,val_zeros],fun j _=>getD_replicate _ _⟩ ?_
     clear hB hE hsz w1 f
     rintro m f w1 ⟨i,L,rfl,hi,hf1,hf5,hf32,hf33,hf34,hE,hB,hL,hLim,hv,hz⟩
     rw [ui hf1,ui hf5,ui hf32,ui hf33,ui hf34]
     clear hf1 hf5 hf32 hf33 hf34
     by_cases hlt:i < l1.length
     · obtain ⟨ad,rfl,hc⟩:=(h1.ext hE).at (j:=i) (by omega)
       have hx:=hc i (by omega)
       have bx:=h1.lim.getD i
       refine gg ?_
       by_cases hx0:l1.getD i 0 = 0
       · refine W_seq ?_
         refine gg ?_
         refine ⟨_,?_,i + 1,L,rfl,by omega,rfl,rfl,rfl,rfl,rfl,hE,hB,hL,hLim,?_,fun j hj=>hz j (by omega)⟩
         · omega
         · rw [val_take_succ l1 i (by omega),hx0,hv]; simp
       · refine W_seq ?_
         refine gg ?_
         refine R1_sliceLHB sl_u32 rfl rfl rfl (by omega) (by omega) (by omega) ?_
         refine gg ?_
         refine W_seqM (fun f w'=>∃ cy L',f 1 = .slice A2 l2.length c2∧f 5 = .slice (some ⟨w.heap.size,0,none⟩) (l1.length + l2.length) (l1.length + l2.length)∧f 8 = .slice (some ⟨w.heap.size,0 + i * 1,none⟩) (i + l2.length + 1 - i) (l1.length + l2.length - i)∧f 9 = .int .u64 ((cy:Nat):Int) ∧
          f 32 = .slice (some ad) l1.length c1∧f 33 = .int .i64 ((l1.length:Nat):Int)∧f 34 = .int .i64 ((i:Nat):Int)∧Ext w w'∧Blk w' w.heap.size 107 (cells L')∧L'.length = l1.length + l2.length∧Lim L'∧cy < 4294967296 ∧
          val L' + cy * B ^ (i + l2.length) = val L + B ^ i * (l1.getD i 0 * val l2)∧∀ j,i + l2.length≤j→L'.getD j 0 = 0) ?_ ?_
         · refine gg ?_
           refine W_loop (fun m f w'=>∃ j cy L',m = l2.length - j∧j≤l2.length∧f 1 = .slice A2 l2.length c2∧f 5 = .slice (some ⟨w.heap.size,0,none⟩) (l1.length + l2.length) (l1.length + l2.length)∧f 7 = .int .u32 ((l1.getD i 0:Nat):Int)∧f 8 = .slice (some ⟨w.heap.size,0 + i * 1,none⟩) (i + l2.length + 1 - i) (l1.length + l2.length - i)∧f 9 = .int .u64 ((cy:Nat):Int) ∧
            f 32 = .slice (some ad) l1.length c1∧f 33 = .int .i64 ((l1.length:Nat):Int)∧f 34 = .int .i64 ((i:Nat):Int)∧f 49 = .slice A2 l2.length c2∧f 50 = .int .i64 ((l2.length:Nat):Int)∧f 51 = .int .i64 ((j:Nat):Int) ∧
            Ext w w'∧Blk w' w.heap.size 107 (cells L')∧L'.length = l1.length + l2.length∧Lim L'∧cy < 4294967296 ∧
            val L' + cy * B ^ (i + j) = val L + B ^ i * (l1.getD i 0 * val (l2.take j))∧(∀ q,i + j≤q→L'.getD q 0 = L.getD q 0))
            l2.length ⟨0,0,L,rfl,Nat.zero_le _,rfl,rfl,rfl,rfl,rfl,rfl,rfl,rfl,rfl,rfl,rfl,hE,hB,hL,hLim,by omega,by simp [val],fun _ _=>rfl⟩ ?_
           clear hB hE w1 f hx hc
           rintro m f w1 ⟨j,cy,L',rfl,hj,hf1,hf5,hf7,hf8,hf9,hf32,hf33,hf34,hf49,hf50,hf51,hE,hB,hL',hLim',hcy,hv',hsame⟩
           rw [ui hf1,ui hf5,ui hf7,ui hf8,ui hf9,ui hf32,ui hf33,ui hf34,ui hf49,ui hf50,ui hf51]
           clear hf1 hf5 hf7 hf8 hf9 hf32 hf33 hf34 hf49 hf50 hf51
           by_cases hjl:j < l2.length
           · obtain ⟨ad',rfl,hc'⟩:=(h2.ext hE).at (j:=j) (by omega)
             have hy:=hc' j (by omega)
             have bY:=h2.lim.getD j
             have hr:w1.cell? ⟨w.heap.size,0 + i * 1 + j * 1,none⟩ = some (.int .u32 ((L'.getD (i + j) 0:Nat):Int)):=by rw [idx2]; exact cells_at hB (by omega)
             have br:=hLim'.getD (i + j)
             have bxy:=mul_small _ _ bx bY
             refine gg ?_
             refine R1_mul_u64 rfl rfl (by omega) ?_
             refine gg ?_
             refine R1_storeI (one_of rfl) (.inl rfl) rfl rfl hB (by rw [cells_size]; omega) ?_
             intro w3 hB3 hC3 hs3
             rw [idx2,cells_set] at hB3
             refine gg ?_
             refine ⟨_,?_,j + 1,_,_,rfl,by omega,rfl,rfl,rfl,rfl,rfl,rfl,rfl,rfl,rfl,rfl,rfl,hC3.ext_of hE (fun b hb=>by omega),hB3,by simpa using hL',hLim'.set (Nat.mod_lt _ (by decide)),?_,?_,fun q hq=>by rw [Num.getD_set_ne (by omega)]; exact hsame q (by omega)⟩
             · omega
             · omega
             · have e:=mul_step _ _ _ (l1.getD i 0) (l2.getD j 0) (L'.getD (i + j) 0) _ hv' _ (val_set L' (i + j) _ (by omega))
               rw [val_take_succ l2 j (by omega),Nat.mul_add,Nat.mul_add,← Nat.add_assoc i j 1,Nat.pow_succ]
               refine e.trans ?_
               rw [Nat.pow_add,Nat.add_assoc]
               congr 2
               rw [Nat.mul_assoc,Nat.mul_left_comm (l1.getD i 0)]
           · refine gg ?_
             have:j = l2.length:=by omega
             subst this
             rw [val_take_all] at hv'
             exact ⟨cy,L',rfl,rfl,rfl,rfl,rfl,rfl,rfl,hE,hB,hL',hLim',hcy,hv',fun q hq=>by rw [hsame q hq]; exact hz q hq⟩
         · clear hB hE w1 f hx hc
           rintro f w1 ⟨cy,L',hf1,hf5,hf8,hf9,hf32,hf33,hf34,hE,hB,hL',hLim',hcy,hv',hz'⟩
           rw [ui hf1,ui hf5,ui hf8,ui hf9,ui hf32,ui hf33,ui hf34]
           clear hf1 hf5 hf8 hf9 hf32 hf33 hf34
           refine gg ?_
           refine R1_storeI (one_of rfl) (.inl rfl) rfl rfl hB (by rw [cells_size]; omega) ?_
           intro w3 hB3 hC3 hs3
           rw [idx2,cells_set] at hB3
           refine gg ?_
           refine ⟨_,?_,i + 1,_,rfl,by omega,rfl,rfl,rfl,rfl,rfl,hC3.ext_of hE (fun b hb=>by omega),hB3,by simpa using hL',hLim'.set (Nat.mod_lt _ (by decide)),?_,fun q hq=>by rw [Num.getD_set_ne (by omega)]; exact hz' q (by omega)⟩
           · omega
           · have e:=val_set L' (i + l2.length) (cy % 4294967296) (by omega)
             rw [hz' _ (Nat.le_refl _),Nat.mod_eq_of_lt hcy] at e
             rw [Nat.mod_eq_of_lt hcy,val_take_succ l1 i (by omega),Nat.add_mul,← hv,Nat.mul_assoc,← hv',Nat.mul_comm cy]
             omega
     · refine gg ?_
       have:i = l1.length:=by omega
       subst this
       rw [val_take_all] at hv
       exact ⟨L,rfl,hE,hB,hL,hLim,hv⟩
   · clear hB hE hsz w1
     rintro f w1 ⟨L,hf5,hE,hB,hL,hLim,hv⟩
     rw [ui hf5]
     refine gg ?_
     refine R1_call2 (trim_ok _ _ _ _ w1 (mag_of_blk hB hLim) hL (Nat.le_refl _) (by omega)) ?_
     rintro v w4 ⟨rfl,m,hm4,rfl,htr,hval⟩
     refine gg ?_
     exact ret1 (v:=.slice _ _ _) rfl rfl ⟨hE,natV_trim (mag_of_blk hB hLim) hm4 (by omega) (by omega) htr hval hv⟩
end Go.Proofs.YtncbjgblcofddaaGreatDoor
namespace Go.Proofs.YtncbjgblcofddaaGreatDoor
open Go Go.Eng Go.Num Go.Proofs
set_option maxHeartbeats 8000000 in
theorem divideByLimb_ok (g n c b:Nat) (L:List Nat) (w:World) (hL:Lb w g L) (hlim:Lim L) (hn:L.length = n) (hl:n < 1099511627776) (hb:0 < b) (hb2:b < 4294967296) :
 Meets Tryz.prog 173 #[.slice (some ⟨g,0,none⟩) n c,.int .u32 ((b:Nat):Int)] w fun v w'=>∃ r L',v = .int .u32 ((r:Nat):Int)∧Ch (fun q=>q = g) w w'∧w'.heap.size = w.heap.size∧Lb w' g L'∧L'.length = n∧Lim L'∧val L = val L' * b + r∧r < b:=by
 subst hn
 refine fn_W (n:=36) Tryz.func173 rfl rfl (by kernel_rfl) (by simp) ?_
 refine gg ?_
 refine W_seq ?_
 refine gg ?_
 refine W_loop (fun m f w'=>∃ r L',m≤L.length∧f 0 = .slice (some ⟨g,0,none⟩) L.length c∧f 1 = .int .u32 ((b:Nat):Int)∧f 5 = .int .u64 ((r:Nat):Int)∧f 6 = .int .i64 ((m:Int) - 1)∧Ch (fun q=>q = g) w w'∧w'.heap.size = w.heap.size∧Lb w' g L'∧L'.length = L.length∧Lim L'∧r < b∧(∀ j,j < m→L'.getD j 0 = L.getD j 0)∧val (L.drop m) = val (L'.drop m) * b + r)
  L.length ⟨0,L,Nat.le_refl _,rfl,rfl,rfl,rfl,Ch.refl _ _,rfl,hL,rfl,hlim,hb,fun _ _=>rfl,by simp [val]⟩ ?_
 rintro m f w1 ⟨r,L',hm,hf0,hf1,hf5,hf6,hC,hsz,hL',hlen,hlim',hr,hsame,hv⟩
 rw [ui hf0,ui hf1,ui hf5]
 rcases m with _ | j
 · rw [ui hf6]
   refine W_seq ?_
   refine gg ?_
   refine ret1 (v:=.int _ _) rfl rfl ⟨r % 4294967296,L',rfl,hC,hsz,hL',hlen,hlim',?_,?_⟩
   · rw [Nat.mod_eq_of_lt (by omega)]; simpa using hv
   · rw [Nat.mod_eq_of_lt (by omega)]; exact hr
 · have e6:(((j + 1:Nat):Int) - 1) = (j:Int):=by omega
   rw [e6] at hf6
   rw [ui hf6]
   clear hf0 hf1 hf5 hf6
   have hx:=hL'.at (j:=j) (by omega)
   have bx:=hlim'.getD j
   have hso:=shl_or r (L'.getD j 0) (by omega) bx
   have hds:=div_step b r (L'.getD j 0) _ _ hb hr bx hv
   have hq:(r * 4294967296 + L'.getD j 0) / b < 4294967296:=hds.1
   refine W_seq ?_
   refine gg ?_
   refine R1_or_u64 rfl rfl (Nat.mod_lt _ (by decide)) (by omega) ?_
   rw [show r * 2 ^ (OfNat.ofNat 32) % 18446744073709551616 ||| L'.getD j 0 = r * 4294967296 + L'.getD j 0 from hso.1]
   refine gg ?_
   refine R1_quo_u64 rfl rfl hso.2 hb ?_
   refine gg ?_
   obtain ⟨sp,hB⟩:=hL'
   refine R1_storeI (one_of rfl) (.inl rfl) rfl rfl hB (by rw [Array.size_append,cells_size]; omega) ?_
   intro w3 hB3 hC3 hs3
   refine gg ?_
   refine R1_rem_u64 rfl rfl hb ?_
   refine gg ?_
   refine ⟨j,by omega,(r * 4294967296 + L'.getD j 0) % b,L'.set j ((r * 4294967296 + L'.getD j 0) / b % 4294967296),by omega,rfl,rfl,rfl,rfl,hC.trans hC3,hs3.trans hsz,Lb.set (by omega) hB3,by simpa using hlen,hlim'.set (Nat.mod_lt _ (by decide)),hds.2.1,fun q hq=>by rw [Num.getD_set_ne (by omega)]; exact hsame q (by omega),?_⟩
   rw [Nat.mod_eq_of_lt hq,drop_set _ _ _ (by omega),drop_cons L j (by omega),← hsame j (by omega)]
   exact hds.2.2
set_option maxHeartbeats 8000000 in
theorem shiftLeft_ok (A:Option Addr) (n c s:Nat) (l:List Nat) (w:World) (h:Mag w A l) (hn:l.length = n) (hl:n < 1099511627776) (hs:s < 32) :
 Meets Tryz.prog 189 #[.slice A n c,.int .i64 ((s:Nat):Int)] w fun v w'=>∃ L,v = .slice (some ⟨w.heap.size,0,none⟩) (n + 1) (n + 1)∧Ext w w'∧Blk w' w.heap.size 107 (cells L)∧L.length = n + 1∧Lim L∧val L = val l * 2 ^ s∧L.getD n 0 < 2 ^ s:=by
 subst hn
 refine fn_W (n:=41) Tryz.func189 rfl rfl (by kernel_rfl) (by simp) ?_
 refine gg ?_
 refine R1_make sl_u32 (.inl rfl) rfl rfl (Nat.le_refl _) (by omega) (by omega) ?_
 intro w1 hB hE hsz
 rw [cells_made] at hB
 refine gg ?_
 refine W_seq ?_
 refine gg ?_
 refine W_loop (fun m f w'=>∃ i cy L,m = l.length - i∧i≤l.length∧f 0 = .slice A l.length c∧f 1 = .int .i64 ((s:Nat):Int)∧f 5 = .slice (some ⟨w.heap.size,0,none⟩) (l.length + 1) (l.length + 1)∧f 6 = .int .u64 ((cy:Nat):Int)∧f 13 = .slice A l.length c ∧
  f 14 = .int .i64 ((l.length:Nat):Int)∧f 15 = .int .i64 ((i:Nat):Int)∧Ext w w'∧Blk w' w.heap.size 107 (cells L)∧L.length = l.length + 1∧Lim L∧cy < 2 ^ s∧val (L.take i) + cy * B ^ i = val (l.take i) * 2 ^ s)
  l.length ⟨0,0,_,rfl,Nat.zero_le _,rfl,rfl,rfl,rfl,rfl,rfl,rfl,hE,hB,by simp,lim_replicate _,Nat.two_pow_pos s,by simp [val]⟩ ?_
 clear hB hE hsz w1
 rintro m f w1 ⟨i,cy,L,rfl,hi,hf0,hf1,hf5,hf6,hf13,hf14,hf15,hE,hB,hL,hLim,hcy,hv⟩
 rw [ui hf0,ui hf1,ui hf5,ui hf6,ui hf13,ui hf14,ui hf15]
 clear hf0 hf1 hf5 hf6 hf13 hf14 hf15
 have hp:2 ^ s≤2147483648:=Nat.pow_le_pow_right (n:=2) (by decide) (show s≤31 by omega)
 by_cases hlt:i < l.length
 · obtain ⟨ad,rfl,hc⟩:=(h.ext hE).at (j:=i) (by omega)
   have hx:=hc i (by omega)
   have bx:=h.lim.getD i
   have hso:=shl_add s cy (l.getD i 0) hs hcy bx
   refine gg ?_
   refine R1_shl_u64 rfl rfl (by omega) ?_
   refine gg ?_
   refine R1_or_u64 rfl rfl (by omega) (Nat.mod_lt _ (by decide)) ?_
   rw [hso.1]
   refine gg ?_
   refine R1_storeI (one_of rfl) (.inl rfl) rfl rfl hB (by rw [cells_size]; omega) ?_
   intro w3 hB3 hC3 hs3
   rw [cells_set] at hB3
   refine gg ?_
   refine ⟨_,?_,i + 1,_,_,rfl,by omega,rfl,rfl,rfl,rfl,rfl,rfl,rfl,hC3.ext_of hE (fun b hb=>by omega),hB3,by simpa using hL,hLim.set (Nat.mod_lt _ (by decide)),hso.2.2,?_⟩
   · omega
   · rw [val_set_succ _ _ _ (by omega),val_take_succ l i (by omega),Nat.pow_succ]
     exact shl_step _ _ _ _ _ _ hv
 · refine gg ?_
   have:i = l.length:=by omega
   subst this
   refine R1_storeI (one_of rfl) (.inl rfl) rfl rfl hB (by rw [cells_size]; omega) ?_
   intro w3 hB3 hC3 hs3
   rw [cells_set] at hB3
   refine gg ?_
   refine ret1 (v:=.slice _ _ _) rfl rfl ⟨_,rfl,hC3.ext_of hE (fun b hb=>by omega),hB3,by simpa using hL,hLim.set (Nat.mod_lt _ (by decide)),?_,?_⟩
   · have e:L.set l.length (cy % 4294967296) = (L.set l.length (cy % 4294967296)).take (l.length + 1):=by rw [List.take_of_length_le]; simp; omega
     rw [e,val_set_succ _ _ _ (by omega),Nat.mod_eq_of_lt (by omega),Nat.mul_comm,hv,val_take_all]
   · have hlt':l.length < L.length:=by omega
     rw [Nat.mod_eq_of_lt (by omega)]
     simpa [List.getD,hlt'] using hcy
end Go.Proofs.YtncbjgblcofddaaGreatDoor
namespace Go.Proofs.YtncbjgblcofddaaGreatDoor
open Go Go.Eng Go.Num Go.Proofs
set_option maxHeartbeats 8000000 in
theorem shiftRight_ok (g n c s:Nat) (L:List Nat) (w:World) (hL:Lb w g L) (hlim:Lim L) (hn:L.length = n) (hl:n < 2199023255552) (hs:s < 32) :
 Meets Tryz.prog 191 #[.slice (some ⟨g,0,none⟩) n c,.int .i64 ((s:Nat):Int)] w fun _ w'=>Ch (fun q=>q = g) w w'∧w'.heap.size = w.heap.size∧Lb w' g (sr s L):=by
 subst hn
 refine fn_W (n:=38) Tryz.func191 rfl rfl (by kernel_rfl) (by simp) ?_
 refine gg ?_
 refine W_loop (fun m f w'=>∃ i L',m = L.length - i∧i≤L.length∧f 0 = .slice (some ⟨g,0,none⟩) L.length c∧f 1 = .int .i64 ((s:Nat):Int)∧f 7 = .int .i64 ((L.length:Nat):Int)∧f 8 = .int .i64 ((i:Nat):Int) ∧
  Ch (fun q=>q = g) w w'∧w'.heap.size = w.heap.size∧Lb w' g L'∧L'.length = L.length∧(∀ j,j < i→L'.getD j 0 = (sr s L).getD j 0)∧(∀ j,i≤j→L'.getD j 0 = L.getD j 0))
  L.length ⟨0,L,rfl,Nat.zero_le _,rfl,rfl,rfl,rfl,Ch.refl _ _,rfl,hL,rfl,fun j hj=>absurd hj (by omega),fun _ _=>rfl⟩ ?_
 rintro m f w1 ⟨i,L',rfl,hi,hf0,hf1,hf7,hf8,hC,hsz,hL',hlen,hdone,hsame⟩
 rw [ui hf0,ui hf1,ui hf7,ui hf8]
 clear hf0 hf1 hf7 hf8
 by_cases hlt:i < L.length
 · have hx:=hL'.at (j:=i) (by omega)
   rw [hsame i (Nat.le_refl i)] at hx
   have bx:=hlim.getD i
   refine gg ?_
   by_cases hi2:i + 1 < L.length
   · have hy:=hL'.at (j:=i + 1) (by omega)
     rw [hsame (i + 1) (by omega)] at hy
     have bY:=hlim.getD (i + 1)
     have hso:=shl_or (L.getD (i + 1) 0) (L.getD i 0) bY bx
     have hg:=sr_get2 s L i hi2
     refine W_seq ?_
     refine gg ?_
     refine R1_or_u64 rfl rfl (by omega) (Nat.mod_lt _ (by decide)) ?_
     rw [Nat.or_comm,show L.getD (i + 1) 0 * 2 ^ (OfNat.ofNat 32) % 18446744073709551616 ||| L.getD i 0 = L.getD (i + 1) 0 * 4294967296 + L.getD i 0 from hso.1]
     refine gg ?_
     refine R1_shr_u64 rfl rfl (by omega) ?_
     refine gg ?_
     obtain ⟨sp,hB⟩:=hL'
     refine R1_storeI (one_of rfl) (.inl rfl) rfl rfl hB (by rw [Array.size_append,cells_size]; omega) ?_
     intro w3 hB3 hC3 hs3
     refine gg ?_
     refine ⟨_,?_,i + 1,_,rfl,by omega,rfl,rfl,rfl,rfl,hC.trans hC3,hs3.trans hsz,Lb.set (by omega) hB3,by simpa using hlen,fun j hj=>?_,fun j hj=>by rw [Num.getD_set_ne (by omega)]; exact hsame j (by omega)⟩
     · omega
     · by_cases e:j = i
       · subst e
         have hjl:j < L'.length:=by omega
         rw [hg,getD_set_self hjl]
       · rw [Num.getD_set_ne (by omega)]; exact hdone j (by omega)
   · have hg:=sr_get1 s L i hlt hi2
     refine W_seq ?_
     refine gg ?_
     refine R1_shr_u64 rfl rfl (by omega) ?_
     refine gg ?_
     obtain ⟨sp,hB⟩:=hL'
     refine R1_storeI (one_of rfl) (.inl rfl) rfl rfl hB (by rw [Array.size_append,cells_size]; omega) ?_
     intro w3 hB3 hC3 hs3
     refine gg ?_
     refine ⟨_,?_,i + 1,_,rfl,by omega,rfl,rfl,rfl,rfl,hC.trans hC3,hs3.trans hsz,Lb.set (by omega) hB3,by simpa using hlen,fun j hj=>?_,fun j hj=>by rw [Num.getD_set_ne (by omega)]; exact hsame j (by omega)⟩
     · omega
     · by_cases e:j = i
       · subst e
         have hjl:j < L'.length:=by omega
         have hsmall:L.getD j 0 / 2 ^ s < 4294967296:=Nat.lt_of_le_of_lt (Nat.div_le_self _ _) bx
         rw [hg,Nat.mod_eq_of_lt hsmall,getD_set_self hjl]
       · rw [Num.getD_set_ne (by omega)]; exact hdone j (by omega)
 · refine gg ?_
   have:i = L.length:=by omega
   subst this
   have e:L' = sr s L:=ext_getD (by rw [sr_len,hlen]) (fun j hj=>hdone j (by omega))
   subst e
   exact ret0 rfl ⟨hC,hsz,hL'⟩
theorem R1_indexTab {P:Program} {n:Nat} {S:World→World→Prop} {k:Nat} {K:Fr→World→Prop} {f:Fr} {w:World} {d ty t:Nat} {x y:Operand} {pos:String} {aft:Array Edge} {gd:Option (Nat × Bool)} {s:ByteArray} {kk:IntKind} {j:Nat}
 (hT:TyD P t .string) (hx:ev n f x = .string s) (hy:ev n f y = .int kk ((j:Nat):Int)) (htab:tabOk s = true) (hj:j < 256) (h:∀ b:Nat,okLen j b = true→b≤8→K (upd f d (.int .u8 ((b:Nat):Int))) w) :
 R1 P n S k ⟨some d,.index t x y,ty,pos,aft,gd⟩ K f w:=by
 obtain ⟨b,hb,h1,h2⟩:=tab_at htab hj
 exact R1_indexStr hT hx hy hb (h _ h1 h2)
set_option maxHeartbeats 8000000 in
theorem len32_ok (x:Nat) (w:World) (hx:x < 4294967296) :
 Meets Tryz.prog 204 #[.int .u32 ((x:Nat):Int)] w fun v w'=>w = w'∧∃ b:Nat,v = .int .i64 ((b:Nat):Int)∧okLen x b = true∧b≤32:=by
 refine fn_W (n:=19) Tryz.func204 rfl rfl (by kernel_rfl) (by simp) ?_
 refine gg ?_
 refine W_seqM (fun f w'=>w = w'∧∃ y k:Nat,f 0 = .int .u32 ((y:Nat):Int)∧f 2 = .int .i64 ((k:Nat):Int)∧(k = 0 ∨ k = 16)∧y < 65536∧y = x / 2 ^ k∧(k = 16→2 ^ k≤x)) ?_ ?_
 · by_cases h:65536≤x
   · refine gg ?_
     refine R1_geq_u32_c rfl ?_
     refine gg ?_
     refine R1_shr_u32_c rfl (by omega) ?_
     refine gg ?_
     exact ⟨rfl,_,16,rfl,rfl,.inr rfl,by omega,rfl,fun _=>by omega⟩
   · refine gg ?_
     refine R1_geq_u32_c rfl ?_
     refine gg ?_
     exact ⟨rfl,x,0,rfl,rfl,.inl rfl,by omega,by simp,fun h=>absurd h (by omega)⟩
 · rintro f w' ⟨rfl,y,k,hf0,hf2,hk,hy,hyx,hkx⟩
   rw [ui hf0,ui hf2]
   refine W_seqM (fun f w'=>w = w'∧∃ y k:Nat,f 0 = .int .u32 ((y:Nat):Int)∧f 2 = .int .i64 ((k:Nat):Int)∧k≤24∧y < 256∧y = x / 2 ^ k∧(k ≠ 0→2 ^ k≤x)) ?_ ?_
   · by_cases h:256≤y
     · refine gg ?_
       refine R1_geq_u32_c rfl ?_
       refine gg ?_
       refine R1_shr_u32_c rfl (by omega) ?_
       refine gg ?_
       refine ⟨rfl,_,k + 8,rfl,rfl,by omega,by omega,?_,fun _=>?_⟩
       · subst hyx; rw [Nat.pow_add,Nat.div_div_eq_div_mul]
       · subst hyx
         have hp:0 < 2 ^ k:=Nat.two_pow_pos k
         have:=(Nat.le_div_iff_mul_le hp).1 h
         rw [Nat.pow_add,Nat.mul_comm]; exact this
     · refine gg ?_
       refine R1_geq_u32_c rfl ?_
       refine gg ?_
       exact ⟨rfl,y,k,rfl,rfl,by omega,by omega,hyx,fun h=>hkx (by omega)⟩
   · clear hf0 hf2 hk hy hyx hkx f y k
     rintro f w' ⟨rfl,y,k,hf0,hf2,hk,hy,hyx,hkx⟩
     rw [ui hf0,ui hf2]
     refine gg ?_
     refine R1_u32_u8 ty_u32 ty_u8 rfl ?_
     rw [Nat.mod_eq_of_lt hy]
     refine gg ?_
     refine R1_indexTab ty_str rfl rfl (by kernel_rfl) hy ?_
     intro b hb hb8
     refine gg ?_
     refine ret1 (v:=.int _ _) rfl rfl ⟨rfl,_,rfl,?_,by omega⟩
     by_cases hk0:k = 0
     · subst hk0
       simp at hyx
       subst hyx
       simpa using hb
     · exact okLen_shift x k b (hkx hk0) (by rw [← hyx]; exact hb)
set_option maxHeartbeats 8000000 in
theorem leadingZeros_ok (x:Nat) (w:World) (hx:x < 4294967296) (h0:0 < x) :
 Meets Tryz.prog 188 #[.int .u32 ((x:Nat):Int)] w fun v w'=>w = w'∧∃ s:Nat,v = .int .i64 ((s:Nat):Int)∧s < 32∧2147483648≤x * 2 ^ s∧x * 2 ^ s < 4294967296:=by
 refine fn_W (n:=6) Tryz.func188 rfl rfl (by kernel_rfl) (by simp) ?_
 refine gg ?_
 refine R1_call2 (len32_ok x w hx) ?_
 rintro v w' ⟨rfl,b,rfl,hb,hb2⟩
 refine gg ?_
 unfold okLen at hb
 rw [if_neg (by omega)] at hb
 simp only [decide_eq_true_eq] at hb
 refine ret1 (v:=.int _ _) rfl rfl ⟨rfl,_,rfl,?_,?_,?_⟩
 · show 32 - b < 32; omega
 · show 2147483648≤x * 2 ^ (32 - b)
   have:2 ^ (b - 1) * 2 ^ (32 - b)≤x * 2 ^ (32 - b):=Nat.mul_le_mul_right _ hb.2.1
   rw [← Nat.pow_add,show b - 1 + (32 - b) = 31 by omega] at this
   exact this
 · show x * 2 ^ (32 - b) < 4294967296
   have:x * 2 ^ (32 - b) < 2 ^ b * 2 ^ (32 - b):=Nat.mul_lt_mul_of_pos_right hb.2.2 (Nat.two_pow_pos _)
   rw [← Nat.pow_add,show b + (32 - b) = 32 by omega] at this
   exact this
end Go.Proofs.YtncbjgblcofddaaGreatDoor
namespace Go.Proofs.YtncbjgblcofddaaGreatDoor
open Go Go.Eng Go.Num Go.Proofs
theorem top_of (R V:List Nat) (o k:Nat) (hR:Lim R) (hV:Lim V) (hn:V.length = k + 2) (ho:o + k + 3≤R.length) (hnorm:2147483648≤V.getD (k + 1) 0) (hlt:val (seg R o (k + 3)) < B * val V) :
 Top (B ^ k) (val (V.take k)) (V.getD k 0) (V.getD (k + 1) 0) (val (seg R o k)) (R.getD (o + k) 0) (R.getD (o + (k + 1)) 0) (R.getD (o + (k + 2)) 0) (val (seg R o (k + 3))) (val V) where
 hV:=by
  rw [← val_take_all V,hn,val_take_succ _ _ (by omega),val_take_succ _ _ (by omega),Nat.pow_succ,Nat.mul_add,Nat.mul_assoc]; omega
 hU:=by
  rw [val_seg_succ _ _ _ (by omega),val_seg_succ _ _ _ (by omega),val_seg_succ _ _ _ (by omega)]
  simp only [Nat.pow_succ,Nat.mul_add,Nat.mul_assoc]; omega
 dpos:=Nat.pow_pos (by decide)
 hvl:=val_take_lt hV k
 hul:=val_seg_lt hR o k
 hv2:=hV.getD k
 hv1:=hV.getD (k + 1)
 hu3:=hR.getD _
 hu2:=hR.getD _
 hu1:=hR.getD _
 norm:=by unfold B; omega
 lt:=hlt
set_option maxHeartbeats 16000000 in
theorem divideStep_ok (g o k n nu cu cv:Nat) (av:Addr) (R V:List Nat) (w:World) (hR:Lb w g R) (hlR:Lim R) (hV:Mag w (some av) V) (hne:av.block ≠ g) (hk:V.length = k + 2) (hn:n = k + 2) (hnu:nu = k + 3) (ho:o + k + 3≤R.length) (hRl:R.length < 2199023255552)
 (hnorm:2147483648≤V.getD (k + 1) 0) (hlt:val (seg R o (k + 3)) < B * val V) :
 Meets Tryz.prog 190 #[.slice (some ⟨g,0 + o * 1,none⟩) nu cu,.slice (some av) n cv] w fun v w'=>∃ q R',v = .int .u32 ((q:Nat):Int)∧q < 4294967296∧Ch (fun b=>b = g) w w'∧w'.heap.size = w.heap.size∧Lb w' g R'∧R'.length = R.length∧Lim R' ∧
  (∀ j,j < o ∨ o + k + 3≤j→R'.getD j 0 = R.getD j 0)∧val (seg R o (k + 3)) = q * val V + val (seg R' o (k + 3))∧val (seg R' o (k + 3)) < val V:=by
 subst hn hnu
 have hT:=top_of R V o k hlR hV.lim hk ho hnorm hlt
 have bu1:=hlR.getD (o + (k + 2))
 have bu2:=hlR.getD (o + (k + 1))
 have bu3:=hlR.getD (o + k)
 have bv1:=hV.lim.getD (k + 1)
 have bv2:=hV.lim.getD k
 have hso:=shl_or _ _ bu1 bu2
 have hst:=hT.start
 have hmod:=Nat.mod_lt (R.getD (o + (k + 2)) 0 * B + R.getD (o + (k + 1)) 0) hT.v1pos
 refine fn_W (n:=171) Tryz.func190 rfl rfl (by kernel_rfl) (by simp) ?_
 refine gg ?_
 refine W_seqD [(0,3),(1,3),(2,3),(3,0),(4,3),(5,3),(6,3),(7,3),(8,3),(9,3),(10,0),(11,3),(12,3),(13,3)] mixed (by kernel_rfl) (fun w1 hE1 hh1=>?_)
 have hR1:=hR.ext hE1
 have hx:=hR1.at (j:=o + (k + 2)) (by omega)
 have hy:=hR1.at (j:=o + (k + 1)) (by omega)
 rw [← idx2] at hx hy
 refine gg ?_
 refine R1_or_u64 rfl rfl (Nat.mod_lt _ (by decide)) (by omega) ?_
 rw [show R.getD (o + (k + 2)) 0 * 2 ^ (OfNat.ofNat 32) % 18446744073709551616 ||| R.getD (o + (k + 1)) 0 = R.getD (o + (k + 2)) 0 * 4294967296 + R.getD (o + (k + 1)) 0 from hso.1]
 refine gg ?_
 refine W_seqD [(0,3),(1,3),(2,3),(3,3),(4,3),(5,0),(6,3),(7,3),(8,3),(9,3),(10,3),(11,3),(12,3),(13,0),(14,3),(15,3),(16,3),(17,3)] mixed (by kernel_rfl) (fun w2 hE2 hh2=>?_)
 have hV2:=hV.ext (hE1.trans hE2)
 obtain ⟨_,e0,hc⟩:=hV2.at (j:=k + 1) (by omega)
 injection e0 with e0
 subst e0
 have hz:=hc (k + 1) (by omega)
 refine gg ?_
 refine R1_quo_u64 rfl rfl hso.2 hT.v1pos ?_
 refine gg ?_
 refine R1_rem_u64 rfl rfl hT.v1pos ?_
 refine gg ?_
 have hw2:Ch (fun b=>b = g) w w2:=(hE1.trans hE2).ch
 have hs2:w2.heap.size = w.heap.size:=by rw [hh2,hh1]
 refine W_seqM (fun f w'=>∃ gs,f 0 = .slice (some ⟨g,0 + o * 1,none⟩) (k + 3) cu∧f 1 = .slice (some av) (k + 2) cv∧f 5 = .int .i64 ((k + 2:Nat):Int)∧f 7 = .int .u64 ((gs:Nat):Int) ∧
  Ch (fun b=>b = g) w w'∧w'.heap.size = w.heap.size∧Lb w' g R∧Mag w' (some av) V∧gs < 4294967296∧val (seg R o (k + 3)) < (gs + 1) * val V∧gs * val V < val (seg R o (k + 3)) + val V) ?_ ?_
 · refine W_block ?_
   refine W_loop (fun m f w'=>∃ r,f 0 = .slice (some ⟨g,0 + o * 1,none⟩) (k + 3) cu∧f 1 = .slice (some av) (k + 2) cv∧f 5 = .int .i64 ((k + 2:Nat):Int)∧f 7 = .int .u64 ((m:Nat):Int)∧f 8 = .int .u64 ((r:Nat):Int) ∧
    Ch (fun b=>b = g) w w'∧w'.heap.size = w.heap.size∧Lb w' g R∧Mag w' (some av) V∧r < 4294967296∧m≤4294967297∧m * V.getD (k + 1) 0 + r = R.getD (o + (k + 2)) 0 * B + R.getD (o + (k + 1)) 0∧val (seg R o (k + 3)) < (m + 1) * val V)
    _ ⟨_,rfl,rfl,rfl,rfl,rfl,hw2,hs2,hR.ext (hE1.trans hE2),hV2,Nat.lt_trans hmod bv1,hst.2.1,hst.2.2,hst.1⟩ ?_
   clear hc hz hV2 hE2 hx hy hR1 hE1 hmod hst hso hw2 hs2
   rintro m f w3 ⟨r,hf0,hf1,hf5,hf7,hf8,hC,hsz,hL,hM,hr,hm,heq,hup⟩
   rw [ui hf0,ui hf1,ui hf5,ui hf7,ui hf8]
   clear hf0 hf1 hf5 hf7 hf8
   refine W_seqM (fun f w'=>f 0 = .slice (some ⟨g,0 + o * 1,none⟩) (k + 3) cu∧f 1 = .slice (some av) (k + 2) cv∧f 5 = .int .i64 ((k + 2:Nat):Int)∧f 7 = .int .u64 ((m:Nat):Int)∧f 8 = .int .u64 ((r:Nat):Int) ∧
    Ch (fun b=>b = g) w w'∧w'.heap.size = w.heap.size∧Lb w' g R∧Mag w' (some av) V∧val (seg R o (k + 3)) < m * val V) ?_ ?_
   · refine W_seqD [(0,3),(1,3),(2,3),(3,3),(4,3),(5,3),(6,3),(7,3),(8,3),(9,0),(10,3),(11,3),(12,3),(13,3),(14,3),(15,3),(16,3),(17,3),(18,0),(19,3),(20,3),(21,3),(22,3)] mixed (by kernel_rfl) (fun w4 hE4 hh4=>?_)
     have hC4:Ch (fun b=>b = g) w w4:=hC.trans hE4.ch
     have hs4:w4.heap.size = w.heap.size:=by rw [hh4,hsz]
     have hL4:=hL.ext hE4
     have hM4:=hM.ext hE4
     by_cases hbig:m / 4294967296 = 0
     · obtain ⟨_,e0,hc⟩:=hM4.at (j:=k) (by omega)
       injection e0 with e0
       subst e0
       have hz:=hc k (by omega)
       have hx:=hL4.at (j:=o + k) (by omega)
       rw [← idx2] at hx
       have hmv:=mul_small m _ (by omega) bv2
       have hso:=shl_or r _ hr bu3
       refine gg ?_
       refine R1_mul_u64 rfl rfl (by omega) ?_
       refine gg ?_
       refine R1_or_u64 rfl rfl (Nat.mod_lt _ (by decide)) (by omega) ?_
       rw [show r * 2 ^ (OfNat.ofNat 32) % 18446744073709551616 ||| R.getD (o + k) 0 = r * 4294967296 + R.getD (o + k) 0 from hso.1]
       by_cases hgt:r * 4294967296 + R.getD (o + k) 0 < m * V.getD k 0
       · refine gg ?_
         exact ⟨rfl,rfl,rfl,rfl,rfl,hC4,hs4,hL4,hM4,hT.second heq hgt⟩
       · refine gg ?_
         exact ⟨m,rfl,rfl,rfl,rfl,hC4,hs4,hL4,hM4,by omega,hup,hT.stop heq (show m < B by unfold B; omega) (show _≤r * 4294967296 + _ by omega)⟩
     · refine gg ?_
       exact ⟨rfl,rfl,rfl,rfl,rfl,hC4,hs4,hL4,hM4,hT.big (show B≤m by unfold B; omega)⟩
   · clear hC hsz hL hM f w3
     rintro f w3 ⟨hf0,hf1,hf5,hf7,hf8,hC,hsz,hL,hM,hup⟩
     rw [ui hf0,ui hf1,ui hf5,ui hf7,ui hf8]
     clear hf0 hf1 hf5 hf7 hf8
     have hm0:0 < m:=by
      rcases Nat.eq_zero_or_pos m with h | h
      · subst h; simp at hup
      · exact h
     obtain ⟨j,rfl⟩ : ∃ j,m = j + 1:=⟨m - 1,by omega⟩
     have heq':j * V.getD (k + 1) 0 + (r + V.getD (k + 1) 0) = R.getD (o + (k + 2)) 0 * B + R.getD (o + (k + 1)) 0:=by rw [← heq,Nat.add_mul]; omega
     obtain ⟨_,e0,hc⟩:=hM.at (j:=k + 1) (by omega)
     injection e0 with e0
     subst e0
     have hz:=hc (k + 1) (by omega)
     by_cases hbrk:(r + V.getD (k + 1) 0) / 4294967296 = 0
     · refine gg ?_
       exact ⟨j,by omega,_,rfl,rfl,rfl,rfl,rfl,hC,hsz,hL,hM,by omega,by omega,heq',hup⟩
     · refine gg ?_
       have hb:=hT.brk heq' (show B≤r + V.getD (k + 1) 0 by unfold B; omega)
       exact ⟨j,rfl,rfl,rfl,rfl,hC,hsz,hL,hM,hb.1,hup,hT.stop heq' hb.1 hb.2⟩
 · clear hc hz hV2 hE2 hx hy hR1 hE1 hmod hst hso hw2 hs2
   rintro f w3 ⟨gs,hf0,hf1,hf5,hf7,hC,hsz,hL,hM,hgs,hup,hlo⟩
   rw [ui hf0,ui hf1,ui hf5,ui hf7]
   clear hf0 hf1 hf5 hf7
   refine gg ?_
   refine W_seqM (fun f w'=>∃ cy br R',f 0 = .slice (some ⟨g,0 + o * 1,none⟩) (k + 3) cu∧f 1 = .slice (some av) (k + 2) cv∧f 5 = .int .i64 ((k + 2:Nat):Int)∧f 7 = .int .u64 ((gs:Nat):Int)∧f 9 = .int .u64 ((cy:Nat):Int)∧f 10 = .int .u64 ((br:Nat):Int) ∧
    Ch (fun b=>b = g) w w'∧w'.heap.size = w.heap.size∧Lb w' g R'∧Mag w' (some av) V∧R'.length = R.length∧Lim R'∧cy < 4294967296∧br≤1 ∧
    val (seg R' o (k + 2)) + gs * val V = val (seg R o (k + 2)) + (cy + br) * B ^ (k + 2)∧(∀ q,q < o ∨ o + (k + 2)≤q→R'.getD q 0 = R.getD q 0)) ?_ ?_
   · refine gg ?_
     refine W_loop (fun m f w'=>∃ i cy br R',m = k + 2 - i∧i≤k + 2∧f 0 = .slice (some ⟨g,0 + o * 1,none⟩) (k + 3) cu∧f 1 = .slice (some av) (k + 2) cv∧f 5 = .int .i64 ((k + 2:Nat):Int)∧f 7 = .int .u64 ((gs:Nat):Int)∧f 9 = .int .u64 ((cy:Nat):Int)∧f 10 = .int .u64 ((br:Nat):Int)∧f 82 = .int .i64 ((k + 2:Nat):Int)∧f 83 = .int .i64 ((i:Nat):Int) ∧
      Ch (fun b=>b = g) w w'∧w'.heap.size = w.heap.size∧Lb w' g R'∧Mag w' (some av) V∧R'.length = R.length∧Lim R'∧cy < 4294967296∧br≤1 ∧
      val (seg R' o i) + gs * val (V.take i) = val (seg R o i) + (cy + br) * B ^ i∧(∀ q,q < o ∨ o + i≤q→R'.getD q 0 = R.getD q 0))
      (k + 2) ⟨0,0,0,R,rfl,Nat.zero_le _,rfl,rfl,rfl,rfl,rfl,rfl,rfl,rfl,hC,hsz,hL,hM,rfl,hlR,by omega,by omega,by simp [seg_zero,val],fun _ _=>rfl⟩ ?_
     clear hC hsz hL hM f w3
     rintro m f w3 ⟨i,cy,br,R',rfl,hi,hf0,hf1,hf5,hf7,hf9,hf10,hf82,hf83,hC,hsz,hL,hM,hlen,hlim,hcy,hbr,hv,hsame⟩
     rw [ui hf0,ui hf1,ui hf5,ui hf7,ui hf9,ui hf10,ui hf82,ui hf83]
     clear hf0 hf1 hf5 hf7 hf9 hf10 hf82 hf83
     by_cases hik:i < k + 2
     · obtain ⟨_,e0,hc⟩:=hM.at (j:=i) (by omega)
       injection e0 with e0
       subst e0
       have hz:=hc i (by omega)
       have hx:=hL.at (j:=o + i) (by omega)
       rw [← idx2,hsame (o + i) (by omega)] at hx
       have bu:=hlR.getD (o + i)
       have bv:=hV.lim.getD i
       have hgv:=mul_small gs _ hgs bv
       have hcl:(cy + gs * V.getD i 0) % 4294967296 < 4294967296:=Nat.mod_lt _ (by decide)
       refine gg ?_
       refine R1_mul_u64 rfl rfl (by omega) ?_
       refine gg ?_
       refine R1_subm_u64 rfl rfl (by omega) ?_
       refine gg ?_
       refine R1_subm_u64 rfl rfl (by omega) ?_
       refine gg ?_
       obtain ⟨sp,hB⟩:=hL
       refine R1_storeI (one_of rfl) (.inl rfl) rfl rfl hB (by rw [Array.size_append,cells_size]; omega) ?_
       intro w5 hB5 hC5 hs5
       rw [idx2] at hB5
       refine gg ?_
       have hs:=msub_limb (R.getD (o + i) 0) _ br bu hcl hbr
       refine ⟨_,?_,i + 1,_,_,_,rfl,by omega,rfl,rfl,rfl,rfl,rfl,rfl,rfl,rfl,hC.trans hC5,hs5.trans hsz,Lb.set (by omega) hB5,hM.ch hC5 (fun ad e=>by injection e with e; subst e; exact hne),by simpa using hlen,hlim.set (Nat.mod_lt _ (by decide)),by omega,hs.2,?_,fun q hq=>by rw [Num.getD_set_ne (by omega)]; exact hsame q (by omega)⟩
       · omega
       · rw [val_seg_succ _ _ _ (by simp; omega),val_seg_succ _ _ _ (by omega),getD_set_self (by omega),val_take_succ _ _ (by omega),Nat.mul_add,Nat.mul_left_comm gs,Nat.pow_succ]
         rw [seg_congr (R:=R'.set (o + i) _) (R':=R') o i (by simp) (fun q _ h2=>Num.getD_set_ne (by omega))]
         exact msub_step _ _ _ _ _ _ _ _ _ _ _ hv hs.1
     · refine gg ?_
       have:i = k + 2:=by omega
       subst this
       rw [← hk,val_take_all,hk] at hv
       exact ⟨cy,br,R',rfl,rfl,rfl,rfl,rfl,rfl,hC,hsz,hL,hM,hlen,hlim,hcy,hbr,hv,hsame⟩
   · clear hC hsz hL hM f w3
     rintro f w3 ⟨cy,br,R',hf0,hf1,hf5,hf7,hf9,hf10,hC,hsz,hL,hM,hlen,hlim,hcy,hbr,hv,hsame⟩
     rw [ui hf0,ui hf1,ui hf5,ui hf7,ui hf9,ui hf10]
     clear hf0 hf1 hf5 hf7 hf9 hf10
     have hx:=hL.at (j:=o + (k + 2)) (by omega)
     rw [← idx2,hsame (o + (k + 2)) (by omega)] at hx
     refine gg ?_
     refine R1_subm_u64 rfl rfl (by omega) ?_
     refine gg ?_
     refine R1_subm_u64 rfl rfl (by omega) ?_
     refine gg ?_
     obtain ⟨sp,hB⟩:=hL
     refine R1_storeI (one_of rfl) (.inl rfl) rfl rfl hB (by rw [Array.size_append,cells_size]; omega) ?_
     intro w5 hB5 hC5 hs5
     rw [idx2] at hB5
     have hM5:=hM.ch hC5 (fun ad e=>by injection e with e; subst e; exact hne)
     have hL5:=Lb.set (L:=R') (by omega) hB5
     have hU:=val_seg_succ R o (k + 2) (by omega)
     have hseg:∀ x,val (seg (R'.set (o + (k + 2)) x) o (k + 3)) = val (seg R' o (k + 2)) + B ^ (k + 2) * x:=fun x=>by
      rw [val_seg_succ _ _ _ (by simp; omega),getD_set_self (by omega),seg_congr (R:=R'.set (o + (k + 2)) x) (R':=R') o (k + 2) (by simp) (fun q _ h2=>Num.getD_set_ne (by omega))]
     generalize hx5:((R.getD (o + (k + 2)) 0 + (18446744073709551616 - cy)) % 18446744073709551616 + (18446744073709551616 - br)) % 18446744073709551616 = t at *
     have hx6:t % 4294967296 + (cy + br) = R.getD (o + (k + 2)) 0∧t / 9223372036854775808 = 0 ∨ R.getD (o + (k + 2)) 0 < cy + br∧t % 4294967296 + (cy + br) = R.getD (o + (k + 2)) 0 + 4294967296∧t / 9223372036854775808 = 1:=by omega
     clear hx5
     have hR5:Lim (R'.set (o + (k + 2)) (t % 4294967296)):=hlim.set (Nat.mod_lt _ (by decide))
     refine gg ?_
     rcases hx6 with ⟨hx6,ht0⟩ | ⟨hneg,hx6,ht0⟩
     · refine W_seq ?_
       refine gg ?_
       have hf:=fin_ok (a:=R.getD (o + (k + 2)) 0) hv hx6 (by rw [← hU]; exact hup)
       refine ret1 (v:=.int _ _) rfl rfl ⟨gs % 4294967296,_,rfl,Nat.mod_lt _ (by decide),hC.trans hC5,hs5.trans hsz,hL5,by simpa using hlen,hR5,fun j hj=>by rw [Num.getD_set_ne (by omega)]; exact hsame j (by omega),?_,?_⟩
       · rw [Nat.mod_eq_of_lt hgs,hseg,hU]; exact hf.2.1
       · rw [hseg]; exact hf.2.2
     · refine W_seq ?_
       refine gg ?_
       have hg0:0 < gs:=by
        rcases Nat.eq_zero_or_pos gs with h | h
        · exfalso
          subst h
          rw [Nat.zero_mul,Nat.add_zero] at hv
          have:=val_seg_lt hlim o (k + 2)
          have h2:1 * B ^ (k + 2)≤(cy + br) * B ^ (k + 2):=Nat.mul_le_mul_right _ (by omega)
          omega
        · exact h
       have hVlt:val V < B ^ (k + 2):=by have:=val_lt V hV.lim; rw [hk] at this; exact this
       refine W_seqM (fun f w'=>∃ cy R6,f 0 = .slice (some ⟨g,0 + o * 1,none⟩) (k + 3) cu∧f 5 = .int .i64 ((k + 2:Nat):Int)∧f 7 = .int .u64 ((gs:Nat):Int)∧f 9 = .int .u64 ((cy:Nat):Int) ∧
        Ch (fun b=>b = g) w w'∧w'.heap.size = w.heap.size∧Lb w' g R6∧R6.length = R.length∧Lim R6∧cy≤1 ∧
        val (seg R6 o (k + 2)) + cy * B ^ (k + 2) = val (seg R' o (k + 2)) + val V∧R6.getD (o + (k + 2)) 0 = t % 4294967296∧(∀ q,q < o ∨ o + (k + 3)≤q→R6.getD q 0 = R.getD q 0)) ?_ ?_
       · refine gg ?_
         refine W_loop (fun m f w'=>∃ i cy R6,m = k + 2 - i∧i≤k + 2∧f 0 = .slice (some ⟨g,0 + o * 1,none⟩) (k + 3) cu∧f 1 = .slice (some av) (k + 2) cv∧f 5 = .int .i64 ((k + 2:Nat):Int)∧f 7 = .int .u64 ((gs:Nat):Int)∧f 9 = .int .u64 ((cy:Nat):Int)∧f 135 = .int .i64 ((k + 2:Nat):Int)∧f 136 = .int .i64 ((i:Nat):Int) ∧
          Ch (fun b=>b = g) w w'∧w'.heap.size = w.heap.size∧Lb w' g R6∧Mag w' (some av) V∧R6.length = R.length∧Lim R6∧cy≤1 ∧
          val (seg R6 o i) + cy * B ^ i = val (seg R' o i) + val (V.take i)∧(∀ q,q < o ∨ o + i≤q→R6.getD q 0 = (R'.set (o + (k + 2)) (t % 4294967296)).getD q 0))
          (k + 2) ⟨0,0,_,rfl,Nat.zero_le _,rfl,rfl,rfl,rfl,rfl,rfl,rfl,hC.trans hC5,hs5.trans hsz,hL5,hM5,by simpa using hlen,hR5,by omega,by simp [seg_zero,val],fun _ _=>rfl⟩ ?_
         clear hB hB5 hL5 hM5 hs5 hC5 w5 hx f
         rintro m f w6 ⟨i,cy',R6,rfl,hi,hf0,hf1,hf5,hf7,hf9,hf135,hf136,hC6,hs6,hL6,hM6,hlen6,hlim6,hcy6,hv6,hsame6⟩
         rw [ui hf0,ui hf1,ui hf5,ui hf7,ui hf9,ui hf135,ui hf136]
         clear hf0 hf1 hf5 hf7 hf9 hf135 hf136
         by_cases hik:i < k + 2
         · refine gg ?_
           refine W_seqD [(0,3),(1,3),(2,3),(3,3),(4,0),(5,3),(6,3),(7,3),(8,3),(9,0),(10,3),(11,3),(12,3),(13,3)] mixed (by kernel_rfl) (fun w7 hE7 hh7=>?_)
           have hM7:=hM6.ext hE7
           obtain ⟨_,e0,hc⟩:=hM7.at (j:=i) (by omega)
           injection e0 with e0
           subst e0
           have hz:=hc i (by omega)
           have hL7:=hL6.ext hE7
           have hx:=hL7.at (j:=o + i) (by omega)
           have hRi:R6.getD (o + i) 0 = R'.getD (o + i) 0:=by rw [hsame6 (o + i) (by omega),Num.getD_set_ne (by omega)]
           rw [← idx2,hRi] at hx
           have bu:=hlim.getD (o + i)
           have bv:=hV.lim.getD i
           refine gg ?_
           obtain ⟨sp7,hB7⟩:=hL7
           refine R1_storeI (one_of rfl) (.inl rfl) rfl rfl hB7 (by rw [Array.size_append,cells_size]; omega) ?_
           intro w8 hB8 hC8 hs8
           rw [idx2] at hB8
           refine gg ?_
           refine ⟨_,?_,i + 1,_,_,rfl,by omega,rfl,rfl,rfl,rfl,rfl,rfl,rfl,(hC6.trans hE7.ch).trans hC8,by rw [hs8,hh7,hs6],Lb.set (by omega) hB8,hM7.ch hC8 (fun ad e=>by injection e with e; subst e; exact hne),by simpa using hlen6,hlim6.set (Nat.mod_lt _ (by decide)),by omega,?_,fun q hq=>by rw [Num.getD_set_ne (by omega)]; exact hsame6 q (by omega)⟩
           · omega
           · rw [val_seg_succ _ _ _ (by simp; omega),val_seg_succ _ _ _ (by omega),getD_set_self (by omega),val_take_succ _ _ (by omega),Nat.pow_succ]
             rw [seg_congr (R:=R6.set (o + i) _) (R':=R6) o i (by simp) (fun q _ h2=>Num.getD_set_ne (by omega))]
             exact (add_step _ _ _ _ _ _ hv6).trans (by omega)
         · refine gg ?_
           have:i = k + 2:=by omega
           subst this
           rw [← hk,val_take_all,hk] at hv6
           exact ⟨cy',R6,rfl,rfl,rfl,rfl,hC6,hs6,hL6,hlen6,hlim6,hcy6,hv6,by rw [hsame6 _ (by omega),getD_set_self (by omega)],fun q hq=>by rw [hsame6 q (by omega),Num.getD_set_ne (by omega)]; exact hsame q (by omega)⟩
       · clear hB hB5 hL5 hM5 hs5 hC5 w5 hx f
         rintro f w6 ⟨cy',R6,hf0,hf5,hf7,hf9,hC6,hs6,hL6,hlen6,hlim6,hcy6,hv6,htop,hsame6⟩
         rw [ui hf0,ui hf5,ui hf7,ui hf9]
         clear hf0 hf5 hf7 hf9
         have hx:=hL6.at (j:=o + (k + 2)) (by omega)
         rw [← idx2,htop] at hx
         refine gg ?_
         refine R1_addm_u32 rfl rfl ?_
         refine gg ?_
         obtain ⟨sp6,hB6⟩:=hL6
         refine R1_storeI (one_of rfl) (.inl rfl) rfl rfl hB6 (by rw [Array.size_append,cells_size]; omega) ?_
         intro w8 hB8 hC8 hs8
         rw [idx2] at hB8
         refine gg ?_
         have hseg6:∀ x,val (seg (R6.set (o + (k + 2)) x) o (k + 3)) = val (seg R6 o (k + 2)) + B ^ (k + 2) * x:=fun x=>by
          rw [val_seg_succ _ _ _ (by simp; omega),getD_set_self (by omega),seg_congr (R:=R6.set (o + (k + 2)) x) (R':=R6) o (k + 2) (by simp) (fun q _ h2=>Num.getD_set_ne (by omega))]
         have hlimF:Lim (R6.set (o + (k + 2)) ((t % 4294967296 + cy' % 4294967296) % 4294967296)):=hlim6.set (Nat.mod_lt _ (by decide))
         have hSlt:=val_seg_lt hlimF o (k + 3)
         have hdlt:=val_seg_lt hR5 o (k + 3)
         rw [hseg6,Nat.pow_succ] at hSlt
         rw [hseg,Nat.pow_succ] at hdlt
         have hf:=fin_back (a:=R.getD (o + (k + 2)) 0) (x:=t % 4294967296) hg0 hv hx6 (by rw [← hU]; exact hlo) hSlt hdlt hVlt ⟨(t % 4294967296 + cy') / 4294967296,by
          have e:=add_step1 (B ^ (k + 2)) (val (seg R6 o (k + 2))) cy' _ (t % 4294967296) hv6
          rw [Nat.mod_eq_of_lt (show cy' < 4294967296 by omega),Nat.add_comm (t % 4294967296) cy']
          exact e.trans (by omega)⟩
         refine ret1 (v:=.int _ _) rfl rfl ⟨(gs - 1) % 4294967296,_,rfl,Nat.mod_lt _ (by decide),hC6.trans hC8,hs8.trans hs6,Lb.set (by omega) hB8,by simpa using hlen6,hlimF,fun j hj=>by rw [Num.getD_set_ne (by omega)]; exact hsame6 j (by omega),?_,?_⟩
         · rw [Nat.mod_eq_of_lt (show gs - 1 < 4294967296 by omega),hseg6,hU]; exact hf.1
         · rw [hseg6]; exact hf.2
end Go.Proofs.YtncbjgblcofddaaGreatDoor
namespace Go.Proofs.YtncbjgblcofddaaGreatDoor
open Go Go.Eng Go.Num Go.Proofs
theorem natV_nil (w:World):NatV w (.slice none 0 0) 0:=⟨none,[],0,rfl,Nat.le_refl _,by omega,Mag.nil _ _,Trimd.nil,rfl⟩
theorem trimd_last {l:List Nat} (h:Trimd l) (hl:0 < l.length):0 < l.getD (l.length - 1) 0:=by
 have hne:l ≠ []:=by rintro rfl; simp at hl
 have:=h hne
 rw [List.getLast_eq_getElem] at this
 have hlt:l.length - 1 < l.length:=by omega
 have e:l.getD (l.length - 1) 0 = l[l.length - 1]:=by simp [List.getD,hlt]
 rw [e]; omega
theorem NatV.ext {w w':World} {v:Value} {m:Nat} (h:NatV w v m) (hE:Ext w w'):NatV w' v m:=by
 obtain ⟨A,l,c,e,h1,h2,h3,h4,h5⟩:=h
 exact ⟨A,l,c,e,h1,h2,h3.ext hE,h4,h5⟩
theorem natV_clone {w:World} {v:Value} {l:List Nat} {n base:Nat} (hl:Lim l) (ht:Trimd l) (hn:l.length = n) (h:(v = .slice none 0 0∧l = []) ∨ ∃ g c',v = .slice (some ⟨g,0,none⟩) n c'∧base≤g∧n≤c'∧c'≤9223372036854775807∧Lb w g l):NatV w v (val l):=by
 rcases h with ⟨rfl,rfl⟩ | ⟨g,c',rfl,hg,h1,h2,h3⟩
 · exact natV_nil w
 · exact ⟨_,l,c',by rw [hn],by omega,by omega,h3.mag hl,ht,rfl⟩
set_option maxHeartbeats 16000000 in
theorem divNat_ok (A1 A2:Option Addr) (n1 n2 c1 c2:Nat) (l1 l2:List Nat) (w:World) (h1:Mag w A1 l1) (h2:Mag w A2 l2) (hn1:l1.length = n1) (hn2:l2.length = n2) (hl1:n1 < 1099511627776) (hl2:n2 < 1099511627776) (t1:Trimd l1) (t2:Trimd l2) (hpos:0 < val l2) :
 Meets Tryz.prog 154 #[.slice A1 n1 c1,.slice A2 n2 c2] w fun v w'=>∃ q r,v = .tuple #[q,r]∧Ext w w'∧NatV w' q (val l1 / val l2)∧NatV w' r (val l1 % val l2):=by
 subst hn1 hn2
 refine fn_W (n:=104) Tryz.func154 rfl rfl (by kernel_rfl) (by simp) ?_
 have h20:0 < l2.length:=by
  rcases Nat.eq_zero_or_pos l2.length with h | h
  · rw [List.eq_nil_of_length_eq_zero h] at hpos; simp [val] at hpos
  · exact h
 refine gg ?_
 refine R1_call2 (compareNat_ok _ _ _ _ _ _ _ _ w h1 h2 rfl rfl hl1 hl2 t1 t2) ?_
 rintro _ w1 ⟨hE1,rfl⟩
 by_cases hlt:val l1 < val l2
 · have ec:cmpZ (val l1) (val l2) = -1:=by rw [cmpZ,if_pos hlt]
   rw [ec]
   refine gg ?_
   refine R1_call2 (clone_ok _ _ _ _ w1 (h1.ext hE1) rfl hl1 h1.none_len) ?_
   rintro v w2 ⟨hE2,hv⟩
   refine gg ?_
   refine ret2 (v:=.slice _ _ _) (v':=v) rfl rfl rfl ⟨_,_,rfl,hE1.trans hE2,?_,?_⟩
   · rw [Nat.div_eq_of_lt hlt]; exact natV_nil _
   · rw [Nat.mod_eq_of_lt hlt]; exact natV_clone h1.lim t1 rfl hv
 have ec:¬ cmpZ (val l1) (val l2) < 0:=by rw [cmpZ,if_neg hlt]; split <;> omega
 generalize cmpZ (val l1) (val l2) = cz at *
 have hlen:l2.length≤l1.length:=by
  rcases Nat.lt_or_ge l1.length l2.length with h | h
  · exact absurd (val_lt_len h1.lim t2 h) hlt
  · exact h
 by_cases hs2:l1.length≤2
 · refine gg ?_
   refine R1_call2 (word_ok _ _ _ _ w1 (h1.ext hE1) rfl (by omega)) ?_
   rintro _ _ ⟨rfl,rfl⟩
   refine gg ?_
   refine R1_call2 (word_ok _ _ _ _ w1 (h2.ext hE1) rfl (by omega)) ?_
   rintro _ _ ⟨rfl,rfl⟩
   refine gg ?_
   have b1:val l1 < 18446744073709551616:=by
    have:=val_lt l1 h1.lim
    exact Nat.lt_of_lt_of_le this (Nat.le_trans (Nat.pow_le_pow_right (by decide) hs2) (by decide))
   refine W_seqD [(0,3),(1,3),(2,3),(4,3),(5,3),(6,3),(3,1),(7,1),(8,3),(9,3)] mixed (by kernel_rfl) (fun w2 hE2 _=>?_)
   refine gg ?_
   refine R1_quo_u64 rfl rfl b1 hpos ?_
   refine gg ?_
   refine R1_rem_u64 rfl rfl hpos ?_
   refine gg ?_
   refine R1_call1 (fromWord_ok _ w2 (Nat.lt_of_le_of_lt (Nat.div_le_self _ _) b1)) ?_
   rintro vq w3 ⟨hE3,hq⟩
   refine ⟨hE3,?_⟩
   refine gg ?_
   refine R1_call1 (fromWord_ok _ w3 (Nat.lt_of_le_of_lt (Nat.mod_le _ _) b1)) ?_
   rintro vr w4 ⟨hE4,hr⟩
   refine ⟨hE4,?_⟩
   refine gg ?_
   exact ret2 (v:=vq) (v':=vr) rfl rfl rfl ⟨_,_,rfl,((hE1.trans hE2).trans hE3).trans hE4,hq.ext hE4,hr⟩
 by_cases hs1:l2.length = 1
 · refine gg ?_
   refine R1_call2 (clone_ok _ _ _ _ w1 (h1.ext hE1) rfl hl1 h1.none_len) ?_
   rintro v w2 ⟨hE2,hv⟩
   rcases hv with ⟨_,rfl⟩ | ⟨g,c',rfl,hg,hc1,hc2,hL⟩
   · simp at hs2
   refine gg ?_
   obtain ⟨ad,rfl,hc⟩:=(h2.ext (hE1.trans hE2)).at (j:=0) (by omega)
   have hx:=hc 0 (by omega)
   have bx:=h2.lim.getD 0
   have hvx:val l2 = l2.getD 0 0:=by
    match l2,hs1 with
    | [x],_=>simp [val]
   refine R1_index sl_u32 (j:=0) rfl rfl (by omega) ?_
   refine gg ?_
   refine R1_call2 (divideByLimb_ok _ _ _ _ _ w2 hL h1.lim rfl hl1 (by omega) bx) ?_
   rintro _ w3 ⟨r,L',rfl,hC3,hs3,hL3,hlen3,hlim3,hv3,hr3⟩
   have hE3:Ext w w3:=hC3.ext_of (hE1.trans hE2) (fun b hb=>by have:=hE1.size; omega)
   refine gg ?_
   refine R1_call2 (trim_ok _ _ _ _ w3 (hL3.mag hlim3) hlen3 hc1 (by omega)) ?_
   rintro v w4 ⟨rfl,m,hm4,rfl,htr,hval⟩
   refine gg ?_
   refine R1_call2 (fromWord_ok _ w3 (by omega)) ?_
   rintro vr w5 ⟨hE5,hr⟩
   refine gg ?_
   rw [← hvx] at hv3 hr3
   have hu:=div_uniq hv3 hr3
   refine ret2 (v:=.slice _ _ _) (v':=vr) rfl rfl rfl ⟨_,_,rfl,hE3.trans hE5,?_,?_⟩
   · rw [← hu.1]; exact (natV_trim (hL3.mag hlim3) hm4 (by omega) (by omega) htr hval rfl).ext hE5
   · rw [← hu.2]; exact hr
 · obtain ⟨k,hk⟩ : ∃ k,l2.length = k + 2:=⟨l2.length - 2,by omega⟩
   have hlast:=trimd_last t2 h20
   have bl:=h2.lim.getD (l2.length - 1)
   refine gg ?_
   obtain ⟨ad,rfl,hc⟩:=(h2.ext hE1).at (j:=l2.length - 1) (by omega)
   have hx:=hc (l2.length - 1) (by omega)
   refine gg ?_
   refine R1_call2 (leadingZeros_ok _ w1 bl hlast) ?_
   rintro _ _ ⟨rfl,s,rfl,hs,hs31,hs32⟩
   refine gg ?_
   refine R1_call2 (shiftLeft_ok _ _ _ _ _ w1 (h2.ext hE1) rfl hl2 hs) ?_
   rintro _ w2 ⟨LD,rfl,hE2,hBD,hlD,hlimD,hvD,_⟩
   refine gg ?_
   refine R1_call2 (shiftLeft_ok _ _ _ _ _ w2 (h1.ext (hE1.trans hE2)) rfl hl1 hs) ?_
   rintro _ w3 ⟨R0,rfl,hE3,hBR,hlR,hlimR,hvR,htopR⟩
   refine gg ?_
   refine R1_make sl_u32 (.inl rfl) rfl rfl (Nat.le_refl _) (by omega) (by omega) ?_
   intro w4 hBQ hE4 hs4
   rw [cells_made] at hBQ
   have z2:=hE2.size
   have z3:=hE3.size
   have y2:w1.heap.size < w2.heap.size:=hBD.lt
   have y3:w2.heap.size < w3.heap.size:=hBR.lt
   have y1:=hE1.size
   rw [show l2.length - 1 = k + 1 by omega] at hs31 hs32
   have hsh:=shifted_top l2 k s h2.lim hk hs hs31 hs32
   have hVt:=take_of_lt (l:=LD) (k:=k + 2) (by omega) (by rw [hvD]; exact hsh.1)
   have hVlen:(LD.take (k + 2)).length = k + 2:=by rw [List.length_take]; omega
   have hVlim:=hlimD.take (k + 2)
   have hVval:val (LD.take (k + 2)) = val l2 * 2 ^ s:=hVt.1.trans hvD
   have hnorm:2147483648≤(LD.take (k + 2)).getD (k + 1) 0:=top_ge hVlim hVlen (by rw [hVval]; exact hsh.2)
   have hmagD:Mag w4 (some ⟨w1.heap.size,0,none⟩) (LD.take (k + 2)):=((mag_of_blk hBD hlimD).take (k + 2)).ext (hE3.trans hE4)
   clear hVt hsh hBD hlimD hvD
   generalize LD.take (k + 2) = V at *
   have hstart:val (R0.drop (l1.length - l2.length + 1)) < val V:=by
    refine first_rem R0 V _ k hlimR (by omega) hVlen ?_
    rw [show l1.length - l2.length + 1 + (k + 1) = l1.length by omega]
    have:2 ^ s≤2147483648:=Nat.pow_le_pow_right (n:=2) (by decide) (show s≤31 by omega)
    omega
   have hEA:Ext w w4:=((hE1.trans hE2).trans hE3).trans hE4
   have hLR:Lb w4 w2.heap.size R0:=(Lb.of hBR).ext hE4
   refine gg ?_
   refine W_seqM (fun f w'=>∃ R Q,f 4 = .slice (some ⟨w3.heap.size,0,none⟩) (l1.length - l2.length + 1) (l1.length - l2.length + 1)∧f 9 = .int .i64 ((s:Nat):Int)∧f 11 = .slice (some ⟨w2.heap.size,0,none⟩) (l1.length + 1) (l1.length + 1) ∧
    Ext w w'∧Lb w' w2.heap.size R∧R.length = l1.length + 1∧Lim R∧Blk w' w3.heap.size 107 (cells Q)∧Q.length = l1.length - l2.length + 1∧Lim Q∧val R < val V∧val R0 = val Q * val V + val R) ?_ ?_
   · refine gg ?_
     refine W_loop (fun m f w'=>∃ R Q,m≤l1.length - l2.length + 1∧f 1 = .slice (some ad) l2.length c2∧f 4 = .slice (some ⟨w3.heap.size,0,none⟩) (l1.length - l2.length + 1) (l1.length - l2.length + 1)∧f 9 = .int .i64 ((s:Nat):Int)∧f 10 = .slice (some ⟨w1.heap.size,0,none⟩) l2.length (l2.length + 1)∧f 11 = .slice (some ⟨w2.heap.size,0,none⟩) (l1.length + 1) (l1.length + 1)∧f 12 = .int .i64 ((m:Int) - 1) ∧
      Ext w w'∧Mag w' (some ⟨w1.heap.size,0,none⟩) V∧Lb w' w2.heap.size R∧R.length = l1.length + 1∧Lim R∧Blk w' w3.heap.size 107 (cells Q)∧Q.length = l1.length - l2.length + 1∧Lim Q∧val (R.drop m) < val V∧val R0 = val (Q.drop m) * (B ^ m * val V) + val R)
      (l1.length - l2.length + 1) ⟨R0,_,Nat.le_refl _,rfl,rfl,rfl,rfl,rfl,?_,hEA,hmagD,hLR,hlR,hlimR,hBQ,by simp,lim_replicate _,hstart,by simp [val]⟩ ?_
     · show Value.int .i64 _ = _
       congr 1; omega
     clear hx hc hBQ hLR hEA hmagD hs4 hE4 hBR hlR hlimR hvR htopR hstart
     rintro m f w5 ⟨R,Q,hm,hf1,hf4,hf9,hf10,hf11,hf12,hE,hM,hL,hlR,hlimR,hBQ,hlQ,hlimQ,hrem,hval⟩
     rw [ui hf1,ui hf4,ui hf9,ui hf10,ui hf11]
     clear hf1 hf4 hf9 hf10 hf11
     rcases m with _ | j
     · rw [ui hf12]
       refine W_seq ?_
       refine gg ?_
       refine ⟨R,Q,rfl,rfl,rfl,hE,hL,hlR,hlimR,hBQ,hlQ,hlimQ,by simpa using hrem,by simpa using hval⟩
     · have e12:(((j + 1:Nat):Int) - 1) = (j:Int):=by omega
       rw [e12] at hf12
       rw [ui hf12]
       clear hf12
       refine W_seq ?_
       refine gg ?_
       refine R1_sliceLHB sl_u32 rfl rfl rfl (by omega) (by omega) (by omega) ?_
       refine gg ?_
       refine R1_call2 (divideStep_ok w2.heap.size j k _ _ _ _ _ R V w5 hL hlimR hM ?_ hVlen hk ?_ (by omega) (by omega) hnorm ?_) ?_
       · show w1.heap.size ≠ w2.heap.size; omega
       · omega
       · have hdrop:val (R.drop j) = R.getD j 0 + B * val (R.drop (j + 1)):=by rw [drop_cons R j (by omega),val]
         have h1:B * val (R.drop (j + 1)) + B≤B * val V:=by rw [← Nat.mul_succ]; exact Nat.mul_le_mul_left _ hrem
         have hb:R.getD j 0 < B:=hlimR.getD j
         have h3:val (seg R j (k + 3))≤val (R.drop j):=by
          have:=val_split (R.drop j) (k + 3) (by rw [List.length_drop]; omega)
          unfold seg; omega
         omega
       rintro _ w6 ⟨q,R',rfl,hq,hC6,hs6,hL6,hlR6,hlimR6,hsame6,hdiv6,hrem6⟩
       refine gg ?_
       have hBQ6:Blk w6 w3.heap.size 107 (cells Q):=hBQ.ch hC6 (show ¬ w3.heap.size = w2.heap.size by omega)
       refine R1_storeI (one_of rfl) (.inl rfl) rfl rfl hBQ6 (by rw [cells_size]; omega) ?_
       intro w7 hB7 hC7 hs7
       rw [cells_set] at hB7
       refine gg ?_
       have hst:=ld_step hlimR (by omega) hlR6 hVlen hVlim (by omega) hrem hval hsame6 hdiv6 hrem6
       have hE7:Ext w w7:=Ch.ext_of (hC6.ext_of hE (fun b hb=>by omega)) hC7 (fun b hb=>by omega)
       obtain ⟨sp,hBL⟩:=hL6
       refine ⟨j,by omega,R',Q.set j q,by omega,rfl,rfl,rfl,rfl,rfl,rfl,hE7,?_,⟨sp,hBL.ch hC7 (show ¬ w2.heap.size = w3.heap.size by omega)⟩,by omega,hlimR6,hB7,by simpa using hlQ,hlimQ.set hq,hst.1,hst.2⟩
       refine (hM.ch hC6 ?_).ch hC7 ?_
       · intro a e; injection e with e; subst e; show ¬ w1.heap.size = w2.heap.size; omega
       · intro a e; injection e with e; subst e; show ¬ w1.heap.size = w3.heap.size; omega
   · clear hx hc hBQ hLR hEA hmagD hs4 hE4 hBR hlR hlimR htopR hstart
     rintro f w5 ⟨R,Q,hf4,hf9,hf11,hE,hL,hlR,hlimR,hBQ,hlQ,hlimQ,hrem,hval⟩
     rw [ui hf4,ui hf9,ui hf11]
     clear hf4 hf9 hf11
     refine gg ?_
     refine R1_call2 (shiftRight_ok w2.heap.size _ _ _ R w5 hL hlimR hlR (by omega) hs) ?_
     rintro _ w6 ⟨hC6,hs6,hL6⟩
     have hE6:Ext w w6:=hC6.ext_of hE (fun b hb=>by omega)
     have hBQ6:Blk w6 w3.heap.size 107 (cells Q):=hBQ.ch hC6 (show ¬ w3.heap.size = w2.heap.size by omega)
     refine gg ?_
     refine R1_call2 (trim_ok _ _ _ _ w6 (mag_of_blk hBQ6 hlimQ) hlQ (Nat.le_refl _) (by omega)) ?_
     rintro _ _ ⟨rfl,m,hm,rfl,htr,htv⟩
     refine gg ?_
     refine R1_call2 (trim_ok _ _ _ _ w6 (hL6.mag (sr_lim s R hlimR)) (by rw [sr_len]; exact hlR) (Nat.le_refl _) (by omega)) ?_
     rintro _ _ ⟨rfl,m',hm',rfl,htr',htv'⟩
     refine gg ?_
     rw [hvR,hVval] at hval
     rw [hVval] at hrem
     have hld:=long_div hval hrem
     refine ret2 (v:=.slice _ _ _) (v':=.slice _ _ _) rfl rfl rfl ⟨_,_,rfl,hE6,?_,?_⟩
     · rw [← hld.1]; exact natV_trim (mag_of_blk hBQ6 hlimQ) hm (by omega) (by omega) htr htv rfl
     · rw [← hld.2,← sr_val s hs R hlimR]; exact natV_trim (hL6.mag (sr_lim s R hlimR)) hm' (by rw [sr_len]; omega) (by omega) htr' htv' rfl
end Go.Proofs.YtncbjgblcofddaaGreatDoor
