/- Joined: Rnk. -/
import Derived.Test.YtncbjgblcofddaaGreatDoorQv
/- The rank,in plain Lean: a minor that is not 0,and a product with so many columns between. -/
namespace Go.Det
theorem colrel {m k:Nat} {Q:Mt} {j:Nat} (hd:det k Q ≠ 0) (h:∀ i,k≤i→i < m→bm k Q i j = 0):∃ y:Nat→Int,∀ i,i < m→det k Q * Q i j = sm k fun t=>Q i t * y t:=by
 have hd':det k (tr Q) ≠ 0:=by rw [det_tr]; exact hd
 obtain ⟨x,hx⟩:=solve k (tr Q) (tr Q j)
 have hb:=border hd' hx
 refine ⟨fun t=>- x t,fun i hi=>?_⟩
 have e:det k (tr Q) * tr Q j i + (sm k fun r=>x r * tr Q r i) = 0:=by
  by_cases hk:i < k
  · exact hx i hk
  · rw [← hb i,bm_tr]; exact h i (by omega) hi
 rw [det_tr] at e
 have e2:(sm k fun t=>Q i t * - x t) = - sm k fun r=>x r * tr Q r i:=by
  rw [show - (sm k fun r=>x r * tr Q r i) = (-1) * sm k fun r=>x r * tr Q r i by omega,← sm_mul]
  exact sm_congr fun t _=>by simp only [tr]; grind
 rw [e2]
 have e3:tr Q j i = Q i j:=rfl
 rw [e3] at e
 omega
def Low (m n:Nat) (A:Mt) (r:Nat):Prop:=∃ d:Int,d ≠ 0∧∃ U V:Mt,∀ i j,i < m→j < n→d * A i j = sm r fun t=>U i t * V t j
def Hi (m n:Nat) (A:Mt) (r:Nat):Prop:=∃ I J:Nat→Nat,(∀ t,t < r→I t < m∧J t < n)∧det r (fun a b=>A (I a) (J b)) ≠ 0
def Rk (m n:Nat) (A:Mt) (r:Nat):Prop:=Hi m n A r∧Low m n A r
theorem sm_pad {r s:Nat} {f:Nat→Int} (h:r≤s):(sm s fun t=>if t < r then f t else 0) = sm r f:=by
 induction s with
 | zero=>have:r = 0:=by omega
         subst this; rfl
 | succ s ih =>
  by_cases e:r = s + 1
  · subst e; exact sm_congr fun t ht=>if_pos ht
  · simp only [sm]
    rw [ih (by omega),if_neg (by omega)]; omega
theorem det_smul:∀ (n:Nat) (A:Mt) (d:Int),det n (fun i j=>d * A i j) = d ^ n * det n A
 | 0,_,_=>by simp [det]
 | n + 1,A,d=>by
  simp only [det]
  rw [← sm_mul]
  refine sm_congr fun j _=>?_
  have:minor (fun i j=>d * A i j) 0 j = fun i c=>d * minor A 0 j i c:=rfl
  rw [this,det_smul n]
  rw [Int.pow_succ]; grind
theorem Low.le {m n r s:Nat} {A:Mt} (h:Low m n A r) (hs:Hi m n A s):s≤r:=by
 obtain ⟨d,hd,U,V,h⟩:=h
 obtain ⟨I,J,hl,hn⟩:=hs
 by_cases e:s≤r
 · exact e
 exfalso
 apply hn
 have e1:det s (fun a b=>d * A (I a) (J b)) = det s (mul s (fun a t=>if t < r then U (I a) t else 0) (fun t b=>V t (J b))):=by
  refine det_congr fun a b ha hb=>?_
  rw [h (I a) (J b) (hl a ha).1 (hl b hb).2]
  simp only [mul]
  rw [← sm_pad (s:=s) (by omega)]
  exact sm_congr fun t _=>by split <;> simp
 have e2:det s (fun a t=>if t < r then U (I a) t else 0) = 0:=by
  rw [← det_tr]
  have:=(ma_det s).zero (tr fun a t=>if t < r then U (I a) t else 0) (s - 1) (fun _=>0) (by omega) (fun _ _=>rfl)
  refine Eq.trans (det_congr fun i j hi hj=>?_) this
  simp only [setR,tr]
  by_cases hx:i = s - 1
  · rw [if_pos hx,if_neg (by omega)]
  · rw [if_neg hx]
 rw [det_mul,e2,Int.zero_mul,det_smul s (fun a b=>A (I a) (J b)) d] at e1
 rcases Int.mul_eq_zero.1 e1 with h | h
 · exact absurd h (Int.pow_ne_zero hd)
 · exact h
theorem Rk.unique {m n r s:Nat} {A:Mt} (h:Rk m n A r) (h':Rk m n A s):r = s:=Nat.le_antisymm (h'.2.le h.1) (h.2.le h'.1)
theorem Hi.tr {m n r:Nat} {A:Mt} (h:Hi m n A r):Hi n m (tr A) r:=by
 obtain ⟨I,J,hl,hn⟩:=h
 refine ⟨J,I,fun t ht=>⟨(hl t ht).2,(hl t ht).1⟩,?_⟩
 rw [← det_tr] at hn
 exact hn
theorem Low.tr {m n r:Nat} {A:Mt} (h:Low m n A r):Low n m (tr A) r:=by
 obtain ⟨d,hd,U,V,h⟩:=h
 refine ⟨d,hd,fun j t=>V t j,fun t i=>U i t,fun j i hj hi=>?_⟩
 rw [show Go.Det.tr A j i = A i j from rfl,h i j hi hj]
 exact sm_congr fun t _=>Int.mul_comm _ _
theorem Rk.tr {m n r:Nat} {A:Mt} (h:Rk m n A r):Rk n m (tr A) r:=⟨h.1.tr,h.2.tr⟩
theorem Low.mul {m n q r:Nat} {A C:Mt} (h:Low m n A r):Low m q (Go.Det.mul n A C) r:=by
 obtain ⟨d,hd,U,V,h⟩:=h
 refine ⟨d,hd,U,Go.Det.mul n V C,fun i j hi hj=>?_⟩
 show d * Go.Det.mul n A C i j = Go.Det.mul r U (Go.Det.mul n V C) i j
 rw [← mul_assoc]
 simp only [Go.Det.mul]
 rw [← sm_mul]
 exact sm_congr fun t ht=>by rw [← Int.mul_assoc,h i t hi ht]
theorem Low.cols (m n:Nat) (A:Mt):Low m n A n:=⟨1,by decide,A,one,fun i j _ hj=>by
 rw [Int.one_mul]; exact (mul_one n A i j hj).symm⟩
theorem low_of {m n r:Nat} {A U:Mt}:(∀ j,j < n→∃ d:Int,d ≠ 0∧∃ y:Nat→Int,∀ i,i < m→d * A i j = sm r fun t=>U i t * y t)→Low m n A r:=by
 intro h
 suffices H:∀ q,q≤n→∃ d:Int,d ≠ 0∧∃ V:Mt,∀ i j,i < m→j < q→d * A i j = sm r fun t=>U i t * V t j by
  obtain ⟨d,hd,V,hV⟩:=H n (Nat.le_refl _)
  exact ⟨d,hd,U,V,hV⟩
 intro q
 induction q with
 | zero=>exact fun _=>⟨1,by decide,fun _ _=>0,fun i j _ hj=>by omega⟩
 | succ q ih =>
  intro hq
  obtain ⟨d,hd,V,hV⟩:=ih (by omega)
  obtain ⟨e,he,y,hy⟩:=h q (by omega)
  refine ⟨d * e,Int.mul_ne_zero hd he,fun t j=>if j = q then d * y t else e * V t j,fun i j hi hj=>?_⟩
  by_cases hjq:j = q
  · subst hjq
    rw [Int.mul_assoc,hy i hi,← sm_mul]
    exact sm_congr fun t _=>by simp only [if_true]; grind
  · rw [show d * e * A i j = e * (d * A i j) by grind,hV i j hi (by omega),← sm_mul]
    exact sm_congr fun t _=>by simp only [if_neg hjq]; grind
def selC (P:Mt) (cs:Nat→Nat) (k j:Nat):Mt:=fun r t=>P r (if t < k then cs t else if t = k then j else t - (k + 1))
def bmC (k:Nat) (P:Mt) (cs:Nat→Nat) (i j:Nat):Int:=det (k + 1) fun r t=>P (if r < k then r else i) (if t < k then cs t else j)
def dtC (k:Nat) (P:Mt) (cs:Nat→Nat):Int:=det k fun r t=>P r (cs t)
theorem selC_det (k j:Nat) (P:Mt) (cs:Nat→Nat):det k (selC P cs k j) = dtC k P cs:=det_congr fun r t _ ht=>by simp only [selC]; rw [if_pos ht]
theorem selC_bm (k j i:Nat) (P:Mt) (cs:Nat→Nat):bm k (selC P cs k j) i k = bmC k P cs i j:=by
 unfold bm bmC
 refine det_congr fun r t _ ht=>?_
 simp only [selC]
 by_cases h:t < k
 · rw [if_pos h,if_pos h,if_pos h]
 · rw [if_neg h,if_neg h,if_neg (Nat.lt_irrefl k),if_pos rfl]
theorem selC_bm2 (k j i c:Nat) (P:Mt) (cs:Nat→Nat):bm k (selC P cs k j) i (k + 1 + c) = bmC k P cs i c:=by
 unfold bm bmC
 refine det_congr fun r t _ ht=>?_
 simp only [selC]
 by_cases h:t < k
 · rw [if_pos h,if_pos h,if_pos h]
 · rw [if_neg h,if_neg h,if_neg (show ¬ k + 1 + c < k by omega),if_neg (show ¬ k + 1 + c = k by omega),show k + 1 + c - (k + 1) = c by omega]
theorem selC_bm3 (k j i c:Nat) (P:Mt) (cs:Nat→Nat):bm (k + 1) (selC P cs k j) i (k + 1 + c) = bmC (k + 1) P (fun t=>if t = k then j else cs t) i c:=by
 unfold bm bmC
 refine det_congr fun r t _ ht=>?_
 simp only [selC]
 by_cases h:t < k
 · rw [if_pos (show t < k + 1 by omega),if_pos h,if_pos (show t < k + 1 by omega),if_neg (show ¬ t = k by omega)]
 · by_cases h2:t = k
   · subst h2
     rw [if_pos (show t < t + 1 by omega),if_neg (Nat.lt_irrefl t),if_pos rfl,if_pos (show t < t + 1 by omega),if_pos rfl]
   · rw [if_neg (show ¬ t < k + 1 by omega),if_neg (show ¬ k + 1 + c < k by omega),if_neg (show ¬ k + 1 + c = k by omega),if_neg (show ¬ t < k + 1 by omega),show k + 1 + c - (k + 1) = c by omega]
theorem bareissC (k:Nat) (P:Mt) (cs:Nat→Nat) (i j c:Nat) (hd:dtC k P cs ≠ 0) :
 dtC k P cs * bmC (k + 1) P (fun t=>if t = k then j else cs t) i c = bmC k P cs k j * bmC k P cs i c - bmC k P cs i j * bmC k P cs k c:=by
 have h:=bareiss k (selC P cs k j) i (k + 1 + c) (by rw [selC_det]; exact hd)
 rw [selC_det,selC_bm3,selC_bm,selC_bm,selC_bm2,selC_bm2] at h
 exact h
theorem dtC_succ (k:Nat) (P:Mt) (cs:Nat→Nat) (j:Nat):dtC (k + 1) P (fun t=>if t = k then j else cs t) = bmC k P cs k j:=by
 unfold dtC bmC
 refine det_congr fun r t hr ht=>?_
 have e1:(if r < k then r else k) = r:=by split <;> omega
 rw [e1]
 show P r (if t = k then j else cs t) = _
 by_cases h:t < k
 · rw [if_neg (show ¬ t = k by omega),if_pos h]
 · rw [if_pos (show t = k by omega),if_neg h]
theorem colrelC {m k:Nat} {P:Mt} {cs:Nat→Nat} {j:Nat} (hd:dtC k P cs ≠ 0) (h:∀ i,k≤i→i < m→bmC k P cs i j = 0):∃ y:Nat→Int,∀ i,i < m→dtC k P cs * P i j = sm k fun t=>P i (cs t) * y t:=by
 obtain ⟨y,hy⟩:=colrel (m:=m) (k:=k) (Q:=selC P cs k j) (j:=k) (by rw [selC_det]; exact hd) (fun i h1 h2=>by rw [selC_bm]; exact h i h1 h2)
 refine ⟨y,fun i hi=>?_⟩
 have e:=hy i hi
 rw [selC_det] at e
 rw [show selC P cs k j i k = P i j by simp only [selC]; rw [if_neg (Nat.lt_irrefl k),if_pos trivial]] at e
 rw [e]
 exact sm_congr fun t ht=>by simp only [selC]; rw [if_pos ht]
structure RI (m n j k:Nat) (A W:Mt) (l:Int) (p cs:Nat→Nat):Prop where
 ent:∀ i c,k≤i→i < m→j≤c→c < n→W i c = bmC k (fun r=>A (p r)) cs i c
 eq:l = dtC k (fun r=>A (p r)) cs
 ne:l ≠ 0
 km:k≤m
 kj:k≤j
 lt:∀ i,i < m→p i < m
 onto:∀ i,i < m→∃ r,r < m∧p r = i
 cl:∀ t,t < k→cs t < n
 rel:∀ c,c < j→∃ d:Int,d ≠ 0∧∃ y:Nat→Int,∀ i,i < m→d * A (p i) c = sm k fun t=>A (p i) (cs t) * y t
theorem RI.start (m n:Nat) (A:Mt):RI m n 0 0 A A 1 id id where
 ent:=fun i c _ _ _ _=>by simp [bmC,det,sm,sgn]
 eq:=rfl
 ne:=by decide
 km:=Nat.zero_le _
 kj:=Nat.zero_le _
 lt:=fun _ h=>h
 onto:=fun i h=>⟨i,h,rfl⟩
 cl:=fun _ h=>absurd h (Nat.not_lt_zero _)
 rel:=fun _ h=>absurd h (Nat.not_lt_zero _)
theorem RI.none {m n j k:Nat} {A W:Mt} {l:Int} {p cs:Nat→Nat} (h:RI m n j k A W l p cs) (hj:j < n) (hz:∀ i,k≤i→i < m→W i j = 0):RI m n (j + 1) k A W l p cs where
 ent:=fun i c h1 h2 h3 h4=>h.ent i c h1 h2 (by omega) h4
 eq:=h.eq
 ne:=h.ne
 km:=h.km
 kj:=Nat.le_succ_of_le h.kj
 lt:=h.lt
 onto:=h.onto
 cl:=h.cl
 rel:=fun c hc=>by
  by_cases e:c < j
  · exact h.rel c e
  · have:c = j:=by omega
    subst this
    have hne:dtC k (fun r=>A (p r)) cs ≠ 0:=by rw [← h.eq]; exact h.ne
    obtain ⟨y,hy⟩:=colrelC (m:=m) (j:=c) hne (fun i h1 h2=>by rw [← h.ent i c h1 h2 (Nat.le_refl _) hj]; exact hz i h1 h2)
    exact ⟨_,hne,y,hy⟩
theorem RI.swap {m n j k q:Nat} {A W:Mt} {l:Int} {p cs:Nat→Nat} (h:RI m n j k A W l p cs) (hq:k≤q) (hm:q < m):RI m n j k A (swp2 k q W) l (fun r=>p (sw k q r)) cs where
 ent:=fun i c h1 h2 h3 h4=>by
  rw [swp2_sw,h.ent (sw k q i) c (sw_ge hq h1) (sw_lt (by omega) hm h2) h3 h4]
  unfold bmC
  refine det_congr fun r t hr ht=>?_
  by_cases e:r < k
  · rw [if_pos e,if_pos e]
    show A (p r) _ = A (p (sw k q r)) _
    rw [sw_low hq e]
  · rw [if_neg e,if_neg e]
 eq:=by
  rw [h.eq]
  unfold dtC
  refine det_congr fun r t hr ht=>?_
  show A (p r) _ = A (p (sw k q r)) _
  rw [sw_low hq hr]
 ne:=h.ne
 km:=h.km
 kj:=h.kj
 lt:=fun i hi=>h.lt _ (sw_lt (by omega) hm hi)
 onto:=fun i hi=>by
  obtain ⟨r,hr,e⟩:=h.onto i hi
  exact ⟨sw k q r,sw_lt (by omega) hm hr,by rw [sw_sw]; exact e⟩
 cl:=h.cl
 rel:=fun c hc=>by
  obtain ⟨d,hd,y,hy⟩:=h.rel c hc
  exact ⟨d,hd,y,fun i hi=>hy _ (sw_lt (by omega) hm hi)⟩
theorem RI.step {m n j k:Nat} {A W W':Mt} {l:Int} {p cs:Nat→Nat} (h:RI m n j k A W l p cs) (hj:j < n) (hk:k < m) (hz:W k j ≠ 0)
 (hW:∀ i c,k < i→i < m→j < c→c < n→W' i c = (W k j * W i c - W i j * W k c) / l) :
 RI m n (j + 1) (k + 1) A W' (W k j) p (fun t=>if t = k then j else cs t) where
 ent:=fun i c h1 h2 h3 h4=>by
  have hne:dtC k (fun r=>A (p r)) cs ≠ 0:=by rw [← h.eq]; exact h.ne
  rw [hW i c h1 h2 (by omega) h4,h.ent k j (Nat.le_refl _) hk (Nat.le_refl _) hj,h.ent i c (by omega) h2 (by omega) h4,h.ent i j (by omega) h2 (Nat.le_refl _) hj,h.ent k c (Nat.le_refl _) hk (by omega) h4,h.eq]
  rw [← bareissC k _ cs i j c hne,Int.mul_ediv_cancel_left _ hne]
 eq:=by rw [dtC_succ,h.ent k j (Nat.le_refl _) hk (Nat.le_refl _) hj]
 ne:=hz
 km:=hk
 kj:=Nat.succ_le_succ h.kj
 lt:=h.lt
 onto:=h.onto
 cl:=fun t ht=>by
  show (if t = k then j else cs t) < n
  split
  · exact hj
  · exact h.cl t (by omega)
 rel:=fun c hc=>by
  by_cases e:c < j
  · obtain ⟨d,hd,y,hy⟩:=h.rel c e
    refine ⟨d,hd,fun t=>if t = k then 0 else y t,fun i hi=>?_⟩
    rw [hy i hi]
    simp only [sm]
    rw [if_pos trivial,if_pos trivial,Int.mul_zero,Int.add_zero]
    exact sm_congr fun t ht=>by rw [if_neg (by omega),if_neg (by omega)]
  · have:c = j:=by omega
    subst this
    refine ⟨1,by decide,fun t=>if t = k then 1 else 0,fun i hi=>?_⟩
    simp only [sm]
    rw [if_pos trivial,if_pos trivial,Int.mul_one,Int.one_mul]
    rw [sm_zero fun t ht=>by rw [if_neg (show ¬ t = k by omega),if_neg (show ¬ t = k by omega),Int.mul_zero]]
    omega
theorem RI.done {m n k:Nat} {A W:Mt} {l:Int} {p cs:Nat→Nat} (h:RI m n n k A W l p cs):Rk m n A k:=by
 constructor
 · refine ⟨p,cs,fun t ht=>⟨h.lt t (by have:=h.km; omega),h.cl t ht⟩,?_⟩
   have:=h.ne
   rw [h.eq] at this
   exact this
 · refine low_of (U:=fun i t=>A i (cs t)) fun j hj=>?_
   obtain ⟨d,hd,y,hy⟩:=h.rel j hj
   refine ⟨d,hd,y,fun i hi=>?_⟩
   obtain ⟨r,hr,e⟩:=h.onto i hi
   have:=hy r hr
   rw [e] at this
   exact this
structure RF (m n k:Nat) (A W:Mt) (l:Int) (p cs:Nat→Nat):Prop where
 ent:∀ i c,k≤i→i < m→k≤c→c < n→W i c = bm k (fun r t=>A (p r) (cs t)) i c
 eq:l = det k (fun r t=>A (p r) (cs t))
 ne:l ≠ 0
 km:k≤m
 kn:k≤n
 lt:∀ i,i < m→p i < m
 onto:∀ i,i < m→∃ r,r < m∧p r = i
 cl:∀ t,t < n→cs t < n
 conto:∀ t,t < n→∃ r,r < n∧cs r = t
theorem RF.done {m n k:Nat} {A W:Mt} {l:Int} {p cs:Nat→Nat} (h:RF m n k A W l p cs) (hz:∀ i c,k≤i→i < m→k≤c→c < n→W i c = 0):Rk m n A k:=by
 have hne:det k (fun r t=>A (p r) (cs t)) ≠ 0:=by rw [← h.eq]; exact h.ne
 constructor
 · exact ⟨p,cs,fun t ht=>⟨h.lt t (by have:=h.km; omega),h.cl t (by have:=h.kn; omega)⟩,hne⟩
 · refine low_of (U:=fun i t=>A i (cs t)) fun j hj=>?_
   obtain ⟨c,hc,ec⟩:=h.conto j hj
   have key:∃ d:Int,d ≠ 0∧∃ y:Nat→Int,∀ i,i < m→d * A (p i) (cs c) = sm k fun t=>A (p i) (cs t) * y t:=by
    by_cases e:c < k
    · refine ⟨1,by decide,fun t=>if t = c then 1 else 0,fun i hi=>?_⟩
      rw [sm_one (c:=c) e fun t ht hn=>by simp only [if_neg hn,Int.mul_zero]]
      simp only [if_true]; omega
    · obtain ⟨y,hy⟩:=colrel (m:=m) (j:=c) hne (fun i h1 h2=>by rw [← h.ent i c h1 h2 (by omega) hc]; exact hz i c h1 h2 (by omega) hc)
      exact ⟨_,hne,y,hy⟩
   obtain ⟨d,hd,y,hy⟩:=key
   refine ⟨d,hd,y,fun i hi=>?_⟩
   obtain ⟨r,hr,e⟩:=h.onto i hi
   have:=hy r hr
   rw [e,ec] at this
   exact this
end Go.Det
