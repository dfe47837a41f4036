/- Joined: Det, Bar, Brt, Fad, Fdt. -/
import Derived.Test.YtncbjgblcofddaaGreatDoorQd
import Derived.Test.YtncbjgblcofddaaGreatDoorQe
/- Determinants in plain Lean: matrices are functions of two indices. -/
namespace Go.Det
abbrev Mt:=Nat→Nat→Int
def sm:Nat→(Nat→Int)→Int
 | 0,_=>0
 | k + 1,f=>sm k f + f k
theorem sm_congr {n:Nat} {f g:Nat→Int} (h:∀ i,i < n→f i = g i):sm n f = sm n g:=by
 induction n with
 | zero=>rfl
 | succ n ih=>simp only [sm]; rw [ih fun i hi=>h i (by omega),h n (by omega)]
theorem sm_zero {n:Nat} {f:Nat→Int} (h:∀ i,i < n→f i = 0):sm n f = 0:=by
 induction n with
 | zero=>rfl
 | succ n ih=>simp only [sm]; rw [ih fun i hi=>h i (by omega),h n (by omega)]; rfl
theorem sm_lin (n:Nat) (f g:Nat→Int) (a b:Int):sm n (fun i=>a * f i + b * g i) = a * sm n f + b * sm n g:=by
 induction n with
 | zero=>simp [sm]
 | succ n ih=>simp only [sm]; rw [ih]; grind
theorem sm_add (n:Nat) (f g:Nat→Int):sm n (fun i=>f i + g i) = sm n f + sm n g:=by
 induction n with
 | zero=>rfl
 | succ n ih=>simp only [sm]; rw [ih]; grind
theorem sm_mul (n:Nat) (f:Nat→Int) (a:Int):sm n (fun i=>a * f i) = a * sm n f:=by
 induction n with
 | zero=>simp [sm]
 | succ n ih=>simp only [sm]; rw [ih]; grind
theorem sm_mulr (n:Nat) (f:Nat→Int) (a:Int):sm n (fun i=>f i * a) = sm n f * a:=by
 induction n with
 | zero=>simp [sm]
 | succ n ih=>simp only [sm]; rw [ih]; grind
theorem sm_one {n c:Nat} {f:Nat→Int} (hc:c < n) (h:∀ i,i < n→i ≠ c→f i = 0):sm n f = f c:=by
 induction n with
 | zero=>omega
 | succ n ih =>
  simp only [sm]
  by_cases e:c = n
  · subst e; rw [sm_zero fun i hi=>h i (by omega) (by omega)]; omega
  · rw [ih (by omega) fun i hi hn=>h i (by omega) hn,h n (by omega) (by omega)]; omega
theorem sm_two {n c:Nat} {f:Nat→Int} (hc:c + 1 < n) (h:∀ i,i < n→i ≠ c→i ≠ c + 1→f i = 0):sm n f = f c + f (c + 1):=by
 induction n with
 | zero=>omega
 | succ n ih =>
  simp only [sm]
  by_cases e:c + 1 = n
  · subst e; rw [sm_one (c:=c) (by omega) fun i hi hn=>h i (by omega) hn (by omega)]
  · rw [ih (by omega) fun i hi hn hn'=>h i (by omega) hn hn',h n (by omega) (by omega) (by omega)]; omega
theorem sm_swap (n m:Nat) (f:Nat→Nat→Int):sm n (fun i=>sm m fun j=>f i j) = sm m fun j=>sm n fun i=>f i j:=by
 induction n with
 | zero=>simp only [sm]; rw [sm_zero fun _ _=>rfl]
 | succ n ih=>simp only [sm]; rw [ih,← sm_add]
def skip (j k:Nat):Nat:=if k < j then k else k + 1
def minor (A:Mt) (i j:Nat):Mt:=fun r c=>A (skip i r) (skip j c)
def sgn (j:Nat):Int:=if j % 2 = 0 then 1 else -1
theorem sgn_succ (j:Nat):sgn (j + 1) = - sgn j:=by
 unfold sgn
 split <;> split <;> omega
theorem sgn_sq (j:Nat):sgn j * sgn j = 1:=by unfold sgn; split <;> rfl
theorem sgn_add (i j:Nat):sgn (i + j) = sgn i * sgn j:=by
 induction j with
 | zero=>simp [sgn]
 | succ j ih=>rw [← Nat.add_assoc,sgn_succ,ih,sgn_succ]; grind
def det:Nat→Mt→Int
 | 0,_=>1
 | n + 1,A=>sm (n + 1) fun j=>sgn j * A 0 j * det n (minor A 0 j)
def tr (A:Mt):Mt:=fun i j=>A j i
def one:Mt:=fun i j=>if i = j then 1 else 0
theorem skip_zero (k:Nat):skip 0 k = k + 1:=by simp [skip]
theorem skip_lt {n j k:Nat} (hk:k < n):skip j k < n + 1:=by unfold skip; split <;> omega
theorem det_congr {n:Nat}:∀ {A C:Mt},(∀ i j,i < n→j < n→A i j = C i j)→det n A = det n C:=by
 induction n with
 | zero=>intro A C _; rfl
 | succ n ih =>
  intro A C h
  simp only [det]
  refine sm_congr fun j hj=>?_
  rw [h 0 j (by omega) hj,ih (A:=minor A 0 j) (C:=minor C 0 j) fun r c hr hc=>h _ _ (skip_lt hr) (skip_lt hc)]
def setR (A:Mt) (i:Nat) (u:Nat→Int):Mt:=fun r c=>if r = i then u c else A r c
def setC (A:Mt) (j:Nat) (u:Nat→Int):Mt:=fun r c=>if c = j then u r else A r c
theorem minor_setC_self (A:Mt) (c:Nat) (w:Nat→Int):minor (setC A c w) 0 c = minor A 0 c:=by
 funext r k
 simp only [minor,setC]
 rw [if_neg]
 unfold skip; split <;> omega
def low (j c:Nat):Nat:=if j < c then c - 1 else c
theorem minor_setC (A:Mt) (c j:Nat) (w:Nat→Int) (h:j ≠ c):minor (setC A c w) 0 j = setC (minor A 0 j) (low j c) (fun r=>w (r + 1)):=by
 funext r k
 simp only [minor,setC,skip_zero]
 have:skip j k = c ↔ k = low j c:=by unfold skip low; split <;> split <;> omega
 simp only [this]
theorem det_linC {n:Nat}:∀ (A:Mt) (c:Nat) (u v:Nat→Int) (a b:Int),c < n→det n (setC A c fun r=>a * u r + b * v r) = a * det n (setC A c u) + b * det n (setC A c v):=by
 induction n with
 | zero=>intro A c u v a b h; omega
 | succ n ih =>
  intro A c u v a b hc
  simp only [det]
  rw [← sm_lin]
  refine sm_congr fun j hj=>?_
  by_cases e:j = c
  · subst e
    rw [minor_setC_self,minor_setC_self,minor_setC_self]
    simp only [setC,if_true]
    grind
  · rw [minor_setC _ _ _ _ e,minor_setC _ _ _ _ e,minor_setC _ _ _ _ e]
    rw [ih (minor A 0 j) (low j c) (fun r=>u (r + 1)) (fun r=>v (r + 1)) a b (by unfold low; split <;> omega)]
    simp only [setC,if_neg e]
    grind
theorem det_altC {n:Nat}:∀ (A:Mt) (c:Nat),c + 1 < n→(∀ r,r < n→A r c = A r (c + 1))→det n A = 0:=by
 induction n with
 | zero=>intro A c h; omega
 | succ n ih =>
  intro A c hc h
  simp only [det]
  rw [sm_two hc fun j hj h1 h2=>?_]
  · rw [sgn_succ,h 0 (by omega),det_congr (A:=minor A 0 c) (C:=minor A 0 (c + 1)) fun r k hr hk=>?_]
    · grind
    · simp only [minor,skip_zero]
      by_cases e:k = c
      · subst e
        rw [show skip k k = k + 1 by simp [skip],show skip (k + 1) k = k by simp [skip],h (r + 1) (by omega)]
      · rw [show skip c k = skip (c + 1) k by unfold skip; split <;> split <;> omega]
  · rw [ih (minor A 0 j) (low j c) (by unfold low; split <;> omega) fun r hr=>?_]
    · grind
    · simp only [minor,skip_zero]
      rw [show skip j (low j c) = c by unfold skip low; split <;> split <;> omega,show skip j (low j c + 1) = c + 1 by unfold skip low; split <;> split <;> omega]
      exact h _ (by omega)
structure MA (n:Nat) (D:Mt→Int):Prop where
 congr:∀ A C:Mt,(∀ i j,i < n→j < n→A i j = C i j)→D A = D C
 lin:∀ (A:Mt) (i:Nat) (u v:Nat→Int) (a b:Int),i < n→D (setR A i fun c=>a * u c + b * v c) = a * D (setR A i u) + b * D (setR A i v)
 alt:∀ (A:Mt) (i:Nat),i + 1 < n→(∀ j,j < n→A i j = A (i + 1) j)→D A = 0
theorem ma_tr (n:Nat):MA n fun A=>det n (tr A) :=
 ⟨fun _ _ h=>det_congr fun i j hi hj=>h j i hj hi,fun A i u v a b hi=>det_linC (tr A) i u v a b hi,fun A i hi h=>det_altC (tr A) i hi fun r hr=>h r hr⟩
theorem setR_self (A:Mt) (i:Nat):setR A i (A i) = A:=by
 funext r c
 simp only [setR]
 split
 · rename_i h; rw [h]
 · rfl
theorem setR_comm (A:Mt) {i k:Nat} (u v:Nat→Int) (h:i ≠ k):setR (setR A i u) k v = setR (setR A k v) i u:=by
 funext r c
 simp only [setR]
 split
 · rename_i e; rw [if_neg (by omega)]
 · rfl
section
variable {n:Nat} {D:Mt→Int}
theorem MA.add (h:MA n D) (A:Mt) (i:Nat) (u v:Nat→Int) (hi:i < n):D (setR A i fun c=>u c + v c) = D (setR A i u) + D (setR A i v):=by
 have:=h.lin A i u v 1 1 hi
 simp only [Int.one_mul] at this
 exact this
theorem MA.smul (h:MA n D) (A:Mt) (i:Nat) (u:Nat→Int) (a:Int) (hi:i < n):D (setR A i fun c=>a * u c) = a * D (setR A i u):=by
 have:=h.lin A i u u a 0 hi
 simp only [Int.zero_mul,Int.add_zero] at this
 exact this
theorem MA.zero (h:MA n D) (A:Mt) (i:Nat) (u:Nat→Int) (hi:i < n) (hu:∀ c,c < n→u c = 0):D (setR A i u) = 0:=by
 have:=h.smul A i u 0 hi
 rw [h.congr (setR A i u) (setR A i fun c=>0 * u c) fun r c _ hc=>?_,this,Int.zero_mul]
 simp only [setR,hu c hc,Int.zero_mul]
def swapN (A:Mt) (i:Nat):Mt:=fun r c=>if r = i then A (i + 1) c else if r = i + 1 then A i c else A r c
theorem MA.swapN (h:MA n D) (A:Mt) (i:Nat) (hi:i + 1 < n):D (swapN A i) = - D A:=by
 have e0:∀ x:Nat→Int,D (setR (setR A i x) (i + 1) x) = 0:=fun x=>h.alt _ i hi fun j hj=>by simp [setR]
 have a2:∀ x y y':Nat→Int,D (setR (setR A i x) (i + 1) fun c=>y c + y' c) = D (setR (setR A i x) (i + 1) y) + D (setR (setR A i x) (i + 1) y'):=fun x y y'=>h.add _ (i + 1) _ _ (by omega)
 have a1:∀ x x' y:Nat→Int,D (setR (setR A i fun c=>x c + x' c) (i + 1) y) = D (setR (setR A i x) (i + 1) y) + D (setR (setR A i x') (i + 1) y):=fun x x' y=>by
  rw [setR_comm A (fun c=>x c + x' c) y (by omega),setR_comm A x y (by omega),setR_comm A x' y (by omega)]
  exact h.add _ i _ _ (by omega)
 have h1:=e0 (fun c=>A i c + A (i + 1) c)
 rw [a2,a1,a1] at h1
 have h2:=e0 (A i)
 have h3:=e0 (A (i + 1))
 have h4:setR (setR A i (A i)) (i + 1) (A (i + 1)) = A:=by rw [setR_self,setR_self]
 have h5:setR (setR A i (A (i + 1))) (i + 1) (A i) = Go.Det.swapN A i:=by
  funext r c
  simp only [setR,Go.Det.swapN]
  by_cases e:r = i
  · rw [if_neg (by omega),if_pos e,if_pos e]
  · rw [if_neg e,if_neg e]
 rw [h4] at h1
 rw [h5] at h1
 omega
theorem MA.alt2 (h:MA n D):∀ (d:Nat) (A:Mt) (i:Nat),i + 1 + d < n→(∀ j,j < n→A i j = A (i + 1 + d) j)→D A = 0:=by
 intro d
 induction d with
 | zero=>intro A i hi he; exact h.alt A i hi he
 | succ d ih =>
  intro A i hi he
  have h1:=h.swapN A (i + 1 + d) (by omega)
  have h2:=ih (Go.Det.swapN A (i + 1 + d)) i (by omega) fun j hj=>by
   simp only [Go.Det.swapN]
   rw [if_neg (by omega),if_neg (by omega),if_pos trivial]
   exact he j hj
  omega
theorem MA.eq0 (h:MA n D) (A:Mt) (i k:Nat) (hi:i < n) (hk:k < n) (hne:i ≠ k) (he:∀ j,j < n→A i j = A k j):D A = 0:=by
 rcases Nat.lt_or_gt_of_ne hne with hlt | hlt
 · exact h.alt2 (k - i - 1) A i (by omega) fun j hj=>by rw [he j hj]; congr 1; omega
 · exact h.alt2 (i - k - 1) A k (by omega) fun j hj=>by rw [← he j hj]; congr 1; omega
theorem MA.addRow (h:MA n D) (A:Mt) (i k:Nat) (t:Int) (hi:i < n) (hk:k < n) (hne:i ≠ k):D (setR A i fun c=>A i c + t * A k c) = D A:=by
 rw [h.add A i (A i) _ hi,h.smul A i (A k) t hi,setR_self]
 rw [h.eq0 (setR A i (A k)) i k hi hk hne fun j _=>by simp only [setR]; rw [if_pos trivial,if_neg (by omega)]]
 omega
theorem MA.sum (h:MA n D) (A:Mt) (i:Nat) (hi:i < n) (x:Nat→Int) (u:Nat→Nat→Int):∀ m,D (setR A i fun c=>sm m fun j=>x j * u j c) = sm m fun j=>x j * D (setR A i (u j)):=by
 intro m
 induction m with
 | zero=>simp only [sm]; exact h.zero A i _ hi fun _ _=>rfl
 | succ m ih=>simp only [sm]; rw [h.add A i _ _ hi,ih,h.smul A i _ _ hi]
def mv (j:Nat) (A:Mt):Mt:=fun r c=>if r = 0 then A j c else if r≤j then A (r - 1) c else A r c
theorem MA.mv (h:MA n D):∀ (j:Nat) (A:Mt),j < n→D (mv j A) = sgn j * D A:=by
 intro j
 induction j with
 | zero =>
  intro A _
  have:Go.Det.mv 0 A = A:=by
   funext r c
   simp only [Go.Det.mv]
   by_cases e:r = 0
   · rw [if_pos e,e]
   · rw [if_neg e,if_neg (by omega)]
  rw [this]; simp [sgn]
 | succ j ih =>
  intro A hj
  have:Go.Det.mv (j + 1) A = Go.Det.mv j (Go.Det.swapN A j):=by
   funext r c
   simp only [Go.Det.mv,Go.Det.swapN]
   by_cases e:r = 0
   · simp [e]
   · rw [if_neg e,if_neg e]
     by_cases e1:r≤j
     · rw [if_pos (by omega),if_pos e1,if_neg (by omega),if_neg (by omega)]
     · by_cases e2:r = j + 1
       · subst e2; rw [if_pos (by omega),if_neg e1,if_neg (by omega),if_pos rfl]; rfl
       · rw [if_neg (by omega),if_neg e1,if_neg (by omega),if_neg (by omega)]
  rw [this,ih _ (by omega),h.swapN A j (by omega),sgn_succ]
  grind
end
def ins (j:Nat) (M:Mt):Mt:=fun r c=>if r = 0 then (if c = j then 1 else 0) else if c = j then 0 else M (r - 1) (low j c)
def clr (j k:Nat) (A:Mt):Mt:=fun r c=>if 1≤r∧r≤k∧c = j then 0 else A r c
theorem MA.clr {n:Nat} {D:Mt→Int} (h:MA (n + 1) D) (j:Nat) (A:Mt) (h0:∀ c,c < n + 1→A 0 c = if c = j then 1 else 0):∀ k,k≤n→D (clr j k A) = D A:=by
 intro k
 induction k with
 | zero=>intro _; exact h.congr _ _ fun r c _ _=>by simp only [Go.Det.clr]; rw [if_neg (by omega)]
 | succ k ih =>
  intro hk
  rw [← ih (by omega),← h.addRow (Go.Det.clr j k A) (k + 1) 0 (- A (k + 1) j) (by omega) (by omega) (by omega)]
  refine h.congr _ _ fun r c hr hc=>?_
  simp only [Go.Det.clr,setR]
  have h00:=h0 c hc
  grind
theorem ma_ins {n:Nat} {D:Mt→Int} (h:MA (n + 1) D) (j:Nat) (hj:j < n + 1):MA n fun M=>D (ins j M):=by
 refine ⟨fun A C hAC=>h.congr _ _ fun r c hr hc=>?_,fun A i u v a b hi=>?_,fun A i hi he=>?_⟩
 · simp only [ins]
   by_cases e:r = 0
   · rw [if_pos e,if_pos e]
   · rw [if_neg e,if_neg e]
     by_cases ec:c = j
     · rw [if_pos ec,if_pos ec]
     · rw [if_neg ec,if_neg ec]; exact hAC _ _ (by omega) (by unfold low; split <;> omega)
 · have key:∀ w:Nat→Int,ins j (setR A i w) = setR (ins j A) (i + 1) fun c=>if c = j then 0 else w (low j c):=by
    intro w
    funext r c
    simp only [ins,setR]
    grind
   show D (ins j _) = a * D (ins j _) + b * D (ins j _)
   rw [key,key,key,← h.lin _ _ _ _ _ _ (by omega)]
   congr 2
   funext c
   split <;> simp
 · refine h.alt _ (i + 1) (by omega) fun c hc=>?_
   simp only [ins]
   rw [if_neg (show ¬ i + 1 = 0 by omega),if_neg (show ¬ i + 1 + 1 = 0 by omega)]
   by_cases ec:c = j
   · rw [if_pos ec,if_pos ec]
   · rw [if_neg ec,if_neg ec]; exact he _ (by unfold low; split <;> omega)
theorem ins_one (j:Nat):ins j one = mv j one:=by
 funext r c
 simp only [ins,mv,one,low]
 grind
theorem MA.unique {n:Nat}:∀ {D:Mt→Int},MA n D→∀ A,D A = det n A * D one:=by
 induction n with
 | zero=>intro D h A; simp only [det,Int.one_mul]; exact h.congr _ _ fun i _ hi=>by omega
 | succ n ih =>
  intro D h A
  have h1:D A = sm (n + 1) fun j=>A 0 j * D (setR A 0 (one j)):=by
   rw [← h.sum A 0 (by omega) (A 0) one]
   refine h.congr _ _ fun r c hr hc=>?_
   simp only [setR]
   split
   · rename_i e
     rw [sm_one (c:=c) hc fun i _ hi=>by simp [one,hi],e]
     simp [one]
   · rfl
  rw [h1]
  simp only [det]
  rw [← sm_mulr]
  refine sm_congr fun j hj=>?_
  have h2:D (setR A 0 (one j)) = D (ins j (minor A 0 j)):=by
   rw [← h.clr j (setR A 0 (one j)) (fun c _=>by simp only [setR,one,if_true]; split <;> split <;> first | rfl | omega) n (by omega)]
   refine h.congr _ _ fun r c hr hc=>?_
   simp only [Go.Det.clr,ins,setR,minor,one,skip_zero]
   by_cases e:r = 0
   · subst e; simp [eq_comm]
   · rw [if_neg e,if_neg e]
     by_cases ec:c = j
     · rw [if_pos (by omega),if_pos ec]
     · rw [if_neg (by omega),if_neg ec,show r - 1 + 1 = r by omega,show skip j (low j c) = c by unfold skip low; split <;> split <;> omega]
  rw [h2,ih (ma_ins h j hj) (minor A 0 j),ins_one,h.mv j one hj]
  grind
theorem det_one (n:Nat):det n one = 1:=by
 induction n with
 | zero=>rfl
 | succ n ih =>
  simp only [det]
  rw [sm_one (c:=0) (by omega) fun i _ hi=>by simp [one,Ne.symm hi]]
  rw [det_congr (C:=one) fun i j _ _=>by simp [minor,one,skip_zero],ih]
  simp [one,sgn]
theorem det_tr (n:Nat) (A:Mt):det n (tr A) = det n A:=by
 rw [(ma_tr n).unique A,show tr one = one by funext i j; simp [tr,one,eq_comm],det_one,Int.mul_one]
theorem ma_det (n:Nat):MA n (det n):=by
 have h:=ma_tr n
 have e:(fun A=>det n (tr A)) = det n:=funext fun A=>det_tr n A
 rw [e] at h
 exact h
def mul (n:Nat) (A C:Mt):Mt:=fun i j=>sm n fun k=>A i k * C k j
theorem mul_one (n:Nat) (A:Mt) (i j:Nat) (hj:j < n):mul n A one i j = A i j:=by
 simp only [mul]
 rw [sm_one (c:=j) hj fun k _ hk=>by simp [one,hk]]
 simp [one]
theorem one_mul (n:Nat) (A:Mt) (i j:Nat) (hi:i < n):mul n one A i j = A i j:=by
 simp only [mul]
 rw [sm_one (c:=i) hi fun k _ hk=>by simp [one,Ne.symm hk]]
 simp [one]
theorem det_mul (n:Nat) (A C:Mt):det n (mul n A C) = det n A * det n C:=by
 have h:MA n fun A=>det n (mul n A C):=by
  refine ⟨fun A A' hA=>det_congr fun i j hi hj=>sm_congr fun k hk=>by rw [hA i k hi hk],fun A i u v a b hi=>?_,fun A i hi he=>?_⟩
  · have key:∀ w:Nat→Int,mul n (setR A i w) C = setR (mul n A C) i fun c=>sm n fun k=>w k * C k c:=by
     intro w
     funext r c
     simp only [mul,setR]
     split <;> rfl
    show det n (mul n _ C) = a * det n (mul n _ C) + b * det n (mul n _ C)
    rw [key,key,key,← (ma_det n).lin _ _ _ _ _ _ hi]
    congr 2
    funext c
    rw [← sm_lin]
    exact sm_congr fun k _=>by grind
  · exact (ma_det n).alt _ i hi fun j hj=>sm_congr fun k hk=>by rw [he k hk]
 rw [h.unique A,det_congr fun i j hi _=>one_mul n C i j hi]
theorem det_row (n:Nat) (A:Mt) (i:Nat) (hi:i < n + 1):(sm (n + 1) fun j=>A i j * (sgn (i + j) * det n (minor A i j))) = det (n + 1) A:=by
 have h:=(ma_det (n + 1)).mv i A hi
 have h2:det (n + 1) (mv i A) = sm (n + 1) fun j=>sgn j * A i j * det n (minor A i j):=by
  simp only [det]
  refine sm_congr fun j hj=>?_
  rw [show minor (mv i A) 0 j = minor A i j from ?_]
  · rfl
  · funext r c
    simp only [minor,mv,skip_zero]
    rw [if_neg (by omega)]
    unfold skip
    by_cases e:r < i
    · rw [if_pos (by omega),if_pos e,show r + 1 - 1 = r by omega]
    · rw [if_neg (by omega),if_neg e]
 have h3:sgn i * det (n + 1) (mv i A) = det (n + 1) A:=by rw [h,← Int.mul_assoc,sgn_sq,Int.one_mul]
 rw [← h3,h2,← sm_mul]
 refine sm_congr fun j _=>?_
 rw [sgn_add]
 grind
def cof (n:Nat) (A:Mt) (i j:Nat):Int:=sgn (i + j) * det n (minor A i j)
theorem row_cof (n:Nat) (A:Mt) (i k:Nat) (hi:i < n + 1) (hk:k < n + 1):(sm (n + 1) fun j=>A k j * cof n A i j) = if i = k then det (n + 1) A else 0:=by
 split
 · rename_i e; subst e; exact det_row n A i hi
 · rename_i e
   have h:=det_row n (setR A i (A k)) i hi
   rw [(ma_det (n + 1)).eq0 (setR A i (A k)) i k hi hk e fun j _=>by simp only [setR]; rw [if_pos trivial,if_neg (by omega)]] at h
   rw [← h]
   refine sm_congr fun j _=>?_
   have:minor (setR A i (A k)) i j = minor A i j:=by
    funext r c
    simp only [minor,setR]
    rw [if_neg]
    unfold skip; split <;> omega
   rw [this]
   simp [setR,cof]
theorem minor_tr (A:Mt) (i j:Nat):minor (tr A) i j = tr (minor A j i):=rfl
theorem cof_tr (n:Nat) (A:Mt) (i j:Nat):cof n (tr A) i j = cof n A j i:=by
 unfold cof
 rw [minor_tr,det_tr,Nat.add_comm]
def adj (n:Nat) (A:Mt):Mt:=fun i j=>cof n A j i
theorem mul_adj (n:Nat) (A:Mt) (i j:Nat) (hi:i < n + 1) (hj:j < n + 1):mul (n + 1) A (adj n A) i j = if i = j then det (n + 1) A else 0:=by
 have:=row_cof n A j i hj hi
 simp only [mul,adj]
 rw [this]
 simp only [eq_comm]
theorem adj_mul (n:Nat) (A:Mt) (i j:Nat) (hi:i < n + 1) (hj:j < n + 1):mul (n + 1) (adj n A) A i j = if i = j then det (n + 1) A else 0:=by
 have:=row_cof n (tr A) i j hi hj
 rw [det_tr] at this
 rw [← this]
 simp only [mul,adj]
 refine sm_congr fun k _=>?_
 rw [cof_tr,Int.mul_comm]
 rfl
theorem mul_assoc (n m:Nat) (A C E:Mt) (i j:Nat):mul m (mul n A C) E i j = mul n A (mul m C E) i j:=by
 simp only [mul]
 have h1:∀ k,(sm n fun l=>A i l * C l k) * E k j = sm n fun l=>A i l * C l k * E k j:=fun k=>(sm_mulr n _ _).symm
 have h2:∀ l,A i l * (sm m fun k=>C l k * E k j) = sm m fun k=>A i l * (C l k * E k j):=fun l=>(sm_mul m _ _).symm
 simp only [h1,h2]
 rw [sm_swap]
 exact sm_congr fun l _=>sm_congr fun k _=>by grind
theorem tr_mul (n:Nat) (A C:Mt):tr (mul n A C) = mul n (tr C) (tr A):=by
 funext i j
 simp only [tr,mul]
 exact sm_congr fun k _=>Int.mul_comm _ _
end Go.Det
namespace Go.Det
section
variable {n:Nat} {D:Mt→Int}
theorem MA.comb (h:MA n D) (T:Mt) (i k:Nat) (hk:k≤i) (hi:i < n) (d:Int) (x:Nat→Int):D (setR T i fun c=>d * T i c + sm k fun r=>x r * T r c) = d * D T:=by
 rw [h.add T i (fun c=>d * T i c) (fun c=>sm k fun r=>x r * T r c) hi,h.smul T i (T i) d hi,setR_self,h.sum T i hi x T k]
 rw [sm_zero fun r hr=>?_]
 · omega
 · rw [h.eq0 (setR T i (T r)) i r hi (by omega) (by omega) fun j _=>by simp only [setR]; rw [if_pos trivial,if_neg (by omega)]]
   omega
def swp2 (i k:Nat) (A:Mt):Mt:=fun r=>if r = i then A k else if r = k then A i else A r
theorem MA.swap (h:MA n D) (A:Mt) (i k:Nat) (hi:i < n) (hk:k < n) (hne:i ≠ k):D (swp2 i k A) = - D A:=by
 have e0:∀ x:Nat→Int,D (setR (setR A i x) k x) = 0:=fun x=>h.eq0 _ i k hi hk hne fun j hj=>by simp only [setR]; rw [if_neg hne,if_pos trivial,if_pos trivial]
 have a2:∀ x y y':Nat→Int,D (setR (setR A i x) k fun c=>y c + y' c) = D (setR (setR A i x) k y) + D (setR (setR A i x) k y'):=fun x y y'=>h.add _ k _ _ hk
 have a1:∀ x x' y:Nat→Int,D (setR (setR A i fun c=>x c + x' c) k y) = D (setR (setR A i x) k y) + D (setR (setR A i x') k y):=fun x x' y=>by
  rw [setR_comm A (fun c=>x c + x' c) y hne,setR_comm A x y hne,setR_comm A x' y hne]
  exact h.add _ i _ _ hi
 have h1:=e0 (fun c=>A i c + A k c)
 rw [a2,a1,a1] at h1
 have h2:=e0 (A i)
 have h3:=e0 (A k)
 have h4:setR (setR A i (A i)) k (A k) = A:=by rw [setR_self,setR_self]
 have h5:setR (setR A i (A k)) k (A i) = swp2 i k A:=by
  funext r c
  simp only [setR,swp2]
  by_cases e:r = k
  · rw [if_pos e,if_neg (by omega),if_pos e]
  · rw [if_neg e,if_neg e]
    by_cases e':r = i
    · rw [if_pos e',if_pos e']
    · rw [if_neg e',if_neg e']
 rw [h4] at h1
 rw [h5] at h1
 omega
end
theorem det_last (n:Nat) (A:Mt) (h:∀ j,j < n→A n j = 0):det (n + 1) A = A n n * det n A:=by
 rw [← det_row n A n (by omega),sm_one (c:=n) (by omega) fun i hi hn=>by rw [h i (by omega),Int.zero_mul]]
 rw [sgn_add,sgn_sq,Int.one_mul]
 congr 1
 exact det_congr fun r c hr hc=>by simp only [minor,skip]; rw [if_pos hr,if_pos hc]
theorem solve (k:Nat) (P:Mt) (u:Nat→Int):∃ x:Nat→Int,∀ c,c < k→det k P * u c + (sm k fun r=>x r * P r c) = 0:=by
 cases k with
 | zero=>exact ⟨fun _=>0,fun c hc=>by omega⟩
 | succ k =>
  refine ⟨fun r=>sm (k + 1) fun q=>(- u q) * adj k P q r,fun c hc=>?_⟩
  have h1:(sm (k + 1) fun r=>(sm (k + 1) fun q=>(- u q) * adj k P q r) * P r c) = mul (k + 1) (mul (k + 1) (fun _ q=>- u q) (adj k P)) P 0 c:=rfl
  rw [h1,mul_assoc]
  have h2:mul (k + 1) (fun _ q=>- u q) (mul (k + 1) (adj k P) P) 0 c = (- u c) * det (k + 1) P:=by
   simp only [mul]
   rw [sm_one (c:=c) hc fun q hq hn=>?_]
   · have:=adj_mul k P c c hc hc
     rw [if_pos rfl] at this
     simp only [mul] at this
     rw [this]
   · have:=adj_mul k P q c hq hc
     rw [if_neg hn] at this
     simp only [mul] at this
     rw [this,Int.mul_zero]
  rw [h2]
  grind
def bm (k:Nat) (A:Mt) (i j:Nat):Int:=det (k + 1) fun r c=>A (if r < k then r else i) (if c < k then c else j)
theorem bm_self (k:Nat) (A:Mt):bm k A k k = det (k + 1) A :=
 det_congr fun r c hr hc=>by grind
theorem bm_tr (k:Nat) (A:Mt) (i j:Nat):bm k (tr A) i j = bm k A j i:=by
 unfold bm
 rw [← det_tr]
 rfl
theorem border {k:Nat} {A:Mt} {i:Nat} {x:Nat→Int} (hd:det k A ≠ 0) (hx:∀ c,c < k→det k A * A i c + (sm k fun r=>x r * A r c) = 0) (j:Nat):bm k A i j = det k A * A i j + sm k fun r=>x r * A r j:=by
 let T:Mt:=fun r c=>A (if r < k then r else i) (if c < k then c else j)
 have h:=(ma_det (k + 1)).comb T k k (Nat.le_refl _) (by omega) (det k A) x
 have hT:∀ c,(det k A * T k c + sm k fun r=>x r * T r c) = det k A * A i (if c < k then c else j) + sm k fun r=>x r * A r (if c < k then c else j):=fun c=>by
  simp only [T]
  rw [if_neg (Nat.lt_irrefl k)]
  congr 1
  exact sm_congr fun r hr=>by rw [if_pos hr]
 rw [det_last] at h
 · rw [show det k (setR T k fun c=>det k A * T k c + sm k fun r=>x r * T r c) = det k A from det_congr fun r c hr hc=>by
    simp only [setR,T]; rw [if_neg (by omega),if_pos hr,if_pos hc]] at h
   rw [show setR T k (fun c=>det k A * T k c + sm k fun r=>x r * T r c) k k = det k A * A i j + sm k fun r=>x r * A r j by
    simp only [setR,if_true]; rw [hT,if_neg (Nat.lt_irrefl k)]] at h
   have h2:det k A * bm k A i j = det k A * (det k A * A i j + sm k fun r=>x r * A r j):=by
    rw [show bm k A i j = det (k + 1) T from rfl,← h,Int.mul_comm]
   exact Int.eq_of_mul_eq_mul_left hd h2
 · intro c hc
   simp only [setR,if_true]
   rw [hT,if_pos hc]
   exact hx c hc
theorem bareiss (k:Nat) (A:Mt) (i j:Nat) (hd:det k A ≠ 0):det k A * bm (k + 1) A i j = bm k A k k * bm k A i j - bm k A i k * bm k A k j:=by
 obtain ⟨x0,hx0⟩:=solve k A (A k)
 obtain ⟨x1,hx1⟩:=solve k A (A i)
 have b0:=border hd hx0
 have b1:=border hd hx1
 let T:Mt:=fun r c=>A (if r < k + 1 then r else i) (if c < k + 1 then c else j)
 let T1:=setR T (k + 1) fun c=>det k A * T (k + 1) c + sm k fun r=>x1 r * T r c
 let T2:=setR T1 k fun c=>det k A * T1 k c + sm k fun r=>x0 r * T1 r c
 have e1:det (k + 2) T1 = det k A * det (k + 2) T:=(ma_det (k + 2)).comb T (k + 1) k (by omega) (by omega) _ x1
 have e2:det (k + 2) T2 = det k A * det (k + 2) T1:=(ma_det (k + 2)).comb T1 k k (by omega) (by omega) _ x0
 have r1:∀ c,T2 (k + 1) c = det k A * A i (if c < k + 1 then c else j) + sm k fun r=>x1 r * A r (if c < k + 1 then c else j):=fun c=>by
  simp only [T2,T1,setR,T]
  rw [if_neg (by omega),if_pos trivial,if_neg (show ¬ k + 1 < k + 1 by omega)]
  congr 1
  exact sm_congr fun r hr=>by rw [if_pos (show r < k + 1 by omega)]
 have r0:∀ c,T2 k c = det k A * A k (if c < k + 1 then c else j) + sm k fun r=>x0 r * A r (if c < k + 1 then c else j):=fun c=>by
  simp only [T2,T1,setR,T]
  rw [if_pos trivial,if_neg (show ¬ k = k + 1 by omega),if_pos (show k < k + 1 by omega)]
  congr 1
  exact sm_congr fun r hr=>by rw [if_neg (show ¬ r = k + 1 by omega),if_pos (show r < k + 1 by omega)]
 have rr:∀ r c,r < k→T2 r c = A r (if c < k + 1 then c else j):=fun r c hr=>by
  simp only [T2,T1,setR,T]
  rw [if_neg (by omega),if_neg (by omega),if_pos (by omega)]
 have z1:∀ c,c < k→T2 (k + 1) c = 0:=fun c hc=>by rw [r1,if_pos (by omega)]; exact hx1 c hc
 have z0:∀ c,c < k→T2 k c = 0:=fun c hc=>by rw [r0,if_pos (by omega)]; exact hx0 c hc
 have v10:T2 (k + 1) k = bm k A i k:=by rw [r1,if_pos (by omega),b1]
 have v11:T2 (k + 1) (k + 1) = bm k A i j:=by rw [r1,if_neg (by omega),b1]
 have v00:T2 k k = bm k A k k:=by rw [r0,if_pos (by omega),b0]
 have v01:T2 k (k + 1) = bm k A k j:=by rw [r0,if_neg (by omega),b0]
 have hm:∀ q,q = k ∨ q = k + 1→det (k + 1) (minor T2 (k + 1) q) = T2 k (skip q k) * det k A:=fun q hq=>by
  rw [det_last]
  · congr 1
    · simp only [minor]; rw [show skip (k + 1) k = k by simp [skip]]
    · refine det_congr fun r c hr hc=>?_
      simp only [minor]
      rw [show skip (k + 1) r = r by simp only [skip]; rw [if_pos (by omega)],show skip q c = c by simp only [skip]; rw [if_pos (by omega)],rr r c hr,if_pos (by omega)]
  · intro c hc
    simp only [minor]
    rw [show skip (k + 1) k = k by simp [skip],show skip q c = c by simp only [skip]; rw [if_pos (by omega)]]
    exact z0 c hc
 have hx:=det_row (k + 1) T2 (k + 1) (by omega)
 rw [sm_two (c:=k) (by omega) fun c hc h1 h2=>by rw [z1 c (by omega),Int.zero_mul]] at hx
 rw [hm k (.inl rfl),hm (k + 1) (.inr rfl),show skip k k = k + 1 by simp [skip],show skip (k + 1) k = k by simp [skip],v10,v11,v00,v01] at hx
 rw [show k + 1 + k = k + k + 1 by omega,sgn_succ,sgn_add,sgn_sq,sgn_add,sgn_sq] at hx
 have hT:det (k + 2) T = bm (k + 1) A i j:=rfl
 rw [e1,hT] at e2
 have:det k A * (det k A * bm (k + 1) A i j) = det k A * (bm k A k k * bm k A i j - bm k A i k * bm k A k j):=by
  rw [← e2,← hx]
  grind
 exact Int.eq_of_mul_eq_mul_left hd this
theorem no_pivot (n k:Nat) (A:Mt) (hk:k < n) (hd:det k A ≠ 0) (h:∀ i,k≤i→i < n→bm k A i k = 0):det n A = 0:=by
 have hd':det k (tr A) ≠ 0:=by rw [det_tr]; exact hd
 obtain ⟨x,hx⟩:=solve k (tr A) (tr A k)
 have hb:=border hd' hx
 have h1:=(ma_det n).comb (tr A) k k (Nat.le_refl _) hk (det k (tr A)) x
 rw [(ma_det n).zero (tr A) k _ hk fun c hc=>?_,det_tr n] at h1
 · have:=h1.symm
   rcases Int.mul_eq_zero.1 this with h | h
   · exact absurd h hd'
   · exact h
 · by_cases hck:c < k
   · exact hx c hck
   · rw [← hb c,bm_tr]; exact h c (by omega) hc
end Go.Det
namespace Go.Proofs.YtncbjgblcofddaaGreatDoor
open Go.Det
theorem findP_spec (n k:Nat) (M:Nat→Nat→Int):∀ (fuel p:Nat),p + fuel = n→p≤findP n k M fuel p∧findP n k M fuel p≤n∧(∀ q,p≤q→q < findP n k M fuel p→M q k = 0)∧(findP n k M fuel p < n→M (findP n k M fuel p) k ≠ 0):=by
 intro fuel
 induction fuel with
 | zero=>intro p hp; simp only [findP]; exact ⟨Nat.le_refl _,by omega,fun q h1 h2=>by omega,fun h=>by omega⟩
 | succ fuel ih =>
  intro p hp
  simp only [findP]
  split
  · rename_i h
    obtain ⟨h1,h2,h3,h4⟩:=ih (p + 1) (by omega)
    refine ⟨by omega,h2,fun q hq hq2=>?_,h4⟩
    by_cases e:q = p
    · rw [e]; exact h.2
    · exact h3 q (by omega) hq2
  · rename_i h
    exact ⟨Nat.le_refl _,by omega,fun q h1 h2=>by omega,fun hlt h0=>h ⟨hlt,h0⟩⟩
theorem pivot_spec {n k:Nat} (M:Nat→Nat→Int) (hk:k≤n):k≤pivot n k M∧pivot n k M≤n∧(∀ q,k≤q→q < pivot n k M→M q k = 0)∧(pivot n k M < n→M (pivot n k M) k ≠ 0):=findP_spec n k M (n - k) k (by omega)
theorem swp_id {α:Type} (k:Nat) (M:Nat→α):swp k k M = M:=by
 funext i
 simp only [swp]
 split
 · rename_i h; rw [h]
 · rfl
theorem det_swp {n k p:Nat} (A:Mt) (hk:k < n) (hp:p < n):det n (swp k p A) = if p = k then det n A else - det n A:=by
 split
 · rename_i h; rw [h,swp_id]
 · rename_i h; exact (ma_det n).swap A k p hk hp (fun e=>h e.symm)
theorem bm_swp {k p i j:Nat} (A:Mt) (hp:k≤p) (_hi:k≤i):bm k (swp k p A) i j = swp k p (bm k A) i j:=by
 have key:∀ i',swp k p A i = A i'→bm k (swp k p A) i j = bm k A i' j:=fun i' hi'=>by
  unfold bm
  refine det_congr fun r c _ _=>?_
  by_cases hr:r < k
  · simp only [if_pos hr]
    simp only [swp]
    rw [if_neg (by omega),if_neg (by omega)]
  · simp only [if_neg hr]
    rw [hi']
 by_cases e:i = k
 · rw [key p (by simp only [swp]; rw [if_pos e])]; simp only [swp]; rw [if_pos e]
 · by_cases e2:i = p
   · rw [key k (by simp only [swp]; rw [if_neg e,if_pos e2])]; simp only [swp]; rw [if_neg e,if_pos e2]
   · rw [key i (by simp only [swp]; rw [if_neg e,if_neg e2])]; simp only [swp]; rw [if_neg e,if_neg e2]
theorem det_swp_low {k p:Nat} (A:Mt) (hp:k≤p):det k (swp k p A) = det k A :=
 det_congr fun r c hr _=>by simp only [swp]; rw [if_neg (by omega),if_neg (by omega)]
theorem bm_zero (A:Mt) (i j:Nat):bm 0 A i j = A i j:=by
 simp [bm,det,sm,sgn]
theorem elim_bm {n k:Nat} {M A:Mt} {last:Int} (hk:k < n) (hl:det k A = last) (h0:last ≠ 0) (hM:∀ i j,k≤i→i < n→k≤j→j < n→M i j = bm k A i j) (i j:Nat) (hi:k + 1≤i) (hi2:i < n) (hj:k + 1≤j) (hj2:j < n) :
 elim k last M i j = bm (k + 1) A i j:=by
 simp only [elim]
 rw [if_pos (by omega),hM k k (by omega) hk (by omega) hk,hM i j (by omega) hi2 (by omega) hj2,hM i k (by omega) hi2 (by omega) hk,hM k j (by omega) hk (by omega) hj2]
 rw [← bareiss k A i j (by rw [hl]; exact h0),hl]
 exact Int.mul_ediv_cancel_left _ h0
theorem detGo_det (n:Nat):∀ (m k:Nat) (M A:Mt) (neg:Bool) (last:Int),k + m = n→det k A = last→last ≠ 0→(∀ i j,k≤i→i < n→k≤j→j < n→M i j = bm k A i j) →
 detGo n m k M neg last = if neg then - det n A else det n A:=by
 intro m
 induction m with
 | zero =>
  intro k M A neg last hk hl _ _
  obtain rfl:k = n:=by omega
  simp only [detGo]
  rw [hl]
 | succ m ih =>
  intro k M A neg last hk hl h0 hM
  obtain ⟨p1,p2,p3,p4⟩:=pivot_spec M (show k≤n by omega)
  simp only [detGo]
  by_cases hp:pivot n k M = n
  · rw [if_pos hp]
    have:=no_pivot n k A (by omega) (by rw [hl]; exact h0) fun i hi hi2=>by rw [← hM i k hi hi2 (Nat.le_refl _) (by omega)]; exact p3 i hi (by omega)
    rw [this]; simp
  · rw [if_neg hp]
    have hpn:pivot n k M < n:=by omega
    have hpv:=p4 hpn
    generalize pivot n k M = p at *
    have hM':∀ i j,k≤i→i < n→k≤j→j < n→swp k p M i j = bm k (swp k p A) i j:=fun i j hi hi2 hj hj2=>by
     rw [bm_swp A p1 hi]
     simp only [swp]
     by_cases e:i = k
     · rw [if_pos e,if_pos e]; exact hM p j p1 hpn hj hj2
     · rw [if_neg e,if_neg e]
       by_cases e2:i = p
       · rw [if_pos e2,if_pos e2]; exact hM k j (Nat.le_refl _) (by omega) hj hj2
       · rw [if_neg e2,if_neg e2]; exact hM i j hi hi2 hj hj2
    have hkk:swp k p M k k = M p k:=by simp [swp]
    have hl':det k (swp k p A) = last:=by rw [det_swp_low A p1,hl]
    rw [ih (k + 1) _ (swp k p A) _ (swp k p M k k) (by omega) ?_ (by rw [hkk]; exact hpv) ?_]
    · rw [det_swp A (by omega) hpn]
      cases neg <;> by_cases e:p = k <;> simp [e]
    · rw [hM' k k (Nat.le_refl _) (by omega) (Nat.le_refl _) (by omega),bm_self]
    · intro i j hi hi2 hj hj2
      exact elim_bm (by omega) hl' h0 hM' i j hi hi2 hj hj2
theorem detB_det (n:Nat) (M:Mt):detB n M = det n M:=by
 have:=detGo_det n n 0 M M false 1 (by omega) rfl (by decide) fun i j _ _ _ _=>(bm_zero M i j).symm
 simpa [detB] using this
end Go.Proofs.YtncbjgblcofddaaGreatDoor
namespace Go.Proofs.YtncbjgblcofddaaGreatDoor
open Go.Det
theorem sumTo_sm (n:Nat) (f:Nat→Int):sumTo n f = sm n f:=by
 induction n with
 | zero=>rfl
 | succ n ih=>simp only [sumTo,sm]; rw [ih]
theorem mulM_mul (n:Nat) (X Y:Nat→Nat→Int):mulM n X Y = mul n X Y:=by
 funext i j
 simp only [mulM,mul,sumTo_sm]
theorem mul_congr {n i j:Nat} {A C E:Mt} (h:∀ k,k < n→C k j = E k j):mul n A C i j = mul n A E i j:=sm_congr fun k hk=>by rw [h k hk]
end Go.Proofs.YtncbjgblcofddaaGreatDoor
