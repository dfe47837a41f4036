import Derived.Test.YtmfndnlifgphjaaGreatQz0
set_option maxHeartbeats 64000000
namespace Go.bc
abbrev Mt:=Nat->Nat->Int
def sm:Nat->(Nat->Int)->Int
 |0,_=>0
 |k+1,f=>sm k f+f k
theorem aO{n:Nat}{f g:Nat->Int}(h:∀i,i<n->f i=g i):sm n f=sm n g:=by
 induction n with
 |zero=>rfl
 |succ n a=>simp only[sm];rw[a λi a=>h i aq,h n aq]
theorem iD{n:Nat}{f:Nat->Int}(h:∀i,i<n->f i=0):sm n f=0:=by
 induction n with
 |zero=>rfl
 |succ n a=>simp only[sm];rw[a λi a=>h i aq,h n aq];rfl
theorem e8(n:Nat)(f g:Nat->Int)(a b:Int):sm n (λi=>a*f i+b*g i)=a*sm n f+b*sm n g:=by
 induction n with
 |zero=>simp[sm]
 |succ n c=>simp only[sm];rw[c];grind
theorem pn(n:Nat)(f g:Nat->Int):sm n (λi=>f i+g i)=sm n f+sm n g:=by
 induction n with
 |zero=>rfl
 |succ n a=>simp only[sm];rw[a];grind
theorem dD(n:Nat)(f:Nat->Int)(a:Int):sm n (λi=>a*f i)=a*sm n f:=by
 induction n with
 |zero=>simp[sm]
 |succ n b=>simp only[sm];rw[b];grind
theorem oT(n:Nat)(f:Nat->Int)(a:Int):sm n (λi=>f i*a)=sm n f*a:=by
 induction n with
 |zero=>simp[sm]
 |succ n b=>simp only[sm];rw[b];grind
theorem cG{n c:Nat}{f:Nat->Int}(b:c<n)(h:∀i,i<n->i≠c->f i=0):sm n f=f c:=by
 induction n with
 |zero=>omega
 |succ n a=>
  simp only[sm];by_cases e:c=n
  ·subst e;rw[iD λi b=>h i aq aq];omega
  ·rw[a aq λi b a=>h i aq a,h n aq aq];omega
theorem AT{n c:Nat}{f:Nat->Int}(a:c+1<n)(h:∀i,i<n->i≠c->i≠c+1->f i=0):sm n f=f c+f (c+1):=by
 induction n with
 |zero=>omega
 |succ n b=>
  simp only[sm];by_cases e:c+1=n
  ·subst e;rw[cG (c:=c) aq λi d a=>h i aq a aq]
  ·rw[b aq λi d a b=>h i aq a b,h n aq aq aq];omega
theorem oS(n m:Nat)(f:Nat->Nat->Int):sm n (λi=>sm m λj=>f i j)=sm m λj=>sm n λi=>f i j:=by
 induction n with
 |zero=>simp only[sm];rw[iD λ_ _=>rfl]
 |succ n a=>simp only[sm];rw[a,<-pn]
def skip(j k:Nat):Nat:=if k<j then k else k+1
def minor(A:Mt)(i j:Nat):Mt:=λr c=>A (skip i r) (skip j c)
def fq(j:Nat):Int:=if j%2=0 then 1 else -1
theorem j4(j:Nat):fq (j+1)=- fq j:=by
 unfold fq;split<;>split<;>omega
theorem se(j:Nat):fq j*fq j=1:=by unfold fq;split<;>rfl
theorem oU(i j:Nat):fq (i+j)=fq i*fq j:=by
 induction j with
 |zero=>simp[fq]
 |succ j a=>rw[<-Nat.add_assoc,j4,a,j4];grind
def aQ:Nat->Mt->Int
 |0,_=>1
 |n+1,A=>sm (n+1) λj=>fq j*A 0 j*aQ n (minor A 0 j)
def tr(A:Mt):Mt:=λi j=>A j i
def one:Mt:=λi j=>if i=j then 1 else 0
theorem dV(k:Nat):skip 0 k=k+1:=by simp[skip]
theorem iE{n j k:Nat}(a:k<n):skip j k<n+1:=by unfold skip;split<;>omega
theorem aY{n:Nat}:∀{A C:Mt},(∀i j,i<n->j<n->A i j=C i j)->aQ n A=aQ n C:=by
 induction n with
 |zero=>intro A C _;rfl
 |succ n a=>
  intro A C h;simp only[aQ];refine aO λj b=>?_;rw[h 0 j aq b,a (A:=minor A 0 j) (C:=minor C 0 j) λr c a b=>h _ _ (iE a) (iE b)]
def bJ(A:Mt)(i:Nat)(u:Nat->Int):Mt:=λr c=>if r=i then u c else A r c
def mC(A:Mt)(j:Nat)(u:Nat->Int):Mt:=λr c=>if c=j then u r else A r c
theorem iR(A:Mt)(c:Nat)(w:Nat->Int):minor (mC A c w) 0 c=minor A 0 c:=by
 funext r k;simp only[minor,mC];rw[aa];unfold skip;split<;>omega
def low(j c:Nat):Nat:=if j<c then c-1 else c
theorem mE(A:Mt)(c j:Nat)(w:Nat->Int)(h:j≠c):minor (mC A c w) 0 j=mC (minor A 0 j) (low j c) (λr=>w (r+1)):=by
 funext r k;simp only[minor,mC,dV];have:skip j k=c↔k=low j c:=by unfold skip low;split<;>split<;>omega
 simp only[this]
theorem Ce{n:Nat}:∀(A:Mt) (c:Nat) (u v:Nat->Int) (a b:Int),c<n->aQ n (mC A c λr=>a*u r+b*v r)=a*aQ n (mC A c u)+b*aQ n (mC A c v):=by
 induction n with
 |zero=>intro A c u v a b h;omega
 |succ n d=>
  intro A c u v a b f;simp only[aQ];rw[<-e8];refine aO λj f=>?_;by_cases e:j=c
  ·subst e;rw[iR,iR,iR];simp only[mC,if_true];grind
  ·rw[mE _ _ _ _ e,mE _ _ _ _ e,mE _ _ _ _ e];rw[d (minor A 0 j) (low j c) (λr=>u (r+1)) (λr=>v (r+1)) a b (by unfold low;split<;>omega)];simp only[mC,aa e];grind
theorem Cf{n:Nat}:∀(A:Mt) (c:Nat),c+1<n->(∀r,r<n->A r c=A r (c+1))->aQ n A=0:=by
 induction n with
 |zero=>intro A c h;omega
 |succ n a=>
  intro A c d h;simp only[aQ];rw[AT d λj d d d=>?_]
  ·rw[j4,h 0 aq,aY (A:=minor A 0 c) (C:=minor A 0 (c+1)) λr k b d=>?_]
   ·grind
   ·simp only[minor,dV];by_cases e:k=c
    ·subst e;rw[show skip k k=k+1 by simp[skip],show skip (k+1) k=k by simp[skip],h (r+1) aq]
    ·rw[show skip c k=skip (c+1) k by unfold skip;split<;>split<;>omega]
  ·rw[a (minor A 0 j) (low j c) (by unfold low;split<;>omega) λr b=>?_]
   ·grind
   ·simp only[minor,dV];rw[show skip j (low j c)=c by unfold skip low;split<;>split<;>omega,show skip j (low j c+1)=c+1 by unfold skip low;split<;>split<;>omega];exact h _ aq
structure MA(n:Nat)(D:Mt->Int):Prop where
 congr:∀A C:Mt,(∀i j,i<n->j<n->A i j=C i j)->D A=D C
 kT:∀(A:Mt) (i:Nat) (u v:Nat->Int) (a b:Int),i<n->D (bJ A i λc=>a*u c+b*v c)=a*D (bJ A i u)+b*D (bJ A i v)
 alt:∀(A:Mt) (i:Nat),i+1<n->(∀j,j<n->A i j=A (i+1) j)->D A=0
theorem FW(n:Nat):MA n λA=>aQ n (tr A):=
 ⟨λ_ _ h=>aY λi j c a=>h j i a c,λA i u v a b c=>Ce (tr A) i u v a b c,λA i c h=>Cf (tr A) i c λr a=>h r a⟩
theorem fD(A:Mt)(i:Nat):bJ A i (A i)=A:=by
 funext r c;simp only[bJ];split
 ·rename_i h;rw[h]
 ·rfl
theorem jl(A:Mt){i k:Nat}(u v:Nat->Int)(h:i≠k):bJ (bJ A i u) k v=bJ (bJ A k v) i u:=by
 funext r c;simp only[bJ];split
 ·rename_i e;rw[aa aq]
 ·rfl
section
variable {n:Nat}{D:Mt->Int}
theorem MA.add(h:MA n D)(A:Mt)(i:Nat)(u v:Nat->Int)(a:i<n):D (bJ A i λc=>u c+v c)=D (bJ A i u)+D (bJ A i v):=by
 have:=h.kT A i u v 1 1 a;simp only[Int.one_mul]at this;exact this
theorem MA.smul(h:MA n D)(A:Mt)(i:Nat)(u:Nat->Int)(a:Int)(b:i<n):D (bJ A i λc=>a*u c)=a*D (bJ A i u):=by
 have:=h.kT A i u u a 0 b;simp only[Int.zero_mul,Int.add_zero]at this;exact this
theorem MA.zero(h:MA n D)(A:Mt)(i:Nat)(u:Nat->Int)(b:i<n)(a:∀c,c<n->u c=0):D (bJ A i u)=0:=by
 have:=h.smul A i u 0 b;rw[h.congr (bJ A i u) (bJ A i λc=>0*u c) λr c _ b=>?_,this,Int.zero_mul];simp only[bJ,a c b,Int.zero_mul]
def mf(A:Mt)(i:Nat):Mt:=λr c=>if r=i then A (i+1) c else if r=i+1 then A i c else A r c
theorem MA.mf(h:MA n D)(A:Mt)(i:Nat)(a:i+1<n):D (mf A i)=- D A:=by
 have b:∀x:Nat->Int,D (bJ (bJ A i x) (i+1) x)=0:=λx=>h.alt _ i a λj a=>by simp[bJ]
 have e:∀x y a:Nat->Int,D (bJ (bJ A i x) (i+1) λc=>y c+a c)=D (bJ (bJ A i x) (i+1) y)+D (bJ (bJ A i x) (i+1) a):=λx y a=>h.add _ (i+1) _ _ aq;have d:∀x a y:Nat->Int,D (bJ (bJ A i λc=>x c+a c) (i+1) y)=D (bJ (bJ A i x) (i+1) y)+D (bJ (bJ A i a) (i+1) y):=λx a y=>by
  rw[jl A (λc=>x c+a c) y aq,jl A x y aq,jl A a y aq];exact h.add _ i _ _ aq
 have a:=b λc=>A i c+A (i+1) c;rw[e,d,d]at a;have d:=b (A i);have d:=b (A (i+1));have d:bJ (bJ A i (A i)) (i+1) (A (i+1))=A:=by rw[fD,fD]
 have b:bJ (bJ A i (A (i+1))) (i+1) (A i)=Go.bc.mf A i:=by
  funext r c;simp only[bJ,Go.bc.mf];by_cases e:r=i
  ·rw[aa aq,ae e,ae e]
  ·rw[aa e,aa e]
 rw[d]at a;rw[b]at a;omega
theorem MA.Ib(h:MA n D):∀(d:Nat) (A:Mt) (i:Nat),i+1+d<n->(∀j,j<n->A i j=A (i+1+d) j)->D A=0:=by
 intro d;induction d with
 |zero=>intro A i b a;exact h.alt A i b a
 |succ d c=>
  intro A i b a;have b:=h.mf A (i+1+d) aq;have b:=c (Go.bc.mf A (i+1+d)) i aq λj b=>by
   simp only[Go.bc.mf];rw[aa aq,aa aq,ae trivial];exact a j b
  omega
theorem MA.GO(h:MA n D)(A:Mt)(i k:Nat)(a:i<n)(a:k<n)(a:i≠k)(b:∀j,j<n->A i j=A k j):D A=0:=by
 rcases Nat.lt_or_gt_of_ne a with a|a
 ·exact h.Ib (k-i-1) A i aq λj a=>by rw[b j a];congr 1;omega
 ·exact h.Ib (i-k-1) A k aq λj a=>by rw[<-b j a];congr 1;omega
theorem MA.CH(h:MA n D)(A:Mt)(i k:Nat)(t:Int)(a:i<n)(d:k<n)(b:i≠k):D (bJ A i λc=>A i c+t*A k c)=D A:=by
 rw[h.add A i (A i) _ a,h.smul A i (A k) t a,fD];rw[h.GO (bJ A i (A k)) i k a d b λj _=>by simp only[bJ];rw[ae trivial,aa aq]];omega
theorem MA.sum(h:MA n D)(A:Mt)(i:Nat)(a:i<n)(x:Nat->Int)(u:Nat->Nat->Int):∀m,D (bJ A i λc=>sm m λj=>x j*u j c)=sm m λj=>x j*D (bJ A i (u j)):=by
 intro m;induction m with
 |zero=>simp only[sm];exact h.zero A i _ a λ_ _=>rfl
 |succ m b=>simp only[sm];rw[h.add A i _ _ a,b,h.smul A i _ _ a]
def mv(j:Nat)(A:Mt):Mt:=λr c=>if r=0 then A j c else if r<=j then A (r-1) c else A r c
theorem MA.mv(h:MA n D):∀(j:Nat) (A:Mt),j<n->D (mv j A)=fq j*D A:=by
 intro j;induction j with
 |zero=>
  intro A _;have:Go.bc.mv 0 A=A:=by
   funext r c;simp only[Go.bc.mv];by_cases e:r=0
   ·rw[ae e,e]
   ·rw[aa e,aa aq]
  rw[this];simp[fq]
 |succ j b=>
  intro A f;have:Go.bc.mv (j+1) A=Go.bc.mv j (Go.bc.mf A j):=by
   funext r c;simp only[Go.bc.mv,Go.bc.mf];by_cases e:r=0
   ·simp[e]
   ·rw[aa e,aa e];by_cases a:r<=j
    ·rw[ae aq,ae a,aa aq,aa aq]
    ·by_cases d:r=j+1
     ·subst d;rw[ae aq,aa a,aa aq,ae F];rfl
     ·rw[aa aq,aa a,aa aq,aa aq]
  rw[this,b _ aq,h.mf A j aq,j4];grind
end
def ins(j:Nat)(M:Mt):Mt:=λr c=>if r=0 then(if c=j then 1 else 0)else if c=j then 0 else M (r-1) (low j c)
def kB(j k:Nat)(A:Mt):Mt:=λr c=>if 1<=r/\r<=k/\c=j then 0 else A r c
theorem MA.kB{n:Nat}{D:Mt->Int}(h:MA (n+1) D)(j:Nat)(A:Mt)(b:∀c,c<n+1->A 0 c=if c=j then 1 else 0):∀k,k<=n->D (kB j k A)=D A:=by
 intro k;induction k with
 |zero=>intro _;exact h.congr _ _ λr c _ _=>by simp only[Go.bc.kB];rw[aa aq]
 |succ k a=>
  intro d;rw[<-a aq,<-h.CH (Go.bc.kB j k A) (k+1) 0 (- A (k+1) j) aq aq aq];refine h.congr _ _ λr c a a=>?_;simp only[Go.bc.kB,bJ];have d:=b c a;grind
theorem GC{n:Nat}{D:Mt->Int}(h:MA (n+1) D)(j:Nat)(a:j<n+1):MA n λM=>D (ins j M):=by
 refine⟨λA C f=>h.congr _ _ λr c a k=>?_,λA i u v a b d=>?_,λA i d g=>?_⟩
 ·simp only[ins];by_cases e:r=0
  ·rw[ae e,ae e]
  ·rw[aa e,aa e];by_cases d:c=j
   ·rw[ae d,ae d]
   ·rw[aa d,aa d];exact f _ _ aq (by unfold low;split<;>omega)
 ·have e:∀w:Nat->Int,ins j (bJ A i w)=bJ (ins j A) (i+1) λc=>if c=j then 0 else w (low j c):=by
   intro w;funext r c;simp only[ins,bJ];grind
  show D (ins j _)=a*D (ins j _)+b*D (ins j _);rw[e,e,e,<-h.kT _ _ _ _ _ _ aq];congr 2;funext c;split<;>simp
 ·refine h.alt _ (i+1) aq λc k=>?_;simp only[ins];rw[aa (show¬i+1=0 by omega),aa (show¬i+1+1=0 by omega)];by_cases d:c=j
  ·rw[ae d,ae d]
  ·rw[aa d,aa d];exact g _ (by unfold low;split<;>omega)
theorem Eo(j:Nat):ins j one=mv j one:=by
 funext r c;simp only[ins,mv,one,low];grind
theorem MA.unique{n:Nat}:∀{D:Mt->Int},MA n D->∀A,D A=aQ n A*D one:=by
 induction n with
 |zero=>intro D h A;simp only[aQ,Int.one_mul];exact h.congr _ _ λi _ f=>aq
 |succ n o=>
  intro D h A;have s:D A=sm (n+1) λj=>A 0 j*D (bJ A 0 (one j)):=by
   rw[<-h.sum A 0 aq (A 0) one];refine h.congr _ _ λr c p g=>?_;simp only[bJ];split
   ·rename_i e;rw[cG (c:=c) g λi _ f=>by simp[one,f],e];simp[one]
   ·rfl
  rw[s];simp only[aQ];rw[<-oT];refine aO λj d=>?_;have q:D (bJ A 0 (one j))=D (ins j (minor A 0 j)):=by
   rw[<-h.kB j (bJ A 0 (one j)) (λc _=>by simp only[bJ,one,if_true];split<;>split<;>first|rfl|omega) n aq];refine h.congr _ _ λr c p g=>?_;simp only[Go.bc.kB,ins,bJ,minor,one,dV];by_cases e:r=0
   ·subst e;simp[eq_comm]
   ·rw[aa e,aa e];by_cases k:c=j
    ·rw[ae aq,ae k]
    ·rw[aa aq,aa k,show r-1+1=r by omega,show skip j (low j c)=c by unfold skip low;split<;>split<;>omega]
  rw[q,o (GC h j d) (minor A 0 j),Eo,h.mv j one d];grind
theorem sZ(n:Nat):aQ n one=1:=by
 induction n with
 |zero=>rfl
 |succ n a=>
  simp only[aQ];rw[cG (c:=0) aq λi _ b=>by simp[one,Ne.symm b]];rw[aY (C:=one) λi j _ _=>by simp[minor,one,dV],a];simp[one,fq]
theorem df(n:Nat)(A:Mt):aQ n (tr A)=aQ n A:=by
 rw[(FW n).unique A,show tr one=one by funext i j;simp[tr,one,eq_comm],sZ,Int.mul_one]
theorem eI(n:Nat):MA n (aQ n):=by
 have h:=FW n;have e:(λA=>aQ n (tr A))=aQ n:=funext λA=>df n A;rw[e]at h;exact h
def mul(n:Nat)(A C:Mt):Mt:=λi j=>sm n λk=>A i k*C k j
theorem mul_one(n:Nat)(A:Mt)(i j:Nat)(a:j<n):mul n A one i j=A i j:=by
 simp only[mul];rw[cG (c:=j) a λk _ a=>by simp[one,a]];simp[one]
theorem one_mul(n:Nat)(A:Mt)(i j:Nat)(a:i<n):mul n one A i j=A i j:=by
 simp only[mul];rw[cG (c:=i) a λk _ a=>by simp[one,Ne.symm a]];simp[one]
theorem fV(n:Nat)(A C:Mt):aQ n (mul n A C)=aQ n A*aQ n C:=by
 have h:MA n λA=>aQ n (mul n A C):=by
  refine⟨λA a a=>aY λi j d g=>aO λk f=>by rw[a i k d f],λA i u v a b d=>?_,λA i d l=>?_⟩
  ·have e:∀w:Nat->Int,mul n (bJ A i w) C=bJ (mul n A C) i λc=>sm n λk=>w k*C k c:=by
    intro w;funext r c;simp only[mul,bJ];split<;>rfl
   show aQ n (mul n _ C)=a*aQ n (mul n _ C)+b*aQ n (mul n _ C);rw[e,e,e,<-(eI n).kT _ _ _ _ _ _ d];congr 2;funext c;rw[<-e8];exact aO λk _=>aC
  ·exact(eI n).alt _ i d λj g=>aO λk f=>by rw[l k f]
 rw[h.unique A,aY λi j d _=>one_mul n C i j d]
theorem jd(n:Nat)(A:Mt)(i:Nat)(a:i<n+1):(sm (n+1) λj=>A i j*(fq (i+j)*aQ n (minor A i j)))=aQ (n+1) A:=by
 have h:=(eI (n+1)).mv i A a;have b:aQ (n+1) (mv i A)=sm (n+1) λj=>fq j*A i j*aQ n (minor A i j):=by
  simp only[aQ];refine aO λj a=>?_;rw[show minor (mv i A) 0 j=minor A i j from ?_]
  ·rfl
  ·funext r c;simp only[minor,mv,dV];rw[aa aq];unfold skip;by_cases e:r<i
   ·rw[ae aq,ae e,show r+1-1=r by omega]
   ·rw[aa aq,aa e]
 have a:fq i*aQ (n+1) (mv i A)=aQ (n+1) A:=by rw[h,<-Int.mul_assoc,se,Int.one_mul]
 rw[<-a,b,<-dD];refine aO λj _=>?_;rw[oU];grind
def s6(n:Nat)(A:Mt)(i j:Nat):Int:=fq (i+j)*aQ n (minor A i j)
theorem yl(n:Nat)(A:Mt)(i k:Nat)(a:i<n+1)(b:k<n+1):(sm (n+1) λj=>A k j*s6 n A i j)=if i=k then aQ (n+1) A else 0:=by
 split
 ·rename_i e;subst e;exact jd n A i a
 ·rename_i e;have h:=jd n (bJ A i (A k)) i a;rw[(eI (n+1)).GO (bJ A i (A k)) i k a b e λj _=>by simp only[bJ];rw[ae trivial,aa aq]]at h;rw[<-h];refine aO λj _=>?_;have:minor (bJ A i (A k)) i j=minor A i j:=by
   funext r c;simp only[minor,bJ];rw[aa];unfold skip;split<;>omega
  rw[this];simp[bJ,s6]
theorem Bq(A:Mt)(i j:Nat):minor (tr A) i j=tr (minor A j i):=F
theorem Cp(n:Nat)(A:Mt)(i j:Nat):s6 n (tr A) i j=s6 n A j i:=by
 unfold s6;rw[Bq,df,Nat.add_comm]
def fa(n:Nat)(A:Mt):Mt:=λi j=>s6 n A j i
theorem jJ(n:Nat)(A:Mt)(i j:Nat)(b:i<n+1)(a:j<n+1):mul (n+1) A (fa n A) i j=if i=j then aQ (n+1) A else 0:=by
 have:=yl n A j i a b;simp only[mul,fa];rw[this];simp only[eq_comm]
theorem jf(n:Nat)(A:Mt)(i j:Nat)(b:i<n+1)(a:j<n+1):mul (n+1) (fa n A) A i j=if i=j then aQ (n+1) A else 0:=by
 have:=yl n (tr A) i j b a;rw[df]at this;rw[<-this];simp only[mul,fa];refine aO λk _=>?_;rw[Cp,Int.mul_comm];rfl
theorem mul_assoc(n m:Nat)(A C E:Mt)(i j:Nat):mul m (mul n A C) E i j=mul n A (mul m C E) i j:=by
 simp only[mul];have b:∀k,(sm n λl=>A i l*C l k)*E k j=sm n λl=>A i l*C l k*E k j:=λk=>(oT n _ _).symm;have a:∀l,A i l*(sm m λk=>C l k*E k j)=sm m λk=>A i l*(C l k*E k j):=λl=>(dD m _ _).symm;simp only[b,a];rw[oS];exact aO λl _=>aO λk _=>aC
theorem ph(n:Nat)(A C:Mt):tr (mul n A C)=mul n (tr C) (tr A):=by
 funext i j;simp only[tr,mul];exact aO λk _=>Int.mul_comm _ _
end Go.bc
namespace Go.Sm
section
open Go.bc
theorem dSm{e:Int}:∀{n:Nat} {f:Nat->Int},(∀i,i<n->e∣f i)->e∣sm n f:=by
 intro n;induction n with
 |zero=>intro f _;exact⟨0,by simp[sm]⟩
 |succ n a=>intro f h;exact Int.dvd_add (a λi a=>h i aq) (h n aq)
structure Inv(n:Nat)(X X':Mt):Prop where
 r:∀i j,i<n->j<n->mul n X X' i j=one i j
 l:∀i j,i<n->j<n->mul n X' X i j=one i j
theorem mul_congr{n:Nat}{A A' C C':Mt}{i j:Nat}(h:∀k,k<n->A i k=A' i k)(h':∀k,k<n->C k j=C' k j):mul n A C i j=mul n A' C' i j:=aO λk a=>by rw[h k a,h' k a]
theorem Inv.symm{n:Nat}{X a:Mt}(h:Inv n X a):Inv n a X:=⟨h.l,h.r⟩
theorem Inv.one(n:Nat):Inv n one one:=⟨λi j _ a=>mul_one n _ i j a,λi j _ a=>mul_one n _ i j a⟩
theorem Inv.mul{n:Nat}{X b Y f:Mt}(h:Inv n X b)(g:Inv n Y f):Inv n (Go.bc.mul n X Y) (Go.bc.mul n f b):=by
 refine⟨λi j e d=>?_,λi j e d=>?_⟩
 ·rw[mul_assoc];rw[mul_congr (A':=X) (C':=b) (λk _=>rfl) λk a=>by
   rw[<-mul_assoc,mul_congr (A':=Go.bc.one) (C':=b) (λt c=>g.r k t a c) λt _=>rfl,one_mul n b k j a]]
  exact h.r i j e d
 ·rw[mul_assoc];rw[mul_congr (A':=f) (C':=Y) (λk _=>rfl) λk a=>by
   rw[<-mul_assoc,mul_congr (A':=Go.bc.one) (C':=Y) (λt c=>h.l k t a c) λt _=>rfl,one_mul n Y k j a]]
  exact g.l i j e d
theorem Inv.aQ{n:Nat}{X a:Mt}(h:Inv n X a):Go.bc.aQ n X*Go.bc.aQ n a=1:=by
 rw[<-fV,aY h.r,sZ]
theorem Inv.sL{n:Nat}{X:Mt}(a:Go.bc.aQ (n+1) X=1\/Go.bc.aQ (n+1) X=-1):Inv (n+1) X (λi j=>Go.bc.aQ (n+1) X*fa n X i j):=by
 have c:Go.bc.aQ (n+1) X*Go.bc.aQ (n+1) X=1:=by rcases a with h|h<;>rw[h]<;>rfl
 refine⟨λi j b a=>?_,λi j b a=>?_⟩
 ·have:Go.bc.mul (n+1) X (λi j=>Go.bc.aQ (n+1) X*fa n X i j) i j=Go.bc.aQ (n+1) X*Go.bc.mul (n+1) X (fa n X) i j:=by
   simp only[Go.bc.mul];rw[<-dD];exact aO λk _=>aC
  rw[this,jJ n X i j b a];simp only[Go.bc.one];by_cases e:i=j
  ·rw[ae e,ae e,c]
  ·rw[aa e,aa e,Int.mul_zero]
 ·have:Go.bc.mul (n+1) (λi j=>Go.bc.aQ (n+1) X*fa n X i j) X i j=Go.bc.aQ (n+1) X*Go.bc.mul (n+1) (fa n X) X i j:=by
   simp only[Go.bc.mul];rw[<-dD];exact aO λk _=>aC
  rw[this,jf n X i j b a];simp only[Go.bc.one];by_cases e:i=j
  ·rw[ae e,ae e,c]
  ·rw[aa e,aa e,Int.mul_zero]
def gj(n:Nat)(A B:Mt):Prop:=∃X b Y a,Inv n X b/\Inv n Y a/\∀i j,i<n->j<n->mul n B Y i j=mul n X A i j
theorem gj.symm{n:Nat}{A B:Mt}(h:gj n A B):gj n B A:=by
 obtain⟨X,d,Y,b,l,g,h⟩:=h;refine⟨d,X,b,Y,l.symm,g.symm,λi j f e=>?_⟩;have m:mul n (mul n d (mul n X A)) b i j=mul n A b i j:=mul_congr (λk c=>by
  rw[<-mul_assoc,mul_congr (A':=one) (C':=A) (λt a=>l.l i t f a) λt _=>rfl,one_mul n A i k f]) λk _=>rfl
 rw[<-m,mul_congr (A':=mul n d (mul n B Y)) (C':=b) (λk c=>mul_congr (λt _=>rfl) λt a=>(h t k a c).symm) λk _=>rfl];rw[mul_assoc];refine mul_congr (λk _=>rfl) λk c=>?_;rw[mul_assoc,mul_congr (A':=B) (C':=one) (λt _=>rfl) λt a=>g.r t j a e,mul_one n B k j e]
theorem gj.trans{n:Nat}{A B C:Mt}(h:gj n A B)(g:gj n B C):gj n A C:=by
 obtain⟨X,i,Y,f,c,b,h⟩:=h;obtain⟨Z,e,W,j,a,d,g⟩:=g;refine⟨mul n Z X,mul n i e,mul n W Y,mul n f j,a.mul c,d.mul b,λi j c b=>?_⟩;rw[<-mul_assoc,mul_congr (A':=mul n Z B) (C':=Y) (λk a=>g i k c a) λk _=>rfl,mul_assoc,mul_assoc];exact mul_congr (λk _=>rfl) λk a=>h k j a b
theorem gj.congr{n:Nat}{A B C:Mt}(h:gj n A B)(e:∀i j,i<n->j<n->B i j=C i j):gj n A C:=by
 obtain⟨X,d,Y,c,b,a,h⟩:=h;exact⟨X,d,Y,c,b,a,λi j a b=>by rw[<-h i j a b];exact mul_congr (λk b=>(e i k a b).symm) λ_ _=>rfl⟩
theorem gj.left{n:Nat}{A B X a:Mt}(b:Inv n X a)(h:∀i j,i<n->j<n->B i j=mul n X A i j):gj n A B:=⟨X,a,one,one,b,Inv.one n,λi j b a=>by rw[mul_one n B i j a,h i j b a]⟩
theorem gj.right{n:Nat}{A B Y a:Mt}(b:Inv n Y a)(h:∀i j,i<n->j<n->B i j=mul n A Y i j):gj n A B:=by
 refine gj.symm ⟨one,one,Y,a,Inv.one n,b,λi j a b=>by rw[one_mul n B i j a,h i j a b]⟩
theorem gj.tr{n:Nat}{A B:Mt}(h:gj n A B):gj n (Go.bc.tr A) (Go.bc.tr B):=by
 obtain⟨X,a,Y,l,d,k,h⟩:=h;have e:∀{X a:Mt},Inv n X a->Inv n (Go.bc.tr a) (Go.bc.tr X)/\Inv n (Go.bc.tr X) (Go.bc.tr a):=by
  intro X a d;have g:∀i j,i<n->j<n->mul n (Go.bc.tr a) (Go.bc.tr X) i j=one i j:=λi j c b=>by
   rw[<-ph];simp only[Go.bc.tr];rw[d.r j i b c];simp only[one,eq_comm]
  have f:∀i j,i<n->j<n->mul n (Go.bc.tr X) (Go.bc.tr a) i j=one i j:=λi j c b=>by
   rw[<-ph];simp only[Go.bc.tr];rw[d.l j i b c];simp only[one,eq_comm]
  exact⟨⟨g,f⟩,⟨f,g⟩⟩
 refine gj.symm ⟨Go.bc.tr Y,Go.bc.tr l,Go.bc.tr X,Go.bc.tr a,(e k).2,(e d).2,λi j c b=>?_⟩;rw[<-ph,<-ph];exact(h j i b c).symm
theorem DF{n i k:Nat}(b:i<n)(d:k<n)(a:Int)(aI:Nat->Int):(sm n λt=>((if i=t then(1:Int)else 0)+if t=k then a else 0)*aI t)=aI i+a*aI k:=by
 have:(sm n λt=>((if i=t then(1:Int)else 0)+if t=k then a else 0)*aI t)=sm n λt=>(if i=t then(1:Int)else 0)*aI t+(if t=k then a else 0)*aI t:=aO λt _=>aC;rw[this,pn,cG (c:=i) b λt _ b=>by rw[aa (Ne.symm b),Int.zero_mul],cG (c:=k) d λt _ b=>by rw[aa b,Int.zero_mul],ae F,ae F,Int.one_mul]
def m6(k:Nat)(g:Nat->Int):Mt:=λi t=>(if i=t then 1 else 0)+if t=k then g i else 0
theorem nZ{n k i j:Nat}(a:k<n)(b:i<n)(g:Nat->Int)(A:Mt):mul n (m6 k g) A i j=A i j+g i*A k j:=DF b a (g i) λt=>A t j
theorem q8{n k:Nat}(c:k<n)(g:Nat->Int)(a:g k=0):Inv n (m6 k g) (m6 k λi=>- g i):=by
 have b:∀(g:Nat->Int),g k=0->∀i j,i<n->j<n->mul n (m6 k g) (m6 k λi=>- g i) i j=one i j:=by
  intro g a i j d f;rw[nZ c d];simp only[m6,one];by_cases e:j=k
  ·subst e;simp only[a];grind
  ·rw[aa e,aa e,aa (Ne.symm e)];grind
 refine⟨b g a,?_⟩;have:=b (λi=>- g i) (by rw[a];rfl);simpa using this
theorem gj.rows{n k:Nat}{A B:Mt}(a:k<n)(g:Nat->Int)(b:g k=0)(h:∀i j,i<n->j<n->B i j=A i j+g i*A k j):gj n A B:=gj.left (q8 a g b) λi j b c=>by rw[nZ a b,h i j b c]
theorem gj.perm{n:Nat}{A B:Mt}(s:Nat->Nat)(b:∀i,i<n->s i<n/\s (s i)=i)(h:∀i j,i<n->j<n->B i j=A (s i) j):gj n A B:=by
 have d:∀(C:Mt) i j,i<n->mul n (λi t=>if t=s i then 1 else 0) C i j=C (s i) j:=by
  intro C i j a;simp only[mul];rw[cG (c:=s i) (b i a).1 λt _ e=>by rw[aa e,Int.zero_mul],ae F,Int.one_mul]
 have f:∀i j,i<n->j<n->mul n (λi t=>if t=s i then 1 else 0) (λi t=>if t=s i then 1 else 0) i j=one i j:=by
  intro i j a e;rw[d _ i j a];simp only[(b i a).2,one,eq_comm]
 exact gj.left ⟨f,f⟩ λi j a e=>by rw[d A i j a,h i j a e]
theorem gj.HO{n:Nat}{A B:Mt}(s:Nat->Nat)(a:∀i,i<n->s i<n/\s (s i)=i)(h:∀i j,i<n->j<n->B i j=A i (s j)):gj n A B:=(gj.perm (A:=Go.bc.tr A) (B:=Go.bc.tr B) s a λi j b a=>h j i a b).tr
theorem gj.ye{n:Nat}{A B:Mt}(s:Nat->Int)(k:∀i,i<n->s i*s i=1)(h:∀i j,i<n->j<n->B i j=s i*A i j):gj n A B:=by
 have d:∀(C:Mt) i j,i<n->mul n (λi t=>if t=i then s i else 0) C i j=s i*C i j:=by
  intro C i j a;simp only[mul];rw[cG (c:=i) a λt _ b=>by rw[aa b,Int.zero_mul],ae F]
 have g:∀i j,i<n->j<n->mul n (λi t=>if t=i then s i else 0) (λi t=>if t=i then s i else 0) i j=one i j:=by
  intro i j a f;rw[d _ i j a];simp only[one];by_cases e:i=j
  ·subst e;rw[ae F,ae F,k i a]
  ·rw[aa e,aa (Ne.symm e),Int.mul_zero]
 exact gj.left ⟨g,g⟩ λi j a f=>by rw[d A i j a,h i j a f]
structure fy(n:Nat)(D:Mt):Prop where
 off:∀i j,i<n->j<n->i≠j->D i j=0
 dv:∀i,i+1<n->D i i∣D (i+1) (i+1)
 nn:∀i,i<n->0<=D i i
theorem fy.dvd{n:Nat}{D:Mt}(h:fy n D){i:Nat}:∀k,i+k<n->D i i∣D (i+k) (i+k)
 |0,_=>Int.dvd_refl _
 |k+1,a=>Int.dvd_trans (h.dvd k aq) (h.dv (i+k) a)
theorem fy.I4{n:Nat}{D:Mt}(h:fy n D){i k:Nat}(a:i<=k)(b:k<n):D i i∣D k k:=by
 have:=h.dvd (i:=i) (k-i) aq;rwa[Nat.add_sub_cancel' a]at this
def sx(k p i:Nat):Nat:=if i=k then p else if i=p then k else i
theorem g_{n k p i:Nat}(hk:k<n)(hp:p<n)(hi:i<n):sx k p i<n:=by unfold sx;split;omega;split<;>omega
theorem kN{k p i:Nat}(a:k<=p)(a:k<=i):k<=sx k p i:=by unfold sx;split;omega;split<;>omega
theorem AI(k p i:Nat):sx k p (sx k p i)=i:=by
 unfold sx;by_cases b:i=k
 ·rw[ae b];by_cases a:p=k
  ·rw[ae a];omega
  ·rw[aa a,ae F];omega
 ·rw[aa b];by_cases a:i=p
  ·rw[ae a,ae F];omega
  ·rw[aa a,aa b,aa a]
theorem uc(k p:Nat):sx k p k=p:=ae F
theorem Dy(k i:Nat):sx k k i=i:=by unfold sx;split;omega;rfl
def swp(M:Mt)(k p c:Nat):Mt:=λi j=>M (sx k p i) (sx k c j)
def bo(M:Mt)(k m:Nat):Mt:=λi j=>if k<i/\i<m then M i j-M i k/M k k*M k j else M i j
def fe(M:Mt)(k m:Nat):Mt:=λi j=>if k<j/\j<m then M i j-M k j/M k k*M i k else M i j
def red(M:Mt)(k n:Nat):Mt:=fe (bo M k n) k n
def dh(M:Mt)(k a:Nat):Mt:=λi j=>if i=k then M k j+M a j else M i j
theorem og(M:Mt)(k a j:Nat):dh M k a k j=M k j+M a j:=ae F
theorem mod_eq(a x:Int):a-a/x*x=a%x:=by rw[Int.emod_def,Int.mul_comm]
theorem fi(M:Mt)(k m j:Nat):bo M k m k j=M k j:=aa (by omega)
theorem n7(M:Mt)(k n:Nat):red M k n k k=M k k:=by
 simp only[red,fe];rw[aa aq,fi]
theorem wM(M:Mt){k n i:Nat}(b:k<i)(a:i<n):red M k n i k=M i k%M k k:=by
 simp only[red,fe];rw[aa aq];simp only[bo];rw[ae ⟨b,a⟩,mod_eq]
theorem pH(M:Mt){k n j:Nat}(b:k<j)(a:j<n):red M k n k j=M k j%M k k:=by
 simp only[red,fe];rw[ae ⟨b,a⟩,fi,fi,mod_eq]
theorem A8(M:Mt){k n i j:Nat}(b:k<i)(a:i<n)(d:k<j)(c:j<n):red M k n i j=M i j-M i k/M k k*M k j-M k j/M k k*(M i k%M k k):=by
 simp only[red,fe];rw[ae ⟨d,c⟩,fi,fi];simp only[bo];rw[ae ⟨b,a⟩,ae ⟨b,a⟩,mod_eq]
theorem rh(M:Mt){k n i j:Nat}(d:k<i)(a:i<n)(c:k<j)(b:j<n)(h:M k j=0):red M k n i j=M i j:=by
 rw[A8 M d a c b,h,Int.zero_ediv];omega
theorem zw(M:Mt){k n i j:Nat}(d:k<i)(a:i<n)(c:k<j)(b:j<n)(h:M i k=0):red M k n i j=M i j:=by
 rw[A8 M d a c b,h,Int.zero_ediv,Int.zero_emod];omega
theorem ka{z x:Int}{P:Nat}(h:x.natAbs=P)(a:0<P):0<=z%x/\z%x<P:=by
 refine⟨Int.emod_nonneg _ aq,?_⟩;have:=Int.emod_lt z (b:=x) aq;omega
structure nK(n k:Nat)(M:Mt)(p c:Nat):Prop where
 hp:k<=p
 jv:p<n
 hc:k<=c
 ma:c<n
 nz:M p c≠0
 mn:∀i j,k<=i->i<n->k<=j->j<n->M i j≠0->(M p c).natAbs<=(M i j).natAbs
 fst:∀i j,k<=i->i<n->k<=j->j<n->i<p\/i=p/\j<c->M i j≠0->(M p c).natAbs<(M i j).natAbs
def CLN(n k:Nat)(C:Mt):Prop:=(∀i,k<i->i<n->C i k=0)/\∀j,k<j->j<n->C k j=0
def Nn(P B:Nat)(z:Int):Prop:=z=0\/(P:Int)<=z/\z<=(B:Int)
def Na(P B:Nat)(z:Int):Prop:=z=0\/P<=z.natAbs/\z.natAbs<=B
structure Jr(n k h B P:Nat)(M:Mt)(p c:Nat)(Qp Qn R T:Nat->Bool):Prop where
 h0:0<h
 hP:h<=P
 FZ:P<=B
 hB:B<2*h
 yh:nK n k M p c
 abs:(M p c).natAbs=P
 rp:∀i,Qp i=true->k<=i/\i<n
 rn:∀i,Qn i=true->k<=i/\i<n
 rr:∀i,R i=true->k<=i/\i<n
 rt:∀i,T i=true->k<=i/\i<n
 h1:∀j,Qp j=true->∀i,k<=i->i<n->Nn P B (M i j)
 h2:∀j,Qn j=true->∀i,k<=i->i<n->Na P B (M i j)/\(M i j<0->R i=true)
 h3:∀r,R r=true->∀j,k<=j->j<n->Qp j=false->Qn j=false->Nn P B (M r j)
 hT:∀c',T c'=true->∀i,k<=i->i<n->M i c'=0\/P<(M i c').natAbs/\(M i c').natAbs<=B
 xR:R p=false
 xp:Qp c=false
 xn:Qn c=false
 xT:T c=false
 x0:∀j,Qp j=true\/Qn j=true->M p j=0
 xr:∀r,R r=true->M r c=0
structure St(n k h B P:Nat)(M:Mt)(Qp Qn R:Nat->Bool):Prop where
 h0:0<h
 hP:h<=P
 FZ:P<=B
 hB:B<2*h
 kn:k<n
 n8:(M k k).natAbs=P
 rp:∀i,Qp i=true->k<i/\i<n
 rn:∀i,Qn i=true->k<i/\i<n
 rr:∀i,R i=true->k<i/\i<n
 g1:∀j,Qp j=true->∀i,k<i->i<n->Nn P B (M i j)
 g2:∀j,Qn j=true->∀i,k<i->i<n->Na P B (M i j)/\(M i j<0->R i=true)
 g3:∀r,R r=true->∀j,k<j->j<n->Qp j=false->Qn j=false->Nn P B (M r j)
theorem AK{n k p i:Nat}{Q:Nat->Bool}(b:k<=p)(c:∀i,Q i=true->k<=i/\i<n)(_hk:k<n)(jv:p<n)(b:Q p=false)(h:Q (sx k p i)=true):k<i/\i<n:=by
 have a:=c _ h;have d:i≠k:=λe=>by rw[e,uc,b]at h;cases h
 unfold sx at a;rw[aa d]at a;by_cases e:i=p
 ·omega
 ·rw[aa e]at a;omega
theorem Jr.st{n k h B P:Nat}{M:Mt}{p c:Nat}{a d R T:Nat->Bool}(H:Jr n k h B P M p c a d R T):St n k h B P (red (swp M k p c) k n) (λj=>a (sx k c j)) (λj=>d (sx k c j)) (λi=>R (sx k p i)):=by
 have e:k<n:=Nat.lt_of_le_of_lt H.yh.hp H.yh.jv;have m:∀i,a (sx k c i)=true->k<i/\i<n:=λi b=>AK H.yh.hc H.rp e H.yh.ma H.xp b;have o:∀i,d (sx k c i)=true->k<i/\i<n:=λi b=>AK H.yh.hc H.rn e H.yh.ma H.xn b;have l:∀i,R (sx k p i)=true->k<i/\i<n:=λi b=>AK H.yh.hp H.rr e H.yh.jv H.xR b;have q:∀j,swp M k p c k j=M p (sx k c j):=λj=>by simp only[swp,uc]
 have s:∀i,swp M k p c i k=M (sx k p i) c:=λi=>by simp only[swp,uc]
 refine⟨H.h0,H.hP,H.FZ,H.hB,e,?_,m,o,l,?_,?_,?_⟩
 ·rw[n7];simp only[swp,uc];exact H.abs
 ·intro j a i b d;obtain⟨g,f⟩:=m j a;rw[rh _ b d g f (by rw[q];exact H.x0 _ (.inl a))];exact H.h1 _ a _ (kN H.yh.hp aq) (g_ e H.yh.jv d)
 ·intro j a i b d;obtain⟨g,f⟩:=o j a;rw[rh _ b d g f (by rw[q];exact H.x0 _ (.inr a))];exact H.h2 _ a _ (kN H.yh.hp aq) (g_ e H.yh.jv d)
 ·intro r d j a b i j;obtain⟨g,f⟩:=l r d;rw[zw _ g f a b (by rw[s];exact H.xr _ d)];exact H.h3 _ d _ (kN H.yh.hc aq) (g_ e H.yh.ma b) i j
def ins(Q:Nat->Bool)(k:Nat):Nat->Bool:=λi=>Q i || i == k
end
end Go.Sm
namespace Go.bc
section
variable {n:Nat}{D:Mt->Int}
theorem MA.comb(h:MA n D)(T:Mt)(i k:Nat)(a:k<=i)(a:i<n)(d:Int)(x:Nat->Int):D (bJ T i λc=>d*T i c+sm k λr=>x r*T r c)=d*D T:=by
 rw[h.add T i (λc=>d*T i c) (λc=>sm k λr=>x r*T r c) a,h.smul T i (T i) d a,fD,h.sum T i a x T k];rw[iD λr b=>?_]
 ·omega
 ·rw[h.GO (bJ T i (T r)) i r a aq aq λj _=>by simp only[bJ];rw[ae trivial,aa aq]];omega
def jE(i k:Nat)(A:Mt):Mt:=λr=>if r=i then A k else if r=k then A i else A r
theorem MA.swap(h:MA n D)(A:Mt)(i k:Nat)(f:i<n)(e:k<n)(a:i≠k):D (jE i k A)=- D A:=by
 have d:∀x:Nat->Int,D (bJ (bJ A i x) k x)=0:=λx=>h.GO _ i k f e a λj b=>by simp only[bJ];rw[aa a,ae trivial,ae trivial]
 have g:∀x y b:Nat->Int,D (bJ (bJ A i x) k λc=>y c+b c)=D (bJ (bJ A i x) k y)+D (bJ (bJ A i x) k b):=λx y b=>h.add _ k _ _ e;have e:∀x b y:Nat->Int,D (bJ (bJ A i λc=>x c+b c) k y)=D (bJ (bJ A i x) k y)+D (bJ (bJ A i b) k y):=λx b y=>by
  rw[jl A (λc=>x c+b c) y a,jl A x y a,jl A b y a];exact h.add _ i _ _ f
 have b:=d λc=>A i c+A k c;rw[g,e,e]at b;have a:=d (A i);have a:=d (A k);have f:bJ (bJ A i (A i)) k (A k)=A:=by rw[fD,fD]
 have d:bJ (bJ A i (A k)) k (A i)=jE i k A:=by
  funext r c;simp only[bJ,jE];by_cases e:r=k
  ·rw[ae e,aa aq,ae e]
  ·rw[aa e,aa e];by_cases a:r=i
   ·rw[ae a,ae a]
   ·rw[aa a,aa a]
 rw[f]at b;rw[d]at b;omega
end
theorem pZ(n:Nat)(A:Mt)(h:∀j,j<n->A n j=0):aQ (n+1) A=A n n*aQ n A:=by
 rw[<-jd n A n aq,cG (c:=n) aq λi a a=>by rw[h i aq,Int.zero_mul]];rw[oU,se,Int.one_mul];congr 1;exact aY λr c a b=>by simp only[minor,skip];rw[ae a,ae b]
theorem solve(k:Nat)(P:Mt)(u:Nat->Int):∃x:Nat->Int,∀c,c<k->aQ k P*u c+(sm k λr=>x r*P r c)=0:=by
 cases k with
 |zero=>exact⟨λ_=>0,λc a=>aq⟩
 |succ k=>
  refine⟨λr=>sm (k+1) λq=>(- u q)*fa k P q r,λc a=>?_⟩;have b:(sm (k+1) λr=>(sm (k+1) λq=>(- u q)*fa k P q r)*P r c)=mul (k+1) (mul (k+1) (λ_ q=>- u q) (fa k P)) P 0 c:=F;rw[b,mul_assoc];have e:mul (k+1) (λ_ q=>- u q) (mul (k+1) (fa k P) P) 0 c=(- u c)*aQ (k+1) P:=by
   simp only[mul];rw[cG (c:=c) a λq b d=>?_]
   ·have:=jf k P c c a a;rw[ae F]at this;simp only[mul]at this;rw[this]
   ·have:=jf k P q c b a;rw[aa d]at this;simp only[mul]at this;rw[this,Int.mul_zero]
  rw[e];grind
def bm(k:Nat)(A:Mt)(i j:Nat):Int:=aQ (k+1) λr c=>A (if r<k then r else i) (if c<k then c else j)
theorem s8(k:Nat)(A:Mt):bm k A k k=aQ (k+1) A:=
 aY λr c a a=>aC
theorem F2(k:Nat)(A:Mt)(i j:Nat):bm k (tr A) i j=bm k A j i:=by
 unfold bm;rw[<-df];rfl
theorem s7{k:Nat}{A:Mt}{i:Nat}{x:Nat->Int}(f:aQ k A≠0)(e:∀c,c<k->aQ k A*A i c+(sm k λr=>x r*A r c)=0)(j:Nat):bm k A i j=aQ k A*A i j+sm k λr=>x r*A r j:=by
 let T:Mt:=λr c=>A (if r<k then r else i) (if c<k then c else j);have h:=(eI (k+1)).comb T k k aD aq (aQ k A) x;have d:∀c,(aQ k A*T k c+sm k λr=>x r*T r c)=aQ k A*A i (if c<k then c else j)+sm k λr=>x r*A r (if c<k then c else j):=λc=>by
  simp only[T];rw[aa (Nat.lt_irrefl k)];congr 1;exact aO λr b=>by rw[ae b]
 rw[pZ]at h
 ·rw[show aQ k (bJ T k λc=>aQ k A*T k c+sm k λr=>x r*T r c)=aQ k A from aY λr c b a=>by
   simp only[bJ,T];rw[aa aq,ae b,ae a]]at h
  rw[show bJ T k (λc=>aQ k A*T k c+sm k λr=>x r*T r c) k k=aQ k A*A i j+sm k λr=>x r*A r j by
   simp only[bJ,if_true];rw[d,aa (Nat.lt_irrefl k)]]at h
  have b:aQ k A*bm k A i j=aQ k A*(aQ k A*A i j+sm k λr=>x r*A r j):=by
   rw[show bm k A i j=aQ (k+1) T from F,<-h,Int.mul_comm]
  exact Int.eq_of_mul_eq_mul_left f b
 ·intro c a;simp only[bJ,if_true];rw[d,ae a];exact e c a
theorem fW(k:Nat)(A:Mt)(i j:Nat)(m:aQ k A≠0):aQ k A*bm (k+1) A i j=bm k A k k*bm k A i j-bm k A i k*bm k A k j:=by
 obtain⟨g,f⟩:=solve k A (A k);obtain⟨d,e⟩:=solve k A (A i);have q:=s7 m f;have p:=s7 m e;let T:Mt:=λr c=>A (if r<k+1 then r else i) (if c<k+1 then c else j);let b:=bJ T (k+1) λc=>aQ k A*T (k+1) c+sm k λr=>d r*T r c;let a:=bJ b k λc=>aQ k A*b k c+sm k λr=>g r*b r c;have v:aQ (k+2) b=aQ k A*aQ (k+2) T:=(eI (k+2)).comb T (k+1) k aq aq _ d;have o:aQ (k+2) a=aQ k A*aQ (k+2) b:=(eI (k+2)).comb b k k aq aq _ g;have h:∀c,a (k+1) c=aQ k A*A i (if c<k+1 then c else j)+sm k λr=>d r*A r (if c<k+1 then c else j):=λc=>by
  simp only[a,b,bJ,T];rw[aa aq,ae trivial,aa (show¬k+1<k+1 by omega)];congr 1;exact aO λr d=>by rw[ae (show r<k+1 by omega)]
 have l:∀c,a k c=aQ k A*A k (if c<k+1 then c else j)+sm k λr=>g r*A r (if c<k+1 then c else j):=λc=>by
  simp only[a,b,bJ,T];rw[ae trivial,aa (show¬k=k+1 by omega),ae (show k<k+1 by omega)];congr 1;exact aO λr d=>by rw[aa (show¬r=k+1 by omega),ae (show r<k+1 by omega)]
 have u:∀r c,r<k->a r c=A r (if c<k+1 then c else j):=λr c d=>by
  simp only[a,b,bJ,T];rw[aa aq,aa aq,ae aq]
 have s:∀c,c<k->a (k+1) c=0:=λc b=>by rw[h,ae aq];exact e c b
 have t:∀c,c<k->a k c=0:=λc b=>by rw[l,ae aq];exact f c b
 have g:a (k+1) k=bm k A i k:=by rw[h,ae aq,p]
 have f:a (k+1) (k+1)=bm k A i j:=by rw[h,aa aq,p]
 have p:a k k=bm k A k k:=by rw[l,ae aq,q]
 have h:a k (k+1)=bm k A k j:=by rw[l,aa aq,q]
 have e:∀q,q=k\/q=k+1->aQ (k+1) (minor a (k+1) q)=a k (skip q k)*aQ k A:=λq l=>by
  rw[pZ]
  ·congr 1
   ·simp only[minor];rw[show skip (k+1) k=k by simp[skip]]
   ·refine aY λr c d b=>?_;simp only[minor];rw[show skip (k+1) r=r by simp only[skip];rw[ae aq],show skip q c=c by simp only[skip];rw[ae aq],u r c d,ae aq]
  ·intro c b;simp only[minor];rw[show skip (k+1) k=k by simp[skip],show skip q c=c by simp only[skip];rw[ae aq]];exact t c b
 have d:=jd (k+1) a (k+1) aq;rw[AT (c:=k) aq λc b a a=>by rw[s c aq,Int.zero_mul]]at d;rw[e k (.inl F),e (k+1) (.inr F),show skip k k=k+1 by simp[skip],show skip (k+1) k=k by simp[skip],g,f,p,h]at d;rw[show k+1+k=k+k+1 by omega,j4,oU,se,oU,se]at d;have a:aQ (k+2) T=bm (k+1) A i j:=F;rw[v,a]at o;have:aQ k A*(aQ k A*bm (k+1) A i j)=aQ k A*(bm k A k k*bm k A i j-bm k A i k*bm k A k j):=by
  rw[<-o,<-d];grind
 exact Int.eq_of_mul_eq_mul_left m this
theorem pJ(n k:Nat)(A:Mt)(b:k<n)(f:aQ k A≠0)(h:∀i,k<=i->i<n->bm k A i k=0):aQ n A=0:=by
 have d:aQ k (tr A)≠0:=by rw[df];exact f
 obtain⟨x,e⟩:=solve k (tr A) (tr A k);have j:=s7 d e;have f:=(eI n).comb (tr A) k k aD b (aQ k (tr A)) x;rw[(eI n).zero (tr A) k _ b λc g=>?_,df n]at f
 ·have:=f.symm;rcases Int.mul_eq_zero.1 this with h|h
  ·exact absurd h d
  ·exact h
 ·by_cases b:c<k
  ·exact e c b
  ·rw[<-j c,F2];exact h c aq g
theorem CB(A:Mt)(i j:Nat):bm 0 A i j=A i j:=by
 simp[bm,aQ,sm,fq]
