import Derived.Test.YtmfndnlifgphjaaGreatDoorQzl
set_option maxHeartbeats 64000000
open Go.Proofs.YtmfndnlifgphjaaGreatDoor
namespace Go.aW
abbrev Mt:=Nat->Nat->Int
def sm:Nat->(Nat->Int)->Int
 |0,_=>0
 |k+1,f=>sm k f+f k
theorem aR{n:Nat}{f g:Nat->Int}(h:∀i,i<n->f i=g i):sm n f=sm n g:=by
 induction n with
 |zero=>rfl
 |succ n a=>simp only[sm];rw[a λi a=>h i aq,h n aq]
theorem fK{n:Nat}{f:Nat->Int}(h:∀i,i<n->f i=0):sm n f=0:=by
 induction n with
 |zero=>rfl
 |succ n a=>simp only[sm];rw[a λi a=>h i aq,h n aq];rfl
theorem fQ(n:Nat)(f g:Nat->Int)(a b:Int):sm n (λi=>a*f i+b*g i)=a*sm n f+b*sm n g:=by
 induction n with
 |zero=>simp[sm]
 |succ n c=>simp only[sm];rw[c];grind
theorem oV(n:Nat)(f g:Nat->Int):sm n (λi=>f i+g i)=sm n f+sm n g:=by
 induction n with
 |zero=>rfl
 |succ n a=>simp only[sm];rw[a];grind
theorem dL(n:Nat)(f:Nat->Int)(a:Int):sm n (λi=>a*f i)=a*sm n f:=by
 induction n with
 |zero=>simp[sm]
 |succ n b=>simp only[sm];rw[b];grind
theorem pJ(n:Nat)(f:Nat->Int)(a:Int):sm n (λi=>f i*a)=sm n f*a:=by
 induction n with
 |zero=>simp[sm]
 |succ n b=>simp only[sm];rw[b];grind
theorem dc{n c:Nat}{f:Nat->Int}(b:c<n)(h:∀i,i<n->i≠c->f i=0):sm n f=f c:=by
 induction n with
 |zero=>omega
 |succ n a=>
  simp only[sm];by_cases e:c=n
  ·subst e;rw[fK λi b=>h i aq aq];omega
  ·rw[a aq λi b a=>h i aq a,h n aq aq];omega
theorem GD{n c:Nat}{f:Nat->Int}(a:c+1<n)(h:∀i,i<n->i≠c->i≠c+1->f i=0):sm n f=f c+f (c+1):=by
 induction n with
 |zero=>omega
 |succ n b=>
  simp only[sm];by_cases e:c+1=n
  ·subst e;rw[dc (c:=c) aq λi d a=>h i aq a aq]
  ·rw[b aq λi d a b=>h i aq a b,h n aq aq aq];omega
theorem pI(n m:Nat)(f:Nat->Nat->Int):sm n (λi=>sm m λj=>f i j)=sm m λj=>sm n λi=>f i j:=by
 induction n with
 |zero=>simp only[sm];rw[fK λ_ _=>rfl]
 |succ n a=>simp only[sm];rw[a,<-oV]
def skip(j k:Nat):Nat:=if k<j then k else k+1
def minor(A:Mt)(i j:Nat):Mt:=λr c=>A (skip i r) (skip j c)
def jl(j:Nat):Int:=if j%2=0 then 1 else -1
theorem lK(j:Nat):jl (j+1)=- jl j:=by
 unfold jl;split<;>split<;>omega
theorem wP(j:Nat):jl j*jl j=1:=by unfold jl;split<;>rfl
theorem rZ(i j:Nat):jl (i+j)=jl i*jl j:=by
 induction j with
 |zero=>simp[jl]
 |succ j a=>rw[<-Nat.add_assoc,lK,a,lK];grind
def aO:Nat->Mt->Int
 |0,_=>1
 |n+1,A=>sm (n+1) λj=>jl j*A 0 j*aO n (minor A 0 j)
def tr(A:Mt):Mt:=λi j=>A j i
def one:Mt:=λi j=>if i=j then 1 else 0
theorem fp(k:Nat):skip 0 k=k+1:=by simp[skip]
theorem iT{n j k:Nat}(a:k<n):skip j k<n+1:=by unfold skip;split<;>omega
theorem bk{n:Nat}:∀{A C:Mt},(∀i j,i<n->j<n->A i j=C i j)->aO n A=aO n C:=by
 induction n with
 |zero=>intro A C _;rfl
 |succ n a=>
  intro A C h;simp only[aO];refine aR λj b=>?_;rw[h 0 j aq b,a (A:=minor A 0 j) (C:=minor C 0 j) λr c a b=>h _ _ (iT a) (iT b)]
def cj(A:Mt)(i:Nat)(u:Nat->Int):Mt:=λr c=>if r=i then u c else A r c
def uA(A:Mt)(j:Nat)(u:Nat->Int):Mt:=λr c=>if c=j then u r else A r c
theorem jZ(A:Mt)(c:Nat)(w:Nat->Int):minor (uA A c w) 0 c=minor A 0 c:=by
 funext r k;simp only[minor,uA];rw[aa];unfold skip;split<;>omega
def low(j c:Nat):Nat:=if j<c then c-1 else c
theorem oZ(A:Mt)(c j:Nat)(w:Nat->Int)(h:j≠c):minor (uA A c w) 0 j=uA (minor A 0 j) (low j c) (λr=>w (r+1)):=by
 funext r k;simp only[minor,uA,fp];have:skip j k=c↔k=low j c:=by unfold skip low;split<;>split<;>omega
 simp only[this]
theorem HY{n:Nat}:∀(A:Mt) (c:Nat) (u v:Nat->Int) (a b:Int),c<n->aO n (uA A c λr=>a*u r+b*v r)=a*aO n (uA A c u)+b*aO n (uA A c v):=by
 induction n with
 |zero=>intro A c u v a b h;omega
 |succ n d=>
  intro A c u v a b f;simp only[aO];rw[<-fQ];refine aR λj f=>?_;by_cases e:j=c
  ·subst e;rw[jZ,jZ,jZ];simp only[uA,if_true];grind
  ·rw[oZ _ _ _ _ e,oZ _ _ _ _ e,oZ _ _ _ _ e];rw[d (minor A 0 j) (low j c) (λr=>u (r+1)) (λr=>v (r+1)) a b (by unfold low;split<;>omega)];simp only[uA,aa e];grind
theorem HZ{n:Nat}:∀(A:Mt) (c:Nat),c+1<n->(∀r,r<n->A r c=A r (c+1))->aO n A=0:=by
 induction n with
 |zero=>intro A c h;omega
 |succ n a=>
  intro A c d h;simp only[aO];rw[GD d λj d d d=>?_]
  ·rw[lK,h 0 aq,bk (A:=minor A 0 c) (C:=minor A 0 (c+1)) λr k b d=>?_]
   ·grind
   ·simp only[minor,fp];by_cases e:k=c
    ·subst e;rw[show skip k k=k+1 by simp[skip],show skip (k+1) k=k by simp[skip],h (r+1) aq]
    ·rw[show skip c k=skip (c+1) k by unfold skip;split<;>split<;>omega]
  ·rw[a (minor A 0 j) (low j c) (by unfold low;split<;>omega) λr b=>?_]
   ·grind
   ·simp only[minor,fp];rw[show skip j (low j c)=c by unfold skip low;split<;>split<;>omega,show skip j (low j c+1)=c+1 by unfold skip low;split<;>split<;>omega];exact h _ aq
structure MA(n:Nat)(D:Mt->Int):Prop where
 congr:∀A C:Mt,(∀i j,i<n->j<n->A i j=C i j)->D A=D C
 mZ:∀(A:Mt) (i:Nat) (u v:Nat->Int) (a b:Int),i<n->D (cj A i λc=>a*u c+b*v c)=a*D (cj A i u)+b*D (cj A i v)
 alt:∀(A:Mt) (i:Nat),i+1<n->(∀j,j<n->A i j=A (i+1) j)->D A=0
theorem LF(n:Nat):MA n λA=>aO n (tr A):=
 ⟨λ_ _ h=>bk λi j c a=>h j i a c,λA i u v a b c=>HY (tr A) i u v a b c,λA i c h=>HZ (tr A) i c λr a=>h r a⟩
theorem gZ(A:Mt)(i:Nat):cj A i (A i)=A:=by
 funext r c;simp only[cj];split
 ·rename_i h;rw[h]
 ·rfl
theorem ki(A:Mt){i k:Nat}(u v:Nat->Int)(h:i≠k):cj (cj A i u) k v=cj (cj A k v) i u:=by
 funext r c;simp only[cj];split
 ·rename_i e;rw[aa aq]
 ·rfl
section
variable {n:Nat}{D:Mt->Int}
theorem MA.add(h:MA n D)(A:Mt)(i:Nat)(u v:Nat->Int)(a:i<n):D (cj A i λc=>u c+v c)=D (cj A i u)+D (cj A i v):=by
 have:=h.mZ A i u v 1 1 a;simp only[Int.one_mul]at this;exact this
theorem MA.smul(h:MA n D)(A:Mt)(i:Nat)(u:Nat->Int)(a:Int)(b:i<n):D (cj A i λc=>a*u c)=a*D (cj A i u):=by
 have:=h.mZ A i u u a 0 b;simp only[Int.zero_mul,Int.add_zero]at this;exact this
theorem MA.zero(h:MA n D)(A:Mt)(i:Nat)(u:Nat->Int)(b:i<n)(a:∀c,c<n->u c=0):D (cj A i u)=0:=by
 have:=h.smul A i u 0 b;rw[h.congr (cj A i u) (cj A i λc=>0*u c) λr c _ b=>?_,this,Int.zero_mul];simp only[cj,a c b,Int.zero_mul]
def oD(A:Mt)(i:Nat):Mt:=λr c=>if r=i then A (i+1) c else if r=i+1 then A i c else A r c
theorem MA.oD(h:MA n D)(A:Mt)(i:Nat)(a:i+1<n):D (oD A i)=- D A:=by
 have b:∀x:Nat->Int,D (cj (cj A i x) (i+1) x)=0:=λx=>h.alt _ i a λj a=>by simp[cj]
 have e:∀x y a:Nat->Int,D (cj (cj A i x) (i+1) λc=>y c+a c)=D (cj (cj A i x) (i+1) y)+D (cj (cj A i x) (i+1) a):=λx y a=>h.add _ (i+1) _ _ aq;have d:∀x a y:Nat->Int,D (cj (cj A i λc=>x c+a c) (i+1) y)=D (cj (cj A i x) (i+1) y)+D (cj (cj A i a) (i+1) y):=λx a y=>by
  rw[ki A (λc=>x c+a c) y aq,ki A x y aq,ki A a y aq];exact h.add _ i _ _ aq
 have a:=b λc=>A i c+A (i+1) c;rw[e,d,d]at a;have d:=b (A i);have d:=b (A (i+1));have d:cj (cj A i (A i)) (i+1) (A (i+1))=A:=by rw[gZ,gZ]
 have b:cj (cj A i (A (i+1))) (i+1) (A i)=Go.aW.oD A i:=by
  funext r c;simp only[cj,Go.aW.oD];by_cases e:r=i
  ·rw[aa aq,ab e,ab e]
  ·rw[aa e,aa e]
 rw[d]at a;rw[b]at a;omega
theorem MA.Oj(h:MA n D):∀(d:Nat) (A:Mt) (i:Nat),i+1+d<n->(∀j,j<n->A i j=A (i+1+d) j)->D A=0:=by
 intro d;induction d with
 |zero=>intro A i b a;exact h.alt A i b a
 |succ d c=>
  intro A i b a;have b:=h.oD A (i+1+d) aq;have b:=c (Go.aW.oD A (i+1+d)) i aq λj b=>by
   simp only[Go.aW.oD];rw[aa aq,aa aq,ab trivial];exact a j b
  omega
theorem MA.LH(h:MA n D)(A:Mt)(i k:Nat)(a:i<n)(a:k<n)(a:i≠k)(b:∀j,j<n->A i j=A k j):D A=0:=by
 rcases Nat.lt_or_gt_of_ne a with a|a
 ·exact h.Oj (k-i-1) A i aq λj a=>by rw[b j a];congr 1;omega
 ·exact h.Oj (i-k-1) A k aq λj a=>by rw[<-b j a];congr 1;omega
theorem MA.tC(h:MA n D)(A:Mt)(i k:Nat)(t:Int)(a:i<n)(d:k<n)(b:i≠k):D (cj A i λc=>A i c+t*A k c)=D A:=by
 rw[h.add A i (A i) _ a,h.smul A i (A k) t a,gZ];rw[h.LH (cj A i (A k)) i k a d b λj _=>by simp only[cj];rw[ab trivial,aa aq]];omega
theorem MA.sum(h:MA n D)(A:Mt)(i:Nat)(a:i<n)(x:Nat->Int)(u:Nat->Nat->Int):∀m,D (cj A i λc=>sm m λj=>x j*u j c)=sm m λj=>x j*D (cj A i (u j)):=by
 intro m;induction m with
 |zero=>simp only[sm];exact h.zero A i _ a λ_ _=>rfl
 |succ m b=>simp only[sm];rw[h.add A i _ _ a,b,h.smul A i _ _ a]
def mv(j:Nat)(A:Mt):Mt:=λr c=>if r=0 then A j c else if r<=j then A (r-1) c else A r c
theorem MA.mv(h:MA n D):∀(j:Nat) (A:Mt),j<n->D (mv j A)=jl j*D A:=by
 intro j;induction j with
 |zero=>
  intro A _;have:Go.aW.mv 0 A=A:=by
   funext r c;simp only[Go.aW.mv];by_cases e:r=0
   ·rw[ab e,e]
   ·rw[aa e,aa aq]
  rw[this];simp[jl]
 |succ j b=>
  intro A f;have:Go.aW.mv (j+1) A=Go.aW.mv j (Go.aW.oD A j):=by
   funext r c;simp only[Go.aW.mv,Go.aW.oD];by_cases e:r=0
   ·simp[e]
   ·rw[aa e,aa e];by_cases a:r<=j
    ·rw[ab aq,ab a,aa aq,aa aq]
    ·by_cases d:r=j+1
     ·subst d;rw[ab aq,aa a,aa aq,ab F];rfl
     ·rw[aa aq,aa a,aa aq,aa aq]
  rw[this,b _ aq,h.oD A j aq,lK];grind
end
def ins(j:Nat)(M:Mt):Mt:=λr c=>if r=0 then(if c=j then 1 else 0)else if c=j then 0 else M (r-1) (low j c)
def mH(j k:Nat)(A:Mt):Mt:=λr c=>if 1<=r/\r<=k/\c=j then 0 else A r c
theorem MA.mH{n:Nat}{D:Mt->Int}(h:MA (n+1) D)(j:Nat)(A:Mt)(b:∀c,c<n+1->A 0 c=if c=j then 1 else 0):∀k,k<=n->D (mH j k A)=D A:=by
 intro k;induction k with
 |zero=>intro _;exact h.congr _ _ λr c _ _=>by simp only[Go.aW.mH];rw[aa aq]
 |succ k a=>
  intro d;rw[<-a aq,<-h.tC (Go.aW.mH j k A) (k+1) 0 (- A (k+1) j) aq aq aq];refine h.congr _ _ λr c a a=>?_;simp only[Go.aW.mH,cj];have d:=b c a;grind
theorem Mx{n:Nat}{D:Mt->Int}(h:MA (n+1) D)(j:Nat)(a:j<n+1):MA n λM=>D (ins j M):=by
 refine⟨λA C f=>h.congr _ _ λr c a k=>?_,λA i u v a b d=>?_,λA i d g=>?_⟩
 ·simp only[ins];by_cases e:r=0
  ·rw[ab e,ab e]
  ·rw[aa e,aa e];by_cases d:c=j
   ·rw[ab d,ab d]
   ·rw[aa d,aa d];exact f _ _ aq (by unfold low;split<;>omega)
 ·have e:∀w:Nat->Int,ins j (cj A i w)=cj (ins j A) (i+1) λc=>if c=j then 0 else w (low j c):=by
   intro w;funext r c;simp only[ins,cj];grind
  show D (ins j _)=a*D (ins j _)+b*D (ins j _);rw[e,e,e,<-h.mZ _ _ _ _ _ _ aq];congr 2;funext c;split<;>simp
 ·refine h.alt _ (i+1) aq λc k=>?_;simp only[ins];rw[aa (show¬i+1=0 by omega),aa (show¬i+1+1=0 by omega)];by_cases d:c=j
  ·rw[ab d,ab d]
  ·rw[aa d,aa d];exact g _ (by unfold low;split<;>omega)
theorem Kc(j:Nat):ins j one=mv j one:=by
 funext r c;simp only[ins,mv,one,low];grind
theorem MA.unique{n:Nat}:∀{D:Mt->Int},MA n D->∀A,D A=aO n A*D one:=by
 induction n with
 |zero=>intro D h A;simp only[aO,Int.one_mul];exact h.congr _ _ λi _ f=>aq
 |succ n o=>
  intro D h A;have s:D A=sm (n+1) λj=>A 0 j*D (cj A 0 (one j)):=by
   rw[<-h.sum A 0 aq (A 0) one];refine h.congr _ _ λr c p g=>?_;simp only[cj];split
   ·rename_i e;rw[dc (c:=c) g λi _ f=>by simp[one,f],e];simp[one]
   ·rfl
  rw[s];simp only[aO];rw[<-pJ];refine aR λj d=>?_;have q:D (cj A 0 (one j))=D (ins j (minor A 0 j)):=by
   rw[<-h.mH j (cj A 0 (one j)) (λc _=>by simp only[cj,one,if_true];split<;>split<;>first|rfl|omega) n aq];refine h.congr _ _ λr c p g=>?_;simp only[Go.aW.mH,ins,cj,minor,one,fp];by_cases e:r=0
   ·subst e;simp[eq_comm]
   ·rw[aa e,aa e];by_cases k:c=j
    ·rw[ab aq,ab k]
    ·rw[aa aq,aa k,show r-1+1=r by omega,show skip j (low j c)=c by unfold skip low;split<;>split<;>omega]
  rw[q,o (Mx h j d) (minor A 0 j),Kc,h.mv j one d];grind
theorem qi(n:Nat):aO n one=1:=by
 induction n with
 |zero=>rfl
 |succ n a=>
  simp only[aO];rw[dc (c:=0) aq λi _ b=>by simp[one,Ne.symm b]];rw[bk (C:=one) λi j _ _=>by simp[minor,one,fp],a];simp[one,jl]
theorem cY(n:Nat)(A:Mt):aO n (tr A)=aO n A:=by
 rw[(LF n).unique A,show tr one=one by funext i j;simp[tr,one,eq_comm],qi,Int.mul_one]
theorem eF(n:Nat):MA n (aO n):=by
 have h:=LF n;have e:(λA=>aO n (tr A))=aO n:=funext λA=>cY n A;rw[e]at h;exact h
def mul(n:Nat)(A C:Mt):Mt:=λi j=>sm n λk=>A i k*C k j
theorem mul_one(n:Nat)(A:Mt)(i j:Nat)(a:j<n):mul n A one i j=A i j:=by
 simp only[mul];rw[dc (c:=j) a λk _ a=>by simp[one,a]];simp[one]
theorem one_mul(n:Nat)(A:Mt)(i j:Nat)(a:i<n):mul n one A i j=A i j:=by
 simp only[mul];rw[dc (c:=i) a λk _ a=>by simp[one,Ne.symm a]];simp[one]
theorem iU(n:Nat)(A C:Mt):aO n (mul n A C)=aO n A*aO n C:=by
 have h:MA n λA=>aO n (mul n A C):=by
  refine⟨λA a a=>bk λi j d g=>aR λk f=>by rw[a i k d f],λA i u v a b d=>?_,λA i d l=>?_⟩
  ·have e:∀w:Nat->Int,mul n (cj A i w) C=cj (mul n A C) i λc=>sm n λk=>w k*C k c:=by
    intro w;funext r c;simp only[mul,cj];split<;>rfl
   show aO n (mul n _ C)=a*aO n (mul n _ C)+b*aO n (mul n _ C);rw[e,e,e,<-(eF n).mZ _ _ _ _ _ _ d];congr 2;funext c;rw[<-fQ];exact aR λk _=>aC
  ·exact(eF n).alt _ i d λj g=>aR λk f=>by rw[l k f]
 rw[h.unique A,bk λi j d _=>one_mul n C i j d]
theorem mF(n:Nat)(A:Mt)(i:Nat)(a:i<n+1):(sm (n+1) λj=>A i j*(jl (i+j)*aO n (minor A i j)))=aO (n+1) A:=by
 have h:=(eF (n+1)).mv i A a;have b:aO (n+1) (mv i A)=sm (n+1) λj=>jl j*A i j*aO n (minor A i j):=by
  simp only[aO];refine aR λj a=>?_;rw[show minor (mv i A) 0 j=minor A i j from ?_]
  ·rfl
  ·funext r c;simp only[minor,mv,fp];rw[aa aq];unfold skip;by_cases e:r<i
   ·rw[ab aq,ab e,show r+1-1=r by omega]
   ·rw[aa aq,aa e]
 have a:jl i*aO (n+1) (mv i A)=aO (n+1) A:=by rw[h,<-Int.mul_assoc,wP,Int.one_mul]
 rw[<-a,b,<-dL];refine aR λj _=>?_;rw[rZ];grind
def uK(n:Nat)(A:Mt)(i j:Nat):Int:=jl (i+j)*aO n (minor A i j)
theorem DL(n:Nat)(A:Mt)(i k:Nat)(a:i<n+1)(b:k<n+1):(sm (n+1) λj=>A k j*uK n A i j)=if i=k then aO (n+1) A else 0:=by
 split
 ·rename_i e;subst e;exact mF n A i a
 ·rename_i e;have h:=mF n (cj A i (A k)) i a;rw[(eF (n+1)).LH (cj A i (A k)) i k a b e λj _=>by simp only[cj];rw[ab trivial,aa aq]]at h;rw[<-h];refine aR λj _=>?_;have:minor (cj A i (A k)) i j=minor A i j:=by
   funext r c;simp only[minor,cj];rw[aa];unfold skip;split<;>omega
  rw[this];simp[cj,uK]
theorem Hd(A:Mt)(i j:Nat):minor (tr A) i j=tr (minor A j i):=F
theorem MZ(n:Nat)(A:Mt)(i j:Nat):uK n (tr A) i j=uK n A j i:=by
 unfold uK;rw[Hd,cY,Nat.add_comm]
def fY(n:Nat)(A:Mt):Mt:=λi j=>uK n A j i
theorem mA(n:Nat)(A:Mt)(i j:Nat)(b:i<n+1)(a:j<n+1):mul (n+1) A (fY n A) i j=if i=j then aO (n+1) A else 0:=by
 have:=DL n A j i a b;simp only[mul,fY];rw[this];simp only[eq_comm]
theorem mM(n:Nat)(A:Mt)(i j:Nat)(b:i<n+1)(a:j<n+1):mul (n+1) (fY n A) A i j=if i=j then aO (n+1) A else 0:=by
 have:=DL n (tr A) i j b a;rw[cY]at this;rw[<-this];simp only[mul,fY];refine aR λk _=>?_;rw[MZ,Int.mul_comm];rfl
theorem mul_assoc(n m:Nat)(A C E:Mt)(i j:Nat):mul m (mul n A C) E i j=mul n A (mul m C E) i j:=by
 simp only[mul];have b:∀k,(sm n λl=>A i l*C l k)*E k j=sm n λl=>A i l*C l k*E k j:=λk=>(pJ n _ _).symm;have a:∀l,A i l*(sm m λk=>C l k*E k j)=sm m λk=>A i l*(C l k*E k j):=λl=>(dL m _ _).symm;simp only[b,a];rw[pI];exact aR λl _=>aR λk _=>aC
theorem nA(n:Nat)(A C:Mt):tr (mul n A C)=mul n (tr C) (tr A):=by
 funext i j;simp only[tr,mul];exact aR λk _=>Int.mul_comm _ _
section
variable {n:Nat}{D:Mt->Int}
theorem MA.comb(h:MA n D)(T:Mt)(i k:Nat)(a:k<=i)(a:i<n)(d:Int)(x:Nat->Int):D (cj T i λc=>d*T i c+sm k λr=>x r*T r c)=d*D T:=by
 rw[h.add T i (λc=>d*T i c) (λc=>sm k λr=>x r*T r c) a,h.smul T i (T i) d a,gZ,h.sum T i a x T k];rw[fK λr b=>?_]
 ·omega
 ·rw[h.LH (cj T i (T r)) i r a aq aq λj _=>by simp only[cj];rw[ab trivial,aa aq]];omega
def ov(i k:Nat)(A:Mt):Mt:=λr=>if r=i then A k else if r=k then A i else A r
theorem MA.swap(h:MA n D)(A:Mt)(i k:Nat)(f:i<n)(e:k<n)(a:i≠k):D (ov i k A)=- D A:=by
 have d:∀x:Nat->Int,D (cj (cj A i x) k x)=0:=λx=>h.LH _ i k f e a λj b=>by simp only[cj];rw[aa a,ab trivial,ab trivial]
 have g:∀x y b:Nat->Int,D (cj (cj A i x) k λc=>y c+b c)=D (cj (cj A i x) k y)+D (cj (cj A i x) k b):=λx y b=>h.add _ k _ _ e;have e:∀x b y:Nat->Int,D (cj (cj A i λc=>x c+b c) k y)=D (cj (cj A i x) k y)+D (cj (cj A i b) k y):=λx b y=>by
  rw[ki A (λc=>x c+b c) y a,ki A x y a,ki A b y a];exact h.add _ i _ _ f
 have b:=d λc=>A i c+A k c;rw[g,e,e]at b;have a:=d (A i);have a:=d (A k);have f:cj (cj A i (A i)) k (A k)=A:=by rw[gZ,gZ]
 have d:cj (cj A i (A k)) k (A i)=ov i k A:=by
  funext r c;simp only[cj,ov];by_cases e:r=k
  ·rw[ab e,aa aq,ab e]
  ·rw[aa e,aa e];by_cases a:r=i
   ·rw[ab a,ab a]
   ·rw[aa a,aa a]
 rw[f]at b;rw[d]at b;omega
end
theorem qj(n:Nat)(A:Mt)(h:∀j,j<n->A n j=0):aO (n+1) A=A n n*aO n A:=by
 rw[<-mF n A n aq,dc (c:=n) aq λi a a=>by rw[h i aq,Int.zero_mul]];rw[rZ,wP,Int.one_mul];congr 1;exact bk λr c a b=>by simp only[minor,skip];rw[ab a,ab b]
theorem solve(k:Nat)(P:Mt)(u:Nat->Int):∃x:Nat->Int,∀c,c<k->aO k P*u c+(sm k λr=>x r*P r c)=0:=by
 cases k with
 |zero=>exact⟨λ_=>0,λc a=>aq⟩
 |succ k=>
  refine⟨λr=>sm (k+1) λq=>(- u q)*fY k P q r,λc a=>?_⟩;have b:(sm (k+1) λr=>(sm (k+1) λq=>(- u q)*fY k P q r)*P r c)=mul (k+1) (mul (k+1) (λ_ q=>- u q) (fY k P)) P 0 c:=F;rw[b,mul_assoc];have e:mul (k+1) (λ_ q=>- u q) (mul (k+1) (fY k P) P) 0 c=(- u c)*aO (k+1) P:=by
   simp only[mul];rw[dc (c:=c) a λq b d=>?_]
   ·have:=mM k P c c a a;rw[ab F]at this;simp only[mul]at this;rw[this]
   ·have:=mM k P q c b a;rw[aa d]at this;simp only[mul]at this;rw[this,Int.mul_zero]
  rw[e];grind
def bm(k:Nat)(A:Mt)(i j:Nat):Int:=aO (k+1) λr c=>A (if r<k then r else i) (if c<k then c else j)
theorem db(k:Nat)(A:Mt):bm k A k k=aO (k+1) A:=
 bk λr c a a=>aC
theorem qp(k:Nat)(A:Mt)(i j:Nat):bm k (tr A) i j=bm k A j i:=by
 unfold bm;rw[<-cY];rfl
theorem tA{k:Nat}{A:Mt}{i:Nat}{x:Nat->Int}(f:aO k A≠0)(e:∀c,c<k->aO k A*A i c+(sm k λr=>x r*A r c)=0)(j:Nat):bm k A i j=aO k A*A i j+sm k λr=>x r*A r j:=by
 let T:Mt:=λr c=>A (if r<k then r else i) (if c<k then c else j);have h:=(eF (k+1)).comb T k k aD aq (aO k A) x;have d:∀c,(aO k A*T k c+sm k λr=>x r*T r c)=aO k A*A i (if c<k then c else j)+sm k λr=>x r*A r (if c<k then c else j):=λc=>by
  simp only[T];rw[aa (Nat.lt_irrefl k)];congr 1;exact aR λr b=>by rw[ab b]
 rw[qj]at h
 ·rw[show aO k (cj T k λc=>aO k A*T k c+sm k λr=>x r*T r c)=aO k A from bk λr c b a=>by
   simp only[cj,T];rw[aa aq,ab b,ab a]]at h
  rw[show cj T k (λc=>aO k A*T k c+sm k λr=>x r*T r c) k k=aO k A*A i j+sm k λr=>x r*A r j by
   simp only[cj,if_true];rw[d,aa (Nat.lt_irrefl k)]]at h
  have b:aO k A*bm k A i j=aO k A*(aO k A*A i j+sm k λr=>x r*A r j):=by
   rw[show bm k A i j=aO (k+1) T from F,<-h,Int.mul_comm]
  exact Int.eq_of_mul_eq_mul_left f b
 ·intro c a;simp only[cj,if_true];rw[d,ab a];exact e c a
theorem fv(k:Nat)(A:Mt)(i j:Nat)(m:aO k A≠0):aO k A*bm (k+1) A i j=bm k A k k*bm k A i j-bm k A i k*bm k A k j:=by
 obtain⟨g,f⟩:=solve k A (A k);obtain⟨d,e⟩:=solve k A (A i);have q:=tA m f;have p:=tA m e;let T:Mt:=λr c=>A (if r<k+1 then r else i) (if c<k+1 then c else j);let b:=cj T (k+1) λc=>aO k A*T (k+1) c+sm k λr=>d r*T r c;let a:=cj b k λc=>aO k A*b k c+sm k λr=>g r*b r c;have v:aO (k+2) b=aO k A*aO (k+2) T:=(eF (k+2)).comb T (k+1) k aq aq _ d;have o:aO (k+2) a=aO k A*aO (k+2) b:=(eF (k+2)).comb b k k aq aq _ g;have h:∀c,a (k+1) c=aO k A*A i (if c<k+1 then c else j)+sm k λr=>d r*A r (if c<k+1 then c else j):=λc=>by
  simp only[a,b,cj,T];rw[aa aq,ab trivial,aa (show¬k+1<k+1 by omega)];congr 1;exact aR λr d=>by rw[ab (show r<k+1 by omega)]
 have l:∀c,a k c=aO k A*A k (if c<k+1 then c else j)+sm k λr=>g r*A r (if c<k+1 then c else j):=λc=>by
  simp only[a,b,cj,T];rw[ab trivial,aa (show¬k=k+1 by omega),ab (show k<k+1 by omega)];congr 1;exact aR λr d=>by rw[aa (show¬r=k+1 by omega),ab (show r<k+1 by omega)]
 have u:∀r c,r<k->a r c=A r (if c<k+1 then c else j):=λr c d=>by
  simp only[a,b,cj,T];rw[aa aq,aa aq,ab aq]
 have s:∀c,c<k->a (k+1) c=0:=λc b=>by rw[h,ab aq];exact e c b
 have t:∀c,c<k->a k c=0:=λc b=>by rw[l,ab aq];exact f c b
 have g:a (k+1) k=bm k A i k:=by rw[h,ab aq,p]
 have f:a (k+1) (k+1)=bm k A i j:=by rw[h,aa aq,p]
 have p:a k k=bm k A k k:=by rw[l,ab aq,q]
 have h:a k (k+1)=bm k A k j:=by rw[l,aa aq,q]
 have e:∀q,q=k\/q=k+1->aO (k+1) (minor a (k+1) q)=a k (skip q k)*aO k A:=λq l=>by
  rw[qj]
  ·congr 1
   ·simp only[minor];rw[show skip (k+1) k=k by simp[skip]]
   ·refine bk λr c d b=>?_;simp only[minor];rw[show skip (k+1) r=r by simp only[skip];rw[ab aq],show skip q c=c by simp only[skip];rw[ab aq],u r c d,ab aq]
  ·intro c b;simp only[minor];rw[show skip (k+1) k=k by simp[skip],show skip q c=c by simp only[skip];rw[ab aq]];exact t c b
 have d:=mF (k+1) a (k+1) aq;rw[GD (c:=k) aq λc b a a=>by rw[s c aq,Int.zero_mul]]at d;rw[e k (.inl F),e (k+1) (.inr F),show skip k k=k+1 by simp[skip],show skip (k+1) k=k by simp[skip],g,f,p,h]at d;rw[show k+1+k=k+k+1 by omega,lK,rZ,wP,rZ,wP]at d;have a:aO (k+2) T=bm (k+1) A i j:=F;rw[v,a]at o;have:aO k A*(aO k A*bm (k+1) A i j)=aO k A*(bm k A k k*bm k A i j-bm k A i k*bm k A k j):=by
  rw[<-o,<-d];grind
 exact Int.eq_of_mul_eq_mul_left m this
theorem zI(n k:Nat)(A:Mt)(b:k<n)(f:aO k A≠0)(h:∀i,k<=i->i<n->bm k A i k=0):aO n A=0:=by
 have d:aO k (tr A)≠0:=by rw[cY];exact f
 obtain⟨x,e⟩:=solve k (tr A) (tr A k);have j:=tA d e;have f:=(eF n).comb (tr A) k k aD b (aO k (tr A)) x;rw[(eF n).zero (tr A) k _ b λc g=>?_,cY n]at f
 ·have:=f.symm;rcases Int.mul_eq_zero.1 this with h|h
  ·exact absurd h d
  ·exact h
 ·by_cases b:c<k
  ·exact e c b
  ·rw[<-j c,qp];exact h c aq g
def pv(d:Nat)(a:Nat->Int)(s:Int):Int:=sm d λk=>a k*s^k
theorem Jn(n:Nat)(f:Nat->Int):sm (n+1) f=f 0+sm n λk=>f (k+1):=by
 induction n with
 |zero=>simp[sm]
 |succ n a=>rw[sm,a,sm];omega
theorem xh(d:Nat)(a:Nat->Int)(s:Int):pv (d+1) a s=a 0+s*pv d (λk=>a (k+1)) s:=by
 unfold pv;rw[Jn,<-dL];simp only[Int.pow_zero,Int.mul_one];congr 1;exact aR λk _=>by rw[Int.pow_succ];grind
theorem rj{z:Int}(h:∀s:Int,s≠0->∃r,z=s*r):z=0:=by
 obtain⟨r,a⟩:=h (z.natAbs+1) aq;by_cases b:z=0
 ·exact b
 ·exfalso;have:r≠0:=by intro e;rw[e]at a;omega
  have b:z.natAbs=((z.natAbs:Int)+1).natAbs*r.natAbs:=by rw[<-Int.natAbs_mul,<-a]
  have a:((z.natAbs:Int)+1).natAbs=z.natAbs+1:=aq;rw[a]at b;have:1<=r.natAbs:=aq;have:=Nat.mul_le_mul_left (z.natAbs+1) this;omega
theorem JJ:∀(d:Nat) (a:Nat->Int),(∀s:Int,s≠0->pv d a s=0)->∀k,k<d->a k=0:=by
 intro d;induction d with
 |zero=>intro a _ k f;omega
 |succ d e=>
  intro a h k f;have c:a 0=0:=rj λs b=>⟨- pv d (λk=>a (k+1)) s,by have:=h s b;rw[xh]at this;grind⟩;cases k with
  |zero=>exact c
  |succ k=>
   refine e (λk=>a (k+1)) (λs b=>?_) k aq;have:=h s b;rw[xh,c,Int.zero_add]at this;rcases Int.mul_eq_zero.1 this with h|h
   ·exact absurd h b
   ·exact h
theorem GY{d:Nat}{a b:Nat->Int}(h:∀s:Int,s≠0->pv d a s=pv d b s):∀k,k<d->a k=b k:=by
 intro k f;have:=JJ d (λk=>a k-b k) (λs c=>by
  have e:pv d (λk=>a k-b k) s=pv d a s-pv d b s:=by
   unfold pv;rw[show sm d (λk=>a k*s^k)-sm d (λk=>b k*s^k)=1*sm d (λk=>a k*s^k)+(-1)*sm d (λk=>b k*s^k) by omega,<-fQ];exact aR λk _=>aC
  rw[e,h s c,Int.sub_self]) k f
 omega
def vK:Nat->Mt->Mt->Nat->Int
 |0,_,_,k=>if k=0 then 1 else 0
 |m+1,a,b,k=>sm (m+1) λj=>jl j*(a 0 j*vK m (minor a 0 j) (minor b 0 j) k+(if k=0 then 0 else b 0 j*vK m (minor a 0 j) (minor b 0 j) (k-1)))
theorem Ef:∀(m:Nat) (a b:Mt) (k:Nat),m<k->vK m a b k=0:=by
 intro m;induction m with
 |zero=>intro a b k d;simp only[vK];rw[aa aq]
 |succ m c=>
  intro a b k d;simp only[vK];refine fK λj _=>?_;rw[c _ _ k aq,c _ _ (k-1) aq,aa aq];grind
theorem Ky:∀(m:Nat) (a b:Mt),vK m a b m=aO m b:=by
 intro m;induction m with
 |zero=>intro a b;rfl
 |succ m c=>
  intro a b;simp only[vK,aO];refine aR λj _=>?_;rw[Ef m _ _ (m+1) aq,aa aq,show m+1-1=m by omega,c];grind
theorem Kz:∀(m:Nat) (a b:Mt),vK m a b 0=aO m a:=by
 intro m;induction m with
 |zero=>intro a b;rfl
 |succ m c=>
  intro a b;simp only[vK,aO];refine aR λj _=>?_;rw[ab trivial,c];grind
def mZ(a b:Mt)(s:Int):Mt:=λi j=>a i j+s*b i j
theorem G0{d:Nat}{a:Nat->Int}(h:a d=0)(s:Int):pv (d+1) a s=pv d a s:=by
 unfold pv;rw[sm,h];omega
theorem GX(d:Nat)(a b:Nat->Int)(x y s:Int):pv d (λk=>x*a k+y*b k) s=x*pv d a s+y*pv d b s:=by
 unfold pv;rw[<-fQ];exact aR λk _=>aC
theorem zw(d:Nat)(a:Nat->Int)(s:Int):pv (d+1) (λk=>if k=0 then 0 else a (k-1)) s=s*pv d a s:=by
 rw[xh];simp
theorem GW(d n:Nat)(a:Nat->Nat->Int)(s:Int):pv d (λk=>sm n λj=>a j k) s=sm n λj=>pv d (a j) s:=by
 unfold pv;rw[<-pI];exact aR λk _=>(pJ n _ _).symm
theorem Eb:∀(m:Nat) (a b:Mt) (s:Int),aO m (mZ a b s)=pv (m+1) (vK m a b) s:=by
 intro m;induction m with
 |zero=>intro a b s;simp[aO,pv,sm,vK]
 |succ m c=>
  intro a b s;have d:aO (m+1) (mZ a b s)=sm (m+1) λj=>jl j*(a 0 j+s*b 0 j)*pv (m+1) (vK m (minor a 0 j) (minor b 0 j)) s:=by
   simp only[aO];refine aR λj _=>?_;rw[show minor (mZ a b s) 0 j=mZ (minor a 0 j) (minor b 0 j) s from F,c];rfl
  rw[d];have c:pv (m+1+1) (vK (m+1) a b) s=sm (m+1) λj=>pv (m+1+1) (λk=>jl j*a 0 j*vK m (minor a 0 j) (minor b 0 j) k+jl j*b 0 j*(if k=0 then 0 else vK m (minor a 0 j) (minor b 0 j) (k-1))) s:=by
   rw[<-GW];unfold pv;refine aR λk _=>?_;congr 1;simp only[vK];refine aR λj _=>?_;split<;>grind
  rw[c];refine aR λj _=>?_;rw[GX,zw,G0 (Ef m _ _ (m+1) aq)];grind
theorem mE{n:Nat}{f:Nat->Int}{h:Int}(a:∀i,i<n->h∣f i):h∣sm n f:=by
 induction n with
 |zero=>exact⟨0,by simp[sm]⟩
 |succ n b=>exact Int.dvd_add (b λi b=>a i aq) (a n aq)
theorem Kw(h:Int):∀(n:Nat) (A C:Mt),(∀i j,i<n->j<n->h∣C i j-A i j)->h∣aO n C-aO n A:=by
 intro n;induction n with
 |zero=>intro A C _;simp[aO]
 |succ n b=>
  intro A C a;simp only[aO];have e:(sm (n+1) λj=>jl j*C 0 j*aO n (minor C 0 j))-(sm (n+1) λj=>jl j*A 0 j*aO n (minor A 0 j))=sm (n+1) λj=>jl j*C 0 j*(aO n (minor C 0 j)-aO n (minor A 0 j))+jl j*aO n (minor A 0 j)*(C 0 j-A 0 j):=by
   rw[show ∀x y:Int,x-y=1*x+(-1)*y by intros;omega,<-fQ];exact aR λj _=>aC
  rw[e];refine mE λj d=>Int.dvd_add (Int.dvd_mul_of_dvd_right (b _ _ λr c b c=>a _ _ (iT b) (iT c))) (Int.dvd_mul_of_dvd_right (a 0 j aq d))
theorem FC(n:Nat)(A E:Mt)(h:Int):∀t,t<=n+1->∃R:Int,aO (n+1) (λi j=>if i<t then A i j+h*E i j else A i j)=aO (n+1) A+h*(sm t λi=>sm (n+1) λj=>E i j*uK n A i j)+h*h*R:=by
 intro t;induction t with
 |zero=>intro _;exact⟨0,by simp[sm]⟩
 |succ t b=>
  intro a;obtain⟨R,d⟩:=b aq;let C:Mt:=λi j=>if i<t then A i j+h*E i j else A i j;have f:aO (n+1) (λi j=>if i<t+1 then A i j+h*E i j else A i j)=aO (n+1) (cj C t λc=>C t c+h*E t c):=by
   refine bk λi j _ _=>?_;simp only[cj,C];grind
  have e:aO (n+1) (cj C t (E t))=sm (n+1) λj=>E t j*uK n C t j:=by
   rw[<-mF n _ t aq];refine aR λj _=>?_;have:minor (cj C t (E t)) t j=minor C t j:=by
    funext r c;simp only[minor,cj];rw[aa];unfold skip;split<;>omega
   rw[this];simp[cj,uK]
  have b:h∣(sm (n+1) λj=>E t j*uK n C t j)-sm (n+1) λj=>E t j*uK n A t j:=by
   rw[show ∀x y:Int,x-y=1*x+(-1)*y by intros;omega,<-fQ];refine mE λj _=>?_;have:=Kw h n (minor A t j) (minor C t j) λr c _ _=>by
    simp only[minor,C];split
    ·exact⟨E (skip t r) (skip j c),aq⟩
    ·exact⟨0,aq⟩
   obtain⟨q,a⟩:=this;refine⟨E t j*jl (t+j)*q,?_⟩;unfold uK;have:aO n (minor C t j)=aO n (minor A t j)+h*q:=aq;rw[this];grind
  obtain⟨q,a⟩:=b;refine⟨R+q,?_⟩;rw[f,(eF (n+1)).add C t (C t) _ aq,(eF (n+1)).smul C t (E t) h aq,gZ,e,d];rw[show ∀f:Nat->Int,sm (t+1) f=sm t f+f t from λ_=>rfl];have:(sm (n+1) λj=>E t j*uK n C t j)=(sm (n+1) λj=>E t j*uK n A t j)+h*q:=aq;rw[this];grind
theorem E8(s h:Int)(k:Nat):∃R:Int,(s+h)^(k+1)=s^(k+1)+h*((k+1:Nat)*s^k)+h*h*R:=by
 induction k with
 |zero=>exact⟨0,by simp[Int.pow_succ]⟩
 |succ k a=>
  obtain⟨R,b⟩:=a;refine⟨(k+1:Nat)*s^k+(s+h)*R,?_⟩;rw[Int.pow_succ,b];have:s^(k+1)=s^k*s:=Int.pow_succ ..;have a:s^(k+1+1)=s^k*s*s:=by rw[Int.pow_succ,this]
  rw[this,a]
  push_cast
  grind
theorem GZ(d:Nat)(a:Nat->Int)(s h:Int):∃R:Int,pv (d+1) a (s+h)=pv (d+1) a s+h*pv d (λk=>(k+1:Nat)*a (k+1)) s+h*h*R:=by
 induction d with
 |zero=>exact⟨0,by simp[pv,sm]⟩
 |succ d b=>
  obtain⟨R,e⟩:=b;obtain⟨b,c⟩:=E8 s h d;refine⟨R+a (d+1)*b,?_⟩;have b:∀x,pv (d+1+1) a x=pv (d+1) a x+a (d+1)*x^(d+1):=λx=>rfl;have f:pv (d+1) (λk=>(k+1:Nat)*a (k+1)) s=pv d (λk=>(k+1:Nat)*a (k+1)) s+(d+1:Nat)*a (d+1)*s^d:=F;rw[b,b,f,e,c];grind
theorem Kh(n:Nat)(M:Mt):∃(P:Nat->Mt) (c:Nat->Int),
 (∀i j,i<n+1->j<n+1->P 0 i j=one i j)/\
 (∀k i j,k<n->i<n+1->j<n+1->P (k+1) i j=mul (n+1) M (P k) i j+c (k+1)*one i j)/\
 (∀k,k<n+1->((k+1:Nat):Int)*c (k+1)=- sm (n+1) λi=>mul (n+1) M (P k) i i)/\
 (∀i j,i<n+1->j<n+1->P n i j=fY n (λa b=>- M a b) i j):=by
 let N:Mt:=λa b=>- M a b;let P:Nat->Mt:=λk i j=>jl (j+i)*vK n (minor one j i) (minor N j i) k;let c:Nat->Int:=vK (n+1) one N;have o:∀s,aO (n+1) (mZ one N s)=pv (n+2) c s:=λs=>Eb (n+1) one N s;have p:∀s i j,fY n (mZ one N s) i j=pv (n+1) (λk=>P k i j) s:=λs i j=>by
  show jl (j+i)*aO n (mZ (minor one j i) (minor N j i) s)=_;rw[Eb];unfold pv;rw[<-dL];exact aR λk _=>by simp only[P];grind
 have m:∀s i j,mul (n+1) M (fY n (mZ one N s)) i j=pv (n+1) (λk=>mul (n+1) M (P k) i j) s:=λs i j=>by
  simp only[mul,p];rw[GW];refine aR λt _=>?_;unfold pv;rw[<-dL];exact aR λk _=>aC
 have u:∀i j,i<n+1->j<n+1->∀k,k<n+2->(if k<n+1 then P k i j else 0)-(if k=0 then 0 else mul (n+1) M (P (k-1)) i j)=c k*one i j:=λi j f g=>by
  refine GY λs _=>?_;have h:=mA n (mZ one N s) i j f g;have q:mul (n+1) (mZ one N s) (fY n (mZ one N s)) i j=fY n (mZ one N s) i j-s*mul (n+1) M (fY n (mZ one N s)) i j:=by
   have e:mul (n+1) (mZ one N s) (fY n (mZ one N s)) i j=1*mul (n+1) one (fY n (mZ one N s)) i j+(-s)*mul (n+1) M (fY n (mZ one N s)) i j:=by
    simp only[mul];rw[<-fQ];exact aR λt _=>by simp only[mZ,N];grind
   rw[e,one_mul (n+1) _ i j f];grind
  rw[q,m,p,o]at h;have p:pv (n+2) (λk=>(if k<n+1 then P k i j else 0)-(if k=0 then 0 else mul (n+1) M (P (k-1)) i j)) s=pv (n+1) (λk=>P k i j) s-s*pv (n+1) (λk=>mul (n+1) M (P k) i j) s:=by
   have e:pv (n+2) (λk=>1*(if k<n+1 then P k i j else 0)+(-1)*(if k=0 then 0 else mul (n+1) M (P (k-1)) i j)) s=_:=GX (n+2) (λk=>if k<n+1 then P k i j else 0) (λk=>if k=0 then 0 else mul (n+1) M (P (k-1)) i j) 1 (-1) s;rw[zw (n+1) (λk=>mul (n+1) M (P k) i j) s,G0 (a:=λk=>if k<n+1 then P k i j else 0) (d:=n+1) (aa (Nat.lt_irrefl _))]at e;have t:pv (n+1) (λk=>if k<n+1 then P k i j else 0) s=pv (n+1) (λk=>P k i j) s:=aR λk r=>by dsimp only;rw[ab r]
   rw[t]at e;have t:pv (n+2) (λk=>(if k<n+1 then P k i j else 0)-(if k=0 then 0 else mul (n+1) M (P (k-1)) i j)) s=pv (n+2) (λk=>1*(if k<n+1 then P k i j else 0)+(-1)*(if k=0 then 0 else mul (n+1) M (P (k-1)) i j)) s:=aR λk _=>by dsimp only;congr 1;omega
   rw[t,e];omega
  rw[p,h];have e:pv (n+2) (λk=>c k*one i j) s=pv (n+2) c s*one i j:=by
   unfold pv;rw[<-pJ];exact aR λk _=>aC
  rw[e];simp only[one];split<;>simp
 have e:c 0=1:=by show vK (n+1) one N 0=1;rw[Kz,qi]
 refine⟨P,c,λi j f g=>?_,λk i j r f g=>?_,?_,λi j _ _=>?_⟩
 ·have:=u i j f g 0 aq;rw[ab aq,ab F,e]at this;omega
 ·have:=u i j f g (k+1) aq;rw[ab aq,aa aq,show k+1-1=k by omega]at this;omega
 ·
  refine GY (a:=λk=>((k+1:Nat):Int)*c (k+1)) (b:=λk=>- sm (n+1) λi=>mul (n+1) M (P k) i i) λs _=>?_;have e:pv (n+1) (λk=>((k+1:Nat):Int)*c (k+1)) s-pv (n+1) (λk=>- sm (n+1) λi=>mul (n+1) M (P k) i i) s=0:=by
   refine rj λh l=>?_;obtain⟨R,r⟩:=GZ (n+1) c s h;obtain⟨g,e⟩:=FC n (mZ one N s) N h (n+1) aD;have q:aO (n+1) (λi j=>if i<n+1 then mZ one N s i j+h*N i j else mZ one N s i j)=pv (n+2) c (s+h):=by
    rw[<-o];refine bk λi j f _=>?_;rw[ab f];simp only[mZ];grind
   have p:(sm (n+1) λi=>sm (n+1) λj=>N i j*uK n (mZ one N s) i j)=pv (n+1) (λk=>- sm (n+1) λi=>mul (n+1) M (P k) i i) s:=by
    have a:pv (n+1) (λk=>sm (n+1) λi=>(-1)*mul (n+1) M (P k) i i) s=sm (n+1) λi=>pv (n+1) (λk=>(-1)*mul (n+1) M (P k) i i) s:=GW (n+1) (n+1) (λi k=>(-1)*mul (n+1) M (P k) i i) s;have b:pv (n+1) (λk=>- sm (n+1) λi=>mul (n+1) M (P k) i i) s=pv (n+1) (λk=>sm (n+1) λi=>(-1)*mul (n+1) M (P k) i i) s:=aR λk _=>by dsimp only;rw[dL];congr 1;omega
    rw[b,a];refine aR λi _=>?_;have d:pv (n+1) (λk=>(-1)*mul (n+1) M (P k) i i) s=(-1)*pv (n+1) (λk=>mul (n+1) M (P k) i i) s:=by
     unfold pv;rw[<-dL];exact aR λk _=>aC
    rw[d,<-m];simp only[mul];rw[<-dL];refine aR λj _=>?_;simp only[N,fY];grind
   rw[q,o,p]at e;refine⟨g-R,?_⟩;have f:h*(pv (n+1) (λk=>((k+1:Nat):Int)*c (k+1)) s-pv (n+1) (λk=>- sm (n+1) λi=>mul (n+1) M (P k) i i) s)=h*(h*(g-R)):=by
    rw[e]at r;grind
   exact Int.eq_of_mul_eq_mul_left l f
  omega
 ·show jl (j+i)*vK n (minor one j i) (minor N j i) n=jl (j+i)*aO n (minor N j i);rw[Ky]
end Go.aW
namespace Go.Proofs.Qq
section
open Go.aW
theorem Cw(n k:Nat)(M:Nat->Nat->Int):∀(a p:Nat),p+a=n->p<=iI n k M a p/\iI n k M a p<=n/\(∀q,p<=q->q<iI n k M a p->M q k=0)/\(iI n k M a p<n->M (iI n k M a p) k≠0):=by
 intro a;induction a with
 |zero=>intro p i;simp only[iI];exact⟨aD,aq,λq c b=>aq,λh=>aq⟩
 |succ a g=>
  intro p i;simp only[iI];split
  ·rename_i h;obtain⟨c,b,l,j⟩:=g (p+1) aq;refine⟨aq,b,λq o d=>?_,j⟩;by_cases e:q=p
   ·rw[e];exact h.2
   ·exact l q aq d
  ·rename_i h;exact⟨aD,aq,λq c b=>aq,λf m=>h ⟨f,m⟩⟩
theorem Ca{n k:Nat}(M:Nat->Nat->Int)(a:k<=n):k<=dS n k M/\dS n k M<=n/\(∀q,k<=q->q<dS n k M->M q k=0)/\(dS n k M<n->M (dS n k M) k≠0):=Cw n k M (n-k) k (by omega)
theorem L5{α:Type}(k:Nat)(M:Nat->α):swp k k M=M:=by
 funext i;simp only[swp];split
 ·rename_i h;rw[h]
 ·rfl
theorem D_{n k p:Nat}(A:Mt)(b:k<n)(a:p<n):aO n (swp k p A)=if p=k then aO n A else-aO n A:=by
 split
 ·rename_i h;rw[h,L5]
 ·rename_i h;exact(eF n).swap A k p b a λe=>h e.symm
theorem Ik{k p i j:Nat}(A:Mt)(a:k<=p)(_hi:k<=i):bm k (swp k p A) i j=swp k p (bm k A) i j:=by
 have a:∀b,swp k p A i=A b->bm k (swp k p A) i j=bm k A b j:=λb d=>by
  unfold bm;refine bk λr c _ _=>?_;by_cases b:r<k
  ·simp only[ab b];simp only[swp];rw[aa aq,aa aq]
  ·simp only[aa b];rw[d]
 by_cases e:i=k
 ·rw[a p (by simp only[swp];rw[ab e])];simp only[swp];rw[ab e]
 ·by_cases b:i=p
  ·rw[a k (by simp only[swp];rw[aa e,ab b])];simp only[swp];rw[aa e,ab b]
  ·rw[a i (by simp only[swp];rw[aa e,aa b])];simp only[swp];rw[aa e,aa b]
theorem rH{k p:Nat}(A:Mt)(a:k<=p):aO k (swp k p A)=aO k A:=
 bk λr c a _=>by simp only[swp];rw[aa aq,aa aq]
theorem Ek(A:Mt)(i j:Nat):bm 0 A i j=A i j:=by
 simp[bm,aO,sm,jl]
theorem Kq{n k:Nat}{M A:Mt}{a:Int}(b:k<n)(f:aO k A=a)(g:a≠0)(c:∀i j,k<=i->i<n->k<=j->j<n->M i j=bm k A i j)(i j:Nat)(d:k+1<=i)(e:i<n)(d:k+1<=j)(d:j<n):
 elim k a M i j=bm (k+1) A i j:=by
 simp only[elim];rw[ab aq,c k k aq b aq b,c i j aq e aq d,c i k aq e aq b,c k j aq b aq d];rw[<-fv k A i j (by rw[f];exact g),f];exact Int.mul_ediv_cancel_left _ g
theorem FE(n:Nat):∀(m k:Nat) (M A:Mt) (b:Bool) (a:Int),k+m=n->aO k A=a->a≠0->(∀i j,k<=i->i<n->k<=j->j<n->M i j=bm k A i j)->
 jU n m k M b a=if b then-aO n A else aO n A:=by
 intro m;induction m with
 |zero=>
  intro k M A b a u h _ _;obtain rfl:k=n:=aq;simp only[jU];rw[h]
 |succ m w=>
  intro k M A b a u h r l;obtain⟨q,m,v,u⟩:=Ca M (show k<=n by omega);simp only[jU];by_cases m:dS n k M=n
  ·rw[ab m];have:=zI n k A aq (by rw[h];exact r) λi f d=>by rw[<-l i k f d aD aq];exact v i f aq
   rw[this];simp
  ·rw[aa m];have kO:dS n k M<n:=aq;have s:=u kO;generalize dS n k M=p at*;have o:∀i j,k<=i->i<n->k<=j->j<n->swp k p M i j=bm k (swp k p A) i j:=λi j f d g c=>by
    rw[Ik A q f];simp only[swp];by_cases e:i=k
    ·rw[ab e,ab e];exact l p j q kO g c
    ·rw[aa e,aa e];by_cases m:i=p
     ·rw[ab m,ab m];exact l k j aD aq g c
     ·rw[aa m,aa m];exact l i j f d g c
   have l:swp k p M k k=M p k:=by simp[swp]
   have t:aO k (swp k p A)=a:=by rw[rH A q,h]
   rw[w (k+1) _ (swp k p A) _ (swp k p M k k) aq ?_ (by rw[l];exact s) ?_]
   ·rw[D_ A aq kO];cases b<;>by_cases e:p=k<;>simp[e]
   ·rw[o k k aD aq aD aq,db]
   ·intro i j f d g c;exact Kq aq t r o i j f d g c
theorem eJ(n:Nat)(M:Mt):gj n M=aO n M:=by
 have:=FE n n 0 M M false 1 aq F aw λi j _ _ _ _=>(Ek M i j).symm;simpa[gj]using this
