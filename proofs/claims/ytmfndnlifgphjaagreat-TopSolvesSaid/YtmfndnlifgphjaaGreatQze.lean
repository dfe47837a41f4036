import Derived.Test.YtmfndnlifgphjaaGreatQzd
set_option maxHeartbeats 64000000
namespace Go.bc
def cr(k:Nat)(P:Mt)(i j:Nat):Int:=aQ k (mC P i λr=>P r j)
theorem Cj(m:Nat)(P:Mt)(c j:Nat)(a:c<m+1):cr (m+1) P c j=sm (m+1) λq=>fa m P c q*P q j:=by
 unfold cr;rw[<-df,show tr (mC P c λr=>P r j)=bJ (tr P) c λr=>P r j from rfl,<-jd m _ c a];refine aO λq _=>?_;have b:bJ (tr P) c (λr=>P r j) c q=P q j:=by simp[bJ]
 have a:minor (bJ (tr P) c λr=>P r j) c q=minor (tr P) c q:=by
  funext r s;simp only[minor,bJ];rw[aa (by unfold skip;split<;>omega)]
 rw[b,a,Int.mul_comm];congr 1;exact Cp m P c q
theorem p_(k:Nat)(P:Mt)(r j:Nat)(a:r<k):(sm k λc=>P r c*cr k P c j)=aQ k P*P r j:=by
 cases k with
 |zero=>omega
 |succ m=>
  rw[aO (λc b=>by rw[Cj m P c j b])];have b:(sm (m+1) λc=>P r c*sm (m+1) λq=>fa m P c q*P q j)=mul (m+1) P (mul (m+1) (fa m P) P) r j:=F;rw[b,<-mul_assoc];simp only[mul];rw[cG (c:=r) a λq b d=>?_]
  ·have:=jJ m P r r a a;rw[ae F]at this;simp only[mul]at this;rw[this]
  ·have:=jJ m P r q a b;rw[aa (Ne.symm d)]at this;simp only[mul]at this;rw[this,Int.zero_mul]
theorem uniq(k:Nat)(P:Mt)(u:Nat->Int)(f:aQ k P≠0)(h:∀r,r<k->(sm k λc=>P r c*u c)=0):∀c,c<k->u c=0:=by
 intro c a;cases k with
 |zero=>omega
 |succ m=>
  have d:mul (m+1) (mul (m+1) (fa m P) P) (λq _=>u q) c 0=aQ (m+1) P*u c:=by
   simp only[mul];rw[cG (c:=c) a λq b e=>?_]
   ·have:=jf m P c c a a;rw[ae F]at this;simp only[mul]at this;rw[this]
   ·have:=jf m P c q a b;rw[aa (Ne.symm e)]at this;simp only[mul]at this;rw[this,Int.zero_mul]
  rw[mul_assoc]at d;have a:mul (m+1) (fa m P) (mul (m+1) P λq _=>u q) c 0=0:=by
   simp only[mul];exact iD λq b=>by rw[h q b,Int.mul_zero]
  rw[a]at d;rcases Int.mul_eq_zero.1 d.symm with h|h
  ·exact absurd h f
  ·exact h
theorem yH(k:Nat)(P:Mt)(j:Nat):cr (k+1) P k j=bm k P k j:=by
 unfold cr bm;refine aY λr c a a=>?_;simp only[mC];have e:(if r<k then r else k)=r:=by split<;>omega
 rw[e];by_cases h:c=k
 ·rw[ae h,aa aq]
 ·rw[aa h,ae aq]
theorem EP(k:Nat)(P:Mt)(i j:Nat)(d:i<k)(a:aQ k P≠0):aQ k P*cr (k+1) P i j=aQ (k+1) P*cr k P i j-cr k P i k*bm k P k j:=by
 have h:=uniq k P (λc=>aQ k P*cr (k+1) P c j+((-1)*(aQ (k+1) P*cr k P c j)+bm k P k j*cr k P c k)) a (λr a=>by
  have b:=p_ (k+1) P r j aq;simp only[sm]at b;rw[yH]at b;have e:=p_ k P r j a;have b:=p_ k P r k a;rw[aO (g:=λc=>aQ k P*(P r c*cr (k+1) P c j)+1*((- aQ (k+1) P)*(P r c*cr k P c j)+bm k P k j*(P r c*cr k P c k))) λc _=>aC];rw[e8,e8,e,b];have a:(sm k λc=>P r c*cr (k+1) P c j)=aQ (k+1) P*P r j-P r k*bm k P k j:=aq;rw[a];grind) i d
 grind
structure JI(n k:Nat)(A P:Mt)(l:Int):Prop where
 lt:∀i j,i<k->i<n->k<=j->j<=n->A i j=cr k P i j
 ge:∀i j,k<=i->i<n->k<=j->j<=n->A i j=bm k P i j
 eq:l=aQ k P
 ne:l≠0
theorem JI.start(n:Nat)(A:Mt):JI n 0 A A 1:=⟨λ_ _ h=>absurd h (by omega),λi j _ _ _ _=>(CB A i j).symm,rfl,by decide⟩
def sw(k p i:Nat):Nat:=if i=k then p else if i=p then k else i
theorem ep(k p:Nat)(A:Mt)(i:Nat):jE k p A i=A (sw k p i):=by
 unfold jE sw;split
 ·rfl
 ·split<;>rfl
theorem kO{n k p i:Nat}(b:k<n)(a:p<n)(c:i<n):sw k p i<n:=by unfold sw;split;exact a;split;exact b;exact c
theorem nW{k p i:Nat}(a:k<=p)(a:i<k):sw k p i=i:=by unfold sw;rw[aa (by omega),aa (by omega)]
theorem FO{k p i:Nat}(a:k<=p)(b:k<=i):k<=sw k p i:=by unfold sw;split;exact a;split;exact Nat.le_refl _;exact b
theorem qZ(k p i:Nat):sw k p (sw k p i)=i:=by
 unfold sw;by_cases b:i=k
 ·rw[ae b];by_cases a:p=k
  ·rw[ae a];omega
  ·rw[aa a,ae F];exact b.symm
 ·rw[aa b];by_cases a:i=p
  ·rw[ae a,ae F];exact a.symm
  ·rw[aa a,aa b,aa a]
theorem H9{k p:Nat}(P:Mt)(i j:Nat)(a:k<=p):bm k (jE k p P) i j=bm k P (sw k p i) j:=by
 unfold bm;refine aY λr c _ _=>?_;by_cases h:r<k
 ·rw[ae h,ep,nW a h,ae h]
 ·rw[aa h,ep,aa h]
theorem GR{k p:Nat}(P:Mt)(b:k<=p):aQ k (jE k p P)=aQ k P:=aY λr c a _=>by rw[ep,nW b a]
theorem H6{k p:Nat}(P:Mt)(i j:Nat)(b:k<=p):cr k (jE k p P) i j=cr k P i j:=by
 unfold cr;refine aY λr c a _=>?_;simp only[mC];rw[ep,nW b a]
theorem JI.swap{n k p:Nat}{A P:Mt}{l:Int}(h:JI n k A P l)(a:k<=p)(f:p<n):JI n k (jE k p A) (jE k p P) l:=by
 refine⟨λi j b e d c=>?_,λi j b e d c=>?_,?_,h.ne⟩
 ·rw[ep,nW a b,H6 P i j a];exact h.lt i j b e d c
 ·rw[ep,H9 P i j a];exact h.ge _ j (FO a b) (kO aq f e) d c
 ·rw[GR P a];exact h.eq
def Em(k:Nat)(A:Mt)(l:Int)(i j:Nat):Int:=(A k k*A i j-A i k*A k j)/l
theorem JI.step{n k:Nat}{A P A':Mt}{l:Int}(h:JI n k A P l)(c:k<n)(d:A k k≠0)(g:∀i j,i<n->k<j->j<=n->A' i j=if i=k then A i j else Em k A l i j):JI n (k+1) A' P (A k k):=by
 have e:A k k=aQ (k+1) P:=by rw[h.ge k k aD c aD aq,s8]
 have f:aQ k P≠0:=by rw[<-h.eq];exact h.ne
 refine⟨λi j o b m a=>?_,λi j o b m a=>?_,e,d⟩
 ·rw[g i j b aq a];by_cases d:i=k
  ·rw[ae d,d,yH];exact h.ge k j aD c aq a
  ·rw[aa d];unfold Em;rw[e,h.lt i j aq b aq a,h.lt i k aq b aD aq,h.ge k j aD c aq a,<-EP k P i j aq f,h.eq,Int.mul_ediv_cancel_left _ f]
 ·rw[g i j b aq a,aa aq];unfold Em;rw[h.ge k k aD c aD aq,h.ge i j aq b aq a,h.ge i k aq b aD aq,h.ge k j aD c aq a,<-fW k P i j f,h.eq,Int.mul_ediv_cancel_left _ f]
theorem JI.IG{n k:Nat}{A P:Mt}{l:Int}(h:JI n k A P l)(a:k<n)(c:∀i,k<=i->i<n->A i k=0):aQ n P=0:=
 pJ n k P a (by rw[<-h.eq];exact h.ne) λi b a=>by rw[<-h.ge i k b a aD aq];exact c i b a
def PR(n:Nat)(P M:Mt)(s:Int):Prop:=(s=1\/s=-1)/\∀T:(Nat->Int)->Nat->Int,aQ n (λr=>T (P r))=s*aQ n (λr=>T (M r))
theorem PR.start(n:Nat)(M:Mt):PR n M M 1:=⟨.inl F,λT=>by rw[Int.one_mul]⟩
theorem PR.swap{n k p:Nat}{P M:Mt}{s:Int}(h:PR n P M s)(d:k<n)(c:p<n):∃b,PR n (jE k p P) M b:=by
 by_cases e:k=p
 ·subst e;refine⟨s,h.1,λT=>?_⟩;rw[<-h.2 T];congr 1;funext r;rw[ep];unfold sw;by_cases a:r=k
  ·rw[ae a,a]
  ·rw[aa a,aa a]
 ·refine⟨-s,by rcases h.1 with rfl|rfl;exact .inr F;exact .inl F,λT=>?_⟩;have a:(λr=>T (jE k p P r))=jE k p λr=>T (P r):=by
   funext r;rw[ep,ep]
  rw[a,(eI n).swap _ k p d c e,h.2 T,Int.neg_mul]
theorem PR.aQ{n:Nat}{P M:Mt}{s:Int}(h:PR n P M s):Go.bc.aQ n P=s*Go.bc.aQ n M:=h.2 λr=>r
theorem PR.cr{n:Nat}{P M:Mt}{s:Int}(h:PR n P M s)(i j:Nat):cr n P i j=s*Go.bc.cr n M i j:=h.2 λr c=>if c=i then r j else r c
theorem Cm{m k:Nat}{Q:Mt}{j:Nat}(a:aQ k Q≠0)(h:∀i,k<=i->i<m->bm k Q i j=0):∃y:Nat->Int,∀i,i<m->aQ k Q*Q i j=sm k λt=>Q i t*y t:=by
 have b:aQ k (tr Q)≠0:=by rw[df];exact a
 obtain⟨x,a⟩:=solve k (tr Q) (tr Q j);have d:=s7 b a;refine⟨λt=>- x t,λi c=>?_⟩;have e:aQ k (tr Q)*tr Q j i+(sm k λr=>x r*tr Q r i)=0:=by
  by_cases b:i<k
  ·exact a i b
  ·rw[<-d i,F2];exact h i aq c
 rw[df]at e;have a:(sm k λt=>Q i t*- x t)=- sm k λr=>x r*tr Q r i:=by
  rw[show-(sm k λr=>x r*tr Q r i)=(-1)*sm k λr=>x r*tr Q r i by omega,<-dD];exact aO λt _=>by simp only[tr];grind
 rw[a];have a:tr Q j i=Q i j:=F;rw[a]at e;omega
def tV(m n:Nat)(A:Mt)(r:Nat):Prop:=∃d:Int,d≠0/\∃U V:Mt,∀i j,i<m->j<n->d*A i j=sm r λt=>U i t*V t j
def Hi(m n:Nat)(A:Mt)(r:Nat):Prop:=∃I J:Nat->Nat,(∀t,t<r->I t<m/\J t<n)/\aQ r (λa b=>A (I a) (J b))≠0
def Rk(m n:Nat)(A:Mt)(r:Nat):Prop:=Hi m n A r/\tV m n A r
theorem Gm{r s:Nat}{f:Nat->Int}(h:r<=s):(sm s λt=>if t<r then f t else 0)=sm r f:=by
 induction s with
 |zero=>
  have:r=0:=aq;subst this;rfl
 |succ s a=>
  by_cases e:r=s+1
  ·subst e;exact aO λt b=>ae b
  ·simp only[sm];rw[a aq,aa aq];omega
theorem uX:∀(n:Nat) (A:Mt) (d:Int),aQ n (λi j=>d*A i j)=d^n*aQ n A
 |0,_,_=>by simp[aQ]
 |n+1,A,d=>by
  simp only[aQ];rw[<-dD];refine aO λj _=>?_;have:minor (λi j=>d*A i j) 0 j=λi c=>d*minor A 0 j i c:=F;rw[this,uX n];rw[Int.pow_succ];grind
theorem tV.le{m n r s:Nat}{A:Mt}(h:tV m n A r)(a:Hi m n A s):s<=r:=by
 obtain⟨d,f,U,V,h⟩:=h;obtain⟨I,J,c,b⟩:=a;by_cases e:s<=r
 ·exact e
 exfalso;apply b;have e:aQ s (λa b=>d*A (I a) (J b))=aQ s (mul s (λa t=>if t<r then U (I a) t else 0) λt b=>V t (J b)):=by
  refine aY λa b i g=>?_;rw[h (I a) (J b) (c a i).1 (c b g).2];simp only[mul];rw[<-Gm (s:=s) aq];exact aO λt _=>by split<;>simp
 have g:aQ s (λa t=>if t<r then U (I a) t else 0)=0:=by
  rw[<-df];have:=(eI s).zero (tr λa t=>if t<r then U (I a) t else 0) (s-1) (λ_=>0) aq λ_ _=>rfl;refine Eq.trans (aY λi j c c=>?_) this;simp only[bJ,tr];by_cases c:i=s-1
  ·rw[ae c,aa aq]
  ·rw[aa c]
 rw[fV,g,Int.zero_mul,uX s (λa b=>A (I a) (J b)) d]at e;rcases Int.mul_eq_zero.1 e with h|h
 ·exact absurd h (Int.pow_ne_zero f)
 ·exact h
theorem Hi.tr{m n r:Nat}{A:Mt}(h:Hi m n A r):Hi n m (tr A) r:=by
 obtain⟨I,J,c,b⟩:=h;refine⟨J,I,λt a=>⟨(c t a).2,(c t a).1⟩,?_⟩;rw[<-df]at b;exact b
theorem tV.tr{m n r:Nat}{A:Mt}(h:tV m n A r):tV n m (tr A) r:=by
 obtain⟨d,a,U,V,h⟩:=h;refine⟨d,a,λj t=>V t j,λt i=>U i t,λj i a b=>?_⟩;rw[show Go.bc.tr A j i=A i j from F,h i j b a];exact aO λt _=>Int.mul_comm _ _
theorem Rk.tr{m n r:Nat}{A:Mt}(h:Rk m n A r):Rk n m (tr A) r:=⟨h.1.tr,h.2.tr⟩
theorem tV.mul{m n q r:Nat}{A C:Mt}(h:tV m n A r):tV m q (Go.bc.mul n A C) r:=by
 obtain⟨d,a,U,V,h⟩:=h;refine⟨d,a,U,Go.bc.mul n V C,λi j b a=>?_⟩;show d*Go.bc.mul n A C i j=Go.bc.mul r U (Go.bc.mul n V C) i j;rw[<-mul_assoc];simp only[Go.bc.mul];rw[<-dD];exact aO λt a=>by rw[<-Int.mul_assoc,h i t b a]
theorem tV.zX(m n:Nat)(A:Mt):tV m n A n:=⟨1,by decide,A,one,λi j _ a=>by
 rw[Int.one_mul];exact(mul_one n A i j a).symm⟩
theorem tV.rows(m n:Nat)(A:Mt):tV m n A m:=(tV.zX n m (Go.bc.tr A)).tr
theorem Bv{m n r:Nat}{A U:Mt}:(∀j,j<n->∃d:Int,d≠0/\∃y:Nat->Int,∀i,i<m->d*A i j=sm r λt=>U i t*y t)->tV m n A r:=by
 intro h;suffices H:∀q,q<=n->∃d:Int,d≠0/\∃V:Mt,∀i j,i<m->j<q->d*A i j=sm r λt=>U i t*V t j by
  obtain⟨d,b,V,c⟩:=H n aD;exact⟨d,b,U,V,c⟩
 intro q;induction q with
 |zero=>exact λ_=>⟨1,ar,λ_ _=>0,λi j _ o=>aq⟩
 |succ q k=>
  intro f;obtain⟨d,b,V,c⟩:=k aq;obtain⟨e,f,y,l⟩:=h q aq;refine⟨d*e,Int.mul_ne_zero b f,λt j=>if j=q then d*y t else e*V t j,λi j g o=>?_⟩;by_cases a:j=q
  ·subst a;rw[Int.mul_assoc,l i g,<-dD];exact aO λt _=>by simp only[if_true];grind
  ·rw[show d*e*A i j=e*(d*A i j) by grind,c i j g aq,<-dD];exact aO λt _=>by simp only[aa a];grind
def n5(P:Mt)(cs:Nat->Nat)(k j:Nat):Mt:=λr t=>P r (if t<k then cs t else if t=k then j else t-(k+1))
def vf(k:Nat)(P:Mt)(cs:Nat->Nat)(i j:Nat):Int:=aQ (k+1) λr t=>P (if r<k then r else i) (if t<k then cs t else j)
def Cb(k:Nat)(P:Mt)(cs:Nat->Nat):Int:=aQ k λr t=>P r (cs t)
theorem m9(k j:Nat)(P:Mt)(cs:Nat->Nat):aQ k (n5 P cs k j)=Cb k P cs:=aY λr t _ a=>by simp only[n5];rw[ae a]
theorem sh(k j i:Nat)(P:Mt)(cs:Nat->Nat):bm k (n5 P cs k j) i k=vf k P cs i j:=by
 unfold bm vf;refine aY λr t _ a=>?_;simp only[n5];by_cases h:t<k
 ·rw[ae h,ae h,ae h]
 ·rw[aa h,aa h,aa (Nat.lt_irrefl k),ae F]
theorem uq(k j i c:Nat)(P:Mt)(cs:Nat->Nat):bm k (n5 P cs k j) i (k+1+c)=vf k P cs i c:=by
 unfold bm vf;refine aY λr t _ a=>?_;simp only[n5];by_cases h:t<k
 ·rw[ae h,ae h,ae h]
 ·rw[aa h,aa h,aa (show¬k+1+c<k by omega),aa (show¬k+1+c=k by omega),show k+1+c-(k+1)=c by omega]
theorem AY(k j i c:Nat)(P:Mt)(cs:Nat->Nat):bm (k+1) (n5 P cs k j) i (k+1+c)=vf (k+1) P (λt=>if t=k then j else cs t) i c:=by
 unfold bm vf;refine aY λr t _ b=>?_;simp only[n5];by_cases h:t<k
 ·rw[ae (show t<k+1 by omega),ae h,ae (show t<k+1 by omega),aa (show¬t=k by omega)]
 ·by_cases a:t=k
  ·subst a;rw[ae (show t<t+1 by omega),aa (Nat.lt_irrefl t),ae F,ae (show t<t+1 by omega),ae F]
  ·rw[aa (show¬t<k+1 by omega),aa (show¬k+1+c<k by omega),aa (show¬k+1+c=k by omega),aa (show¬t<k+1 by omega),show k+1+c-(k+1)=c by omega]
theorem CE(k:Nat)(P:Mt)(cs:Nat->Nat)(i j c:Nat)(a:Cb k P cs≠0):
 Cb k P cs*vf (k+1) P (λt=>if t=k then j else cs t) i c=vf k P cs k j*vf k P cs i c-vf k P cs i j*vf k P cs k c:=by
 have h:=fW k (n5 P cs k j) i (k+1+c) (by rw[m9];exact a);rw[m9,AY,sh,sh,uq,uq]at h;exact h
theorem Ca(k:Nat)(P:Mt)(cs:Nat->Nat)(j:Nat):Cb (k+1) P (λt=>if t=k then j else cs t)=vf k P cs k j:=by
 unfold Cb vf;refine aY λr t a a=>?_;have a:(if r<k then r else k)=r:=by split<;>omega
 rw[a];show P r (if t=k then j else cs t)=_;by_cases h:t<k
 ·rw[aa (show¬t=k by omega),ae h]
 ·rw[ae (show t=k by omega),aa h]
theorem ER{m k:Nat}{P:Mt}{cs:Nat->Nat}{j:Nat}(b:Cb k P cs≠0)(h:∀i,k<=i->i<m->vf k P cs i j=0):∃y:Nat->Int,∀i,i<m->Cb k P cs*P i j=sm k λt=>P i (cs t)*y t:=by
 obtain⟨y,a⟩:=Cm (m:=m) (k:=k) (Q:=n5 P cs k j) (j:=k) (by rw[m9];exact b) (λi c b=>by rw[sh];exact h i c b);refine⟨y,λi b=>?_⟩;have e:=a i b;rw[m9]at e;rw[show n5 P cs k j i k=P i j by simp only[n5];rw[aa (Nat.lt_irrefl k),ae trivial]]at e;rw[e];exact aO λt a=>by simp only[n5];rw[ae a]
structure RI(m n j k:Nat)(A W:Mt)(l:Int)(p cs:Nat->Nat):Prop where
 wk:∀i c,k<=i->i<m->j<=c->c<n->W i c=vf k (λr=>A (p r)) cs i c
 eq:l=Cb k (λr=>A (p r)) cs
 ne:l≠0
 km:k<=m
 kj:k<=j
 lt:∀i,i<m->p i<m
 jO:∀i,i<m->∃r,r<m/\p r=i
 cl:∀t,t<k->cs t<n
 rel:∀c,c<j->∃d:Int,d≠0/\∃y:Nat->Int,∀i,i<m->d*A (p i) c=sm k λt=>A (p i) (cs t)*y t
theorem RI.start(m n:Nat)(A:Mt):RI m n 0 0 A A 1 id id where
 wk:=λi c _ _ _ _=>by simp[vf,aQ,sm,fq]
 eq:=F
 ne:=ar
 km:=Nat.zero_le _
 kj:=Nat.zero_le _
 lt:=λ_ h=>h
 jO:=λi h=>⟨i,h,rfl⟩
 cl:=λ_ h=>absurd h (Nat.not_lt_zero _)
 rel:=λ_ h=>absurd h (Nat.not_lt_zero _)
theorem RI.none{m n j k:Nat}{A W:Mt}{l:Int}{p cs:Nat->Nat}(h:RI m n j k A W l p cs)(g:j<n)(f:∀i,k<=i->i<m->W i j=0):RI m n (j+1) k A W l p cs where
 wk:=λi c b a d d=>h.wk i c b a aq d
 eq:=h.eq
 ne:=h.ne
 km:=h.km
 kj:=Nat.le_succ_of_le h.kj
 lt:=h.lt
 jO:=h.jO
 cl:=h.cl
 rel:=λc d=>by
  by_cases e:c<j
  ·exact h.rel c e
  ·have:c=j:=aq;subst this;have d:Cb k (λr=>A (p r)) cs≠0:=by rw[<-h.eq];exact h.ne
   obtain⟨y,e⟩:=ER (m:=m) (j:=c) d (λi b a=>by rw[<-h.wk i c b a aD g];exact f i b a);exact⟨_,d,y,e⟩
theorem RI.swap{m n j k q:Nat}{A W:Mt}{l:Int}{p cs:Nat->Nat}(h:RI m n j k A W l p cs)(a:k<=q)(f:q<m):RI m n j k A (jE k q W) l (λr=>p (sw k q r)) cs where
 wk:=λi c g e d b=>by
  rw[ep,h.wk (sw k q i) c (FO a g) (kO aq f e) d b];unfold vf;refine aY λr t b d=>?_;by_cases e:r<k
  ·rw[ae e,ae e];show A (p r) _=A (p (sw k q r)) _;rw[nW a e]
  ·rw[aa e,aa e]
 eq:=by
  rw[h.eq];unfold Cb;refine aY λr t b d=>?_;show A (p r) _=A (p (sw k q r)) _;rw[nW a b]
 ne:=h.ne
 km:=h.km
 kj:=h.kj
 lt:=λi a=>h.lt _ (kO aq f a)
 jO:=λi a=>by
  obtain⟨r,b,e⟩:=h.jO i a;exact⟨sw k q r,kO aq f b,by rw[qZ];exact e⟩
 cl:=h.cl
 rel:=λc g=>by
  obtain⟨d,e,y,b⟩:=h.rel c g;exact⟨d,e,y,λi a=>b _ (kO aq f a)⟩
theorem RI.step{m n j k:Nat}{A W W':Mt}{l:Int}{p cs:Nat->Nat}(h:RI m n j k A W l p cs)(b:j<n)(a:k<m)(q:W k j≠0)
 (s:∀i c,k<i->i<m->j<c->c<n->W' i c=(W k j*W i c-W i j*W k c)/l):
 RI m n (j+1) (k+1) A W' (W k j) p (λt=>if t=k then j else cs t) where
 wk:=λi c u f d e=>by
  have d:Cb k (λr=>A (p r)) cs≠0:=by rw[<-h.eq];exact h.ne
  rw[s i c u f aq e,h.wk k j aD a aD b,h.wk i c aq f aq e,h.wk i j aq f aD b,h.wk k c aD a aq e,h.eq];rw[<-CE k _ cs i j c d,Int.mul_ediv_cancel_left _ d]
 eq:=by rw[Ca,h.wk k j aD a aD b]
 ne:=q
 km:=a
 kj:=Nat.succ_le_succ h.kj
 lt:=h.lt
 jO:=h.jO
 cl:=λt g=>by
  show(if t=k then j else cs t)<n;split
  ·exact b
  ·exact h.cl t aq
 rel:=λc a=>by
  by_cases e:c<j
  ·obtain⟨d,b,y,a⟩:=h.rel c e;refine⟨d,b,λt=>if t=k then 0 else y t,λi o=>?_⟩;rw[a i o];simp only[sm];rw[ae trivial,ae trivial,Int.mul_zero,Int.add_zero];exact aO λt g=>by rw[aa aq,aa aq]
  ·have:c=j:=aq;subst this;refine⟨1,ar,λt=>if t=k then 1 else 0,λi o=>?_⟩;simp only[sm];rw[ae trivial,ae trivial,Int.mul_one,Int.one_mul];rw[iD λt g=>by rw[aa (show¬t=k by omega),aa (show¬t=k by omega),Int.mul_zero]];omega
theorem RI.done{m n k:Nat}{A W:Mt}{l:Int}{p cs:Nat->Nat}(h:RI m n n k A W l p cs):Rk m n A k:=by
 constructor
 ·refine⟨p,cs,λt a=>⟨h.lt t (by have:=h.km;omega),h.cl t a⟩,?_⟩;have:=h.ne;rw[h.eq]at this;exact this
 ·refine Bv (U:=λi t=>A i (cs t)) λj b=>?_;obtain⟨d,c,y,a⟩:=h.rel j b;refine⟨d,c,y,λi c=>?_⟩;obtain⟨r,b,e⟩:=h.jO i c;have:=a r b;rw[e]at this;exact this
structure RF(m n k:Nat)(A W:Mt)(l:Int)(p cs:Nat->Nat):Prop where
 wk:∀i c,k<=i->i<m->k<=c->c<n->W i c=bm k (λr t=>A (p r) (cs t)) i c
 eq:l=aQ k (λr t=>A (p r) (cs t))
 ne:l≠0
 km:k<=m
 kn:k<=n
 lt:∀i,i<m->p i<m
 jO:∀i,i<m->∃r,r<m/\p r=i
 cl:∀t,t<n->cs t<n
 H7:∀t,t<n->∃r,r<n/\cs r=t
theorem RF.done{m n k:Nat}{A W:Mt}{l:Int}{p cs:Nat->Nat}(h:RF m n k A W l p cs)(u:∀i c,k<=i->i<m->k<=c->c<n->W i c=0):Rk m n A k:=by
 have a:aQ k (λr t=>A (p r) (cs t))≠0:=by rw[<-h.eq];exact h.ne
 constructor
 ·exact⟨p,cs,λt b=>⟨h.lt t (by have:=h.km;omega),h.cl t (by have:=h.kn;omega)⟩,a⟩
 ·refine Bv (U:=λi t=>A i (cs t)) λj d=>?_;obtain⟨c,g,v⟩:=h.H7 j d;have s:∃d:Int,d≠0/\∃y:Nat->Int,∀i,i<m->d*A (p i) (cs c)=sm k λt=>A (p i) (cs t)*y t:=by
   by_cases e:c<k
   ·refine⟨1,ar,λt=>if t=c then 1 else 0,λi f=>?_⟩;rw[cG (c:=c) e λt b b=>by simp only[aa b,Int.mul_zero]];simp only[if_true];omega
   ·obtain⟨y,b⟩:=Cm (m:=m) (j:=c) a (λi q o=>by rw[<-h.wk i c q o aq g];exact u i c q o aq g);exact⟨_,a,y,b⟩
  obtain⟨d,a,y,b⟩:=s;refine⟨d,a,y,λi f=>?_⟩;obtain⟨r,a,e⟩:=h.jO i f;have:=b r a;rw[e,v]at this;exact this
end Go.bc
namespace Go.Sm
section
open Go.bc
def cj(M:Mt)(I J:Nat->Nat):Mt:=λa b=>M (I a) (J b)
def Mn(n V:Nat)(M:Mt):Prop:=∀(s:Nat) (I J:Nat->Nat),(∀t,t<s->I t<n/\J t<n)->(aQ s (cj M I J)).natAbs<=V
theorem k_{n s:Nat}{M:Mt}{I J:Nat->Nat}(h:∀t,t<s->I t<n/\J t<n)(a:n<s):aQ s (cj M I J)=0:=by
 refine Decidable.byContradiction λe=>?_;have:=(tV.zX n n M).le (s:=s) ⟨I,J,h,e⟩;omega
theorem Mn.tr{n V:Nat}{M:Mt}(h:Mn n V M):Mn n V (Go.bc.tr M):=λs I J a=>by
 have:cj (Go.bc.tr M) I J=Go.bc.tr (cj M J I):=F;rw[this,df];exact h s J I λt b=>⟨(a t b).2,(a t b).1⟩
theorem Mn.mono{n V a:Nat}{M:Mt}(h:Mn n V M)(b:V<=a):Mn n a M:=λs I J a=>Nat.le_trans (h s I J a) b
theorem Mn.congr{n V:Nat}{M M':Mt}(h:Mn n V M)(e:∀i j,i<n->j<n->M i j=M' i j):Mn n V M':=λs I J c=>by
 have:aQ s (cj M' I J)=aQ s (cj M I J):=aY λa b f d=>(e _ _ (c a f).1 (c b d).2).symm;rw[this];exact h s I J c
theorem Mn.perm{n V:Nat}{M:Mt}(h:Mn n V M)(f g:Nat->Nat)(d:∀i,i<n->f i<n)(c:∀i,i<n->g i<n):Mn n V (λi j=>M (f i) (g j)):=λs I J a=>
 h s (λt=>f (I t)) (λt=>g (J t)) λt b=>⟨d _ (a t b).1,c _ (a t b).2⟩
theorem zo{n k:Nat}(a:k<n)(g:Nat->Int)(c:g k=0)(A:Mt):(aQ n (mul n (m6 k g) A)).natAbs=(aQ n A).natAbs:=by
 have b:=(q8 a g c).aQ;have a:(aQ n (m6 k g)).natAbs*(aQ n (m6 k λi=>- g i)).natAbs=1:=by rw[<-Int.natAbs_mul,b];rfl
 rw[fV,Int.natAbs_mul,Nat.eq_one_of_mul_eq_one_right a,Nat.one_mul]
theorem jr{n k s a:Nat}{M N:Mt}{f:Nat->Int}{I J:Nat->Nat}(h:∀i j,i<n->j<n->N i j=M i j-f i*M k j)(b:f k=0)(c:∀t,t<s->I t<n/\J t<n)(d:a<s)(e:I a=k):(aQ s (cj N I J)).natAbs=(aQ s (cj M I J)).natAbs:=by
 have g:- f (I a)=0:=by rw[e,b];rfl
 rw[<-zo d (λb=>- f (I b)) g (cj M I J)];congr 1;refine aY λi j b g=>?_;rw[nZ d b];simp only[cj];rw[h _ _ (c i b).1 (c j g).2,e];grind
theorem mz{W:Nat}:∀{s:Nat} {f:Nat->Int},(∀t,t<s->(f t).natAbs<=W)->(sm s f).natAbs<=s*W:=by
 intro s;induction s with
 |zero=>intro f _;simp[sm]
 |succ s a=>
  intro f h;have b:=a λt a=>h t aq;have a:=h s aq;simp only[sm];rw[Nat.succ_mul];omega
theorem uj:∀(s:Nat) (f:Nat->Int),sm (s+1) f=f 0+sm s λt=>f (t+1):=by
 intro s;induction s with
 |zero=>intro f;simp[sm]
 |succ s a=>intro f;rw[sm,a];simp only[sm];omega
theorem Mn.rows{n k V:Nat}{M N:Mt}{f:Nat->Int}(h:Mn n V M)(b:n<=4)(o:k<n)(q:∀i j,i<n->j<n->N i j=M i j-f i*M k j)(p:f k=0)(b:M k k≠0)
 (y:∀i,i<n->i≠k->0<=N i k/\N i k<(M k k).natAbs):Mn n (5*V) N:=by
 intro s I J g;by_cases b:n<s
 ·rw[k_ g b];simp
 by_cases i:∃a,a<s/\I a=k
 ·obtain⟨a,i,b⟩:=i;rw[jr q p g i b];have:=h s I J g;omega
 ·
  let b:Nat->Nat:=λt=>if t=0 then k else I (t-1);let d:Nat->Nat:=λt=>if t=0 then k else J (t-1);have j:∀t,t<s+1->b t<n/\d t<n:=by
   intro t v;by_cases e:t=0
   ·simp only[b,d,e,ae F];exact⟨o,o⟩
   ·simp only[b,d,aa e];exact g (t-1) aq
  have m:(aQ (s+1) (cj N b d)).natAbs<=V:=by
   rw[jr q p j (Nat.succ_pos s) (show b 0=k from ae F)];exact h (s+1) b d j
  rw[<-df]at m;simp only[aQ]at m;rw[uj]at m;have x:minor (Go.bc.tr (cj N b d)) 0 0=Go.bc.tr (cj N I J):=by
   funext r c;simp only[minor,dV,Go.bc.tr,cj,b,d];rw[aa (Nat.succ_ne_zero c),aa (Nat.succ_ne_zero r)];rfl
  have w:N k k=M k k:=by rw[q k k o o,p];omega
  have o:Go.bc.tr (cj N b d) 0 0=M k k:=by
   simp only[Go.bc.tr,cj,b,d];exact w
  rw[x,df,o]at m;have o:0<(M k k).natAbs:=aq;have w:(sm s λt=>fq (t+1)*Go.bc.tr (cj N b d) 0 (t+1)*aQ s (minor (Go.bc.tr (cj N b d)) 0 (t+1))).natAbs<=s*((M k k).natAbs*V):=by
   refine mz λt v=>?_;have x:Go.bc.tr (cj N b d) 0 (t+1)=N (I t) k:=by
    simp only[Go.bc.tr,cj,b,d];rw[aa (Nat.succ_ne_zero t)];rfl
   have w:I t≠k:=λe=>i ⟨t,v,e⟩;have e:=y (I t) (g t v).1 w;let e:Nat->Nat:=λa=>b (skip (t+1) a);have l:minor (Go.bc.tr (cj N b d)) 0 (t+1)=Go.bc.tr (cj N e J):=by
    funext r c;simp only[minor,dV,Go.bc.tr,cj,e,d];rw[aa (Nat.succ_ne_zero r)];rfl
   have d:0<s:=aq;have c:∀a,a<s->e a<n/\J a<n:=λa i=>⟨(j (skip (t+1) a) (iE i)).1,(g a i).2⟩;have a:e 0=k:=by simp[e,b,skip]
   have b:(aQ s (cj N e J)).natAbs<=V:=by
    rw[jr q p c d a];exact h s e J c
   rw[l,df,x,Int.natAbs_mul,Int.natAbs_mul];have a:(fq (t+1)).natAbs=1:=by unfold fq;split<;>rfl
   rw[a,Nat.one_mul];exact Nat.mul_le_mul aq b
  have a:fq 0=1:=F;rw[a,Int.one_mul]at m;have b:(M k k).natAbs*(aQ s (cj N I J)).natAbs<=V+s*((M k k).natAbs*V):=by
   rw[<-Int.natAbs_mul];omega
  have a:V+s*((M k k).natAbs*V)<=(M k k).natAbs*(5*V):=by
   have c:s*((M k k).natAbs*V)<=4*((M k k).natAbs*V):=Nat.mul_le_mul_right _ aq;have c:1*V<=(M k k).natAbs*V:=Nat.mul_le_mul_right _ o;have c:(M k k).natAbs*(5*V)=5*((M k k).natAbs*V):=aC;omega
  exact Nat.le_of_mul_le_mul_left (Nat.le_trans b a) o
theorem Mn.dh{n k d V:Nat}{M:Mt}(h:Mn n V M)(o:d<n):Mn n (2*V) (dh M k d):=by
 intro s I J f;by_cases g:∃a,a<s/\I a=k
 ·obtain⟨a,g,l⟩:=g;by_cases m:∃b,b<s/\b≠a/\I b=k
  ·obtain⟨b,i,c,e⟩:=m;rw[(eI s).GO _ a b g i (Ne.symm c) λj _=>by simp only[cj,l,e]];simp
  ·have p:∀i j,i<s->j<s->cj (Go.Sm.dh M k d) I J i j=bJ (cj M I J) a (λc=>cj M I J a c+M d (J c)) i j:=by
    intro i j b e;simp only[cj,Go.Sm.dh,bJ];by_cases e:i=a
    ·rw[ae e,e,ae l,l]
    ·rw[aa e,aa λl=>m ⟨i,b,e,l⟩]
   rw[aY p,(eI s).add _ _ _ _ g,fD];have m:=h s I J f;have p:=h s (λt=>if t=a then d else I t) J λt m=>⟨by by_cases e:t=a;simp only[ae e];exact o;simp only[aa e];exact(f t m).1,(f t m).2⟩;have l:cj M (λt=>if t=a then d else I t) J=bJ (cj M I J) a (λc=>M d (J c)):=by
    funext r c;simp only[cj,bJ];split<;>rfl
   rw[l]at p;omega
 ·have:aQ s (cj (Go.Sm.dh M k d) I J)=aQ s (cj M I J):=aY λi j b _=>by
   simp only[cj,Go.Sm.dh];rw[aa λe=>g ⟨i,b,e⟩]
  rw[this];have:=h s I J f;omega
def Dg(n k:Nat)(M:Mt):Prop:=∀i j,i<n->j<n->i<k\/j<k->i≠j->M i j=0
theorem Dg.II{n k:Nat}{M:Mt}(h:Dg n k M)(a:k<n){i:Nat}(b:i<n)(h1:¬(k<i/\i<n))(c:i≠k):M i k=0:=h i k b a (.inl (by omega)) c
theorem jH(M:Mt)(k n:Nat)(i j:Nat):bo M k n i j=M i j-(if k<i/\i<n then M i k/M k k else 0)*M k j:=by
 simp only[bo];split
 ·rfl
 ·omega
theorem Mn.bo{n k V:Nat}{M:Mt}(h:Mn n V M)(b:n<=4)(a:k<n)(d:Dg n k M)(c:M k k≠0):Mn n (5*V) (bo M k n):=by
 refine h.rows (f:=λi=>if k<i/\i<n then M i k/M k k else 0) b a (λi j _ _=>jH M k n i j) (aa aq) c λi c b=>?_;simp only[Go.Sm.bo];split
 ·rw[mod_eq];exact ka F aq
 ·next h1=>rw[d.II a c h1 b];omega
theorem lW(M:Mt)(k n:Nat):fe M k n=Go.bc.tr (Go.Sm.bo (Go.bc.tr M) k n):=by
 funext i j;simp only[fe,Go.bc.tr,Go.Sm.bo]
theorem Dg.tr{n k:Nat}{M:Mt}(h:Dg n k M):Dg n k (Go.bc.tr M):=λi j d c b a=>h j i c d b.symm (Ne.symm a)
theorem Dg.bo{n k:Nat}{M:Mt}(h:Dg n k M)(d:k<n):Dg n k (Go.Sm.bo M k n):=by
 intro i j e a c b;rw[jH,h i j e a c b];by_cases e:k<i/\i<n
 ·rw[h k j d a aq aq];omega
 ·rw[aa e];omega
theorem Dg.fe{n k:Nat}{M:Mt}(h:Dg n k M)(a:k<n):Dg n k (Go.Sm.fe M k n):=by
 rw[lW];exact(h.tr.bo a).tr
theorem Dg.swp{n k p c:Nat}{M:Mt}(h:Dg n k M)(m:k<n)(e:k<=p)(jv:p<n)(g:k<=c)(ma:c<n):Dg n k (swp M k p c):=by
 have b:∀{q i},k<=q->i<k->sx k q i=i:=λl f=>by unfold sx;rw[aa aq,aa aq]
 intro i j f o l d;simp only[Go.Sm.swp];rcases l with a|a
 ·rw[b e a];refine h i _ f (g_ m ma o) (.inl a) ?_;by_cases l:j<k
  ·rw[b g l];exact d
  ·have:=kN (i:=j) g aq;omega
 ·rw[b g a];refine h _ j (g_ m jv f) o (.inr a) ?_;by_cases l:i<k
  ·rw[b e l];exact d
  ·have:=kN (i:=i) e aq;omega
theorem Dg.dh{n k a:Nat}{M:Mt}(h:Dg n k M)(g:k<n)(b:k<a)(f:a<n):Dg n k (Go.Sm.dh M k a):=by
 intro i j l b d c;simp only[Go.Sm.dh];split
 ·next e=>rw[h k j g b aq aq,h a j f b aq aq];rfl
 ·exact h i j l b d c
theorem Mn.swp{n k V p c:Nat}{M:Mt}(h:Mn n V M)(b:k<n)(d:p<n)(e:c<n):Mn n V (Go.Sm.swp M k p c):=h.perm (sx k p) (sx k c) (λ_ a=>g_ b d a) λ_ a=>g_ b e a
theorem Mn.red{n k V:Nat}{M:Mt}(h:Mn n V M)(a:n<=4)(b:k<n)(d:Dg n k M)(c:M k k≠0):Mn n (25*V) (Go.Sm.red M k n):=by
 simp only[Go.Sm.red];rw[lW];have e:=(h.bo a b d c).tr.bo a b (d.bo b).tr (by simp only[Go.bc.tr];rw[fi];exact c);refine e.tr.mono aq
theorem wE{n k p:Nat}(b:k<n)(a:p<n):∀i,i<n->sx k p i<n/\sx k p (sx k p i)=i:=λi c=>⟨g_ b a c,AI k p i⟩
theorem sV{n k p c:Nat}(M:Mt)(a:k<n)(b:p<n)(d:c<n):gj n M (swp M k p c):=
 (gj.perm (B:=λi j=>M (sx k p i) j) (sx k p) (wE a b) λ_ _ _ _=>rfl).trans (gj.HO (sx k c) (wE a d) λ_ _ _ _=>rfl)
theorem ln{n k:Nat}(M:Mt)(a:k<n):gj n M (bo M k n):=
 gj.rows a (λi=>- (if k<i/\i<n then M i k/M k k else 0)) (by show-(if k<k/\k<n then M k k/M k k else(0:Int))=0;rw[aa aq];rfl) λi j _ _=>by
  rw[jH];grind
theorem B6{n k:Nat}(M:Mt)(a:k<n):gj n M (fe M k n):=by
 rw[lW];exact(ln (Go.bc.tr M) a).tr
theorem oZ{n k:Nat}(M:Mt)(a:k<n):gj n M (red M k n):=(ln M a).trans (B6 _ a)
theorem B7{n k a:Nat}(M:Mt)(_hk:k<n)(c:a<n)(b:a≠k):gj n M (dh M k a):=
 gj.rows c (λi=>if i=k then 1 else 0) (aa b) λi j _ _=>by
  simp only[dh];by_cases e:i=k
  ·rw[ae e,ae e,e];omega
  ·rw[aa e,aa e];omega
def Da(n k:Nat)(d:Int)(M:Mt):Prop:=∀i j,k<=i->i<n->k<=j->j<n->d∣M i j
theorem Da.swp{n k p c:Nat}{d:Int}{M:Mt}(h:Da n k d M)(a:nK n k M p c):Da n k d (swp M k p c):=λ_i _j i f g e=>
 have b:k<n:=Nat.lt_of_le_of_lt a.hp a.jv
 h _ _ (kN a.hp i) (g_ b a.jv f) (kN a.hc g) (g_ b a.ma e)
theorem Da.bo{n k:Nat}{d:Int}{M:Mt}(h:Da n k d M):Da n k d (bo M k n):=λi j e c b a=>by
 rw[jH];exact Int.dvd_sub (h i j e c b a) (Int.dvd_trans (h k j aD aq b a) ⟨_,Int.mul_comm _ _⟩)
theorem Da.tr{n k:Nat}{d:Int}{M:Mt}(h:Da n k d M):Da n k d (Go.bc.tr M):=λi j e b c a=>h j i c a e b
theorem Da.red{n k:Nat}{d:Int}{M:Mt}(h:Da n k d M):Da n k d (red M k n):=by
 simp only[Go.Sm.red];rw[lW];exact(h.bo.tr.bo).tr
theorem Da.dh{n k b:Nat}{d:Int}{M:Mt}(h:Da n k d M)(l:k<=b)(f:b<n):Da n k d (dh M k b):=λi j g e c a=>by
 simp only[Go.Sm.dh];split
 ·exact Int.dvd_add (h k j aD aq c a) (h b j l f c a)
 ·exact h i j g e c a
structure Sg(n k:Nat)(M:Mt):Prop where
 dg:Dg n k M
 nn:∀t,t<k->0<=M t t
 dv:∀t,t+1<k->M t t∣M (t+1) (t+1)
 da:∀t,t+1=k->Da n k (M t t) M
theorem Sg.zero(n:Nat)(M:Mt):Sg n 0 M:=⟨λ_ _ _ _ h _=>by omega,λ_ h=>by omega,λ_ h=>by omega,λ_ h=>by omega⟩
def iT(M:Mt)(k:Nat):Mt:=λi j=>if i=k/\j=k then((M k k).natAbs:Int)else M i j
theorem B8{n:Nat}(M:Mt)(k:Nat)(c:CLN n k M)(d:Dg n k M)(g:k<n):gj n M (iT M k):=by
 refine gj.ye (λi=>if i=k/\M k k<0 then -1 else 1) (λi _=>?_) λi j b a=>?_
 ·show(if i=k/\M k k<0 then(-1:Int)else 1)*(if i=k/\M k k<0 then(-1:Int)else 1)=1;split<;>rfl
 ·show iT M k i j=(if i=k/\M k k<0 then(-1:Int)else 1)*M i j;simp only[iT];by_cases e:i=k
  ·subst e;by_cases f:j=i
   ·subst f;rw[ae ⟨F,F⟩];by_cases h:M j j<0
    ·rw[ae ⟨F,h⟩];omega
    ·rw[aa aq];omega
   ·rw[aa aq];have:M i j=0:=by
     by_cases h:j<i
     ·exact d i j b a (.inr h) aq
     ·exact c.2 j aq a
    rw[this,Int.mul_zero]
  ·rw[aa aq,aa aq];omega
theorem Mn.iT{n V:Nat}{M:Mt}(h:Mn n V M)(k:Nat)(f:CLN n k M)(m:Dg n k M)(q:k<n):Mn n V (iT M k):=by
 have g:∀i j,i<n->j<n->Go.Sm.iT M k i j=(if i=k/\M k k<0 then(-1:Int)else 1)*M i j:=by
  intro i j a b;simp only[Go.Sm.iT];by_cases e:i=k
  ·subst e;by_cases o:j=i
   ·subst o;rw[ae ⟨F,F⟩];by_cases h:M j j<0
    ·rw[ae ⟨F,h⟩];omega
    ·rw[aa aq];omega
   ·rw[aa aq];have:M i j=0:=by
     by_cases h:j<i
     ·exact m i j a b (.inr h) aq
     ·exact f.2 j aq b
    rw[this,Int.mul_zero]
  ·rw[aa aq,aa aq];omega
 intro s I J d;have p:∀i j,i<s->j<s->cj (Go.Sm.iT M k) I J i j=mul s (λi t=>if t=i then(if I i=k/\M k k<0 then(-1:Int)else 1)else 0) (cj M I J) i j:=by
  intro i j a b;simp only[mul];rw[cG (c:=i) a λt _ f=>by rw[aa f,Int.zero_mul],ae F];simp only[cj];exact g _ _ (d i a).1 (d j b).2
 have l:Inv s (λi t=>if t=i then(if I i=k/\M k k<0 then(-1:Int)else 1)else 0) (λi t=>if t=i then(if I i=k/\M k k<0 then(-1:Int)else 1)else 0):=by
  have:∀i j,i<s->j<s->mul s (λi t=>if t=i then(if I i=k/\M k k<0 then(-1:Int)else 1)else 0) (λi t=>if t=i then(if I i=k/\M k k<0 then(-1:Int)else 1)else 0) i j=one i j:=by
   intro i j a b;simp only[mul];rw[cG (c:=i) a λt _ f=>by rw[aa f,Int.zero_mul],ae F];simp only[one];by_cases e:i=j
   ·subst e;rw[ae F,ae F];split<;>rfl
   ·rw[aa e,aa (Ne.symm e),Int.mul_zero]
  exact⟨this,this⟩
 rw[aY p,fV,Int.natAbs_mul];have b:=l.aQ;have a:(aQ s λi t=>if t=i then(if I i=k/\M k k<0 then(-1:Int)else 1)else 0).natAbs*(aQ s λi t=>if t=i then(if I i=k/\M k k<0 then(-1:Int)else 1)else 0).natAbs=1:=by rw[<-Int.natAbs_mul,b];rfl
 rw[Nat.eq_one_of_mul_eq_one_right a,Nat.one_mul];exact h s I J d
theorem Sg.jG{n:Nat}{M:Mt}(h:Sg n n M):fy n M:=by
 refine⟨λi j a c b=>h.dg i j a c (.inl a) b,λi a=>h.dv i a,λi a=>h.nn i a⟩
def dl(W:Nat):Nat->Nat
 |0=>1
 |s+1=>(s+1)*(W*dl W s)
theorem GU{W:Nat}:∀(s:Nat) (A:Mt),(∀i j,i<s->j<s->(A i j).natAbs<=W)->(aQ s A).natAbs<=dl W s:=by
 intro s;induction s with
 |zero=>intro A _;exact Nat.le_refl 1
 |succ s b=>
  intro A h;simp only[aQ];refine mz λj c=>?_;rw[Int.natAbs_mul,Int.natAbs_mul];have a:(fq j).natAbs=1:=by unfold fq;split<;>rfl
  rw[a,Nat.one_mul];exact Nat.mul_le_mul (h 0 j aq c) (b (minor A 0 j) λi c a a=>h _ _ (by rw[dV];omega) (iE a))
theorem Mn.start{n e:Nat}{M:Mt}(a:n<=4)(h:∀i j,i<n->j<n->(M i j).natAbs<=2^e):Mn n (2^(4*e+5)) M:=by
 intro s I J a;by_cases c:n<s
 ·rw[k_ a c];exact Nat.zero_le _
 have f:=GU s (cj M I J) (W:=2^e) λi j d c=>h _ _ (a i d).1 (a j c).2;refine Nat.le_trans f ?_;have b:0<2^e:=Nat.pow_pos ar;have a:2^(4*e+5)=32*(2^e*(2^e*(2^e*2^e))):=by
  rw[Nat.pow_add,Nat.mul_comm 4 e,Nat.pow_mul];have:(2^e)^4=2^e*(2^e*(2^e*2^e)):=aC;rw[this];omega
 rw[a];generalize 2^e=x at b;have a:x<=x*x:=Nat.le_mul_of_pos_left _ b;have a:x*x<=x*(x*x):=Nat.le_mul_of_pos_left _ b;have a:x*(x*x)<=x*(x*(x*x)):=Nat.le_mul_of_pos_left _ b;have a:s=0\/s=1\/s=2\/s=3\/s=4:=aq;rcases a with e|e|e|e|e<;>subst e<;>simp only[dl]<;>grind
