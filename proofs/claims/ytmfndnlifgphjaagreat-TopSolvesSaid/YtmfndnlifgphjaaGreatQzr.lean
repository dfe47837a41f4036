import Derived.Test.YtmfndnlifgphjaaGreatQzq
import Derived.Scope
set_option maxHeartbeats 64000000
open Go.Proofs.YtmfndnlifgphjaaGreat
namespace Go.bc
def pv(d:Nat)(a:Nat->Int)(s:Int):Int:=sm d λk=>a k*s^k
theorem DG(n:Nat)(f:Nat->Int):sm (n+1) f=f 0+sm n λk=>f (k+1):=by
 induction n with
 |zero=>simp[sm]
 |succ n a=>rw[sm,a,sm];omega
theorem sF(d:Nat)(a:Nat->Int)(s:Int):pv (d+1) a s=a 0+s*pv d (λk=>a (k+1)) s:=by
 unfold pv;rw[DG,<-dD];simp only[Int.pow_zero,Int.mul_one];congr 1;exact aO λk _=>by rw[Int.pow_succ];grind
theorem ow{z:Int}(h:∀s:Int,s≠0->∃r,z=s*r):z=0:=by
 obtain⟨r,a⟩:=h (z.natAbs+1) aq;by_cases b:z=0
 ·exact b
 ·exfalso;have:r≠0:=by intro e;rw[e]at a;omega
  have b:z.natAbs=((z.natAbs:Int)+1).natAbs*r.natAbs:=by rw[<-Int.natAbs_mul,<-a]
  have a:((z.natAbs:Int)+1).natAbs=z.natAbs+1:=aq;rw[a]at b;have:1<=r.natAbs:=aq;have:=Nat.mul_le_mul_left (z.natAbs+1) this;omega
theorem DY:∀(d:Nat) (a:Nat->Int),(∀s:Int,s≠0->pv d a s=0)->∀k,k<d->a k=0:=by
 intro d;induction d with
 |zero=>intro a _ k f;omega
 |succ d e=>
  intro a h k f;have c:a 0=0:=ow λs b=>⟨- pv d (λk=>a (k+1)) s,by have:=h s b;rw[sF]at this;grind⟩;cases k with
  |zero=>exact c
  |succ k=>
   refine e (λk=>a (k+1)) (λs b=>?_) k aq;have:=h s b;rw[sF,c,Int.zero_add]at this;rcases Int.mul_eq_zero.1 this with h|h
   ·exact absurd h b
   ·exact h
theorem Be{d:Nat}{a b:Nat->Int}(h:∀s:Int,s≠0->pv d a s=pv d b s):∀k,k<d->a k=b k:=by
 intro k f;have:=DY d (λk=>a k-b k) (λs c=>by
  have e:pv d (λk=>a k-b k) s=pv d a s-pv d b s:=by
   unfold pv;rw[show sm d (λk=>a k*s^k)-sm d (λk=>b k*s^k)=1*sm d (λk=>a k*s^k)+(-1)*sm d (λk=>b k*s^k) by omega,<-e8];exact aO λk _=>aC
  rw[e,h s c,Int.sub_self]) k f
 omega
def rF:Nat->Mt->Mt->Nat->Int
 |0,_,_,k=>if k=0 then 1 else 0
 |m+1,a,b,k=>sm (m+1) λj=>fq j*(a 0 j*rF m (minor a 0 j) (minor b 0 j) k+(if k=0 then 0 else b 0 j*rF m (minor a 0 j) (minor b 0 j) (k-1)))
theorem yG:∀(m:Nat) (a b:Mt) (k:Nat),m<k->rF m a b k=0:=by
 intro m;induction m with
 |zero=>intro a b k d;simp only[rF];rw[aa aq]
 |succ m c=>
  intro a b k d;simp only[rF];refine iD λj _=>?_;rw[c _ _ k aq,c _ _ (k-1) aq,aa aq];grind
theorem EM:∀(m:Nat) (a b:Mt),rF m a b m=aQ m b:=by
 intro m;induction m with
 |zero=>intro a b;rfl
 |succ m c=>
  intro a b;simp only[rF,aQ];refine aO λj _=>?_;rw[yG m _ _ (m+1) aq,aa aq,show m+1-1=m by omega,c];grind
theorem EN:∀(m:Nat) (a b:Mt),rF m a b 0=aQ m a:=by
 intro m;induction m with
 |zero=>intro a b;rfl
 |succ m c=>
  intro a b;simp only[rF,aQ];refine aO λj _=>?_;rw[ae trivial,c];grind
def kT(a b:Mt)(s:Int):Mt:=λi j=>a i j+s*b i j
theorem Bg{d:Nat}{a:Nat->Int}(h:a d=0)(s:Int):pv (d+1) a s=pv d a s:=by
 unfold pv;rw[sm,h];omega
theorem Bc(d:Nat)(a b:Nat->Int)(x y s:Int):pv d (λk=>x*a k+y*b k) s=x*pv d a s+y*pv d b s:=by
 unfold pv;rw[<-e8];exact aO λk _=>aC
theorem uB(d:Nat)(a:Nat->Int)(s:Int):pv (d+1) (λk=>if k=0 then 0 else a (k-1)) s=s*pv d a s:=by
 rw[sF];simp
theorem Bb(d n:Nat)(a:Nat->Nat->Int)(s:Int):pv d (λk=>sm n λj=>a j k) s=sm n λj=>pv d (a j) s:=by
 unfold pv;rw[<-oS];exact aO λk _=>(oT n _ _).symm
theorem yC:∀(m:Nat) (a b:Mt) (s:Int),aQ m (kT a b s)=pv (m+1) (rF m a b) s:=by
 intro m;induction m with
 |zero=>intro a b s;simp[aQ,pv,sm,rF]
 |succ m c=>
  intro a b s;have d:aQ (m+1) (kT a b s)=sm (m+1) λj=>fq j*(a 0 j+s*b 0 j)*pv (m+1) (rF m (minor a 0 j) (minor b 0 j)) s:=by
   simp only[aQ];refine aO λj _=>?_;rw[show minor (kT a b s) 0 j=kT (minor a 0 j) (minor b 0 j) s from F,c];rfl
  rw[d];have c:pv (m+1+1) (rF (m+1) a b) s=sm (m+1) λj=>pv (m+1+1) (λk=>fq j*a 0 j*rF m (minor a 0 j) (minor b 0 j) k+fq j*b 0 j*(if k=0 then 0 else rF m (minor a 0 j) (minor b 0 j) (k-1))) s:=by
   rw[<-Bb];unfold pv;refine aO λk _=>?_;congr 1;simp only[rF];refine aO λj _=>?_;split<;>grind
  rw[c];refine aO λj _=>?_;rw[Bc,uB,Bg (yG m _ _ (m+1) aq)];grind
theorem mH{n:Nat}{f:Nat->Int}{h:Int}(a:∀i,i<n->h∣f i):h∣sm n f:=by
 induction n with
 |zero=>exact⟨0,by simp[sm]⟩
 |succ n b=>exact Int.dvd_add (b λi b=>a i aq) (a n aq)
theorem EH(h:Int):∀(n:Nat) (A C:Mt),(∀i j,i<n->j<n->h∣C i j-A i j)->h∣aQ n C-aQ n A:=by
 intro n;induction n with
 |zero=>intro A C _;simp[aQ]
 |succ n b=>
  intro A C a;simp only[aQ];have e:(sm (n+1) λj=>fq j*C 0 j*aQ n (minor C 0 j))-(sm (n+1) λj=>fq j*A 0 j*aQ n (minor A 0 j))=sm (n+1) λj=>fq j*C 0 j*(aQ n (minor C 0 j)-aQ n (minor A 0 j))+fq j*aQ n (minor A 0 j)*(C 0 j-A 0 j):=by
   rw[show ∀x y:Int,x-y=1*x+(-1)*y by intros;omega,<-e8];exact aO λj _=>aC
  rw[e];refine mH λj d=>Int.dvd_add (Int.dvd_mul_of_dvd_right (b _ _ λr c b c=>a _ _ (iE b) (iE c))) (Int.dvd_mul_of_dvd_right (a 0 j aq d))
theorem zS(n:Nat)(A E:Mt)(h:Int):∀t,t<=n+1->∃R:Int,aQ (n+1) (λi j=>if i<t then A i j+h*E i j else A i j)=aQ (n+1) A+h*(sm t λi=>sm (n+1) λj=>E i j*s6 n A i j)+h*h*R:=by
 intro t;induction t with
 |zero=>intro _;exact⟨0,by simp[sm]⟩
 |succ t b=>
  intro a;obtain⟨R,d⟩:=b aq;let C:Mt:=λi j=>if i<t then A i j+h*E i j else A i j;have f:aQ (n+1) (λi j=>if i<t+1 then A i j+h*E i j else A i j)=aQ (n+1) (bJ C t λc=>C t c+h*E t c):=by
   refine aY λi j _ _=>?_;simp only[bJ,C];grind
  have e:aQ (n+1) (bJ C t (E t))=sm (n+1) λj=>E t j*s6 n C t j:=by
   rw[<-jd n _ t aq];refine aO λj _=>?_;have:minor (bJ C t (E t)) t j=minor C t j:=by
    funext r c;simp only[minor,bJ];rw[aa];unfold skip;split<;>omega
   rw[this];simp[bJ,s6]
  have b:h∣(sm (n+1) λj=>E t j*s6 n C t j)-sm (n+1) λj=>E t j*s6 n A t j:=by
   rw[show ∀x y:Int,x-y=1*x+(-1)*y by intros;omega,<-e8];refine mH λj _=>?_;have:=EH h n (minor A t j) (minor C t j) λr c _ _=>by
    simp only[minor,C];split
    ·exact⟨E (skip t r) (skip j c),aq⟩
    ·exact⟨0,aq⟩
   obtain⟨q,a⟩:=this;refine⟨E t j*fq (t+j)*q,?_⟩;unfold s6;have:aQ n (minor C t j)=aQ n (minor A t j)+h*q:=aq;rw[this];grind
  obtain⟨q,a⟩:=b;refine⟨R+q,?_⟩;rw[f,(eI (n+1)).add C t (C t) _ aq,(eI (n+1)).smul C t (E t) h aq,fD,e,d];rw[show ∀f:Nat->Int,sm (t+1) f=sm t f+f t from λ_=>rfl];have:(sm (n+1) λj=>E t j*s6 n C t j)=(sm (n+1) λj=>E t j*s6 n A t j)+h*q:=aq;rw[this];grind
theorem zA(s h:Int)(k:Nat):∃R:Int,(s+h)^(k+1)=s^(k+1)+h*((k+1:Nat)*s^k)+h*h*R:=by
 induction k with
 |zero=>exact⟨0,by simp[Int.pow_succ]⟩
 |succ k a=>
  obtain⟨R,b⟩:=a;refine⟨(k+1:Nat)*s^k+(s+h)*R,?_⟩;rw[Int.pow_succ,b];have:s^(k+1)=s^k*s:=Int.pow_succ ..;have a:s^(k+1+1)=s^k*s*s:=by rw[Int.pow_succ,this]
  rw[this,a]
  push_cast
  grind
theorem Bf(d:Nat)(a:Nat->Int)(s h:Int):∃R:Int,pv (d+1) a (s+h)=pv (d+1) a s+h*pv d (λk=>(k+1:Nat)*a (k+1)) s+h*h*R:=by
 induction d with
 |zero=>exact⟨0,by simp[pv,sm]⟩
 |succ d b=>
  obtain⟨R,e⟩:=b;obtain⟨b,c⟩:=zA s h d;refine⟨R+a (d+1)*b,?_⟩;have b:∀x,pv (d+1+1) a x=pv (d+1) a x+a (d+1)*x^(d+1):=λx=>rfl;have f:pv (d+1) (λk=>(k+1:Nat)*a (k+1)) s=pv d (λk=>(k+1:Nat)*a (k+1)) s+(d+1:Nat)*a (d+1)*s^d:=F;rw[b,b,f,e,c];grind
theorem Es(n:Nat)(M:Mt):∃(P:Nat->Mt) (c:Nat->Int),
 (∀i j,i<n+1->j<n+1->P 0 i j=one i j)/\
 (∀k i j,k<n->i<n+1->j<n+1->P (k+1) i j=mul (n+1) M (P k) i j+c (k+1)*one i j)/\
 (∀k,k<n+1->((k+1:Nat):Int)*c (k+1)=- sm (n+1) λi=>mul (n+1) M (P k) i i)/\
 (∀i j,i<n+1->j<n+1->P n i j=fa n (λa b=>- M a b) i j):=by
 let N:Mt:=λa b=>- M a b;let P:Nat->Mt:=λk i j=>fq (j+i)*rF n (minor one j i) (minor N j i) k;let c:Nat->Int:=rF (n+1) one N;have o:∀s,aQ (n+1) (kT one N s)=pv (n+2) c s:=λs=>yC (n+1) one N s;have p:∀s i j,fa n (kT one N s) i j=pv (n+1) (λk=>P k i j) s:=λs i j=>by
  show fq (j+i)*aQ n (kT (minor one j i) (minor N j i) s)=_;rw[yC];unfold pv;rw[<-dD];exact aO λk _=>by simp only[P];grind
 have m:∀s i j,mul (n+1) M (fa n (kT one N s)) i j=pv (n+1) (λk=>mul (n+1) M (P k) i j) s:=λs i j=>by
  simp only[mul,p];rw[Bb];refine aO λt _=>?_;unfold pv;rw[<-dD];exact aO λk _=>aC
 have u:∀i j,i<n+1->j<n+1->∀k,k<n+2->(if k<n+1 then P k i j else 0)-(if k=0 then 0 else mul (n+1) M (P (k-1)) i j)=c k*one i j:=λi j f g=>by
  refine Be λs _=>?_;have h:=jJ n (kT one N s) i j f g;have q:mul (n+1) (kT one N s) (fa n (kT one N s)) i j=fa n (kT one N s) i j-s*mul (n+1) M (fa n (kT one N s)) i j:=by
   have e:mul (n+1) (kT one N s) (fa n (kT one N s)) i j=1*mul (n+1) one (fa n (kT one N s)) i j+(-s)*mul (n+1) M (fa n (kT one N s)) i j:=by
    simp only[mul];rw[<-e8];exact aO λt _=>by simp only[kT,N];grind
   rw[e,one_mul (n+1) _ i j f];grind
  rw[q,m,p,o]at h;have p:pv (n+2) (λk=>(if k<n+1 then P k i j else 0)-(if k=0 then 0 else mul (n+1) M (P (k-1)) i j)) s=pv (n+1) (λk=>P k i j) s-s*pv (n+1) (λk=>mul (n+1) M (P k) i j) s:=by
   have e:pv (n+2) (λk=>1*(if k<n+1 then P k i j else 0)+(-1)*(if k=0 then 0 else mul (n+1) M (P (k-1)) i j)) s=_:=Bc (n+2) (λk=>if k<n+1 then P k i j else 0) (λk=>if k=0 then 0 else mul (n+1) M (P (k-1)) i j) 1 (-1) s;rw[uB (n+1) (λk=>mul (n+1) M (P k) i j) s,Bg (a:=λk=>if k<n+1 then P k i j else 0) (d:=n+1) (aa (Nat.lt_irrefl _))]at e;have t:pv (n+1) (λk=>if k<n+1 then P k i j else 0) s=pv (n+1) (λk=>P k i j) s:=aO λk r=>by dsimp only;rw[ae r]
   rw[t]at e;have t:pv (n+2) (λk=>(if k<n+1 then P k i j else 0)-(if k=0 then 0 else mul (n+1) M (P (k-1)) i j)) s=pv (n+2) (λk=>1*(if k<n+1 then P k i j else 0)+(-1)*(if k=0 then 0 else mul (n+1) M (P (k-1)) i j)) s:=aO λk _=>by dsimp only;congr 1;omega
   rw[t,e];omega
  rw[p,h];have e:pv (n+2) (λk=>c k*one i j) s=pv (n+2) c s*one i j:=by
   unfold pv;rw[<-oT];exact aO λk _=>aC
  rw[e];simp only[one];split<;>simp
 have e:c 0=1:=by show rF (n+1) one N 0=1;rw[EN,sZ]
 refine⟨P,c,λi j f g=>?_,λk i j r f g=>?_,?_,λi j _ _=>?_⟩
 ·have:=u i j f g 0 aq;rw[ae aq,ae F,e]at this;omega
 ·have:=u i j f g (k+1) aq;rw[ae aq,aa aq,show k+1-1=k by omega]at this;omega
 ·
  refine Be (a:=λk=>((k+1:Nat):Int)*c (k+1)) (b:=λk=>- sm (n+1) λi=>mul (n+1) M (P k) i i) λs _=>?_;have e:pv (n+1) (λk=>((k+1:Nat):Int)*c (k+1)) s-pv (n+1) (λk=>- sm (n+1) λi=>mul (n+1) M (P k) i i) s=0:=by
   refine ow λh l=>?_;obtain⟨R,r⟩:=Bf (n+1) c s h;obtain⟨g,e⟩:=zS n (kT one N s) N h (n+1) aD;have q:aQ (n+1) (λi j=>if i<n+1 then kT one N s i j+h*N i j else kT one N s i j)=pv (n+2) c (s+h):=by
    rw[<-o];refine aY λi j f _=>?_;rw[ae f];simp only[kT];grind
   have p:(sm (n+1) λi=>sm (n+1) λj=>N i j*s6 n (kT one N s) i j)=pv (n+1) (λk=>- sm (n+1) λi=>mul (n+1) M (P k) i i) s:=by
    have a:pv (n+1) (λk=>sm (n+1) λi=>(-1)*mul (n+1) M (P k) i i) s=sm (n+1) λi=>pv (n+1) (λk=>(-1)*mul (n+1) M (P k) i i) s:=Bb (n+1) (n+1) (λi k=>(-1)*mul (n+1) M (P k) i i) s;have b:pv (n+1) (λk=>- sm (n+1) λi=>mul (n+1) M (P k) i i) s=pv (n+1) (λk=>sm (n+1) λi=>(-1)*mul (n+1) M (P k) i i) s:=aO λk _=>by dsimp only;rw[dD];congr 1;omega
    rw[b,a];refine aO λi _=>?_;have d:pv (n+1) (λk=>(-1)*mul (n+1) M (P k) i i) s=(-1)*pv (n+1) (λk=>mul (n+1) M (P k) i i) s:=by
     unfold pv;rw[<-dD];exact aO λk _=>aC
    rw[d,<-m];simp only[mul];rw[<-dD];refine aO λj _=>?_;simp only[N,fa];grind
   rw[q,o,p]at e;refine⟨g-R,?_⟩;have f:h*(pv (n+1) (λk=>((k+1:Nat):Int)*c (k+1)) s-pv (n+1) (λk=>- sm (n+1) λi=>mul (n+1) M (P k) i i) s)=h*(h*(g-R)):=by
    rw[e]at r;grind
   exact Int.eq_of_mul_eq_mul_left l f
  omega
 ·show fq (j+i)*rF n (minor one j i) (minor N j i) n=fq (j+i)*aQ n (minor N j i);rw[EM]
end Go.bc
namespace Go.Proofs.Qq
section
open Go.bc
theorem xg(n k:Nat)(M:Nat->Nat->Int):∀(a p:Nat),p+a=n->p<=fJ n k M a p/\fJ n k M a p<=n/\(∀q,p<=q->q<fJ n k M a p->M q k=0)/\(fJ n k M a p<n->M (fJ n k M a p) k≠0):=by
 intro a;induction a with
 |zero=>intro p i;simp only[fJ];exact⟨aD,aq,λq c b=>aq,λh=>aq⟩
 |succ a g=>
  intro p i;simp only[fJ];split
  ·rename_i h;obtain⟨c,b,l,j⟩:=g (p+1) aq;refine⟨aq,b,λq o d=>?_,j⟩;by_cases e:q=p
   ·rw[e];exact h.2
   ·exact l q aq d
  ·rename_i h;exact⟨aD,aq,λq c b=>aq,λf m=>h ⟨f,m⟩⟩
theorem wR{n k:Nat}(M:Nat->Nat->Int)(a:k<=n):k<=cR n k M/\cR n k M<=n/\(∀q,k<=q->q<cR n k M->M q k=0)/\(cR n k M<n->M (cR n k M) k≠0):=xg n k M (n-k) k (by omega)
theorem Gk{α:Type}(k:Nat)(M:Nat->α):swp k k M=M:=by
 funext i;simp only[swp];split
 ·rename_i h;rw[h]
 ·rfl
theorem yB{n k p:Nat}(A:Mt)(b:k<n)(a:p<n):aQ n (swp k p A)=if p=k then aQ n A else-aQ n A:=by
 split
 ·rename_i h;rw[h,Gk]
 ·rename_i h;exact(eI n).swap A k p b a λe=>h e.symm
theorem CC{k p i j:Nat}(A:Mt)(a:k<=p)(_hi:k<=i):bm k (swp k p A) i j=swp k p (bm k A) i j:=by
 have a:∀b,swp k p A i=A b->bm k (swp k p A) i j=bm k A b j:=λb d=>by
  unfold bm;refine aY λr c _ _=>?_;by_cases b:r<k
  ·simp only[ae b];simp only[swp];rw[aa aq,aa aq]
  ·simp only[aa b];rw[d]
 by_cases e:i=k
 ·rw[a p (by simp only[swp];rw[ae e])];simp only[swp];rw[ae e]
 ·by_cases b:i=p
  ·rw[a k (by simp only[swp];rw[aa e,ae b])];simp only[swp];rw[aa e,ae b]
  ·rw[a i (by simp only[swp];rw[aa e,aa b])];simp only[swp];rw[aa e,aa b]
theorem oH{k p:Nat}(A:Mt)(a:k<=p):aQ k (swp k p A)=aQ k A:=
 aY λr c a _=>by simp only[swp];rw[aa aq,aa aq]
theorem yN(A:Mt)(i j:Nat):bm 0 A i j=A i j:=by
 simp[bm,aQ,sm,fq]
theorem Ex{n k:Nat}{M A:Mt}{a:Int}(b:k<n)(f:aQ k A=a)(g:a≠0)(c:∀i j,k<=i->i<n->k<=j->j<n->M i j=bm k A i j)(i j:Nat)(d:k+1<=i)(e:i<n)(d:k+1<=j)(d:j<n):
 elim k a M i j=bm (k+1) A i j:=by
 simp only[elim];rw[ae aq,c k k aq b aq b,c i j aq e aq d,c i k aq e aq b,c k j aq b aq d];rw[<-fW k A i j (by rw[f];exact g),f];exact Int.mul_ediv_cancel_left _ g
theorem zT(n:Nat):∀(m k:Nat) (M A:Mt) (b:Bool) (a:Int),k+m=n->aQ k A=a->a≠0->(∀i j,k<=i->i<n->k<=j->j<n->M i j=bm k A i j)->
 iL n m k M b a=if b then-aQ n A else aQ n A:=by
 intro m;induction m with
 |zero=>
  intro k M A b a u h _ _;obtain rfl:k=n:=aq;simp only[iL];rw[h]
 |succ m w=>
  intro k M A b a u h r l;obtain⟨q,m,v,u⟩:=wR M (show k<=n by omega);simp only[iL];by_cases m:cR n k M=n
  ·rw[ae m];have:=pJ n k A aq (by rw[h];exact r) λi f d=>by rw[<-l i k f d aD aq];exact v i f aq
   rw[this];simp
  ·rw[aa m];have jv:cR n k M<n:=aq;have s:=u jv;generalize cR n k M=p at*;have o:∀i j,k<=i->i<n->k<=j->j<n->swp k p M i j=bm k (swp k p A) i j:=λi j f d g c=>by
    rw[CC A q f];simp only[swp];by_cases e:i=k
    ·rw[ae e,ae e];exact l p j q jv g c
    ·rw[aa e,aa e];by_cases m:i=p
     ·rw[ae m,ae m];exact l k j aD aq g c
     ·rw[aa m,aa m];exact l i j f d g c
   have l:swp k p M k k=M p k:=by simp[swp]
   have t:aQ k (swp k p A)=a:=by rw[oH A q,h]
   rw[w (k+1) _ (swp k p A) _ (swp k p M k k) aq ?_ (by rw[l];exact s) ?_]
   ·rw[yB A aq jv];cases b<;>by_cases e:p=k<;>simp[e]
   ·rw[o k k aD aq aD aq,s8]
   ·intro i j f d g c;exact Ex aq t r o i j f d g c
theorem jw(n:Nat)(M:Mt):kU n M=aQ n M:=by
 have:=zT n n 0 M M false 1 aq F ar λi j _ _ _ _=>(yN M i j).symm;simpa[kU]using this
theorem ue(n:Nat)(f:Nat->Int):fN n f=sm n f:=by
 induction n with
 |zero=>rfl
 |succ n a=>simp only[fN,sm];rw[a]
theorem pL(n:Nat)(X Y:Nat->Nat->Int):mulM n X Y=mul n X Y:=by
 funext i j;simp only[mulM,mul,ue]
theorem mul_congr{n i j:Nat}{A C E:Mt}(h:∀k,k<n->C k j=E k j):mul n A C i j=mul n A E i j:=aO λk a=>by rw[h k a]
theorem EG(n:Nat)(A:Mt):aQ n (λa b=>- A a b)=fq n*aQ n A:=by
 induction n generalizing A with
 |zero=>rfl
 |succ n c=>
  simp only[aQ];rw[<-dD];refine aO λj _=>?_;rw[show minor (λa b=>- A a b) 0 j=(λa b=>- minor A 0 j a b)from rfl,c,j4 n];grind
theorem E7(n:Nat)(A:Mt)(i j:Nat):fa n (λa b=>- A a b) i j=fq n*fa n A i j:=by
 simp only[fa,s6];rw[show minor (λa b=>- A a b) j i=(λa b=>- minor A j i a b)from rfl,EG];grind
theorem vp(n:Nat)(M:Mt)(i j:Nat)(f:i<n+1)(d:j<n+1):kD (n+1) M i j=fa n M i j:=by
 obtain⟨P,c,b,p,o,m⟩:=Es n M;have g:∀k,k<=n->∀i j,i<n+1->j<n+1->lC (n+1) M k i j=P k i j:=by
  intro k;induction k with
  |zero=>
   intro _ i j f d;rw[b i j f d];simp only[lC,qN,one]
  |succ k a=>
   intro b i j f d;have h:=a aq;have e:∀a b,a<n+1->b<n+1->mulM (n+1) M (lC (n+1) M k) a b=mul (n+1) M (P k) a b:=λa b a l=>by
    rw[pL];exact mul_congr λt a=>h t b a l
   have b:(fN (n+1) λt=>mulM (n+1) M (lC (n+1) M k) t t)=-((k+1:Nat):Int)*c (k+1):=by
    have:=o k aq;rw[ue,aO λt a=>e t t a a];grind
   rw[p k i j aq f d];simp only[lC,nF];rw[b,e i j f d,Int.mul_ediv_cancel_left _ aq];simp only[one];split<;>omega
 have a:=m i j f d;rw[E7]at a;simp only[kD,show n+1-1=n by omega];rw[g n aD i j f d,a];unfold fq;split<;>split<;>omega
end
section
open Go Go.cU Go.cV Go.Proofs
theorem ru{n:Nat}(h1:1<=n)(a:n<=16):n9 n (λ_=>n)=true:=oX.2 ⟨h1,a,λ_ _=>rfl⟩
theorem uF{r q c:Nat}(h1:1<=r)(f:r<=16)(b:1<=q)(a:q<=16)(e:1<=c)(d:c<=16):kP r q (λ_=>q) (λ_=>c)=true:=by
 unfold kP;rw[n_ h1 f b a,n_ b a e d];simp
theorem yD{v:Value}{n N:Nat}{M:Nat->Nat->Int}{w:World}(h:cO (EI N) w v n (λ_=>n) M)(b:1<=N)(c:N<1048576)(h1:1<=n)(d:n<=16):
 aT Tryz.prog 25 #[v] w (λu a=>Ext w a/\∃x y,u=.tuple #[.agg #[x,y],.bool true]/\CV a x y (kU n M)):=
 (GS v n N _ M w h b c).mono λ_ _ ⟨b,x,y,e,a⟩=>by
  rw[ru h1 d]at e a;exact⟨b,x,y,e,a⟩
theorem jF.congr{w:World}{b:Nat}{a:Nat->Nat}{r c:Nat}{M M':Nat->Nat->Int}(h:jF w b a r c M)(e:∀i j,i<r->j<c->M i j=M' i j):jF w b a r c M':=
 ⟨h.outer,λi a=>(h.row i a).congr λj b=>e i j a b,h.ne,h.inj⟩
theorem jF.rd{w:World}{a:Nat}{b:Nat->Nat}{r c N' N:Nat}{M:Nat->Nat->Int}(h:jF w a b r c M)(g:∀i j,i<r->j<c->Bd N' (M i j))(f:N'<=N)(b:r<9223372036854775808)(e:c<9223372036854775808):cO (EI N) w (.slice (some ⟨a,0,none⟩) r r) r (λ_=>c) M:=
 h.read (λi j d a=>(g i j d a).mono f) b e
theorem lG.agg{w:World}{r c n cap:Nat}{b:Nat->Int}{A:Option Addr}(h1:r<256)(f:c<256)(e:n<=cap)(d:ou w A n b):∀a,Ext w a->lG a (.agg #[.int .u8 (r:Int),.int .u8 (c:Int),.slice A n cap]) r c n b:=λ_ h=>⟨A,cap,rfl,h1,f,e,d.Y h⟩
theorem wV{r:Nat}{a:Nat->Nat}:n9 r a=(l_ r a&&decide (r=a 0)):=F
theorem ta(v:Value)(r N:Nat)(a:Nat->Nat)(M:Nat->Nat->Int)(w:World)(h:cO (EI N) w v r a M)(g:1<=N)(i:N<1048576):
 aT Tryz.prog 85 #[v] w (tj w (n9 r a) r r (kD r M)):=by
 refine bF (n:=22) Tryz.func85 F rfl aw aA ?_;refine gg ?_;refine aJ (j3 (EI N) v r a M w h) ?_;rintro _ f ⟨c,rfl⟩;have b:Ext w f:=by rw[<-c];exact Ext.refl _
 obtain⟨s,c,ok,e,c⟩:=iX r a;rw[e];rcases c with⟨d,rfl,rfl,rfl⟩|⟨d,rfl,rfl,rfl⟩
 ·refine gg ?_;refine aP ?_;by_cases e:s=a 0
  ·have c:n9 s a=true:=by rw[wV,d,decide_eq_true e];rfl
   have a:=oX.1 c;refine gg ?_;refine aJ (vo v s N M f ((h.sq a.2.2).Y b) a.1 a.2.1 g i) ?_;intro u a a;refine gg ?_;exact fK F rfl rfl (A4 c b a)
  ·refine gg ?_;exact fK F rfl rfl (sn (by rw[wV,d,decide_eq_false e];rfl) b)
 ·refine gg ?_;refine aP ?_;refine gg ?_;exact fK F rfl rfl (sn (by rw[wV,d];rfl) b)
def AG(a:Int)(M:Nat->Nat->Int):Nat->Nat->Int:=λi j=>a*M i j
theorem E_{n N:Nat}{M:Nat->Nat->Int}(a:n<=16)(d:∀i j,i<n->j<n->Bd N (M i j)):∀i j,i<n->j<n->Bd (1+(n-1)*(N+3)) (kD n M i j):=λi j c b=>by
 unfold kD;split
 ·exact(tc a d _ i j c b).neg
 ·exact tc a d _ i j c b
theorem p_(n:Nat)(M:Nat->Nat->Int)(i j:Nat)(d:i<n)(c:j<n):mulM n M (kD n M) i j=AG (kU n M) (qN 1) i j:=by
 obtain⟨m,rfl⟩ : ∃m,n=m+1:=⟨n-1,aq⟩;rw[pL,mul_congr λk b=>vp m M k j b c,Go.bc.jJ m M i j d c,jw];unfold AG qN;split<;>simp
theorem tR(N k:Nat)(c:k<=16):Nb N k<=Nb N 16:=by
 have a:∀d k,Nb N k<=Nb N (k+d):=λd=>by
  induction d with
  |zero=>intro k;exact Nat.le_refl _
  |succ d b=>intro k;exact Nat.le_trans (b k) (iI N (k+d))
 have:=a (16-k) k;rwa[show k+(16-k)=16 by omega]at this
theorem sb(a:Bool)(m:Nat):(sg a m).sign=if m=0 then 0 else if a then -1 else 1:=by
 by_cases h:m=0
 ·subst h;rw[ae F];cases a<;>rfl
 ·rw[aa h];cases a
  ·rw[fc];exact Int.sign_eq_one_of_pos aq
  ·rw[e9];exact Int.sign_eq_neg_one_of_neg aq
theorem Ct(a b:Nat):iM (a:Int) (b:Int)=dX a b:=by
 unfold iM dX;by_cases c:a<b
 ·rw[ae aq,ae c]
 ·rw[aa aq,aa c];by_cases c:b<a
  ·rw[ae aq,ae c]
  ·rw[aa aq,aa c]
theorem Cr(a b:Nat):iM (-(a:Int)) (-(b:Int))=- dX a b:=by
 unfold iM dX;by_cases c:a<b
 ·rw[aa aq,ae aq,ae c];rfl
 ·rw[aa c];by_cases c:b<a
  ·rw[ae aq,ae c]
  ·rw[aa aq,aa aq,aa c];rfl
theorem zZ{c d:Bool}{a b:Nat}(h:(sg c a).sign=(sg d b).sign):(sg c a).sign*dX a b=iM (sg c a) (sg d b):=by
 rw[sb,sb]at h;rw[sb];by_cases f:a=0
 ·by_cases e:b=0
  ·subst f e;cases c<;>cases d<;>decide
  ·rw[ae f,aa e]at h;cases d<;>simp at h
 ·rw[aa f]at h⊢;by_cases e:b=0
  ·rw[ae e]at h;cases c<;>simp at h
  ·rw[aa e]at h;cases c<;>cases d<;>simp at h
   ·rw[fc,fc,Ct,aa ar,Int.one_mul]
   ·rw[e9,e9,Cr,ae F,Int.neg_mul,Int.one_mul]
theorem yJ{a b:Int}(h:a.sign<b.sign):iM a b=-1:=by
 unfold iM;rcases Int.lt_trichotomy a 0 with d|d|d<;>rcases Int.lt_trichotomy b 0 with c|c|c
 ·rw[Int.sign_eq_neg_one_of_neg d,Int.sign_eq_neg_one_of_neg c]at h;omega
 ·rw[ae aq]
 ·rw[ae aq]
 ·subst d;rw[Int.sign_eq_neg_one_of_neg c]at h;simp at h
 ·subst d c;simp at h
 ·rw[ae aq]
 ·rw[Int.sign_eq_one_of_pos d,Int.sign_eq_neg_one_of_neg c]at h;omega
 ·subst c;rw[Int.sign_eq_one_of_pos d]at h;simp at h
 ·rw[Int.sign_eq_one_of_pos d,Int.sign_eq_one_of_pos c]at h;omega
theorem zY(a b:Int):iM a b=- iM b a:=by
 unfold iM;by_cases d:a<b
 ·rw[ae d,aa aq,ae d]
 ·rw[aa d];by_cases c:b<a
  ·rw[ae c,ae c];rfl
  ·rw[aa c,aa c,aa d];rfl
theorem yI(j h i g:Value)(f a:Int)(N:Nat)(w:World)(h1:IV w N j h f)(m:IV w N i g a)(o:N<17592186044416):
 aT Tryz.prog 66 #[.agg #[j,h],.agg #[i,g]] w λv g=>Ext w g/\v=.int .i64 (iM f a):=by
 have q:=h1;have p:=m;obtain⟨d,B,b,z,rfl,rfl,u,s,l,a,rfl⟩:=h1;obtain⟨e,A,c,y,rfl,rfl,t,r,k,a,rfl⟩:=m;refine bF (n:=28) Tryz.func66 F rfl aw aA ?_;refine gg ?_;refine aZ (v:=.agg _) (.inl F) F ?_;intro x g i a;refine gg ?_;refine aZ (v:=.agg _) (.inl F) F ?_;intro m f a h;have h:=i.trans a;have j:bh m w.heap.size 35 #[.bool d,.slice B b.length z]:=g.Y a;have i:bh m x.heap.size 35 #[.bool e,.slice A c.length y]:=f;clear g f;refine gg ?_;refine b7 [(0,0),(2,0),(1,1),(3,1),(4,3),(5,3)] mixed aw λf a _=>?_;obtain⟨A,z⟩:=a9 (j.Y a);obtain⟨y,x⟩:=a9 (i.Y a);refine gg ?_;refine aM (cE _ _ _ N f (q.Y (h.trans a)) o) ?_;rintro _ f ⟨g,rfl⟩;refine⟨g,?_⟩;refine gg ?_;refine aM (cE _ _ _ N f (p.Y (h.trans (a.trans g))) o) ?_;rintro _ f ⟨m,rfl⟩;refine⟨m,?_⟩;have f:=a.trans (g.trans m);have g:=h.trans f;clear A z y x;by_cases a:(sg d (val b)).sign<(sg e (val c)).sign
 ·refine gg ?_;exact cI F rfl ⟨g,by rw[yJ a];rfl⟩
 by_cases a:(sg e (val c)).sign<(sg d (val b)).sign
 ·refine gg ?_;exact cI F rfl ⟨g,by rw[zY,yJ a];rfl⟩
 have o:(sg d (val b)).sign=(sg e (val c)).sign:=aq;refine gg ?_;refine b7 [(0,3),(1,3),(2,0),(4,3),(5,0),(3,1),(6,1),(7,1),(8,3),(9,3)] mixed aw λm h _=>?_;have a:=fG (j.Y (f.trans h));have a:=fG (i.Y (f.trans h));have a:=g.trans h;refine gg ?_;refine aM (dn _ _ _ _ m (l.Y a) F u s) ?_;rintro _ _ ⟨rfl,m1,i,rfl,g,ct⟩;refine⟨Ext.refl _,?_⟩;refine gg ?_;refine aM (dn _ _ _ _ m (k.Y a) F t r) ?_;rintro _ _ ⟨rfl,m2,h,rfl,f,fg⟩;refine⟨Ext.refl _,?_⟩;refine gg ?_;refine aM (jR _ _ _ _ _ _ (b.take m1) (c.take m2) m ((l.Y a).take m1) ((k.Y a).take m2) (List.length_take_of_le i) (List.length_take_of_le h) aq aq g f) ?_;rintro _ f ⟨f,rfl⟩;refine⟨f,?_⟩;rw[ct,fg];have g:(sg d (val b)).sign*dX (val b) (val c)=iM (sg d (val b)) (sg e (val c)):=zZ o;have h:-1<=iM (sg d (val b)) (sg e (val c))/\iM (sg d (val b)) (sg e (val c))<=1:=by
  unfold iM;split
  ·omega
  ·split<;>omega
 refine gg ?_;refine vV F rfl (by rw[g];omega) (by rw[g];omega) ?_;refine gg ?_;exact cI (v:=.int .i64 _) F rfl ⟨a.trans f,by rw[g]⟩
end
end Go.Proofs.Qq

namespace Go.cU
open Go
section
variable {P:Program}{n:Nat}{Q:Exit->Fr->World->Prop}{f:Fr}{w:World}
theorem yQ{l:Nat}(h:Q .normal f w):W P n (.label l) Q f w:=by unfold W;exact wp_label ⟨f,F,h⟩
def Jz(Q:Exit->Fr->World->Prop):Exit->Fr->World->Prop
 |.goto _,_,_=>False
 |e,f,w=>Q e f w
theorem Fj{c:Code}(h:W P n c (Jz Q) f w):W P n (.scope c) Q f w:=by
 unfold W at*;refine wp_scope_straight (Code.wp_mono (λe a w b=>?_) h);obtain⟨f,rfl,b⟩:=b;cases e<;>first|exact b.elim|exact⟨f,rfl,b⟩
end
end Go.cU
namespace Go.Proofs.Qq
open Go Go.cU Go.cV Go.Proofs
section
variable {P:Program}{n:Nat}{S:World->World->Prop}{k:Nat}{K:Fr->World->Prop}{f:Fr}{w:World}{d ty t:Nat}{x:Operand}{pos:String}{aft:Array Edge}{gd:Option (Nat×Bool)}
theorem Ah{e g b m c l r q G o:Nat}{z:Value}{j p i:Operand}(s:cP P t e g b z)(B:ev n f x=.slice (some ⟨G,o,none⟩) m c)(E:ev n f j=.int .i64 (l:Int))(C:ev n f p=.int .i64 (r:Int))(D:ev n f i=.int .i64 (q:Int))(A:l<=r)(b:r<=q)(u:q<=c)(H:l<q)
 (h:K (bS f d (.slice (some ⟨G,o+l*g,none⟩) (r-l) (q-l))) w):R1 P n S k ⟨some d,.slice t x (some j) (some p) (some i),ty,pos,aft,gd⟩ K f w:=by
 refine cD (v:=.slice (some ⟨G,o+l*g,none⟩) (r-l) (q-l)) (λw=>?_) h;have g:(0:Int)<=(r:Int)/\(r:Int)<=(q:Int):=aq;have g:(0:Int)<=(l:Int)/\(l:Int)<=(r:Int):=aq;have g:(0:Int)<=(q:Int)/\(q:Int)<=(c:Int):=aq;have g:¬q=l:=aq;simp[execOp,B,E,C,D,Instr.sliceAt,run_underlying s.Ge,Instr.slice,Instr.sliceBounds,Instr.sliceBound,asIntOf,jZ s.info,A,b,u,g,add_lit]
end
theorem yA{c a b i j:Nat}(g:b<c)(e:j<c)(h:a*c+b=i*c+j):a=i/\b=j:=by
 have l:0<c:=aq;have o:=congrArg (·/c) h;have m:=congrArg (·%c) h;simp only[Nat.mul_comm _ c,Nat.mul_add_div l,Nat.div_eq_of_lt g,Nat.div_eq_of_lt e,Nat.mul_add_mod,Nat.mod_eq_of_lt g,Nat.mod_eq_of_lt e]at o m;omega
theorem w_{r c i j:Nat}(a:i<r)(b:j<c):i*c+j<r*c:=by
 have h:(i+1)*c<=r*c:=Nat.mul_le_mul_right c a;rw[Nat.add_mul,Nat.one_mul]at h;omega
def Flat(w:World)(gE:Nat)(ps:Nat->Nat)(r c:Nat)(cn:Bool)(N:Nat)(M:Nat->Nat->Int):Prop:=
 ∃aI,dk w gE (r*c) cn (λ_=>N) aI/\∀i j,i<r->j<c->aI (ps i*c+j)=M i j
structure fl(w:World)(gO gE:Nat)(ps:Nat->Nat)(r c:Nat)(cn:Bool)(N:Nat)(M:Nat->Nat->Int):Prop where
 outer:bh w gO 27 (arr r λi=>.slice (some ⟨gE,0+ps i*c*2,none⟩) c c)
 flat:Flat w gE ps r c cn N M
 ne:gE≠gO
 lt:∀i,i<r->ps i<r
 inj:∀i j,i<r->j<r->ps i=ps j->i=j
section
variable {w w':World}{gO gE r c N N':Nat}{ps:Nat->Nat}{cn:Bool}{M M':Nat->Nat->Int}
theorem Flat.kp{a:Nat->Prop}(h:Flat w gE ps r c cn N M)(e:Kp w w')(g:Ch a w w')(b:¬a gE):Flat w' gE ps r c cn N M:=by
 obtain⟨aI,i,a⟩:=h;exact⟨aI,i.kp e g b,a⟩
theorem fl.kp{a:Nat->Prop}(h:fl w gO gE ps r c cn N M)(i:Kp w w')(b:Ch a w w')(g:¬a gO)(e:¬a gE):fl w' gO gE ps r c cn N M:=
 ⟨h.outer.ch b g,h.flat.kp i b e,h.ne,h.lt,h.inj⟩
theorem fl.Y(h:fl w gO gE ps r c cn N M)(a:Ext w w'):fl w' gO gE ps r c cn N M:=h.kp (bN a) a id id
theorem Flat.congr(h:Flat w gE ps r c cn N M)(a:N<=N')(e:∀i j,i<r->j<c->M i j=M' i j):Flat w gE ps r c cn N' M':=by
 obtain⟨aI,b,g⟩:=h;exact⟨aI,b.congr λ_ _=>⟨a,rfl⟩,λi j b a=>by rw[g i j b a,e i j b a]⟩
theorem fl.congr(h:fl w gO gE ps r c cn N M)(a:N<=N')(e:∀i j,i<r->j<c->M i j=M' i j):fl w gO gE ps r c cn N' M':=
 ⟨h.outer,h.flat.congr a e,h.ne,h.lt,h.inj⟩
theorem fl.at(h:fl w gO gE ps r c cn N M){i:Nat}(a:i<r):w.cell? ⟨gO,0+i*1,none⟩=some (.slice (some ⟨gE,0+ps i*c*2,none⟩) c c):=by
 rw[h.outer.cell,show 0+i*1=i by omega,b8 a]
theorem fl.entry(h:fl w gO gE ps r c cn N M){i j:Nat}(e:i<r)(b:j<c):
 ∃x y,w.cell? ⟨gE,0+ps i*c*2+j*2,none⟩=some x/\w.cell? ((⟨gE,0+ps i*c*2+j*2,none⟩ : Addr).add 1)=some y/\EV w N cn x y (M i j):=by
 obtain⟨aI,o,m⟩:=h.flat;obtain⟨x,y,l,g,a⟩:=o.at (w_ (h.lt i e) b);rw[m i j e b]at a;have e:0+(ps i*c+j)*2=0+ps i*c*2+j*2:=by rw[Nat.add_mul];omega
 rw[e]at l g;exact⟨x,y,l,g,a⟩
theorem fl.bd(h:fl w gO gE ps r c cn N M){i j:Nat}(b:i<r)(a:j<c):Bd N (M i j):=by
 obtain⟨x,y,_,_,hv⟩:=h.entry b a;exact hv.bd
end
section
variable {n:Nat}{S:World->World->Prop}{k:Nat}{K:Fr->World->Prop}{f:Fr}{w:World}
 {d ty t t2:Nat} {x y:Operand} {pos:String} {aft:Array Edge} {gd:Option (Nat×Bool)}
theorem rN{g m c p j N:Nat}{cn:Bool}{aI:Nat->Int}{z:Int}{a b:Value}(s:k=2\/k=1/\∀w',Ch (λb=>b=g) w w'->S w w')(i:ev n f x=.pointer (some ⟨g,0+p*c*2+j*2,none⟩))(e:ev n f y=.agg #[a,b])(o:dk w g m cn (λ_=>N) aI)(q:p*c+j<m)(l:EV w N cn a b z)
 (h:∀w',dk w' g m cn (λ_=>N) (fR aI (p*c+j) z)->Ch (λb=>b=g) w w'->Kp w w'->w'.heap.size=w.heap.size->K f w'):
 R1 Tryz.prog n S k ⟨none,.store 35 x y,ty,pos,aft,gd⟩ K f w:=by
 refine dW (j:=p*c+j) s (by rw[i,show 0+p*c*2+j*2=0+(p*c+j)*2 by rw[Nat.add_mul];omega]) e o q l ?_;intro w' e o l i;exact h w' (e.congr λq _=>⟨by simp only[cZ];split<;>exact Nat.le_refl _,F⟩) o l i
end
def Jd(w:World)(N:Nat)(cn:Bool)(z:Int)(v:Value)(w':World):Prop:=Ext w w'/\∃x y,v=.agg #[x,y]/\EV w' N cn x y z
def RT(w:World)(r c:Nat)(cn:Bool)(N:Nat)(M:Nat->Nat->Int)(v:Value)(w':World):Prop:=
 Ext w w'/\∃gO gE,v=.slice (some ⟨gO,0,none⟩) r r/\w.heap.size<=gO/\w.heap.size<=gE/\fl w' gO gE (λi=>i) r c cn N M
theorem t_(r c g N:Nat)(cn:Bool)(cap:List Value)(M:Nat->Nat->Int)(w:World)(O:r<1048576)(O:c<1048576)(O:1<=c)
 (hf:∀i j,i<r->j<c->∀w',Ext w w'->aT Tryz.prog g (.int .i64 ((i:Nat):Int)::.int .i64 ((j:Nat):Int)::cap).toArray w' (Jd w' N cn (M i j))):
 aT Tryz.prog 19 #[.int .i64 (r:Int),.int .i64 (c:Int),.func (.func g) #[] cap.toArray] w (RT w r c cn N M):=by
 refine bF (n:=59) Tryz.func19 F rfl aw aA ?_;have O:r*c<1099511627776:=by
  have h1:r*c<=1048575*c:=Nat.mul_le_mul_right c aq;omega
 refine gg ?_;refine jD F rfl aq ?_;refine gg ?_;refine cF eE (.inl F) F rfl aD aq aq ?_;intro w1 O a5 ad;have Y:dk w1 w.heap.size (r*c) cn (λ_=>N) (λ_=>0):=ff cn N O;obtain⟨gE,Z⟩ : ∃g,g=w.heap.size:=⟨_,F⟩;rw[<-Z]at Y⊢;clear O;refine gg ?_;refine cF fU (.inl F) F rfl aD aq aq ?_;intro O O Z ab;rw[il,Nat.mul_one]at O;obtain⟨gO,a0⟩ : ∃g,g=w1.heap.size:=⟨_,F⟩;rw[<-a0]at O⊢;have W:gE≠gO:=aq;have aj:w.heap.size<=gO:=aq;have a3:=Y.Y Z;have a0:=a5.trans Z;clear Y;refine gg ?_;refine aX (λf w'=>f 8=.slice (some ⟨gO,0,none⟩) r r/\Ext w w'/\fl w' gO gE (λi=>i) r c cn N M) ?_ ?_
 ·refine gg ?_;refine aU (λm f w'=>∃(i:Nat) (h:Nat->Value) (aI:Nat->Int),m=r-i/\i<=r/\f 0=.int .i64 (r:Int)/\f 1=.int .i64 (c:Int)/\f 2=.func (.func g) #[] cap.toArray/\f 7=.slice (some ⟨gE,0,none⟩) (r*c) (r*c)/\f 8=.slice (some ⟨gO,0,none⟩) r r/\f 18=.int .i64 (r:Int)/\f 19=.int .i64 (i:Int)/\Ext w w'/\bh w' gO 27 (arr r h)/\(∀k,k<r->∃A m c,h k=.slice A m c)/\(∀k,k<i->h k=.slice (some ⟨gE,0+k*c*2,none⟩) c c)/\dk w' gE (r*c) cn (λ_=>N) aI/\∀a b,a<i->b<c->aI (a*c+b)=M a b)
   r ⟨0,_,λ_=>0,rfl,aE,rfl,rfl,rfl,rfl,rfl,rfl,rfl,a0,O,λk _=>⟨none,0,0,by simp[Value.cells,Nat.mod_one]⟩,λk R=>absurd R aq,a3,λa b U=>absurd U aq⟩ ?_
  clear O a0 a3 ab ad a5 Z;rintro m f w3 ⟨i,h,aI,rfl,O,G,E,D,C,l,p,o,H,u,V,I,T,s⟩;rw[ui G,ui E,ui D,ui C,ui l,ui p,ui o];clear G E D C l p o;by_cases z:i<r
  ·have O:(i+1)*c<=r*c:=Nat.mul_le_mul_right c z;have O:(i+1)*c=i*c+c:=by rw[Nat.add_mul,Nat.one_mul]
   refine gg ?_;refine jD F rfl aq ?_;refine gg ?_;refine jD F rfl aq ?_;refine gg ?_;refine jD F rfl aq ?_;refine gg ?_;refine Ah eE F rfl rfl rfl aq aq aq aq ?_;rw[show(i+1)*c-i*c=c by omega];refine gg ?_;refine cH (aW F) (.inl F) F rfl u (by rw[bk];omega) ?_;intro O L J a7;have a2:=T.kp (cK u (dJ V).jn J) J W;rw[cC,Nat.zero_add,Nat.mul_one]at L;have a4:Ext w O:=J.aK H λb q=>aq;have BG:O.cell? ⟨gO,0+i*1,none⟩=some (.slice (some ⟨gE,0+i*c*2,none⟩) c c):=by
    rw[L.cell,show 0+i*1=i by omega,b8 z,bG]
   have a6:∀k,k<r->∃A m O,bS h i (.slice (some ⟨gE,0+i*c*2,none⟩) c c) k=.slice A m O:=λk R=>by
    by_cases B:k=i
    ·subst B;exact⟨_,_,_,bG _ _ _⟩
    ·rw[bw _ _ B];exact V k R
   have a1:∀k,k<i+1->bS h i (.slice (some ⟨gE,0+i*c*2,none⟩) c c) k=.slice (some ⟨gE,0+k*c*2,none⟩) c c:=λk R=>by
    by_cases B:k=i
    ·subst B;exact bG _ _ _
    ·rw[bw _ _ B];exact I k aq
   clear u H T V I J a7;refine gg ?_;refine aU (λm f w'=>∃(j:Nat) (aI:Nat->Int),m=c-j/\j<=c/\f 0=.int .i64 (r:Int)/\f 1=.int .i64 (c:Int)/\f 2=.func (.func g) #[] cap.toArray/\f 7=.slice (some ⟨gE,0,none⟩) (r*c) (r*c)/\f 8=.slice (some ⟨gO,0,none⟩) r r/\f 18=.int .i64 (r:Int)/\f 19=.int .i64 (i:Int)/\f 9=.int .i64 (i:Int)/\f 42=.int .i64 (c:Int)/\f 43=.int .i64 (j:Int)/\Ext w w'/\bh w' gO 27 (arr r (bS h i (.slice (some ⟨gE,0+i*c*2,none⟩) c c)))/\dk w' gE (r*c) cn (λ_=>N) aI/\∀a b,a<i\/a=i/\b<j->b<c->aI (a*c+b)=M a b)
    c ⟨0,aI,F,aE,F,F,F,F,F,F,F,F,F,F,a4,L,a2,λa b U q=>s a b aq q⟩ ?_
   clear a4 L a2 BG s;rintro m f m ⟨j,m,rfl,m,G,E,D,C,l,p,o,B,A,m,H,u,T,s⟩;rw[ui G,ui E,ui D,ui C,ui l,ui p,ui o,ui B,ui A,ui m];clear G E D C l p o B A m;by_cases X:j<c
   ·refine gg ?_;refine c8 [(0,3),(1,3),(2,3),(3,0),(4,3),(5,3),(6,3),(7,3),(8,1),(9,3),(10,2)] mixed aw λo m _=>?_;have p:o.cell? ⟨gO,0+i*1,none⟩=some (.slice (some ⟨gE,0+i*c*2,none⟩) c c):=by
     rw[(u.Y m).cell,show 0+i*1=i by omega,b8 z,bG]
    refine gg ?_;refine rY (.inr F) F rfl rfl (hf i j z X o (H.trans m)) ?_;rintro _ o ⟨o,x,y,rfl,p⟩;refine⟨λ_=>o,?_⟩;refine gg ?_;refine rN (.inl F) F rfl (T.Y (m.trans o)) (w_ z X) p ?_;intro B z p A A;have A:Ext w B:=p.aK ((H.trans m).trans o) λb q=>aq;refine gg ?_;refine⟨_,?_,j+1,_,F,aq,F,F,F,F,F,F,F,F,F,F,A,(u.Y (m.trans o)).ch p (Ne.symm W),z,λa b ai q=>?_⟩
    ·omega
    ·simp only[fR];by_cases e:a*c+b=i*c+j
     ·obtain⟨rfl,rfl⟩:=yA q X e;rw[ae F]
     ·rw[aa e];refine s a b ?_ q;rcases ai with h1|⟨rfl,h1⟩
      ·exact .inl h1
      ·exact .inr ⟨F,by
        rcases Nat.lt_or_ge b j with h2|h2
        ·exact h2
        ·exact absurd (by rw[show b=j by omega]) e⟩
   ·refine gg ?_;refine⟨_,?_,i+1,_,_,F,aq,F,F,F,F,F,F,F,H,u,a6,a1,T,λa b U q=>s a b aq q⟩;omega
  ·refine gg ?_;have:i=r:=aq;subst this;refine⟨F,H,⟨?_,⟨aI,T,λa b U q=>s a b U q⟩,W,λ_ h=>h,λ_ _ _ _ h=>h⟩⟩;rw[du λk R=>I k R]at u;exact u
 ·rintro f w3 ⟨l,a,b⟩;rw[ui l];refine gg ?_;exact cI (v:=.slice _ _ _) F rfl ⟨a,_,_,F,aj,aq,b⟩
end Go.Proofs.Qq
namespace Go.Proofs.Qq
section
open Go Go.cU Go.cV Go.Proofs
theorem u4(H m D k y j x g u a:Value)(r q p o s:Int)(N:Nat)(w:World)(h1:IV w N H m r)(U:IV w N D k q)(T:IV w N y j p)(S:IV w N x g o)(R:IV w N u a s)(hN:N<137438953472)(L:s≠0):
 aT Tryz.prog 23 #[.agg #[H,m],.agg #[D,k],.agg #[y,j],.agg #[x,g],.agg #[u,a]] w (RI w ((r*o-q*p)/s)):=by
 refine bF (n:=28) Tryz.func23 F rfl aw aA ?_;refine gg ?_;refine aZ (v:=.agg _) (.inl F) F ?_;intro a D I a;refine gg ?_;refine aZ (v:=.agg _) (.inl F) F ?_;intro a y z a;refine gg ?_;refine aZ (v:=.agg _) (.inl F) F ?_;intro a x l a;refine gg ?_;refine aZ (v:=.agg _) (.inl F) F ?_;intro a u h a;refine gg ?_;refine aZ (v:=.agg _) (.inl F) F ?_;intro j m d a;refine gg ?_;refine aR (.inl F) a_ ?_;intro k g a H;have G:Bx k j.heap.size 1 true 0:=Bx.zero true g;obtain⟨g,k⟩ : ∃g,g=j.heap.size:=⟨_,F⟩;rw[<-k]at G⊢;have B:=I.trans (z.trans (l.trans (h.trans (d.trans a))));refine gg ?_;refine iq [(0,0),(1,0),(3,0),(4,0),(7,0)] [(2,[],[]),(13,[],[]),(14,[],[]),(5,[],[2]),(6,[],[2,5]),(8,[(9,3),(10,3),(11,3),(12,3)],[6])] [(15,2),(16,2),(17,3)] mixed aw λO b _=>?_;obtain⟨p1,a0⟩:=a9 (D.Y (z.trans (l.trans (h.trans (d.trans (a.trans b))))));obtain⟨p2,Z⟩:=a9 (y.Y (l.trans (h.trans (d.trans (a.trans b)))));obtain⟨p3,Y⟩:=a9 (x.Y (h.trans (d.trans (a.trans b))));obtain⟨p4,X⟩:=a9 (u.Y (d.trans (a.trans b)));obtain⟨p5,W⟩:=a9 (m.Y (a.trans b));have i:=B.trans b;refine gg ?_;refine dT [(2,[]),(5,[]),(6,[]),(8,[(9,3),(10,3),(11,3),(12,3)])] [fA 13 11 35 (.agg #[.bool false,.slice none 0 0]),fA 14 12 35 (.agg #[.bool false,.slice none 0 0])] [17,20,21,23,14,24,25,26,11,12] aw (λa f V P _ _=>by
  rcases List.mem_cons.1 f with rfl|f
  ·exact b_ a_ F V P
  ·rcases List.mem_singleton.1 f with rfl;exact b_ a_ F V P) ?_
 refine cT λf H=>?_;have a:=i.trans H;refine gg ?_;refine aM (pK _ _ _ _ _ _ N f (h1.Y a) (S.Y a) aq) ?_;rintro _ f ⟨u,f,f,rfl,y⟩;refine⟨u,?_⟩;refine gg ?_;refine cT λf k=>?_;have g:=a.trans (u.trans k);refine gg ?_;refine aM (pK _ _ _ _ _ _ N f (U.Y g) (T.Y g) aq) ?_;rintro _ a ⟨f,a,b2,rfl,x⟩;refine⟨f,?_⟩;refine gg ?_;refine cT λm a=>?_;have j:=h1.bd.mul S.bd;have i:=U.bd.mul T.bd;have Q:=j.sub i;refine gg ?_;refine aM (AO _ _ _ _ _ _ (N+N) m ((y.Y (k.trans (f.trans a))).iv j) ((x.Y a).iv i) aq) ?_;rintro _ i ⟨j,i,b3,rfl,y⟩;refine⟨j,?_⟩;refine gg ?_;refine cT λx i=>?_;have m:=g.trans (f.trans (a.trans (j.trans i)));refine gg ?_;refine aM (kb _ _ _ _ _ _ (N+N+1) x ((y.Y i).iv Q) ((R.Y m).mono aq) aq L) ?_;rintro _ g ⟨g,x,x,rx,x,rfl,hq,hr⟩;refine⟨g,?_⟩;refine gg ?_;refine fM λD e c t A=>?_;obtain⟨y,K⟩:=t _ aG;obtain⟨x,J⟩:=t _ (List.mem_cons_of_mem _ aG);have E:c 11≠c 12:=A _ _ aG (List.mem_cons_of_mem _ aG) (show(11:Nat)≠12 by decide);have a7:Bx D (c 11) 1 true 0:=Bx.zero true K;have a6:Bx D (c 12) 1 true 0:=Bx.zero true J;have y:O.heap.size<=c 11:=y;have x:O.heap.size<=c 12:=x;have C:=m.trans (g.trans e);have M:=G.Y (b.trans (H.trans (u.trans (k.trans (f.trans (a.trans (j.trans (i.trans (g.trans e)))))))));show Ro _ _ _ _ _ _ (bS (bS _ 12 (.pointer (some ⟨c 12,0,none⟩))) 11 (.pointer (some ⟨c 11,0,none⟩))) _;generalize c 11=a at*;generalize c 12=a at*;clear K J t A;have a5:Bd (N+N+1) ((r*o-q*p)/s):=Q.ediv;have a4:Bd N ((r*o-q*p)%s):=by
  have a:=Int.emod_nonneg (r*o-q*p) L;have a:=Int.emod_lt (r*o-q*p) L;have a:=R.bd;unfold Bd at*;omega
 have a:=b.size;refine gg ?_;refine aL (.inl F) F rfl a7 ((hq.Y e).ev true a5) ?_;intro a f c a b;refine gg ?_;refine aL (.inl F) F rfl (a6.kp a c E.symm) (((hr.Y e).kp a).ev true a4) ?_;intro g b b e i;have i:=f.kp e b E;have f:=(M.kp a c aq).kp e b aq;have a:=B.size;have a:Ext w g:=b.aK (c.aK C λb g=>aq) λb g=>aq;obtain⟨c,c,e,c⟩:=i;obtain⟨i,i⟩:=a9 e;clear p1 a0 p2 Z p3 Y p4 X p5 W;refine gg ?_;refine aL (.inl F) F rfl f c ?_;intro c c e f f;obtain⟨x,y,i,f⟩:=c;refine gg ?_;exact dO F aN F i ⟨e.aK a (λb g=>by have:=I.size;have:=z.size;have:=l.size;have:=h.size;have:=d.size;omega),x,y,F,f.2 F⟩
theorem sK{r:Nat}{a:Nat->Nat}:n9 r a=(l_ r a&&decide (r=a 0)):=F
theorem zk(E:World->Value->Value->Int->Prop)(v:Value)(r:Nat)(a:Nat->Nat)(M:Nat->Nat->Int)(w:World)(h:cO E w v r a M):
 aT Tryz.prog 18 #[v] w λv' c=>w=c/\∃n:Nat,v'=.tuple #[.int .i64 (n:Int),.bool (n9 r a)]/\(n9 r a=true->n=r):=by
 refine bF (n:=20) Tryz.func18 F rfl aw aA ?_;refine gg ?_;refine aJ (lP E v r a M w h) ?_;rintro _ _ ⟨rfl,rfl⟩;obtain⟨c,c,c,d,c⟩:=iX r a;rw[d];rcases c with⟨b,rfl,rfl,rfl⟩|⟨b,rfl,rfl,rfl⟩
 ·refine gg ?_;refine fK (v:=.int _ _) (v':=.bool _) F rfl rfl ⟨F,_,?_,λ_=>rfl⟩;rw[sK,b];rfl
 ·refine gg ?_;refine fK (v:=.int _ _) (v':=.bool _) F rfl rfl ⟨F,0,?_,λe=>?_⟩
  ·rw[sK,b];rfl
  ·rw[sK,b]at e;cases e
