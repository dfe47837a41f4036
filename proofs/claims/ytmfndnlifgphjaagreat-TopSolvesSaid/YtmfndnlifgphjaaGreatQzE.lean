import Derived.Test.YtmfndnlifgphjaaGreatQz0
set_option maxHeartbeats 64000000
namespace Go.Ap
abbrev F3:=Fin 3
abbrev M3:=F3->F3->Int
def th(a b:F3):F3:=0-a-b
theorem x_:∀a b:F3,a≠b->th a b≠a/\th a b≠b/\∀x,x=a\/x=b\/x=th a b:=by decide
theorem I8:∀a b c:F3,a≠b->b≠c->a≠c->∀x,x=a\/x=b\/x=c:=by decide
theorem GA:∀j:F3,j≠j+1:=by decide
def D3(a b c:F3):Prop:=a≠b/\b≠c/\a≠c
theorem D3.all{a b c:F3}(h:D3 a b c)(x:F3):x=a\/x=b\/x=c:=I8 a b c h.1 h.2.1 h.2.2 x
theorem D3.IK{a b c:F3}(h:D3 a b c):D3 b c a:=⟨h.2.1,Ne.symm h.2.2,Ne.symm h.1⟩
theorem D3.sw{a b c:F3}(h:D3 a b c):D3 b a c:=⟨Ne.symm h.1,h.2.2,h.2.1⟩
theorem D3.FP{a b c:F3}(h:D3 a b c):D3 a c b:=⟨h.2.2,Ne.symm h.2.1,h.1⟩
theorem D3.mk'{a b:F3}(h:a≠b):D3 a b (th a b):=⟨h,Ne.symm (x_ a b h).2.1,Ne.symm (x_ a b h).1⟩
def mi(M:M3)(x y j k:F3):Int:=M x j*M y k-M x k*M y j
def dt(M:M3)(x y z j k l:F3):Int:=M x j*mi M y z k l-M x k*mi M y z j l+M x l*mi M y z j k
theorem cS(M:M3)(x y j k:F3):mi M y x j k=- mi M x y j k:=by unfold mi;grind
theorem cY(M:M3)(x y j k:F3):mi M x y k j=- mi M x y j k:=by unfold mi;grind
theorem ja(M:M3)(x j k:F3):mi M x x j k=0:=by unfold mi;grind
structure Sq(T Dt:Nat)(M:Nat->M3)(m c:Nat->F3)(P:Nat->Nat)(q:Nat->F3->Int):Prop where
 hp:∀s,s<=T->(M s (m s) (c s)).natAbs=P s
 le:∀s,s<=T->∀x y,M s x y≠0->P s<=(M s x y).natAbs
 q0:∀s,s<T->q s (m s)=0
 st:∀s,s<T->∀x y,M (s+1) x y=M s x y-q s x*M s (m s) y
 rm:∀s,s<T->∀x,x≠m s->0<=M (s+1) x (c s)/\M (s+1) x (c s)<P s
 Ix:∀x y z j k l,D3 x y z->D3 j k l->(dt (M 0) x y z j k l).natAbs=Dt
 d0:0<Dt
 mQ:∀s,s<=T->Dt<P s
section
variable {T Dt:Nat}{M:Nat->M3}{m c:Nat->F3}{P:Nat->Nat}{q:Nat->F3->Int}
theorem Sq.n8(h:Sq T Dt M m c P q){s:Nat}(a:s<T)(y:F3):M (s+1) (m s) y=M s (m s) y:=by
 rw[h.st s a,h.q0 s a];omega
theorem Sq.dt(h:Sq T Dt M m c P q){s:Nat}(g:s<=T){x y z j k l:F3}(h1:D3 x y z)(b:D3 j k l):(dt (M s) x y z j k l).natAbs=Dt:=by
 induction s with
 |zero=>exact h.Ix x y z j k l h1 b
 |succ s a=>
  rw[<-a aq];have e:=λa b=>h.st s aq a b;have f:=h.q0 s aq;congr 1;rcases h1.all (m s)with d|d|d<;>rw[d]at e f<;>simp only[Ap.dt,mi,e,f]<;>grind
theorem xi{a b n:Nat}(h:a*b=n)(d:0<n):a<=n:=by
 rcases Nat.eq_zero_or_pos b with e|e
 ·rw[e]at h;omega
 ·rw[<-h];exact Nat.le_mul_of_pos_right _ e
theorem Sq.EW(h:Sq T Dt M m c P q){s:Nat}(b:s<=T){x y j:F3}(d:x≠y)(h1:M s x j=0)(g:M s y j=0):False:=by
 obtain⟨k,f⟩ : ∃k:F3,j≠k:=⟨_,GA j⟩;have e:=h.dt b (D3.mk' d).IK.IK (D3.mk' f);have d:Ap.dt (M s) (th x y) x y j k (th j k)=M s (th x y) j*mi (M s) x y k (th j k):=by
  simp only[Ap.dt,mi,h1,g];grind
 rw[d,Int.natAbs_mul]at e;have d:=xi e h.d0;have d:M s (th x y) j≠0:=λf=>by rw[f]at e;have:=h.d0;simp at e;omega
 have:=h.le s b _ _ d;have:=h.mQ s b;omega
theorem Sq.IJ(h:Sq T Dt M m c P q){s:Nat}(a:s<=T){x j k:F3}(b:j≠k)(h1:M s x j=0)(f:M s x k=0):False:=by
 obtain⟨y,d⟩ : ∃y:F3,x≠y:=⟨_,GA x⟩;have e:=h.dt a (D3.mk' d) (D3.mk' b);have b:Ap.dt (M s) x y (th x y) j k (th j k)=M s x (th j k)*mi (M s) y (th x y) j k:=by
  simp only[Ap.dt,h1,f];grind
 rw[b,Int.natAbs_mul]at e;have b:=xi e h.d0;have b:M s x (th j k)≠0:=λd=>by rw[d]at e;have:=h.d0;simp at e;omega
 have:=h.le s a _ _ b;have:=h.mQ s a;omega
theorem Sq.Iu(h:Sq T Dt M m c P q){s:Nat}(a:s<=T){x y z u v w:F3}(h1:D3 x y z)(b:D3 u v w)(e1:mi (M s) x y u v=0)(d:mi (M s) x z u v=0):False:=by
 have e:=h.dt a h1 b;have b:Ap.dt (M s) x y z u v w=M s x w*mi (M s) y z u v:=by
  simp only[Ap.dt,mi]at e1 d⊢;grind
 rw[b,Int.natAbs_mul]at e;have b:=xi e h.d0;have b:M s x w≠0:=λd=>by rw[d]at e;have:=h.d0;simp at e;omega
 have:=h.le s a _ _ b;have:=h.mQ s a;omega
theorem Sq.left(h:Sq T Dt M m c P q){s:Nat}(b:s<T){y z:F3}(h1:D3 (m s) y z)(e1:M (s+1) y (c s)=0)(d:M (s+1) z (c s)=0):False:=
 h.EW b h1.2.1 e1 d
theorem Sq.next(h:Sq T Dt M m c P q){s:Nat}(a:s<T):P (s+1)<P s/\m (s+1)≠m s/\q s (m (s+1))≠0/\M s (m s) (c (s+1))≠0:=by
 have i:P (s+1)<P s:=by
  obtain⟨k,b⟩ : ∃k:F3,m s≠k:=⟨_,GA _⟩;have d:=D3.mk' b;have e:=h.rm s a k (Ne.symm b);have b:=h.rm s a (th (m s) k) d.IK.2.1;by_cases e:M (s+1) k (c s)=0
  ·by_cases b:M (s+1) (th (m s) k) (c s)=0
   ·exact(h.left a d e b).elim
   ·have:=h.le (s+1) a _ _ b;omega
  ·have:=h.le (s+1) a _ _ e;omega
 have g:=h.hp (s+1) a;have d:q s (m (s+1))*M s (m s) (c (s+1))≠0:=λe=>by
  have f:=h.st s a (m (s+1)) (c (s+1));rw[e]at f;rw[f,Int.sub_zero]at g;by_cases b:M s (m (s+1)) (c (s+1))=0
  ·have:=h.mQ (s+1) a;omega
  ·have:=h.le s (Nat.le_of_lt a) _ _ b;omega
 refine⟨i,λe=>d ?_,λe=>d (by rw[e,Int.zero_mul]),λe=>d (by rw[e,Int.mul_zero])⟩;rw[e,h.q0 s a,Int.zero_mul]
theorem Sq.pos(h:Sq T Dt M m c P q){s:Nat}(a:s<=T):0<P s:=by have:=h.mQ s a;omega
theorem Sq.mono(h:Sq T Dt M m c P q){s t:Nat}(b:s<=t)(b:t<=T):P t+(t-s)<=P s:=by
 induction t with
 |zero=>
  have:s=0:=aq;subst this;omega
 |succ t a=>
  by_cases e:s=t+1
  ·subst e;omega
  ·have:=a aq aq;have:=(h.next (s:=t) aq).1;omega
def td(P:Nat->Nat)(a b:Nat):Prop:=∀s t,a<=s->s<=t->t<=b->7*P s<=8*P t
theorem Dp{k q r:Int}(a:0<=r)(h:k<=q):k*r<=q*r:=Int.mul_le_mul_of_nonneg_right h a
theorem Gz{p r q e:Int}(d:0<=r)(b:p<2*r)(b:r<=p)(b:0<=p-q*r)(h1:p-q*r<r)(b:e=p-q*r):q=1/\e=p-r:=by
 have f:q=1:=by
  rcases Int.lt_trichotomy q 1 with h|h|h
  ·have:=Dp d (show q<=0 by omega);omega
  ·exact h
  ·have:=Dp d (show 2<=q by omega);omega
 subst f;exact⟨F,aq⟩
theorem HQ{p r q e:Int}(a:0<=r)(d:p<2*r)(d:r<p)(d:0<=- p-q*r)(h1:- p-q*r<r)(d:e=- p-q*r):q=- 2/\e=2*r-p:=by
 have b:q=- 2:=by
  rcases Int.lt_trichotomy q (- 2)with h|h|h
  ·have:=Dp a (show q<=- 3 by omega);omega
  ·exact h
  ·have:=Dp a (show-1<=q by omega);omega
 subst b;exact⟨F,aq⟩
theorem Sq.EO(h:Sq T Dt M m c P q){a b s:Nat}(d:td P a b)(f:b<=T)(j:a<=s)(f:s+2<=b)(g:c (s+1)=c s):
 M s (m s) (c s)=- (P s:Int)/\M (s+1) (m (s+1)) (c s)=P (s+1)/\q (s+1) (m s)=- 2/\
 (∀C,C≠m s->C≠m (s+1)->(M (s+1) C (c s)=0/\q (s+1) C=0)\/(M (s+1) C (c s)=P (s+1)/\q (s+1) C=1)):=by
 have k:=d s (s+2) j aq f;have j:=h.next (s:=s) aq
 have d:P (s+2)<P (s+1):=(h.next (s:=s+1) aq).1;have d:=h.pos (s:=s+2) aq;have d:=h.hp s aq;have d:=h.hp (s+1) aq;rw[g]at d;have d:=h.rm s aq (m (s+1)) j.2.1;have k:M (s+1) (m (s+1)) (c s)=P (s+1):=aq;have f:∀x,x≠m (s+1)->0<=M (s+2) x (c s)/\M (s+2) x (c s)<P (s+1)/\(M (s+2) x (c s)=0\/(P (s+2):Int)<=M (s+2) x (c s)):=λx l=>by
  have d:0<=M (s+2) x (c (s+1))/\M (s+2) x (c (s+1))<P (s+1):=h.rm (s+1) aq x l;rw[g]at d;refine⟨d.1,d.2,?_⟩;by_cases e:M (s+2) x (c s)=0
  ·exact .inl e
  ·have:=h.le (s+2) aq _ _ e;exact .inr aq
 have g:∀x,M (s+2) x (c s)=M (s+1) x (c s)-q (s+1) x*M (s+1) (m (s+1)) (c s):=λx=>h.st (s+1) aq x (c s);simp only[k]at g;have d:=f (m s) (Ne.symm j.2.1);have d:=g (m s);rw[h.n8 aq]at d;have j:M s (m s) (c s)=- (P s:Int):=by
  refine Decidable.byContradiction λl=>?_;have e:M s (m s) (c s)=P s:=aq;rw[e]at d;have:=Gz (p:=P s) (r:=P (s+1)) (q:=q (s+1) (m s)) aq aq aq aq aq d;omega
 rw[j]at d;have l:=HQ (p:=P s) (r:=P (s+1)) (q:=q (s+1) (m s)) aq aq aq aq aq d;refine⟨j,k,l.1,λC j d=>?_⟩;have k:=f C d;have i:=g C;have d:=h.rm s aq C j;by_cases e:M (s+1) C (c s)=0
 ·refine .inl ⟨e,?_⟩;rw[e]at i;rcases Int.lt_trichotomy (q (s+1) C) 0 with h|h|h
  ·have:=Dp (r:=(P (s+1):Int)) aq (show q (s+1) C<=- 1 by omega);omega
  ·exact h
  ·have:=Dp (r:=(P (s+1):Int)) aq (show 1<=q (s+1) C by omega);omega
 ·have d:=h.le (s+1) aq _ _ e;have:=Gz (p:=M (s+1) C (c s)) (r:=P (s+1)) (q:=q (s+1) C) aq aq aq aq aq i;exact .inr ⟨aq,this.1⟩
theorem Sq.wy(h:Sq T Dt M m c P q){a b s:Nat}(g:td P a b)(e:b<=T)(i:a<=s)(d:s+3<=b)(f:c (s+1)=c s)(j:c (s+2)=c s):False:=by
 have d:=h.EO g e i aq f;have i:=h.EO g e (s:=s+1) aq aq (by rw[f,j]);have e:=h.pos (s:=s+1) aq;rw[f]at i;have e:=d.2.1;have d:=i.1;omega
end
end Go.Ap
namespace Go.Ap
theorem fr{x y:Int}{a b:Nat}(h:x.natAbs<=a)(g:y.natAbs<=b):(x*y).natAbs<=a*b:=by rw[Int.natAbs_mul];exact Nat.mul_le_mul h g
theorem E1{p p1 H X:Nat}(a:p<=p1)(h1:0<p1)(d:100*p1<=H)(b:100*p1<=X)(h:H*X<=6*(p1*p)+H*p1+4*(p*X)+2):False:=by
 have e:p1*p<=p1*p1:=Nat.mul_le_mul_left _ a;have e:p*X<=p1*X:=Nat.mul_le_mul_right _ a;have e:100*p1*X<=H*X:=Nat.mul_le_mul_right _ d;have d:H*(100*p1)<=H*X:=Nat.mul_le_mul_left _ b;have a:p1*(100*p1)<=p1*X:=Nat.mul_le_mul_left _ b;have b:0<p1*p1:=Nat.mul_pos h1 h1;rw[Nat.mul_assoc]at e;rw[Nat.mul_left_comm]at d a;omega
theorem IC{a b c d f g e:Int}(h:a-b-c+d+f-g=e):d.natAbs<=e.natAbs+a.natAbs+b.natAbs+c.natAbs+f.natAbs+g.natAbs:=by omega
theorem E4{pi sg f h r g X Y Z e:Int}{p p1:Nat}(s:p<=p1)(a:0<p)(i:pi.natAbs<=p1)(d:sg.natAbs<=p)(j:r.natAbs<=p1)(n:Y.natAbs<=p)(l:Z.natAbs<=p)
 (a:p<=f.natAbs) (k:g.natAbs<=4*f.natAbs) (a:e.natAbs<=2*p) (t:100*p1<=h.natAbs) (u:100*p1<=X.natAbs)
 (E:pi*(sg*Z-f*Y)-h*(r*Z-f*X)+g*(r*Y-sg*X)=e):False:=by
 obtain⟨aI,a⟩ : ∃aI,aI=f.natAbs:=⟨_,F⟩;have b:(pi*(sg*Z)).natAbs<=aI*(p1*p):=by
  have:=fr i (fr d l);have v:p1*(p*p)<=p1*(p*aI):=Nat.mul_le_mul_left _ (Nat.mul_le_mul_left _ aq);have b:p1*(p*aI)=aI*(p1*p):=by rw[<-Nat.mul_assoc,Nat.mul_comm]
  omega
 have w:(pi*(f*Y)).natAbs<=aI*(p1*p):=by
  have:=fr i (fr (Nat.le_refl f.natAbs) n);have b:p1*(f.natAbs*p)=aI*(p1*p):=by rw[a,Nat.mul_left_comm]
  omega
 have i:(h*(r*Z)).natAbs<=aI*(h.natAbs*p1):=by
  have:=fr (Nat.le_refl h.natAbs) (fr j l);have v:h.natAbs*(p1*p)<=h.natAbs*(p1*aI):=Nat.mul_le_mul_left _ (Nat.mul_le_mul_left _ aq);have b:h.natAbs*(p1*aI)=aI*(h.natAbs*p1):=by rw[<-Nat.mul_assoc,Nat.mul_comm]
  omega
 have i:(h*(f*X)).natAbs=aI*(h.natAbs*X.natAbs):=by rw[Int.natAbs_mul,Int.natAbs_mul,a,Nat.mul_left_comm]
 have l:(g*(r*Y)).natAbs<=aI*(4*(p1*p)):=by
  have:=fr k (fr j n);have b:4*f.natAbs*(p1*p)=aI*(4*(p1*p)):=by rw[a,Nat.mul_comm 4,Nat.mul_assoc]
  omega
 have j:(g*(sg*X)).natAbs<=aI*(4*(p*X.natAbs)):=by
  have:=fr k (fr d (Nat.le_refl X.natAbs));have b:4*f.natAbs*(p*X.natAbs)=aI*(4*(p*X.natAbs)):=by rw[a,Nat.mul_comm 4,Nat.mul_assoc]
  omega
 have a:pi*(sg*Z)-pi*(f*Y)-h*(r*Z)+h*(f*X)+g*(r*Y)-g*(sg*X)=e:=aC;have o:aI*(h.natAbs*X.natAbs)<=aI*(6*(p1*p)+h.natAbs*p1+4*(p*X.natAbs)+2):=by
  have d:aI*(6*(p1*p)+h.natAbs*p1+4*(p*X.natAbs)+2)=aI*(p1*p)+aI*(p1*p)+aI*(h.natAbs*p1)+aI*(4*(p1*p))+aI*(4*(p*X.natAbs))+2*aI:=aC;rw[d,<-i];have b:=IC a;clear i E a;generalize (pi*(sg*Z)).natAbs=a at*;generalize (pi*(f*Y)).natAbs=a at*;generalize (h*(r*Z)).natAbs=a at*;generalize (h*(f*X)).natAbs=a at*;generalize (g*(r*Y)).natAbs=a at*;generalize (g*(sg*X)).natAbs=a at*;generalize e.natAbs=a at*;generalize aI*(4*(p1*p))=a at*;generalize aI*(4*(p*X.natAbs))=b2 at*;generalize aI*(h.natAbs*p1)=b3 at*;generalize aI*(p1*p)=a at*;omega
 exact E1 s aq t u (Nat.le_of_mul_le_mul_left o aq)
section
variable {T Dt:Nat}{M:Nat->M3}{m c:Nat->F3}{P:Nat->Nat}{q:Nat->F3->Int}
theorem Sq.IX(H:Sq T Dt M m c P q){a b t:Nat}(h:td P a b)(l:b<=T)(n:a<=t)(C:t+4<=b){z:F3}(w:D3 (c (t+2)) (c (t+3)) z)
 (I:4*P (t+2)<=(M (t+3) (m (t+2)) (c (t+3))).natAbs) (G:M (t+3) (m (t+3)) (c (t+2))≠0):
 (M (t+3) (m (t+2)) z).natAbs<=(M (t+3) (m (t+3)) z).natAbs+2*P (t+3)/\(M (t+3) (m (t+3)) z=0->0<M (t+3) (m (t+2)) z):=by
 have C:=h t (t+3) n aq aq;have C:=h (t+1) (t+3) aq aq aq;have C:=h t (t+2) n aq aq;have C:=h (t+1) (t+2) aq aq aq;have E:=(H.next (s:=t) aq).2.1;have C:m (t+2)≠m (t+1):=(H.next (s:=t+1) aq).2.1;have v:m (t+3)≠m (t+2):=(H.next (s:=t+2) aq).2.1;have J:P (t+1)<P t:=(H.next (s:=t) aq).1;have J:P (t+2)<P (t+1):=(H.next (s:=t+1) aq).1;have J:P (t+3)<P (t+2):=(H.next (s:=t+2) aq).1;have J:=H.pos (s:=t+3) aq;have o:∀y,M (t+3) (m (t+2)) y=M (t+2) (m (t+2)) y:=λy=>H.n8 (s:=t+2) aq y;have B:=λK J=>H.EW (s:=t+3) aq (j:=z) v K J;have D:∀x y,M (t+3) x y≠0->P (t+3)<=(M (t+3) x y).natAbs:=λx y=>H.le (t+3) aq x y;have r:0<=M (t+2) (m (t+2)) (c (t+1))/\M (t+2) (m (t+2)) (c (t+1))<P (t+1):=H.rm (t+1) aq _ C;rcases w.all (c (t+1))with g|g|g
 ·
  have d:=H.EO h l (s:=t+1) aq aq g.symm;have J:M (t+2) (m (t+2)) (c (t+1))=P (t+2):=d.2.1;have N:q (t+2) (m (t+1))=- 2:=d.2.2.1;have p:=λx y=>H.st (t+2) aq x y;have L:m (t+3)=m (t+1):=by
   refine Decidable.byContradiction λx=>G ?_;have f:=p (m (t+3)) (c (t+2));have C:(M (t+2) (m (t+3)) (c (t+1))=0/\q (t+2) (m (t+3))=0)\/(M (t+2) (m (t+3)) (c (t+1))=P (t+2)/\q (t+2) (m (t+3))=1):=d.2.2.2 _ x v;rw[<-g,J]at f;rw[<-g];rcases C with⟨k,i⟩|⟨k,i⟩<;>rw[k,i]at f
   ·have:(0:Int)-0*(P (t+2):Int)=0:=aq;rw[this]at f;exact f
   ·have:(P (t+2):Int)-1*(P (t+2):Int)=0:=aq;rw[this]at f;exact f
  have A:∀y,M (t+3) (m (t+3)) y=M (t+1) (m (t+1)) y+2*M (t+3) (m (t+2)) y:=λy=>by
   have f:=p (m (t+1)) y;rw[N]at f;have d:M (t+2) (m (t+1)) y=M (t+1) (m (t+1)) y:=H.n8 (s:=t+1) aq y;rw[L,o y,f,d];omega
  have u:0<=M (t+1) (m (t+1)) (c t)/\M (t+1) (m (t+1)) (c t)<P t:=H.rm t aq _ E;rcases w.all (c t)with e|e|e
  ·exact(H.wy h l (s:=t) n aq (by rw[g,e]) (by rw[e])).elim
  ·have k:=A (c (t+3));have d:=H.hp (t+3) aq;rw[e]at u;omega
  ·have k:=A z;rw[e]at u;refine⟨aq,λi=>?_⟩;by_cases d:M (t+3) (m (t+2)) z=0
   ·exact(B i d).elim
   ·have:=D _ _ d;omega
 ·rw[g]at r;rw[o]at I;omega
 ·rw[g]at r;have k:=o z;refine⟨aq,λi=>?_⟩;by_cases d:M (t+3) (m (t+2)) z=0
  ·exact(B i d).elim
  ·omega
end
end Go.Ap
namespace Go.Ap
theorem Gv{pi sg h r rA rC Hh x qA:Int}{p p1 E TT:Nat}(v:0<p)(d:p<=p1)(w:pi.natAbs<=p1)(s:sg.natAbs=p)(d:(p:Int)<=r)(d:r<=p1)(z:0<=rA)(d:rA<=p)(y:0<=rC)(d:rC<=p)
 (e1:Hh=pi-qA*r) (C:rA=h-qA*sg) (t:1<=E) (wj:2000*E<=TT) (A:TT*p1<=h.natAbs) (o:0<(r*rC-sg*x)*(Hh*sg-rA*r)) (B:(Hh*sg-rA*r).natAbs<=E*(r*rC-sg*x).natAbs):
 (0<Hh/\x<0\/Hh<0/\0<x)/\100*p1<=Hh.natAbs/\100*p1<=x.natAbs/\1000<=qA.natAbs:=by
 obtain⟨k,g⟩ : ∃d,d=Hh*sg-rA*r:=⟨_,F⟩;obtain⟨u,j⟩ : ∃d,d=r*rC-sg*x:=⟨_,F⟩;rw[<-g,<-j]at o B;have d:k=pi*sg-h*r:=by rw[g,e1,C];grind
 have d:TT*p1*p<=(h*r).natAbs:=by rw[Int.natAbs_mul];exact Nat.mul_le_mul A aq
 have d:(pi*sg).natAbs<=p1*p:=by rw[Int.natAbs_mul];exact Nat.mul_le_mul w aq
 have d:2000*E*(p1*p)<=TT*p1*p:=by rw[Nat.mul_assoc TT];exact Nat.mul_le_mul_right _ wj
 have w:E*(1999*(p1*p))<=E*u.natAbs:=by
  have l:E*(1999*(p1*p))+E*(p1*p)=2000*E*(p1*p):=aC;have d:1*(p1*p)<=E*(p1*p):=Nat.mul_le_mul_right _ t;omega
 have A:1999*(p1*p)<=u.natAbs:=Nat.le_of_mul_le_mul_left w t;have w:(r*rC).natAbs<=p1*p:=fr aq aq;have w:(rA*r).natAbs<=p*p1:=fr aq aq;have w:p*p1=p1*p:=Nat.mul_comm _ _;have w:1999*(p1*p)<=k.natAbs:=by
  have d:1*(p1*p)<=E*(p1*p):=Nat.mul_le_mul_right _ t;have l:2000*E*(p1*p)=2000*(E*(p1*p)):=Nat.mul_assoc _ _ _;omega
 have t:(r*rC)>=0:=Int.mul_nonneg aq y;have t:(rA*r)>=0:=Int.mul_nonneg z aq;have t:((p1*p:Nat):Int)=(p1:Int)*p:=by push_cast;rfl
 have t:1000<=qA.natAbs:=by
  refine Decidable.byContradiction λi=>?_;have l:(qA*sg).natAbs<=1000*p:=fr aq aq;have d:2000*1<=TT:=aq;have d:2000*p1<=TT*p1:=Nat.mul_le_mul_right _ aq;omega
 have d:(0:Int)<p:=aq;refine⟨?_,?_,?_,t⟩
 ·rcases Int.lt_trichotomy u 0 with n|n|n
  ·have f:k<0:=by
    rcases Int.lt_trichotomy k 0 with f|f|f
    ·exact f
    ·rw[f,Int.mul_zero]at o;omega
    ·have:=Int.mul_neg_of_neg_of_pos n f;omega
   rcases(show sg=p\/sg=- (p:Int) by omega)with e|e<;>rw[e]at g j
   ·refine .inr ⟨?_,?_⟩
    ·refine Decidable.byContradiction λi=>?_;have:=Int.mul_nonneg (a:=Hh) (b:=p) aq aq;omega
    ·refine Decidable.byContradiction λi=>?_;have:=Int.mul_nonneg (a:=p) (b:=- x) aq aq;rw[Int.mul_neg]at this;omega
   ·refine .inl ⟨?_,?_⟩
    ·refine Decidable.byContradiction λi=>?_;have:=Int.mul_nonneg (a:=- Hh) (b:=p) aq aq;rw[Int.neg_mul]at this;rw[Int.mul_neg]at g;omega
    ·refine Decidable.byContradiction λi=>?_;have:=Int.mul_nonneg (a:=p) (b:=x) aq aq;rw[Int.neg_mul]at j;omega
  ·rw[n,Int.zero_mul]at o;omega
  ·have f:0<k:=by
    rcases Int.lt_trichotomy k 0 with f|f|f
    ·have:=Int.mul_neg_of_pos_of_neg n f;omega
    ·rw[f,Int.mul_zero]at o;omega
    ·exact f
   rcases(show sg=p\/sg=- (p:Int) by omega)with e|e<;>rw[e]at g j
   ·refine .inl ⟨?_,?_⟩
    ·refine Decidable.byContradiction λi=>?_;have:=Int.mul_nonneg (a:=- Hh) (b:=p) aq aq;rw[Int.neg_mul]at this;omega
    ·refine Decidable.byContradiction λi=>?_;have:=Int.mul_nonneg (a:=p) (b:=x) aq aq;omega
   ·refine .inr ⟨?_,?_⟩
    ·refine Decidable.byContradiction λi=>?_;have:=Int.mul_nonneg (a:=Hh) (b:=p) aq aq;rw[Int.mul_neg]at g;omega
    ·refine Decidable.byContradiction λi=>?_;have:=Int.mul_nonneg (a:=p) (b:=- x) aq aq;rw[Int.mul_neg]at this;rw[Int.neg_mul]at j;omega
 ·refine Nat.le_of_mul_le_mul_right ?_ v;have l:(Hh*sg).natAbs=Hh.natAbs*p:=by rw[Int.natAbs_mul,s]
  rw[<-l,Nat.mul_assoc];omega
 ·refine Nat.le_of_mul_le_mul_right ?_ v;have l:(sg*x).natAbs=x.natAbs*p:=by rw[Int.natAbs_mul,s,Nat.mul_comm]
  rw[<-l,Nat.mul_assoc];omega
end Go.Ap
namespace Go.Ap
theorem oD{a b:Int}(h:0<a*b)(e:b<0):a<0:=by
 rcases Int.lt_trichotomy a 0 with d|d|d
 ·exact d
 ·rw[d,Int.zero_mul]at h;omega
 ·have:=Int.mul_neg_of_pos_of_neg d e;omega
theorem ED(M:M3)(A B C b c z:F3):dt M A B C b c z=M A b*(M B c*M C z-M B z*M C c)-M A c*(M B b*M C z-M B z*M C b)+M A z*(M B b*M C c-M B c*M C b):=by
 unfold dt mi;grind
theorem HE{pi sg h r rA rC Hh x qA g j e:Int}{Dt:Nat}(e1:Hh=pi-qA*r)(v:rA=h-qA*sg)(d:0<g)(k:0<(r*rC-sg*x)*(Hh*sg-rA*r))(u:Dt<(r*rC-sg*x).natAbs)
 (d:e.natAbs=Dt) (E:pi*(sg*j)-h*(r*j)+g*(r*rC-sg*x)=e):j<0:=by
 obtain⟨i,o⟩ : ∃d,d=Hh*sg-rA*r:=⟨_,F⟩;obtain⟨n,p⟩ : ∃d,d=r*rC-sg*x:=⟨_,F⟩;rw[<-o,<-p]at k;rw[<-p]at u E;have d:j*i=e-g*n:=by rw[o,e1,v];grind
 refine Decidable.byContradiction λd=>?_;rcases Int.lt_trichotomy n 0 with l|l|l
 ·have f:i<0:=by rw[Int.mul_comm]at k;exact oD k l
  have t:=Int.mul_nonneg (a:=j) (b:=- i) aq aq;rw[Int.mul_neg]at t;have s:=Int.mul_le_mul_of_nonneg_right (show 1<=g by omega) (show 0<=- n by omega);rw[Int.mul_neg,Int.mul_neg,Int.one_mul]at s;omega
 ·rw[l,Int.zero_mul]at k;omega
 ·have f:0<i:=by
   rcases Int.lt_trichotomy i 0 with f|f|f
   ·have:=Int.mul_neg_of_pos_of_neg l f;omega
   ·rw[f,Int.mul_zero]at k;omega
   ·exact f
  have t:=Int.mul_nonneg (a:=j) (b:=i) aq aq;have s:=Int.mul_le_mul_of_nonneg_right (show 1<=g by omega) (show 0<=n by omega);rw[Int.one_mul]at s;omega
structure Ng(p p1 Dt:Nat)(pi h g r sg f Hh vA Az x vC Cz:Int):Prop where
 fq:0<Hh/\x<0\/Hh<0/\0<x
 H:100*p1<=Hh.natAbs
 X:100*p1<=x.natAbs
 az:f≠0->p<=f.natAbs/\100*f.natAbs<=Az.natAbs
 Jp:f=0->Az=g
 bd:f≠0->∀X Y Z e:Int,Y.natAbs<=p->Z.natAbs<=p->100*p1<=X.natAbs->e.natAbs<=2*p->pi*(sg*Z-f*Y)-h*(r*Z-f*X)+g*(r*Y-sg*X)=e->False
 sz:0<g->f=0->Cz<0
 g0:f=0->0<g
 ex:∃e:Int,e.natAbs=Dt/\pi*(sg*Cz-f*vC)-h*(r*Cz-f*x)+g*(r*vC-sg*x)=e
 JG:pi*(sg*Az-f*vA)-h*(r*Az-f*Hh)+g*(r*vA-sg*Hh)=0
theorem Ng.mk'{p p1 Dt E TT:Nat}{pi h g r sg f Hh d A x a j qA:Int}(D:0<p)(s:p<=p1)(o:pi.natAbs<=p1)(n:sg.natAbs=p)(I:(p:Int)<=r)(H:r<=p1)(Q:0<=d)(O:d<=p)(N:0<=a)(L:a<=p)(y:Dt<p)
 (e1:Hh=pi-qA*r) (l:d=h-qA*sg) (y:A=g-qA*f) (X:1<=E) (wj:2000*E<=TT) (t:TT*p1<=h.natAbs) (k:0<(r*a-sg*x)*(Hh*sg-d*r)) (v:(Hh*sg-d*r).natAbs<=E*(r*a-sg*x).natAbs)
 (G:f≠0->p<=f.natAbs) (K:g.natAbs<=f.natAbs+2*p) (K:f=0->0<g) (z:(Hh*(sg*j-f*a)-d*(r*j-f*x)+A*(r*a-sg*x)).natAbs=Dt):Ng p p1 Dt pi h g r sg f Hh d A x a j:=by
 obtain⟨R,S,B,A⟩:=Gv D s o n I H Q O N L e1 l X wj t k v;have i:∃e:Int,e.natAbs=Dt/\pi*(sg*j-f*a)-h*(r*j-f*x)+g*(r*a-sg*x)=e:=⟨_,z,by rw[e1,l,y];grind⟩;refine⟨R,S,B,λb=>?_,λb=>by rw[y,b,Int.mul_zero,Int.sub_zero],λb X Y Z e V U W u E=>?_,λJ b=>?_,K,i,by rw[e1,l,y];grind⟩
 ·have h3:=G b;have C:1000*f.natAbs<=(qA*f).natAbs:=by rw[Int.natAbs_mul];exact Nat.mul_le_mul_right _ A
  clear k v z i t;generalize qA*f=w at*;exact⟨h3,aq⟩
 ·have:=G b;have j:100*p1<=TT*p1:=Nat.mul_le_mul_right _ aq;exact E4 s D o aq aq V U this aq u aq W E
 ·obtain⟨e,u,i⟩:=i;refine HE (e:=e) (g:=g) (pi:=pi) (sg:=sg) (h:=h) (r:=r) (rA:=d) (rC:=a) (Hh:=Hh) (x:=x) (qA:=qA) (Dt:=Dt) e1 l J k ?_ u (by rw[b]at i;rw[<-i];grind);have C:100*p1*p<=(sg*x).natAbs:=by rw[Int.natAbs_mul,n,Nat.mul_comm];exact Nat.mul_le_mul_left _ B
  have b:(r*a).natAbs<=p1*p:=fr aq aq;have b:1*p<=p1*p:=Nat.mul_le_mul_right _ aq;rw[Nat.mul_assoc]at C;clear k v z i t;generalize p1*p=w at*;generalize sg*x=b at*;generalize r*a=a at*;omega
theorem I3{x y:Int}{n p1 p:Nat}(h:0<x/\y<0\/x<0/\0<y)(h1:100*p1<=x.natAbs)(a:p<=p1)(a:n<p):n<(y-x).natAbs:=by omega
theorem I1{x r:Int}{n p1 p:Nat}(h:0<=r/\r<=p1)(h1:100*p1<=x.natAbs)(a:p<=p1)(a:n<p):n<(r+2*x).natAbs:=by omega
theorem I0{x:Int}{n p:Nat}(h1:p<=x.natAbs)(a:n<p):n<(0+2*x).natAbs:=by omega
theorem GN{x:Int}{n p1 p:Nat}(h1:100*p1<=x.natAbs)(a:p<=p1)(a:n<p):n<x.natAbs:=by omega
theorem IZ{f x:Int}{n p:Nat}(h:p<=f.natAbs)(h1:100*f.natAbs<=x.natAbs)(a:n<p):n<(f+2*x).natAbs:=by omega
theorem HY{x y:Int}{p1:Nat}(h:0<x/\y<0\/x<0/\0<y)(h1:100*p1<=x.natAbs):100*p1<=(y-x).natAbs:=by omega
theorem HZ{x g:Int}{n p:Nat}(h:x<0)(a:0<g)(h1:p<=g.natAbs)(a:n<p):n<(x-g).natAbs/\n<(g-x).natAbs:=by omega
section
variable {T Dt:Nat}{M:Nat->M3}{m c:Nat->F3}{P:Nat->Nat}{q:Nat->F3->Int}
theorem Sq.JC(H:Sq T Dt M m c P q){a b t:Nat}(hw:td P a b)(X:b<=T)(ha:a<=t+1)(hb:t+4<=b){A C k z:F3}(l:D3 A (m (t+1)) C)(hz:D3 k (c (t+1)) z){p1:Nat}{pi h g r sg f:Int}
 (B:P (t+1)<=p1) (a4:p1<=2*P (t+3)) (er:M (t+2) (m (t+1)) k=r) (a2:M (t+2) (m (t+1)) (c (t+1))=sg) (ef:M (t+2) (m (t+1)) z=f) (a0:0<=r/\r<=p1) (hg:g≠0->P (t+1)<=g.natAbs)
 (h1:M (t+2) A (c (t+1))≠0) (Z:M (t+2) C (c (t+1))≠0) (N:Ng (P (t+1)) p1 Dt pi h g r sg f (M (t+2) A k) (M (t+2) A (c (t+1))) (M (t+2) A z) (M (t+2) C k) (M (t+2) C (c (t+1))) (M (t+2) C z)):False:=by
 have L:P (t+2)<P (t+1):=(H.next (s:=t+1) aq).1;have l4:P (t+3)<P (t+2):=(H.next (s:=t+2) aq).1;have v:P (t+3)<P (t+1):=Nat.lt_trans l4 L;have D:m (t+2)≠m (t+1)/\q (t+1) (m (t+2))≠0/\M (t+1) (m (t+1)) (c (t+2))≠0:=(H.next (s:=t+1) aq).2;have E:m (t+3)≠m (t+2)/\q (t+2) (m (t+3))≠0/\M (t+2) (m (t+2)) (c (t+3))≠0:=(H.next (s:=t+2) aq).2;have b5:=H.pos (s:=t+3) aq;have a4:=H.mQ (t+1) aq;have u:=H.hp (t+2) aq;have n:=H.hp (t+3) aq;have rA:0<=M (t+2) A (c (t+1))/\M (t+2) A (c (t+1))<P (t+1):=H.rm (t+1) aq _ l.1;have rC:0<=M (t+2) C (c (t+1))/\M (t+2) C (c (t+1))<P (t+1):=H.rm (t+1) aq _ (Ne.symm l.2.1);have pB:∀y,M (t+2) (m (t+1)) y=M (t+1) (m (t+1)) y:=λy=>H.n8 (s:=t+1) aq y;rw[<-pB]at D;have W:c (t+2)=c (t+1):=by
  rcases hz.all (c (t+2))with o|o|o
  ·rw[o]at u;rcases l.all (m (t+2))with d|d|d
   ·rw[d]at u;exact(Nat.ne_of_gt (GN N.H B L) u).elim
   ·exact(D.1 d).elim
   ·rw[d]at u;exact(Nat.ne_of_gt (GN N.X B L) u).elim
  ·exact o
  ·rw[o]at u D;have i:f≠0:=λe2=>D.2.2 (by rw[ef,e2]);rcases l.all (m (t+2))with d|d|d
   ·rw[d]at u;exact(Nat.ne_of_gt (GN (p1:=P (t+1)) (by have:=N.az i;omega) aD L) u).elim
   ·exact(D.1 d).elim
   ·rw[d]at u;obtain⟨e,he,Q⟩:=N.ex;exact(N.bd i _ _ _ _ aq aq N.X aq Q).elim
 obtain⟨d1,j,u,d4⟩:=H.EO hw X (s:=t+1) ha aq W;have wy:c (t+3)≠c (t+1):=λd=>H.wy hw X (s:=t+1) ha aq W d;have U:∀x y,M (t+3) x y=M (t+2) x y-q (t+2) x*M (t+2) (m (t+2)) y:=λx y=>H.st (t+2) aq x y;have G:∀y,M (t+3) (m (t+1)) y=M (t+2) (m (t+1)) y+2*M (t+2) (m (t+2)) y:=λy=>by rw[U,u];omega
 have V:∀R S:F3,m (t+2)=R->S≠m (t+1)->S≠R->(∀x,x=m (t+1)\/x=R\/x=S)->M (t+2) R (c (t+1))≠0->M (t+2) S (c (t+1))≠0->
  (0<M (t+2) R k/\M (t+2) S k<0\/M (t+2) R k<0/\0<M (t+2) S k)->100*p1<=(M (t+2) R k).natAbs->
  (f≠0->(M (t+2) S z-M (t+2) R z).natAbs=P (t+3)->False)->(f≠0->(f+2*M (t+2) R z).natAbs=P (t+3)->False)->
  (f=0->(M (t+2) S z-M (t+2) R z).natAbs=P (t+3)->False)->False:=λR S O L u K W s0 I J k1 k2 k3=>by
  have W:M (t+2) S (c (t+1))=0/\q (t+2) S=0\/M (t+2) S (c (t+1))=P (t+2)/\q (t+2) S=1:=d4 S L (by rw[show m (t+1+1)=R from O];exact u);have a3:q (t+2) S=1:=by rcases W with⟨e,_⟩|⟨_,e⟩;exact(s0 e).elim;exact e
  have u:M (t+2) R (c (t+1))=P (t+2):=by
   have j:M (t+2) (m (t+2)) (c (t+1))=P (t+2):=j;rw[O]at j;exact j
  have u:∀y,M (t+3) S y=M (t+2) S y-M (t+2) R y:=λy=>by rw[U,a3,O];omega
  rw[O]at G E;have eb:=G k;have es:=u k;have ez:=G z;have a1:=u z;rw[er]at eb;rw[ef]at ez;rcases hz.all (c (t+3))with o|o|o
  ·rw[o]at n;rcases K (m (t+3))with d|d|d
   ·rw[d,eb]at n;exact Nat.ne_of_gt (I1 a0 J B v) n
   ·exact E.1 d
   ·rw[d,es]at n;exact Nat.ne_of_gt (I3 I J B v) n
  ·exact wy o
  ·rw[o]at n E;rcases K (m (t+3))with d|d|d
   ·rw[d,ez]at n;by_cases i:f=0
    ·rw[i]at n;exact Nat.ne_of_gt (I0 (H.le (t+2) aq _ _ E.2.2) l4) n
    ·exact k2 i n
   ·exact E.1 d
   ·rw[d,a1]at n;by_cases i:f=0
    ·exact k3 i n
    ·exact k1 i n
 obtain⟨e,he,Q⟩:=N.ex;have n:=N.JG;rcases l.all (m (t+2))with d|d|d
 ·have n:M (t+2) C (c (t+1))=0/\q (t+2) C=0\/M (t+2) C (c (t+1))=P (t+2)/\q (t+2) C=1:=d4 C (Ne.symm l.2.1) (by rw[show m (t+1+1)=A from d];exact Ne.symm l.2.2);have Y:M (t+2) C (c (t+1))=M (t+2) A (c (t+1)):=by
   have j:M (t+2) (m (t+2)) (c (t+1))=P (t+2):=j;rw[d]at j;rcases n with⟨e,_⟩|⟨e,_⟩
   ·exact(Z e).elim
   ·rw[e,j]
  refine V A C d (Ne.symm l.2.1) (Ne.symm l.2.2) (λx=>by rcases l.all x with h|h|h;exact .inr (.inl h);exact .inl h;exact .inr (.inr h)) h1 Z N.fq N.H (λi p=>?_) (λi p=>?_) λi p=>?_
  ·refine N.bd i (M (t+2) C k-M (t+2) A k) 0 (M (t+2) C z-M (t+2) A z) e aA aq ?_ aq ?_
   ·exact HY N.fq N.H
   ·rw[Y]at Q;grind
  ·have n:=N.az i;exact Nat.ne_of_gt (IZ n.1 n.2 v) p
  ·rw[N.Jp i]at p;have w:=N.g0 i;exact Nat.ne_of_gt (HZ (N.sz w i) w (hg aq) v).1 p
 ·exact D.1 d
 ·refine V C A d l.1 l.2.2 (λx=>by rcases l.all x with h|h|h;exact .inr (.inr h);exact .inl h;exact .inr (.inl h)) Z h1 (by rcases N.fq with⟨g1,g2⟩|⟨g1,g2⟩;exact .inr ⟨g2,g1⟩;exact .inl ⟨g2,g1⟩) N.X (λi p=>?_) (λi p=>?_) λi p=>?_
  ·have n:M (t+2) A (c (t+1))=0/\q (t+2) A=0\/M (t+2) A (c (t+1))=P (t+2)/\q (t+2) A=1:=d4 A l.1 (by rw[show m (t+1+1)=C from d];exact l.2.2);have Y:M (t+2) C (c (t+1))=M (t+2) A (c (t+1)):=by
    have j:M (t+2) (m (t+2)) (c (t+1))=P (t+2):=j;rw[d]at j;rcases n with⟨e,_⟩|⟨e,_⟩
    ·exact(h1 e).elim
    ·rw[e,j]
   refine N.bd i (M (t+2) A k-M (t+2) C k) 0 (M (t+2) A z-M (t+2) C z) (- e) aA aq (by have:=HY N.fq N.H;rw[<-Int.natAbs_neg,Int.neg_sub];exact this) aq ?_;rw[Y]at Q;grind
  ·have j:M (t+2) (m (t+2)) (c (t+1))=P (t+2):=j;rw[d]at j;have I:sg=- (P (t+1):Int):=by rw[<-a2,pB];exact d1
   have d:(sg+2*(P (t+2):Int)).natAbs<=P (t+1):=by rw[I];omega
   refine N.bd i (r+2*M (t+2) C k) (sg+2*M (t+2) C (c (t+1))) (f+2*M (t+2) C z) (2*e) (by rw[j];exact d) aq ?_ aq aC;have:=N.X;omega
  ·rw[N.Jp i]at p;have w:=N.g0 i;exact Nat.ne_of_gt (HZ (N.sz w i) w (hg aq) v).2 p
end
end Go.Ap
namespace Go.Ap
section
variable {T Dt:Nat}{M:Nat->M3}{m c:Nat->F3}{P:Nat->Nat}{q:Nat->F3->Int}
theorem Sq.ng(H:Sq T Dt M m c P q){a b t:Nat}(h:td P a b)(f:b<=T)(d:a<=t)(e:t+6<=b){C z:F3}(e:D3 (m (t+2)) (m (t+3)) C)(g:D3 (c (t+2)) (c (t+3)) z){E TT:Nat}(v:1<=E)(wj:2000*E<=TT)
 (u:TT*P (t+2)<=(M (t+3) (m (t+2)) (c (t+3))).natAbs) (i:M (t+3) (m (t+3)) (c (t+2))≠0) (h1:M (t+4) (m (t+2)) (c (t+3))≠0) (w:M (t+4) C (c (t+3))≠0)
 (j:0<mi (M (t+4)) (m (t+3)) C (c (t+2)) (c (t+3))*mi (M (t+4)) (m (t+2)) (m (t+3)) (c (t+2)) (c (t+3)))
 (l:(mi (M (t+4)) (m (t+2)) (m (t+3)) (c (t+2)) (c (t+3))).natAbs<=E*(mi (M (t+4)) (m (t+3)) C (c (t+2)) (c (t+3))).natAbs):False:=by
 have k:=h (t+2) (t+5) aq aq aq;have r:P (t+3)<P (t+2):=(H.next (s:=t+2) aq).1;have o:m (t+3)≠m (t+2):=(H.next (s:=t+2) aq).2.1;have k:4*P (t+2)<=TT*P (t+2):=Nat.mul_le_mul_right _ aq;have k:=H.IX h f d aq g aq i;have d:∀y,M (t+4) (m (t+3)) y=M (t+3) (m (t+3)) y:=λy=>H.n8 (s:=t+3) aq y;have n:=H.hp (t+2) aq;have x:M (t+3) (m (t+2)) (c (t+2))=M (t+2) (m (t+2)) (c (t+2)):=H.n8 (s:=t+2) aq _;rw[<-x]at n;have n:0<=M (t+3) (m (t+3)) (c (t+2))/\M (t+3) (m (t+3)) (c (t+2))<P (t+2):=H.rm (t+2) aq _ o;have o:0<=M (t+4) (m (t+2)) (c (t+3))/\M (t+4) (m (t+2)) (c (t+3))<P (t+3):=H.rm (t+3) aq _ e.1;have n:0<=M (t+4) C (c (t+3))/\M (t+4) C (c (t+3))<P (t+3):=H.rm (t+3) aq _ (Ne.symm e.2.1);have x:=H.le (t+3) aq _ _ i;have i:=H.dt (s:=t+4) aq e g;rw[ED]at i;simp only[mi,d]at j l i;have N:=Ng.mk' (p:=P (t+3)) (p1:=P (t+2)) (H.pos aq) aq aq (H.hp (t+3) aq) aq aq o.1 aq n.1 aq (H.mQ (t+3) aq)
  (H.st (t+3) aq _ _) (H.st (t+3) aq _ _) (H.st (t+3) aq _ _) v wj u j l (H.le (t+3) aq _ _) k.1 k.2 i
 exact H.JC (t:=t+2) h f aq aq e g (p1:=P (t+2)) (Nat.le_of_lt r) (by show P (t+2)<=2*P (t+5);omega) (d _) (d _) (d _) aq (H.le (t+3) aq _ _) h1 w N
end
end Go.Ap
