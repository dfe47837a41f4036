import Derived.Test.YtmfndnlifgphjaaGreatQzG
set_option maxHeartbeats 64000000
namespace Go.Ap
structure Cn(X E TT W Ns Ls Sm Q Ss K0 Hh:Nat):Prop where
 x1:1<=X
 hE:E=8*X
 wj:4000*E<=TT
 hW:(E+1)*((TT+1)*(X*X))+(E+1)*(X*X)<=W
 HX:W*(X+2)<=Ns
 Jk:W+(X+2)*Ns<=Ls
 BI:X*((Ns+Ls)*X)<=Sm
 hQ:2*(X*(Ls*X))<=Q
 Iv:Sm+(X+2)*Q<=Ss
 hK:X+Ls*X+Ls<=K0
 hH:HH X Ls Ns K0<=Hh
section
variable {X E TT W Ns Ls Sm Q Ss K0 Hh:Nat}
theorem Cn.g0(h:Cn X E TT W Ns Ls Sm Q Ss K0 Hh):2*((TT+1)*(X*X))<=W/\E*((TT+1)*(X*X))<=W/\X<=W:=by
 have a:=h.hW;have a:=h.x1;have b:(E+1)*((TT+1)*(X*X))=E*((TT+1)*(X*X))+(TT+1)*(X*X):=Nat.succ_mul _ _;have b:1*((TT+1)*(X*X))<=E*((TT+1)*(X*X)):=Nat.mul_le_mul_right _ (by have:=h.hE;omega);have b:X*1<=X*X:=Nat.mul_le_mul_left _ a;have a:1*(X*X)<=(TT+1)*(X*X):=Nat.mul_le_mul_right _ aq;generalize (E+1)*(X*X)=a at*;generalize E*((TT+1)*(X*X))=a at*;generalize (TT+1)*(X*X)=a at*;omega
theorem HH.mono{X L N K a N':Nat}(b:L<=a)(d:N<=N'):HH X L N K<=HH X a N' K:=by
 have e:L*X<=a*X:=Nat.mul_le_mul_right _ b;have e:L*K<=a*K:=Nat.mul_le_mul_right _ b;have b:X*(N+L*K)<=X*(N'+a*K):=Nat.mul_le_mul_left _ aq;have b:N*(L*X+X*(N+L*K))<=N'*(a*X+X*(N'+a*K)):=Nat.mul_le_mul d aq;have b:(12*N+L*X+X*X+X)*(12*N+L*X+X*X+X)<=(12*N'+a*X+X*X+X)*(12*N'+a*X+X*X+X):=Nat.mul_le_mul aq aq;unfold HH;omega
theorem HH.small(X L N K:Nat):L*X+X*(N+L*K)+N<=HH X L N K:=by unfold HH;omega
variable {T Dt:Nat}{M:Nat->M3}{m c:Nat->F3}{P:Nat->Nat}{q:Nat->F3->Int}
def XK(M:Nat->M3)(c:Nat->F3)(P:Nat->Nat)(W Ns Sm Q Ss V0 k s:Nat):Prop:=∃u v z,XS M c P s u v z (W+k*Ns) (W*(1+k)) (V0+k*Ss) (Sm+k*Q)
theorem Sq.HB(H:Sq T Dt M m c P q)(C:Cn X E TT W Ns Ls Sm Q Ss K0 Hh){a b t k V0:Nat}(j:td P a b)(f:b<=T)(w:a<=t)(x:t+7<=b)(p:P (t+2)<=X)(x:k<=X)(h:XK M c P W Ns Sm Q Ss V0 k (t+2))
 (h1:¬UB M m (t+3) Hh) (A:¬UB M m (t+6) Hh):∃s,t+2<s/\s<=t+5/\XK M c P W Ns Sm Q Ss V0 (k+1) s:=by
 obtain⟨u,v,z,h⟩:=h;obtain⟨x,x,x⟩:=C.g0;have i:=C.x1;have x:W*(1+k)<=Ns:=Nat.le_trans (Nat.mul_le_mul_left _ aq) C.HX;have y:W+(k+1)*Ns<=Ls:=Nat.le_trans (Nat.add_le_add_left (Nat.mul_le_mul_right _ aq) _) C.Jk;have y:(k+1)*Ns=k*Ns+Ns:=Nat.succ_mul _ _;have y:(k+1)*Q=k*Q+Q:=Nat.succ_mul _ _;have y:(k+1)*Ss=k*Ss+Ss:=Nat.succ_mul _ _;have y:W*(1+(k+1))=W*(1+k)+W:=by rw[show 1+(k+1)=(1+k)+1 by omega,Nat.mul_succ]
 have y:k*Q<=(X+1)*Q:=Nat.mul_le_mul_right _ aq;have y:(X+2)*Q=(X+1)*Q+Q:=Nat.succ_mul _ _;have Iv:=C.Iv;have BI:X*((W*(1+k)+(W+k*Ns))*X)<=Sm+k*Q:=by
  refine Nat.le_trans (Nat.mul_le_mul_left _ (Nat.mul_le_mul_right _ ?_)) (Nat.le_trans C.BI (Nat.le_add_right _ _));omega
 have g:X<=W+k*Ns:=aq;have y:2*(X*((W+k*Ns)*X))<=Q:=Nat.le_trans (Nat.mul_le_mul_left _ (Nat.mul_le_mul_left _ (Nat.mul_le_mul_right _ aq))) C.hQ;have o:HH X (W+k*Ns) (W*(1+k)) K0<=Hh:=Nat.le_trans (HH.mono aq x) C.hH;have n:X+(W+k*Ns)*X+(W+k*Ns)<=K0:=by
  have:(W+k*Ns)*X<=Ls*X:=Nat.mul_le_mul_right _ aq;have:=C.hK;omega
 rcases h.hz.all (c (t+3))with e|e|e
 ·have d:=H.FH j f w aq p (E:=E) (TT:=TT) (by have:=C.hE;omega) (by have:=C.wj;omega) h (.inl e) g BI;refine⟨t+3,aq,aq,u,v,z,d.mono aq ?_ aq aq⟩;have:W*(1+k)/E<=W/2:=by
   rw[C.hE];refine Nat.div_le_of_le_mul ?_;have:W*(1+k)<=W*(2*X):=Nat.mul_le_mul_left _ aq;have J:W*(2*X)=2*X*W:=Nat.mul_comm _ _;have I:8*X*(W/2)=4*(X*(2*(W/2))):=aC;have G:X*(W-1)<=X*(2*(W/2)):=Nat.mul_le_mul_left _ aq;have D:X*(W-1)+X=X*W:=by rw[<-Nat.mul_succ];congr 1;omega
   have B:2*X*W=2*(X*W):=Nat.mul_assoc _ _ _;have x:1*(1*1)<=(TT+1)*(X*X):=Nat.mul_le_mul aq (Nat.mul_le_mul i i);have y:X*2<=X*W:=Nat.mul_le_mul_left _ aq;omega
  omega
 ·have d:=H.FH j f w aq p (E:=E) (TT:=TT) (by have:=C.hE;omega) (by have:=C.wj;omega) h (.inr e) g BI;refine⟨t+3,aq,aq,u,v,z,d.mono aq ?_ aq aq⟩;have:W*(1+k)/E<=W/2:=by
   rw[C.hE];refine Nat.div_le_of_le_mul ?_;have:W*(1+k)<=W*(2*X):=Nat.mul_le_mul_left _ aq;have J:W*(2*X)=2*X*W:=Nat.mul_comm _ _;have I:8*X*(W/2)=4*(X*(2*(W/2))):=aC;have G:X*(W-1)<=X*(2*(W/2)):=Nat.mul_le_mul_left _ aq;have D:X*(W-1)+X=X*W:=by rw[<-Nat.mul_succ];congr 1;omega
   have B:2*X*W=2*(X*W):=Nat.mul_assoc _ _ _;have x:1*(1*1)<=(TT+1)*(X*X):=Nat.mul_le_mul aq (Nat.mul_le_mul i i);have y:X*2<=X*W:=Nat.mul_le_mul_left _ aq;omega
  omega
 ·by_cases l:∃I,I≠m (t+3)/\mi (M (t+3)) (m (t+3)) I u v=0
  ·obtain⟨I,i,l⟩:=l;rcases H.two j f (s:=t+2) aq aq h e p g i l h1 (Nat.le_trans (HH.small _ _ _ _) o) n BI with d|d
   ·exact⟨t+4,aq,aq,u,v,z,d.mono aq aq aq aq⟩
   ·exact⟨t+5,aq,aq,u,v,z,d.mono aq aq aq aq⟩
  ·have d:P (t+3)<P (t+2):=(H.next (s:=t+2) aq).1;exact(H.one j f (r:=t+3) aq aq h.hz e (X:=X) (K:=K0) aq h.lt h.mn (Nat.le_trans (Nat.add_le_add_right (Nat.le_add_right X _) _) n) o (λy d h=>l ⟨y,d,h⟩) h1 A).elim
end
end Go.Ap
namespace Go.Ap
section
variable {X E TT W Ns Ls Sm Q Ss K0 Hh:Nat}
variable {T Dt:Nat}{M:Nat->M3}{m c:Nat->F3}{P:Nat->Nat}{q:Nat->F3->Int}
theorem UB.mono{s V a:Nat}(h:UB M m s V)(b:V<=a):UB M m s a:=λy j k=>Nat.le_trans (h y j k) b
theorem Sq.Is(H:Sq T Dt M m c P q){s V:Nat}(h:UB M m s V)(n:Nat)(b:s+n<=T):UB M m (s+n) (2^n*V):=by
 induction n with
 |zero=>exact h.mono aq
 |succ n a=>exact(H.Jh (s:=s+n) aq (a aq)).mono (by rw[Nat.pow_succ,Nat.mul_comm (2^n) 2,Nat.mul_assoc];exact Nat.le_refl _)
theorem Ek{a V:Nat}(h:UB M m a V)(e:Nat)(f:a<=e):∃t,a<=t/\t<=e/\UB M m t V/\∀s,t<s->s<=e->¬UB M m s V:=by
 induction e with
 |zero=>exact⟨a,aq,f,h,λs d g=>aq⟩
 |succ e i=>
  by_cases b:UB M m (e+1) V
  ·exact⟨e+1,f,aq,b,λs d g=>aq⟩
  ·by_cases n:a=e+1
   ·subst n;exact(b h).elim
   ·obtain⟨t,d,g,f,j⟩:=i aq;exact⟨t,d,aq,f,λs k d=>by
     by_cases l:s=e+1
     ·subst l;exact b
     ·exact j s k aq⟩
theorem Sq.Js(H:Sq T Dt M m c P q){s L N be S:Nat}(f:s<T){u v z:F3}(h:XS M c P s u v z L N be S):UB M m (s+1) (be*N+S+N):=λy j k=>by
 have p:=H.pos (s:=s) aq;have f:∀l,l=u\/l=v->(mi (M (s+1)) (m (s+1)) y l z).natAbs<=be*N+S+N:=λl o=>by
  have r:=h.J (m (s+1)) y l o;have o:be*(mi (M (s+1)) (m (s+1)) y u v).natAbs<=be*N:=Nat.mul_le_mul_left _ (h.mn _ _);have o:1*(mi (M (s+1)) (m (s+1)) y l z).natAbs<=P s*(mi (M (s+1)) (m (s+1)) y l z).natAbs:=Nat.mul_le_mul_right _ p;omega
 have b:∀j,mi (M (s+1)) (m (s+1)) y j j=0:=λj=>by unfold mi;grind
 have n:=h.mn (m (s+1)) y;have i:=f u (.inl F);have g:=f v (.inr F);rcases h.hz.all j with e|e|e<;>rcases h.hz.all k with d|d|d<;>rw[e,d]
 ·rw[b];exact Nat.zero_le _
 ·exact Nat.le_trans n (Nat.le_add_left _ _)
 ·exact i
 ·rw[cY,Int.natAbs_neg];exact Nat.le_trans n (Nat.le_add_left _ _)
 ·rw[b];exact Nat.zero_le _
 ·exact g
 ·rw[cY,Int.natAbs_neg];exact i
 ·rw[cY,Int.natAbs_neg];exact g
 ·rw[b];exact Nat.zero_le _
def Cs(M:Nat->M3)(m c:Nat->F3)(P:Nat->Nat)(E X W Ns Sm Q Ss e d s:Nat):Prop:=
 (∃b,UB M m s b/\E*b<=e*(E+2*(s-d)))\/∃k b,b+1<=s/\s<=b+3/\d<=b/\k<=b-d/\XK M c P W Ns Sm Q Ss (X*(2*(2*e))) k b
theorem Sq.Ck(H:Sq T Dt M m c P q)(C:Cn X E TT W Ns Ls Sm Q Ss K0 Hh){a b t V d e1:Nat}(y:td P a b)(o:b<=T)(w:a<=t)(B:∀s,s<=T->P s<=X)(w:T<=X)(w:e1+8<=b)(D:Hh<=V)(v:UB M m (t+4) d)
 (A:∀s,t<s->s<=e1->¬UB M m s V) (s:Nat) (w:t+4<=s) (w:s<=e1):Cs M m c P E X W Ns Sm Q Ss d (t+4) s:=by
 induction s with
 |zero=>omega
 |succ s u=>
  have w:=C.x1;have w:=C.hE;by_cases w:t+4=s+1
  ·rw[<-w];exact .inl ⟨d,v,by rw[Nat.sub_self,Nat.mul_zero,Nat.add_zero,Nat.mul_comm];exact Nat.le_refl _⟩
  ·obtain⟨v,v,v⟩:=C.g0;have v:W<=Hh:=by
    have i:=C.hH;have h:=C.HX;have r:W*1<=W*(X+2):=Nat.mul_le_mul_left _ aq;have p:=HH.small X Ls Ns K0;have l:Ns<=Ls*X+X*(Ns+Ls*K0)+Ns:=Nat.le_add_left _ _;omega
   rcases u aq aq with⟨g,i,h⟩|⟨k,j,i,h,r,p,l⟩
   ·have r:g<=2*d:=by
     refine Nat.le_of_mul_le_mul_left (c:=E) (Nat.le_trans h ?_) aq;have:d*(E+2*(s-(t+4)))<=d*(2*E):=Nat.mul_le_mul_left _ aq;have e:d*(2*E)=E*(2*d):=aC;omega
    have p:V<g:=Nat.lt_of_not_le λh=>A s aq aq (i.mono h);by_cases n:Ev M m c s E g
    ·obtain⟨f,rfl⟩ : ∃f,s=f+3:=⟨s-3,aq⟩;obtain⟨u,v,z,h⟩:=H.IB y o (t:=f) aq aq (B _ aq) aq C.wj i aq n C.hW;refine .inr ⟨0,f+3,aq,aq,aq,aq,u,v,z,h.mono aq aq ?_ ?_⟩
     ·have:X*(2*g)<=X*(2*(2*d)):=Nat.mul_le_mul_left _ aq;omega
     ·have h:X*(W*X)<=X*((Ns+Ls)*X):=by
       refine Nat.mul_le_mul_left _ (Nat.mul_le_mul_right _ ?_);have:=C.Jk;omega
      have:=C.BI;omega
    ·refine .inl ⟨_,H.Jv aq aq i n,?_⟩;have e:d*(E+2*(s+1-(t+4)))=d*(E+2*(s-(t+4)))+2*d:=by
      rw[show E+2*(s+1-(t+4))=E+2*(s-(t+4))+2 by omega,Nat.mul_add,Nat.mul_comm d 2]
     have l:E*(g/E)<=g:=Nat.mul_div_le _ _;rw[e,Nat.mul_add];omega
   ·by_cases d:s+1<=j+3
    ·exact .inr ⟨k,j,aq,d,r,p,l⟩
    ·obtain⟨f,rfl⟩ : ∃f,j=f+2:=⟨j-2,aq⟩;have w:∀x,t<x->x<=e1->¬UB M m x Hh:=λx g e d=>A x g e (d.mono D);obtain⟨h,g,e,d⟩:=H.HB C y o (t:=f) aq aq (B _ aq) aq l (w _ aq aq) (w _ aq aq);exact .inr ⟨k+1,h,aq,aq,aq,aq,d⟩
theorem Sq.Jt(H:Sq T Dt M m c P q)(C:Cn X E TT W Ns Ls Sm Q Ss K0 Hh){a b V e:Nat}(u:td P a b)(p:b<=T)(v:∀s,s<=T->P s<=X)(r:T<=X)(w:Hh<=V)(d:1<=V)(h:UB M m a V)(n:a<=e)(o:e<=b):
 UB M m e (65536*((64*X+X*Ss)*Ns+Ss+Ns)*V):=by
 obtain⟨t,y,o,o,x⟩:=Ek h e n;have h:=C.x1;obtain⟨h,h,h⟩:=C.g0;have h:1<=Ns:=by
  have:=C.HX;have:1*2<=W*(X+2):=Nat.mul_le_mul aq aq;omega
 obtain⟨B,j⟩ : ∃B,B=(64*X+X*Ss)*Ns+Ss+Ns:=⟨_,F⟩;have n:1<=B:=by rw[j];exact Nat.le_trans h (Nat.le_add_left _ _)
 rw[<-j];have h:V<=B*V:=Nat.le_mul_of_pos_left _ n;have z:65536*B*V=65536*(B*V):=Nat.mul_assoc _ _ _;by_cases h:e<=t+16
 ·have h:=H.Is o (e-t) aq;rw[show t+(e-t)=e by omega]at h;refine h.mono ?_;have n:2^(e-t)*V<=2^16*V:=Nat.mul_le_mul_right _ (Nat.pow_le_pow_right ar aq);omega
 ·have h:UB M m (t+4) (16*V):=(H.Is o 4 aq).mono aD;have n:=H.Ck C u p y v r (e1:=e-8) aq w h (λs i l=>x s i aq) (e-8) aq aD;have h:UB M m (e-8) (64*(B*V))->UB M m e (65536*B*V):=λo=>by
   have g:=H.Is o 8 aq;rw[show e-8+8=e by omega]at g;exact g.mono (by rw[z];omega)
  apply h;rcases n with⟨G,i,l⟩|⟨k,f,i,l,D,h,u,v,z,A⟩
  ·refine i.mono ?_;have D:G<=32*V:=by
    refine Nat.le_of_mul_le_mul_left (c:=E) (Nat.le_trans l ?_) (by have:=C.hE;omega);have:16*V*(E+2*(e-8-(t+4)))<=16*V*(2*E):=Nat.mul_le_mul_left _ (by have:=C.hE;omega);have e:16*V*(2*E)=E*(32*V):=aC;omega
   omega
  ·have i:k<=X:=aq;have h:k*Ss<=X*Ss:=Nat.mul_le_mul_right _ i;have i:W*(1+k)<=Ns:=Nat.le_trans (Nat.mul_le_mul_left _ aq) C.HX;have l:k*Q<=(X+2)*Q:=Nat.mul_le_mul_right _ aq;have Iv:=C.Iv;have g:=H.Js aq (A.mono aD i (Nat.add_le_add_left h _) (S':=Ss) aq);have h:=H.Is g (e-8-(f+1)) aq;rw[show f+1+(e-8-(f+1))=e-8 by omega]at h;refine h.mono ?_;have g:2^(e-8-(f+1))*((X*(2*(2*(16*V)))+X*Ss)*Ns+Ss+Ns)<=2^2*((X*(2*(2*(16*V)))+X*Ss)*Ns+Ss+Ns):=Nat.mul_le_mul_right _ (Nat.pow_le_pow_right ar aq);have f:(X*(2*(2*(16*V)))+X*Ss)*Ns+Ss+Ns<=B*V:=by
    have f:(X*(2*(2*(16*V)))+X*Ss)<=(64*X+X*Ss)*V:=by
     have g:X*Ss*1<=X*Ss*V:=Nat.mul_le_mul_left _ d;have g:(64*X+X*Ss)*V=X*(2*(2*(16*V)))+X*Ss*V:=aC;omega
    have g:(X*(2*(2*(16*V)))+X*Ss)*Ns<=(64*X+X*Ss)*V*Ns:=Nat.mul_le_mul_right _ f;have f:Ss*1<=Ss*V:=Nat.mul_le_mul_left _ d;have f:Ns*1<=Ns*V:=Nat.mul_le_mul_left _ d;have d:B*V=(64*X+X*Ss)*V*Ns+Ss*V+Ns*V:=by rw[j];grind
    omega
   omega
end
end Go.Ap
namespace Go.Ap
section
variable {X E TT W Ns Ls Sm Q Ss K0 Hh:Nat}
variable {T Dt:Nat}{M:Nat->M3}{m c:Nat->F3}{P:Nat->Nat}{q:Nat->F3->Int}
theorem Sq.chain(H:Sq T Dt M m c P q)(C:Cn X E TT W Ns Ls Sm Q Ss K0 Hh)(z:∀s,s<=T->P s<=X)(u:T<=X){aI:Nat}(A:65536*((64*X+X*Ss)*Ns+Ss+Ns)<=aI)(n:Nat):
 ∀(s t V:Nat),s<=t->t<=T->Hh<=V->1<=V->UB M m s V->P s*7^n<=8^n*P t->UB M m t ((2*aI)^(n+1)*V):=by
 have D:1<=aI:=by
  have v:=C.x1;obtain⟨v,v,v⟩:=C.g0;have:=C.HX;have:1*2<=W*(X+2):=Nat.mul_le_mul aq aq;generalize (64*X+X*Ss)*Ns=w at*;omega
 have b:∀s t V,s<=t->t<=T->Hh<=V->1<=V->UB M m s V->7*P s<=8*P t->UB M m t (aI*V):=λs t V i h g f d l=>by
  have v:td P s t:=λx y k p j=>by
   have:=H.mono (s:=s) (t:=x) k aq;have:=H.mono (s:=y) (t:=t) j aq;omega
  exact(H.Jt C v h z u g f d i aD).mono (Nat.mul_le_mul_right _ A)
 induction n with
 |zero=>
  intro s t V i h g f d l;have:=b s t V i h g f d (by simp at l;omega);exact this.mono (Nat.mul_le_mul_right _ (by rw[Nat.pow_succ,Nat.pow_zero];omega))
 |succ n o=>
  intro s t V i h g f d l;by_cases u:7*P s<=8*P t
  ·refine(b s t V i h g f d u).mono (Nat.mul_le_mul_right _ ?_);have e:(2*aI)^(n+1+1)=(2*aI)^(n+1)*(2*aI):=Nat.pow_succ _ _;have:1*(2*aI)<=(2*aI)^(n+1)*(2*aI):=Nat.mul_le_mul_right _ (Nat.pow_pos aq);omega
  ·
   have B:∃a,s<=a/\a<t/\7*P s<=8*P a/\8*P (a+1)<7*P s:=by
    clear o l;induction t with
    |zero=>
     have:s=0:=aq;subst this;omega
    |succ t r=>
     by_cases e:s=t+1
     ·subst e;omega
     ·by_cases i:7*P s<=8*P t
      ·exact⟨t,aq,aq,i,aq⟩
      ·obtain⟨a,k,p,j,l⟩:=r aq aq i;exact⟨a,k,aq,j,l⟩
   obtain⟨a,k,p,j,l⟩:=B;have i:=H.Jh (s:=a) aq (b s a V k aq g f d j);have b:V<=2*(aI*V):=by
    have:1*V<=aI*V:=Nat.mul_le_mul_right _ D;omega
   have b:=o (a+1) t (2*(aI*V)) aq h aq aq i (by
    have d:P s*7^(n+1)=7*P s*7^n:=by rw[Nat.pow_succ];grind
    have d:(8:Nat)^(n+1)*P t=8*(8^n*P t):=by rw[Nat.pow_succ];grind
    have d:8*P (a+1)*7^n<=7*P s*7^n:=Nat.mul_le_mul_right _ aq;have d:8*P (a+1)*7^n=8*(P (a+1)*7^n):=Nat.mul_assoc _ _ _;omega)
   refine b.mono ?_;have e:(2*aI)^(n+1+1)*V=(2*aI)^(n+1)*(2*(aI*V)):=by
    show(2*aI)^(n+1)*(2*aI)*V=_;rw[Nat.mul_assoc,Nat.mul_assoc]
   rw[e];exact Nat.le_refl _
theorem IN(x:Nat):2^x*7^(6*x)<=8^(6*x):=by
 have b:(7:Nat)^(6*x)=(7^6)^x:=Nat.pow_mul _ _ _;have a:(8:Nat)^(6*x)=(8^6)^x:=Nat.pow_mul _ _ _;rw[b,a,<-Nat.mul_pow];exact Nat.pow_le_pow_left ar x
theorem GJ{X:Nat}(d:1<=X):HH X (4000000*X^6) (1000000*X^5) (10000000*X^7)<=100000000000000000000*X^19:=by
 have p:∀a b,a<=b->X^a<=X^b:=λa b h=>Nat.pow_le_pow_right d h;have f:4000000*X^6*X=4000000*X^7:=by rw[Nat.mul_assoc,<-Nat.pow_succ]
 have e:4000000*X^6*(10000000*X^7)=40000000000000*X^13:=by
  rw[Nat.mul_mul_mul_comm,<-Nat.pow_add]
 have d:X*(1000000*X^5+40000000000000*X^13)=1000000*X^6+40000000000000*X^14:=by
  rw[Nat.mul_add,Nat.mul_left_comm,Nat.mul_left_comm X,Nat.mul_comm X (X^5),Nat.mul_comm X (X^13),<-Nat.pow_succ,<-Nat.pow_succ]
 have a:=p 6 14 ar;have a:=p 7 14 ar;have a:=p 5 14 ar;have a:=p 5 7 ar;have a:=p 2 7 ar;have a:=p 1 7 ar;have b:=p 14 19 ar;have b:1000000*X^5*(4000000*X^7+(1000000*X^6+40000000000000*X^14))<=1000000*X^5*(60000000000000*X^14):=Nat.mul_le_mul_left _ aq;have b:1000000*X^5*(60000000000000*X^14)=60000000000000000000*X^19:=by rw[Nat.mul_mul_mul_comm,<-Nat.pow_add]
 have b:X*X=X^2:=(Nat.pow_two X).symm;have g:(12*(1000000*X^5)+4000000*X^7+X^2+X)*(12*(1000000*X^5)+4000000*X^7+X^2+X)<=(20000000*X^7)*(20000000*X^7):=by
  have:12*(1000000*X^5)+4000000*X^7+X^2+X<=20000000*X^7:=by rw[Nat.pow_one]at a;omega
  exact Nat.mul_le_mul this this
 have a:(20000000*X^7)*(20000000*X^7)=400000000000000*X^14:=by rw[Nat.mul_mul_mul_comm,<-Nat.pow_add]
 unfold HH;rw[f,e,d,b];omega
theorem GX(x:Nat):∃E TT W Ns Ls Sm Q Ss K0 Hh,Cn (2^x) E TT W Ns Ls Sm Q Ss K0 Hh/\Hh<=2^(19*x+90)/\65536*((64*2^x+2^x*Ss)*Ns+Ss+Ns)<=2^(15*x+80):=by
 obtain⟨X,e⟩ : ∃X,X=2^x:=⟨_,F⟩;have d:1<=X:=by rw[e];exact Nat.pow_pos ar
 have f:∀a b,2^(a*x+b)=X^a*2^b:=λa b=>by rw[Nat.pow_add,Nat.mul_comm a,Nat.pow_mul,<-e]
 rw[f,f,<-e];have p:∀a b,a<=b->X^a<=X^b:=λa b h=>Nat.pow_le_pow_right d h;have a:=p 1 2 ar;have a:=p 2 3 ar;have a:=p 3 4 ar;have a:=p 4 5 ar;have a:=p 5 6 ar;have a:=p 6 7 ar;have a:=p 7 8 ar;have a:=p 8 9 ar;have a:=p 9 10 ar;have a:=p 10 12 ar;have a:=p 12 14 ar;have a:=p 14 15 ar;have a:=p 15 19 ar;refine⟨8*X,32000*X,300000*X^4,1000000*X^5,4000000*X^6,5000000*X^8,8000000*X^8,30000000*X^9,10000000*X^7,100000000000000000000*X^19,⟨d,F,aq,aC,aC,aC,aC,aC,aC,aC,GJ d⟩,aC,aC⟩
end
end Go.Ap
namespace Go.Ap
theorem Sq.fin{T Dt:Nat}{M:Nat->M3}{m c:Nat->F3}{P:Nat->Nat}{q:Nat->F3->Int}(H:Sq T Dt M m c P q){x y:Nat}(d:P 0<=2^x)(g:UB M m 0 (2^y)):UB M m T (2^((15*x+81)*(6*x+1)+(19*x+90+y))):=by
 obtain⟨E,TT,W,Ns,Ls,Sm,Q,Ss,K0,Hh,C,h,i⟩:=GX x;have a:=λs (b:s<=T)=>H.mono (s:=0) (t:=s) aE b;have l:2^(19*x+90)<=2^(19*x+90+y):=Nat.pow_le_pow_right ar aq;have k:2^y<=2^(19*x+90+y):=Nat.pow_le_pow_right ar aq;have j:1<=2^(19*x+90+y):=Nat.pow_pos ar;have e:(2*2^(15*x+80))^(6*x+1)*2^(19*x+90+y)=2^((15*x+81)*(6*x+1)+(19*x+90+y)):=by
  rw[Nat.pow_add 2 ((15*x+81)*(6*x+1)),Nat.pow_mul,Nat.mul_comm 2,<-Nat.pow_succ]
 rw[<-e];have f:=H.pos (s:=T) aD;have n:P 0*7^(6*x)<=8^(6*x)*P T:=by
  have p:P 0*7^(6*x)<=2^x*7^(6*x):=Nat.mul_le_mul_right _ d;have o:=IN x;have e:8^(6*x)*1<=8^(6*x)*P T:=Nat.mul_le_mul_left _ f;rw[Nat.mul_one]at e;exact Nat.le_trans p (Nat.le_trans o e)
 have e:∀s,s<=T->P s<=2^x:=λs b=>Nat.le_trans (Nat.le_trans (Nat.le_add_right _ _) (a s b)) d;have b:T<=2^x:=Nat.le_trans (Nat.le_trans (Nat.le_add_left _ _) (a T aD)) d;exact H.chain C e b i (6*x) 0 T _ aE aD (Nat.le_trans h l) j (g.mono k) n
end Go.Ap
namespace Go.Ap
theorem H2(M:M3)(x y z j k l:F3):dt M y x z j k l=- dt M x y z j k l:=by simp only[dt,mi];grind
theorem H0(M:M3)(x y z j k l:F3):dt M x z y j k l=- dt M x y z j k l:=by simp only[dt,mi];grind
theorem H4(M:M3)(x y z j k l:F3):dt M x y z k j l=- dt M x y z j k l:=by simp only[dt,mi];grind
theorem H3(M:M3)(x y z j k l:F3):dt M x y z j l k=- dt M x y z j k l:=by simp only[dt,mi];grind
theorem FV(f:F3->F3->F3->Nat)(h1:∀a b c,f b a c=f a b c)(d:∀a b c,f a c b=f a b c){x y z:F3}(h:D3 x y z):f x y z=f 0 1 2:=by
 have e:(x=0/\y=1/\z=2)\/(x=0/\y=2/\z=1)\/(x=1/\y=0/\z=2)\/(x=1/\y=2/\z=0)\/(x=2/\y=0/\z=1)\/(x=2/\y=1/\z=0):=by
  obtain⟨a,b,c⟩:=h;revert x y z;decide
 rcases e with⟨rfl,rfl,rfl⟩|⟨rfl,rfl,rfl⟩|⟨rfl,rfl,rfl⟩|⟨rfl,rfl,rfl⟩|⟨rfl,rfl,rfl⟩|⟨rfl,rfl,rfl⟩
 ·rfl
 ·exact d _ _ _
 ·exact h1 _ _ _
 ·rw[d 1 0 2,h1 0 1 2]
 ·rw[h1 0 2 1,d 0 1 2]
 ·rw[d 2 0 1,h1 0 2 1,d 0 1 2]
theorem o6(M:M3){x y z j k l:F3}(h:D3 x y z)(g:D3 j k l):(dt M x y z j k l).natAbs=(dt M 0 1 2 0 1 2).natAbs:=by
 rw[FV (λx y z=>(dt M x y z j k l).natAbs) (λa b c=>by simp only[H2 M a b c,Int.natAbs_neg]) (λa b c=>by simp only[H0 M a b c,Int.natAbs_neg]) h];exact FV (λj k l=>(dt M 0 1 2 j k l).natAbs) (λa b c=>by simp only[H4 M 0 1 2 a b c,Int.natAbs_neg]) (λa b c=>by simp only[H3 M 0 1 2 a b c,Int.natAbs_neg]) g
theorem D7{M0 M1:M3}{m c:F3}{q:F3->Int}{P Dt:Nat}(r:(M0 m c).natAbs=P)(p:q m=0)(f:∀x y,M1 x y=M0 x y-q x*M0 m y)(h:∀x,x≠m->0<=M1 x c/\M1 x c<P)(o:(dt M1 0 1 2 0 1 2).natAbs=Dt)(mQ:Dt<P)
 {V:Nat} (a:∀y j k,(mi M0 m y j k).natAbs<=V) (x y j k:F3):(mi M1 x y j k).natAbs<=2*V:=by
 have g:∀y,M1 m y=M0 m y:=λy=>by rw[f,p];omega
 have e:∀y j k,mi M1 m y j k=mi M0 m y j k:=λy j k=>by simp only[mi,g,f y];grind
 have b:=D3.mk' (GA m);have n:(mi M1 (m+1) (th m (m+1)) j k).natAbs<=2*V:=by
  have t:M0 m c*mi M1 (m+1) (th m (m+1)) j k=M1 (m+1) c*mi M0 m (th m (m+1)) j k-M1 (th m (m+1)) c*mi M0 m (m+1) j k+(M1 m c*mi M1 (m+1) (th m (m+1)) j k-M1 (m+1) c*mi M1 m (th m (m+1)) j k+M1 (th m (m+1)) c*mi M1 m (m+1) j k):=by
   rw[e,e,g];omega
  have s:(M1 m c*mi M1 (m+1) (th m (m+1)) j k-M1 (m+1) c*mi M1 m (th m (m+1)) j k+M1 (th m (m+1)) c*mi M1 m (m+1) j k).natAbs<=Dt:=by
   by_cases l:j=c
   ·subst l;have:M1 m j*mi M1 (m+1) (th m (m+1)) j k-M1 (m+1) j*mi M1 m (th m (m+1)) j k+M1 (th m (m+1)) j*mi M1 m (m+1) j k=0:=by simp only[mi];grind
    rw[this];exact Nat.zero_le _
   ·by_cases i:k=c
    ·subst i;have:M1 m k*mi M1 (m+1) (th m (m+1)) j k-M1 (m+1) k*mi M1 m (th m (m+1)) j k+M1 (th m (m+1)) k*mi M1 m (m+1) j k=0:=by simp only[mi];grind
     rw[this];exact Nat.zero_le _
    ·by_cases d:j=k
     ·subst d;have:M1 m c*mi M1 (m+1) (th m (m+1)) j j-M1 (m+1) c*mi M1 m (th m (m+1)) j j+M1 (th m (m+1)) c*mi M1 m (m+1) j j=0:=by simp only[mi];grind
      rw[this];exact Nat.zero_le _
     ·have:=o6 M1 b (show D3 c j k from⟨Ne.symm l,d,Ne.symm i⟩);rw[o]at this;refine Nat.le_of_eq (Eq.trans (congrArg Int.natAbs ?_) this);simp only[dt,mi];grind
  have g:=(grow t r mQ s (h _ (Ne.symm b.1)) (h _ (Ne.symm b.2.2)) (a _ _ _) (a _ _ _)).1;have:=a (th m (m+1)) j k;have:=a (m+1) j k;omega
 have d:∀y,(mi M1 m y j k).natAbs<=2*V:=λy=>by rw[e];have:=a y j k;omega
 refine oB b.sw M1 (λa _=>a.natAbs<=2*V) j k j k aA (λa b h=>by rw[Int.natAbs_neg];exact h) ?_ (d _) n x y;show(mi _ _ _ _ _).natAbs<=_;rw[cS,Int.natAbs_neg];exact d _
structure Sr(T Dt x y:Nat)(M:Nat->M3)(m c:Nat->F3)(P:Nat->Nat)(q:Nat->F3->Int):Prop where
 hp:∀s,s<T->(M s (m s) (c s)).natAbs=P s
 le:∀s,s<T->∀x y,M s x y≠0->P s<=(M s x y).natAbs
 q0:∀s,s<T->q s (m s)=0
 st:∀s,s<T->∀x y,M (s+1) x y=M s x y-q s x*M s (m s) y
 rm:∀s,s<T->∀x,x≠m s->0<=M (s+1) x (c s)/\M (s+1) x (c s)<P s
 Ix:(dt (M 0) 0 1 2 0 1 2).natAbs=Dt
 d0:0<Dt
 mQ:∀s,s<T->Dt<P s
 x0:∀i j,(M 0 i j).natAbs<=2^x
 y0:∀a b i j,(mi (M 0) a b i j).natAbs<=2^y
theorem Sr.sq{T Dt x y:Nat}{M:Nat->M3}{m c:Nat->F3}{P:Nat->Nat}{q:Nat->F3->Int}(h:Sr T Dt x y M m c P q){a b:F3}(l:∀i j,M T i j≠0->(M T a b).natAbs<=(M T i j).natAbs)(n:Dt<(M T a b).natAbs):
 Sq T Dt M (λs=>if s<T then m s else a) (λs=>if s<T then c s else b) (λs=>if s<T then P s else(M T a b).natAbs) q:=by
 refine⟨λs d=>?_,λs d i j f=>?_,λs d=>?_,λs d i j=>?_,λs d i g=>?_,λi j k k k k o k=>by rw[o6 _ o k];exact h.Ix,h.d0,λs d=>?_⟩
 ·by_cases e:s<T
  ·simp only[ae e];exact h.hp s e
  ·have:s=T:=aq;subst this;simp
 ·by_cases e:s<T
  ·simp only[ae e];exact h.le s e i j f
  ·have:s=T:=aq;subst this;simp only[aa e];exact l i j f
 ·simp only[ae d];exact h.q0 s d
 ·simp only[ae d];exact h.st s d i j
 ·simp only[ae d]at g⊢;exact h.rm s d i g
 ·by_cases e:s<T
  ·simp only[ae e];exact h.mQ s e
  ·simp only[aa e];exact n
def Gb(x y:Nat):Nat:=(15*x+81)*(6*x+1)+(19*x+90+y)+1
theorem Sr.ub{T Dt x y:Nat}{M:Nat->M3}{m c:Nat->F3}{P:Nat->Nat}{q:Nat->F3->Int}(h:Sr T Dt x y M m c P q){a b:F3}(d:∀i j,M T i j≠0->(M T a b).natAbs<=(M T i j).natAbs)(g:Dt<(M T a b).natAbs)(w j k:F3):
 (mi (M T) a w j k).natAbs<=2^((15*x+81)*(6*x+1)+(19*x+90+y)):=by
 have f:=h.sq d g;have l:=f.fin (x:=x) (y:=y) (by
  by_cases e:0<T
  ·simp only[ae e];rw[<-h.hp 0 e];exact h.x0 _ _
  ·have:T=0:=aq;subst this;simp only[aa e];exact h.x0 _ _) (λ_ _ _=>h.y0 _ _ _ _) w j k
 simpa using l
theorem Sr.snoc{T Dt x y:Nat}{M:Nat->M3}{m c:Nat->F3}{P:Nat->Nat}{q:Nat->F3->Int}(h:Sr T Dt x y M m c P q){a b:F3}(p:∀i j,M T i j≠0->(M T a b).natAbs<=(M T i j).natAbs)(u:Dt<(M T a b).natAbs){M1:M3}{d:F3->Int}
 (o:d a=0) (l:∀i j,M1 i j=M T i j-d i*M T a j) (n:∀i,i≠a->0<=M1 i b/\M1 i b<(M T a b).natAbs):
 ∃k t v w r,Sr (T+1) Dt x y k t v w r/\k (T+1)=M1:=by
 refine⟨λs=>if s<=T then M s else M1,λs=>if s<T then m s else a,λs=>if s<T then c s else b,λs=>if s<T then P s else(M T a b).natAbs,λs=>if s<T then q s else d,⟨λs d=>?_,λs d i j f=>?_,λs d=>?_,λs d i j=>?_,λs d i g=>?_,?_,h.d0,λs d=>?_,?_,?_⟩,?_⟩
 ·simp only[ae (show s<=T by omega)];by_cases e:s<T
  ·simp only[ae e];exact h.hp s e
  ·have:s=T:=aq;subst this;simp
 ·simp only[ae (show s<=T by omega)]at f⊢;by_cases e:s<T
  ·simp only[ae e];exact h.le s e i j f
  ·have:s=T:=aq;subst this;simp only[aa e];exact p i j f
 ·by_cases e:s<T
  ·simp only[ae e];exact h.q0 s e
  ·simp only[aa e];exact o
 ·by_cases e:s<T
  ·simp only[ae e,ae (show s<=T by omega),ae (show s+1<=T by omega)];exact h.st s e i j
  ·have:s=T:=aq;subst this;simp only[aa (show¬s+1<=s by omega),aa e,ae (Nat.le_refl s)];exact l i j
 ·by_cases e:s<T
  ·simp only[ae e]at g;simp only[ae e,ae (show s+1<=T by omega)];exact h.rm s e i g
  ·have:s=T:=aq;subst this;simp only[aa e]at g;simp only[aa (show¬s+1<=s by omega),aa e];exact n i g
 ·simp only[ae (Nat.zero_le T)];exact h.Ix
 ·by_cases e:s<T
  ·simp only[ae e];exact h.mQ s e
  ·simp only[aa e];exact u
 ·simp only[ae (Nat.zero_le T)];exact h.x0
 ·simp only[ae (Nat.zero_le T)];exact h.y0
 ·simp only[aa (show¬T+1<=T by omega)]
end Go.Ap
namespace Go.Ap
def Di(e:F3->F3):Prop:=∀i j,e i=e j->i=j
theorem Di.d{e:F3->F3}(h:Di e):D3 (e 0) (e 1) (e 2):=⟨λx=>by have:=h _ _ x;revert this;decide,λx=>by have:=h _ _ x;revert this;decide,λx=>by have:=h _ _ x;revert this;decide⟩
theorem Di.ne{e:F3->F3}(h:Di e){i j:F3}(a:i≠j):e i≠e j:=λx=>a (h _ _ x)
theorem CG:∀i:F3,i=0\/i=1\/i=2:=by decide
theorem Di.jO{e:F3->F3}(h:Di e)(r:F3):∃i,e i=r:=by
 rcases h.d.all r with x|x|x
 ·exact⟨0,x.symm⟩
 ·exact⟨1,x.symm⟩
 ·exact⟨2,x.symm⟩
def Rc(Dt x y:Nat)(B:M3):Prop:=∃T M m c P q e f,Sr T Dt x y M m c P q/\Di e/\Di f/\(∀i j,B i j=M T (e i) (f j))/\∀a b i j,(mi (M T) a b i j).natAbs<=2^Gb x y
variable {Dt x y:Nat}{B:M3}
theorem Rc.start(e:(dt B 0 1 2 0 1 2).natAbs=Dt)(f:0<Dt)(d:∀i j,(B i j).natAbs<=2^x)(c:∀a b i j,(mi B a b i j).natAbs<=2^y):Rc Dt x y B:=
 ⟨0,λ_=>B,λ_=>0,λ_=>0,λ_=>0,λ_ _=>0,id,id,⟨λs h=>aq,λs h=>aq,λs h=>aq,λs h=>aq,λs h=>aq,e,f,λs h=>aq,d,c⟩,λ_ _ h=>h,λ_ _ h=>h,λ_ _=>rfl,
  λa b i j=>Nat.le_trans (c a b i j) (Nat.pow_le_pow_right ar (by unfold Gb;omega))⟩
theorem Rc.swap(h:Rc Dt x y B){s t:F3->F3}(d:Di s)(b:Di t):Rc Dt x y (λi j=>B (s i) (t j)):=by
 obtain⟨T,M,m,c,P,q,e,f,a,n,l,k,g⟩:=h;exact⟨T,M,m,c,P,q,λi=>e (s i),λj=>f (t j),a,λi j a=>d _ _ (n _ _ a),λi j a=>b _ _ (l _ _ a),λi j=>k _ _,g⟩
theorem Rc.step(h:Rc Dt x y B)(K:∀i j,B i j≠0->(B 0 0).natAbs<=(B i j).natAbs)(U:Dt<(B 0 0).natAbs){B':M3}{g:F3->Int}(W:g 0=0)(I:∀i j,B' i j=B i j-g i*B 0 j)(J:∀i,i≠0->0<=B' i 0/\B' i 0<(B 0 0).natAbs):Rc Dt x y B':=by
 obtain⟨T,M,m,c,P,q,e,f,D,n,E,b,P⟩:=h;have o:∀i j,M T i j≠0->(M T (e 0) (f 0)).natAbs<=(M T i j).natAbs:=λi j L=>by
  obtain⟨t,rfl⟩:=n.jO i;obtain⟨P,rfl⟩:=E.jO j;rw[<-b,<-b];exact K _ _ (by rw[b];exact L)
 have p:Dt<(M T (e 0) (f 0)).natAbs:=by rw[<-b];exact U
 obtain⟨d,A⟩ : ∃d:F3->Int,∀i,d (e i)=g i:=by
  refine⟨λr=>if r=e 0 then g 0 else if r=e 1 then g 1 else g 2,λi=>?_⟩;rcases CG i with z|z|z<;>subst z
  ·exact ae F
  ·show(if e 1=e 0 then g 0 else if e 1=e 1 then g 1 else g 2)=g 1;rw[aa (n.ne ar),ae F]
  ·show(if e 2=e 0 then g 0 else if e 2=e 1 then g 1 else g 2)=g 2;rw[aa (n.ne ar),aa (n.ne ar)]
 have C:∀i j,M T (e i) (f j)-d (e i)*M T (e 0) (f j)=B' i j:=λi j=>by rw[A,<-b,<-b,I]
 have u:d (e 0)=0:=by rw[A,W]
 have v:∀i,i≠e 0->0<=(λr w=>M T r w-d r*M T (e 0) w) i (f 0)/\(λr w=>M T r w-d r*M T (e 0) w) i (f 0)<(M T (e 0) (f 0)).natAbs:=λi S=>by
  obtain⟨t,rfl⟩:=n.jO i;have:=J t (λz=>S (by rw[z]));show 0<=M T (e t) (f 0)-d (e t)*M T (e 0) (f 0)/\M T (e t) (f 0)-d (e t)*M T (e 0) (f 0)<_;rw[C,<-b];exact this
 obtain⟨Z,Q,X,Y,O,V,G⟩:=D.snoc o p (M1:=λr w=>M T r w-d r*M T (e 0) w) u (λ_ _=>rfl) v;have N:(dt (λr w=>M T r w-d r*M T (e 0) w) 0 1 2 0 1 2).natAbs=Dt:=by
  have:=(D.sq o p).dt (s:=T) aD (x:=0) (y:=1) (z:=2) (j:=0) (k:=1) (l:=2) (by unfold D3;decide) (by unfold D3;decide);rw[<-this];congr 1;rcases n.jO 0 with⟨_,_⟩;have H:∀r:F3,(r=0\/r=1\/r=2)->d r=0->dt (λa w=>M T a w-d a*M T r w) 0 1 2 0 1 2=dt (M T) 0 1 2 0 1 2:=λr b R=>by
   rcases b with e|e|e<;>subst e<;>simp only[dt,mi,R]<;>grind
  exact H (e 0) (CG _) u
 refine⟨T+1,Z,Q,X,Y,O,e,f,V,n,E,λi j=>by rw[G];exact(C i j).symm,λa b i j=>?_⟩;rw[G];have:=D7 (M0:=M T) (M1:=λr w=>M T r w-d r*M T (e 0) w) (m:=e 0) (c:=f 0) (q:=d) F u (λ_ _=>rfl) v N p (D.ub o p) a b i j;refine Nat.le_trans this (Nat.le_of_eq ?_);unfold Gb;generalize (15*x+81)*(6*x+1)+(19*x+90+y)=w;exact Nat.mul_comm _ _
theorem Rc.minors(h:Rc Dt x y B)(a b i j:F3):(mi B a b i j).natAbs<=2^Gb x y:=by
 obtain⟨T,M,m,c,P,q,e,f,c,c,c,d,c⟩:=h;have:mi B a b i j=mi (M T) (e a) (e b) (f i) (f j):=by simp only[mi,d]
 rw[this];exact c _ _ _ _
theorem B_(B:M3)(A C E b c z:F3):B A b*dt B A C E b c z=mi B A C b z*mi B A E b c*(-1)+mi B A C b c*mi B A E b z:=by simp only[dt,mi];grind
theorem Rc.entry(h:Rc Dt x y B)(b:(dt B 0 1 2 0 1 2).natAbs=Dt)(c:0<Dt)(i j:F3):(B i j).natAbs<=2*(2^Gb x y*2^Gb x y):=by
 have e:=B_ B i (i+1) (th i (i+1)) j (j+1) (th j (j+1));have f:=D3.mk' (GA i);have d:=D3.mk' (GA j);have a:(mi B i (i+1) j (th j (j+1))*mi B i (th i (i+1)) j (j+1)).natAbs<=2^Gb x y*2^Gb x y:=fr (h.minors _ _ _ _) (h.minors _ _ _ _);have a:(mi B i (i+1) j (j+1)*mi B i (th i (i+1)) j (th j (j+1))).natAbs<=2^Gb x y*2^Gb x y:=fr (h.minors _ _ _ _) (h.minors _ _ _ _);have a:(B i j).natAbs*1<=(B i j*dt B i (i+1) (th i (i+1)) j (j+1) (th j (j+1))).natAbs:=by
  rw[Int.natAbs_mul,o6 B f d,b];exact Nat.mul_le_mul_left _ c
 rw[e]at a;generalize mi B i (i+1) j (th j (j+1))*mi B i (th i (i+1)) j (j+1)=a at*;generalize mi B i (i+1) j (j+1)*mi B i (th i (i+1)) j (th j (j+1))=a at*;generalize 2^Gb x y*2^Gb x y=a at*;omega
end Go.Ap
namespace Go.Ap
theorem zd{n a b c:Nat}(j:a∣n)(e:b∣n)(d:c∣n)(g:0<n)(l:a<b)(l:b<c):a*b*c<=n*((b-a)*(c-b)*(c-a)):=by
 obtain⟨x,f⟩:=j;obtain⟨y,i⟩:=e;obtain⟨z,h⟩:=d;obtain⟨u,rfl⟩ : ∃u,b=a+u:=⟨b-a,aq⟩;obtain⟨v,rfl⟩ : ∃v,c=a+u+v:=⟨c-(a+u),aq⟩;have j:a+u-a=u:=aq;have e:a+u+v-(a+u)=v:=aq;have d:a+u+v-a=u+v:=aq;rw[j,e,d];have m:0<a:=Nat.pos_of_ne_zero λe=>by rw[e,Nat.zero_mul]at f;omega
 have d:((a*(a+u)*(a+u+v):Nat):Int)*((x:Int)*v-y*(u+v)+z*u)=((n*(u*v*(u+v)):Nat):Int):=by
  have l:(n:Int)=a*x:=by rw[f];push_cast;rfl
  have j:(n:Int)=(a+u)*y:=by rw[i];push_cast;rfl
  have f:(n:Int)=(a+u+v)*z:=by rw[h];push_cast;rfl
  push_cast
  have e:((a:Int)*(a+u)*(a+u+v))*(x*v-y*(u+v)+z*u)=(a*x)*((a+u)*(a+u+v)*v)-((a+u)*y)*(a*(a+u+v)*(u+v))+((a+u+v)*z)*(a*(a+u)*u):=aC;rw[e,<-l,<-j,<-f];grind
 have f:0<u:=aq;have e:0<v:=aq;have h:0<n*(u*v*(u+v)):=Nat.mul_pos g (Nat.mul_pos (Nat.mul_pos f e) aq);have e:0<a*(a+u)*(a+u+v):=Nat.mul_pos (Nat.mul_pos m aq) aq;generalize (x:Int)*v-y*(u+v)+z*u=k at d;have d:1<=k:=by
  refine Decidable.byContradiction λg=>?_;have:=Int.mul_nonneg (a:=((a*(a+u)*(a+u+v):Nat):Int)) (b:=- k) aq aq;rw[Int.mul_neg]at this;omega
 have e:=Int.mul_le_mul_of_nonneg_left d (show(0:Int)<=((a*(a+u)*(a+u+v):Nat):Int) by omega);omega
def wo(P:Nat):Nat:=if P<2048 then P else(Nat.log2 P-10)*1024+P/2^(Nat.log2 P-10)
theorem lX{P:Nat}(h:2048<=P):∃k w,k=Nat.log2 P/\11<=k/\w=2^(k-10)/\0<w/\wo P=(k-10)*1024+P/w/\1024*w<=P/\P<2048*w/\1024<=P/w/\P/w<2048:=by
 have b:11<=Nat.log2 P:=(Nat.le_log2 aq).2 aq;have a:=Nat.log2_self_le (n:=P) aq;have a:=Nat.lt_log2_self (n:=P);have a:2^Nat.log2 P=1024*2^(Nat.log2 P-10):=by
  rw[show(1024:Nat)=2^10 from F,<-Nat.pow_add];congr 1;omega
 have c:2^(Nat.log2 P+1)=2048*2^(Nat.log2 P-10):=by rw[Nat.pow_succ,a];omega
 have a:0<2^(Nat.log2 P-10):=Nat.pow_pos ar;refine⟨_,_,F,b,F,a,by unfold wo;rw[aa aq],aq,aq,(Nat.le_div_iff_mul_le a).2 aq,(Nat.div_lt_iff_lt_mul a).2 aq⟩
theorem jo{P:Nat}(h:P<2048):wo P=P:=by unfold wo;rw[ae h]
theorem Cx{P a:Nat}(h:a<=P):wo a<=wo P:=by
 by_cases b:P<2048
 ·rw[jo b,jo aq];exact h
 ·obtain⟨k,w,j,b,i,b,e,b,b,b,b⟩:=lX (P:=P) aq;by_cases b:a<2048
  ·rw[jo b,e];omega
  ·obtain⟨b,g,f,d,d,l,l,m,m,m,m⟩:=lX (P:=a) aq;have m:b<=k:=by
    rw[j,Nat.le_log2 aq];have:2^b<=a:=by rw[f];exact Nat.log2_self_le aq
    omega
   by_cases a:b=k
   ·rw[e,l,a];have:g=w:=by rw[i,d,a]
    rw[this];have:=Nat.div_le_div_right (c:=w) h;omega
   ·omega
theorem GY{P:Nat}(h:P<=4294967296):wo P<=24600:=by
 by_cases a:P<2048
 ·rw[jo a];omega
 ·obtain⟨k,w,a,b,b,b,e,b,b,b,b⟩:=lX (P:=P) aq;have:k<33:=by
   rw[a];refine Decidable.byContradiction λa=>?_;have:=(Nat.le_log2 (n:=P) (k:=33) aq).1 aq;omega
  rw[e];omega
theorem EY{n a b c:Nat}(t:0<n)(m:n<=4294967296)(z:a∣n)(y:b∣n)(x:c∣n)(p:a<b)(o:b<c)(h1:wo a=wo c):False:=by
 by_cases s:a<2048
 ·rw[jo s]at h1;by_cases e:c<2048
  ·rw[jo e]at h1;omega
  ·obtain⟨k,w,h,g,i,j,e,A,s,q,l⟩:=lX (P:=c) aq;omega
 ·obtain⟨k,w,h,g,i,j,e,A,s,q,l⟩:=lX (P:=c) aq;obtain⟨e,q,g,g,l,g,s,h,g,g,g⟩:=lX (P:=a) aq;have g:e=k:=aq;have e:q=w:=by rw[i,l,g]
  have i:a/w=c/w:=by rw[e,g]at s;omega
  have g:c-a<w:=by
   have g:=Nat.div_add_mod a w;have k:=Nat.div_add_mod c w;have k:=Nat.mod_lt c j;rw[i]at g;omega
  have j:=zd z y x t p o;rw[e]at h;obtain⟨u,i⟩ : ∃u,u=b-a:=⟨_,F⟩;obtain⟨v,g⟩ : ∃v,v=c-b:=⟨_,F⟩;have e:c-a=u+v:=aq;rw[<-i,<-g,e]at j;have e:1024*w*(1024*w)*(1024*w)<=a*b*c:=Nat.mul_le_mul (Nat.mul_le_mul h aq) aq;have r:4*(u*v)<=(u+v)*(u+v):=by
   rcases Nat.le_total u v with h|h
   ·obtain⟨d,rfl⟩ : ∃d,v=u+d:=⟨v-u,aq⟩;grind
   ·obtain⟨d,rfl⟩ : ∃d,u=v+d:=⟨u-v,aq⟩;grind
  have d:4*(u*v)*(u+v)<=(u+v)*(u+v)*(u+v):=Nat.mul_le_mul_right _ r;have d:(u+v)*(u+v)*(u+v)<w*w*w:=by
   have d:u+v<=w-1:=aq;obtain⟨f,rfl⟩ : ∃f,w=f+1:=⟨w-1,aq⟩;have d:(u+v)*(u+v)*(u+v)<=f*f*f:=Nat.mul_le_mul (Nat.mul_le_mul aq aq) aq;have d:f*f*f<(f+1)*(f+1)*(f+1):=aC;omega
  have d:n*(u*v*(u+v))<=4294967296*(u*v*(u+v)):=Nat.mul_le_mul_right _ m;have d:1024*w*(1024*w)*(1024*w)=1073741824*(w*w*w):=aC;have d:4*(u*v)*(u+v)=4*(u*v*(u+v)):=Nat.mul_assoc _ _ _;generalize u*v*(u+v)=x1 at*;generalize (u+v)*(u+v)*(u+v)=d at*;generalize w*w*w=d at*;generalize a*b*c=d at*;omega
open Classical in
noncomputable def Hx (D P:Nat):Nat:=2*wo P+if ∃d,d∣D/\d<P/\wo d=wo P then 1 else 0
theorem GQ{D P:Nat}(h:P<=4294967296):Hx D P<=49201:=by
 have:=GY h;unfold Hx;split<;>omega
theorem GP{D P a:Nat}(f:0<D)(c:D<=4294967296)(h:P∣D)(h':a∣D)(b:a<P):Hx D a<Hx D P:=by
 have d:=Cx (Nat.le_of_lt b);unfold Hx;by_cases e:wo a=wo P
 ·have g:¬∃d,d∣D/\d<a/\wo d=wo a:=by
   rintro⟨_,g1,g2,g3⟩;exact EY f c g1 h' h g2 b (g3.trans e)
  rw[aa g,ae ⟨a,h',b,e⟩,e];omega
 ·split<;>split<;>omega
