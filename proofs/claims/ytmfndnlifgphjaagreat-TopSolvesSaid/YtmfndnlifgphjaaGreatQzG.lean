import Derived.Test.YtmfndnlifgphjaaGreatQzF
set_option maxHeartbeats 64000000
namespace Go.Ap
section
variable {T Dt:Nat}{M:Nat->M3}{m c:Nat->F3}{P:Nat->Nat}{q:Nat->F3->Int}
theorem Sq.zh(H:Sq T Dt M m c P q){r:Nat}(e:r<T){l b z y:F3}(A:D3 l b z)(B:c r=z){X L N K:Nat}(f:P r<=X)(h:(M r (m r) l).natAbs<=L)(g:(mi (M r) (m r) y l b).natAbs<=N)(f:y≠m r)
 (i:L*X+X*(N+L*K)<(mi (M r) (m r) y l z).natAbs):K<(M (r+1) y l).natAbs/\M (r+1) (m r) l≠0/\(M (r+1) (m r) b=0\/K<(M (r+1) y b).natAbs):=by
 have v:=λy=>H.n8 e y;have u:=λj k=>H.fj e y j k;have j:=H.rm r e y f;have f:=H.hp r aq;rw[B]at j f;rw[<-v]at h f;rw[<-u]at g i;have t:=λd f=>H.IJ (s:=r+1) e (x:=m r) A.1 d f;have e:mi (M (r+1)) (m r) y l z=M (r+1) (m r) l*M (r+1) y z-M (r+1) (m r) z*M (r+1) y l:=F;have n:mi (M (r+1)) (m r) y l b=M (r+1) (m r) l*M (r+1) y b-M (r+1) (m r) b*M (r+1) y l:=F;have f:(M (r+1) (m r) l*M (r+1) y z).natAbs<=L*X:=fr h aq;have w:X*(N+L*K)<X*(M (r+1) y l).natAbs:=by
  have:(M (r+1) (m r) z*M (r+1) y l).natAbs<=X*(M (r+1) y l).natAbs:=fr aq aD;rw[e]at i;generalize M (r+1) (m r) l*M (r+1) y z=p at*;generalize M (r+1) (m r) z*M (r+1) y l=o at*;omega
 have e:N+L*K<(M (r+1) y l).natAbs:=Nat.lt_of_mul_lt_mul_left w;have i:M (r+1) (m r) l≠0:=λe=>by
  rw[n,e,Int.zero_mul,Int.zero_sub,Int.natAbs_neg]at g;have d:M (r+1) (m r) b≠0:=λd=>t e d;have f:1*(M (r+1) y l).natAbs<=(M (r+1) (m r) b*M (r+1) y l).natAbs:=by rw[Int.natAbs_mul];exact Nat.mul_le_mul_right _ aq
  omega
 have e:0<L:=aq;have j:K<=L*K:=Nat.le_mul_of_pos_left _ e;refine⟨aq,i,?_⟩;by_cases d:M (r+1) (m r) b=0
 ·exact .inl d
 ·refine .inr (Nat.lt_of_mul_lt_mul_left (a:=L) ?_);have f:1*(M (r+1) y l).natAbs<=(M (r+1) (m r) b*M (r+1) y l).natAbs:=by rw[Int.natAbs_mul];exact Nat.mul_le_mul_right _ aq
  have d:(M (r+1) (m r) l*M (r+1) y b).natAbs<=L*(M (r+1) y b).natAbs:=fr h aD;rw[n]at g;generalize M (r+1) (m r) l*M (r+1) y b=p at*;generalize M (r+1) (m r) b*M (r+1) y l=o at*;omega
theorem GK{M:M3}{A B C l b z:F3}{X L N Dt h:Nat}(d:(dt M A B C l z b).natAbs=Dt)(d:Dt<=X)(e:(M A l).natAbs<=L)(d:(mi M A C l b).natAbs<=N)(f:mi M A B l b≠0)
 (f:N*h+L*X<(mi M A C l z).natAbs):h<(mi M A B l z).natAbs:=by
 have f:=u6 M A B C l b z;have f:1*(mi M A C l z).natAbs<=(mi M A B l b*mi M A C l z).natAbs:=by rw[Int.natAbs_mul];exact Nat.mul_le_mul_right _ aq
 have f:(mi M A C l b*mi M A B l z).natAbs<=N*(mi M A B l z).natAbs:=fr d aD;have d:(M A l*dt M A B C l z b).natAbs<=L*X:=fr e aq;refine Nat.lt_of_mul_lt_mul_left (a:=N) ?_;generalize mi M A B l b*mi M A C l z=d at*;generalize mi M A C l b*mi M A B l z=d at*;generalize M A l*dt M A B C l z b=b at*;omega
theorem Sq.wZ(H:Sq T Dt M m c P q){r:Nat}(f:r+3<=T){l b z A B:F3}{X N La Hh:Nat}(f:P (r+2)<=X)(G:D3 A B (m (r+2)))(p:D3 l b z)(i:c (r+2)=l)(t:M (r+2) (m (r+2)) z=0)
 (v:∀x,x=A\/x=B->(M (r+2) x z).natAbs<=X) (D:∀x,x=A\/x=B->(mi (M (r+2)) x (m (r+2)) l b).natAbs<=6*N) (f:(M (r+2) (m (r+2)) b).natAbs<=La) (I:¬UB M m (r+3) Hh) (E:2*((6*N+La+X)*(6*N+La+X))<=Hh):False:=by
 have w:∀x y,M (r+3) x y=M (r+2) x y-q (r+2) x*M (r+2) (m (r+2)) y:=λx y=>H.st (r+2) aq x y;have o:∀x,x≠m (r+2)->0<=M (r+3) x (c (r+2))/\M (r+3) x (c (r+2))<P (r+2):=λx d=>H.rm (r+2) aq x d;have h:∀y,M (r+3) (m (r+2)) y=M (r+2) (m (r+2)) y:=λy=>H.n8 (s:=r+2) aq y;have C:∀y j k,mi (M (r+3)) (m (r+2)) y j k=mi (M (r+2)) (m (r+2)) y j k:=λy j k=>H.fj (s:=r+2) aq y j k;have u:=H.hp (r+2) aq;have J:=H.pos (s:=r+2) aq;have a:∀x y,(M (r+3) x y).natAbs<=6*N+La+X:=λx y=>by
  by_cases d:x=m (r+2)
  ·rw[d,h];rcases p.all y with e|e|e<;>rw[e]
   ·rw[<-i];omega
   ·omega
   ·rw[t];exact Nat.zero_le _
  ·have g:x=A\/x=B:=by
    rcases G.all x with e|e|e
    ·exact .inl e
    ·exact .inr e
    ·exact(d e).elim
   rcases p.all y with e|e|e<;>rw[e]
   ·have:=o x d;rw[i]at this;omega
   ·have e:=o x d;have d:(mi (M (r+3)) x (m (r+2)) b l).natAbs<=6*N:=by
     rw[cY,Int.natAbs_neg,cS,Int.natAbs_neg,C,<-Int.natAbs_neg,<-cS];exact D x g
    rw[i]at e u;have:=ie (n:=P (r+2)) (show M (r+3) x b*M (r+3) (m (r+2)) l-M (r+3) x l*M (r+3) (m (r+2)) b=_ from F) d aq J (by rw[h];omega);rw[h]at this;omega
   ·rw[w,t,Int.mul_zero,Int.sub_zero];have:=v x g;omega
 refine I λy j k=>Nat.le_trans ?_ E;have b:=fr (a (m (r+3)) j) (a y k);have b:=fr (a (m (r+3)) k) (a y j);unfold mi;generalize M (r+3) (m (r+3)) j*M (r+3) y k=a at*;generalize M (r+3) (m (r+3)) k*M (r+3) y j=a at*;omega
end
end Go.Ap
namespace Go.Ap
section
variable {T Dt:Nat}{M:Nat->M3}{m c:Nat->F3}{P:Nat->Nat}{q:Nat->F3->Int}
theorem Sq.de(H:Sq T Dt M m c P q){a b r:Nat}(G:td P a b)(o:b<=T)(I:a<=r)(k:r+4<=b){l f z:F3}(w:D3 l f z)(n:c r=z){X L K:Nat}(k:P r<=X)(J:∀k,k=l\/k=f->(M r (m r) k).natAbs<=L)(k:X+L<=K)
 (k:∀y,y≠m r->K<(M (r+1) y l).natAbs/\M (r+1) (m r) l≠0/\(M (r+1) (m r) f=0\/K<(M (r+1) y f).natAbs)):
 c (r+1)=z/\D3 (m r) (m (r+1)) (m (r+2))/\(c (r+2)=l\/c (r+2)=f)/\M r (m r) z=- (P r:Int)/\M (r+1) (m (r+1)) z=P (r+1)/\M (r+1) (m (r+2)) z=P (r+1)/\
  (∀y,M (r+2) (m r) y=M (r+1) (m r) y+2*M (r+1) (m (r+1)) y)/\(∀y,M (r+2) (m (r+2)) y=M (r+1) (m (r+2)) y-M (r+1) (m (r+1)) y):=by
 have v:=H.next (s:=r) aq
 have j:P (r+2)<P (r+1)/\m (r+2)≠m (r+1)/\q (r+1) (m (r+2))≠0/\M (r+1) (m (r+1)) (c (r+2))≠0:=H.next (s:=r+1) aq
 have x:=H.hp (r+1) aq;have g:=H.hp (r+2) aq;have u:=λy=>H.n8 (s:=r) aq y;have C:=k _ v.2.1;have i:c (r+1)=z:=by
  rcases w.all (c (r+1))with e|e|e
  ·rw[e]at x;omega
  ·have R:M (r+1) (m r) f≠0:=by rw[u,<-e];exact v.2.2.2
   have:=C.2.2;rw[e]at x;rcases this with h|h
   ·exact(R h).elim
   ·omega
  ·exact e
 obtain⟨O,B,k,N⟩:=H.EO G o I aq (i.trans n.symm);rw[n]at O B N;have D:∀x y,M (r+2) x y=M (r+1) x y-q (r+1) x*M (r+1) (m (r+1)) y:=λx y=>H.st (r+1) aq x y;have t:∀y,M (r+2) (m r) y=M (r+1) (m r) y+2*M (r+1) (m (r+1)) y:=λy=>by rw[D,k];omega
 have p:m (r+2)≠m r:=λe=>by
  rw[e]at g;rcases w.all (c (r+2))with d|d|d
  ·rw[d,t,u]at g;have:=J l (.inl F);omega
  ·rw[d,t]at g;have k:=J f (.inr F);rcases C.2.2 with h|h
   ·rw[h]at g;have:=H.le (r+1) aq _ _ (show M (r+1) (m (r+1)) f≠0 by rw[<-d];exact j.2.2.2);omega
   ·rw[u]at g;omega
  ·exact H.wy G o I aq (i.trans n.symm) (d.trans n.symm)
 have Q:D3 (m r) (m (r+1)) (m (r+2)):=⟨Ne.symm v.2.1,Ne.symm j.2.1,Ne.symm p⟩;have A:M (r+1) (m (r+2)) z=P (r+1)/\q (r+1) (m (r+2))=1:=by
  rcases N (m (r+2)) p j.2.1 with⟨_,e⟩|e
  ·exact(j.2.2.1 e).elim
  ·exact e
 have E:∀y,M (r+2) (m (r+2)) y=M (r+1) (m (r+2)) y-M (r+1) (m (r+1)) y:=λy=>by rw[D,A.2];omega
 refine⟨i,Q,?_,O,B,A.1,t,E⟩;rcases w.all (c (r+2))with d|d|d
 ·exact .inl d
 ·exact .inr d
 ·rw[d,E,A.1,B]at g;have:=H.pos (s:=r+2) aq;omega
theorem Sq.db(H:Sq T Dt M m c P q){a b r:Nat}(v:td P a b)(Q:b<=T)(o:a<=r)(o:r+4<=b){l d z A B:F3}(U:D3 l d z)(f:D3 A B (m (r+2))){X N La:Nat}(o:P (r+2)<=X)(w:c (r+2)=d)(Y:M (r+2) (m (r+2)) z=0)
 (D:M (r+2) A d=2*M (r+2) B d) (V:∀x,x=A\/x=B->(mi (M (r+2)) x (m (r+2)) l d).natAbs<=6*N) (o:6*N+X*X<=La) (o:La<(M (r+2) (m (r+2)) l).natAbs):False:=by
 have u:P (r+3)<P (r+2)/\m (r+3)≠m (r+2)/\q (r+2) (m (r+3))≠0/\M (r+2) (m (r+2)) (c (r+3))≠0:=H.next (s:=r+2) aq
 have o:∀x y,M (r+3) x y=M (r+2) x y-q (r+2) x*M (r+2) (m (r+2)) y:=λx y=>H.st (r+2) aq x y;have K:∀x,x≠m (r+2)->0<=M (r+3) x (c (r+2))/\M (r+3) x (c (r+2))<P (r+2):=λx S=>H.rm (r+2) aq x S;have t:∀y,M (r+3) (m (r+2)) y=M (r+2) (m (r+2)) y:=λy=>H.n8 (s:=r+2) aq y;have R:∀y j k,mi (M (r+3)) (m (r+2)) y j k=mi (M (r+2)) (m (r+2)) y j k:=λy j k=>H.fj (s:=r+2) aq y j k;have x:=v (r+2) (r+3) aq aq aq;have x:=v (r+2) (r+4) aq aq aq;have S:=H.hp (r+2) aq;have g:=H.hp (r+3) aq;have y:=K A f.2.2;have x:=K B f.2.1;rw[w]at y x S;have y:=o A d;have x:=o B d;have Z:=λi D=>H.EW (s:=r+3) aq (j:=d) f.1 i D;have L:=H.le (r+3) aq B d;have o:7*(P (r+2):Int)<=8*M (r+3) B d/\M (r+3) A d=2*M (r+3) B d-P (r+2):=by
  have E:M (r+3) A d-2*M (r+3) B d=(2*q (r+2) B-q (r+2) A)*M (r+2) (m (r+2)) d:=by rw[y,x,D];grind
  obtain⟨k,W⟩ : ∃k:Int,(2*q (r+2) B-q (r+2) A)*M (r+2) (m (r+2)) d=k*P (r+2):=by
   rcases(show M (r+2) (m (r+2)) d=P (r+2)\/M (r+2) (m (r+2)) d=- (P (r+2):Int) by omega)with e|e
   ·exact⟨_,by rw[e]⟩
   ·exact⟨- (2*q (r+2) B-q (r+2) A),by rw[e];grind⟩
  rw[W]at E;have n:(0:Int)<=P (r+2):=aq;by_cases I:M (r+3) B d=0
  ·exfalso;refine Z ?_ I;rcases Int.lt_trichotomy k 0 with h|h|h
   ·have:=Dp n (show k<=- 1 by omega);omega
   ·rw[h,Int.zero_mul]at E;omega
   ·have:=Dp n (show 1<=k by omega);omega
  ·have:=L I;have O:k=- 1:=by
    rcases Int.lt_trichotomy k (- 1)with h|h|h
    ·have:=Dp n (show k<=- 2 by omega);omega
    ·exact h
    ·have:=Dp n (show 0<=k by omega);omega
   rw[O]at E;omega
 have C:m (r+3)=A\/m (r+3)=B:=by
  rcases f.all (m (r+3))with e|e|e
  ·exact .inl e
  ·exact .inr e
  ·exact(u.2.1 e).elim
 have k:=H.pos (s:=r+2) aq;rcases U.all (c (r+3))with e|e|e
 ·
  rw[e]at g;have k:M (r+3) (m (r+3)) d≠0:=by
   rcases C with h|h<;>rw[h]<;>omega
  have i:(mi (M (r+3)) (m (r+2)) (m (r+3)) l d).natAbs<=6*N:=by
   rw[R,<-Int.natAbs_neg,<-cS];exact V _ C
  have n:mi (M (r+3)) (m (r+2)) (m (r+3)) l d=M (r+3) (m (r+2)) l*M (r+3) (m (r+3)) d-M (r+3) (m (r+2)) d*M (r+3) (m (r+3)) l:=F;have k:(M (r+3) (m (r+2)) l).natAbs*1<=(M (r+3) (m (r+2)) l*M (r+3) (m (r+3)) d).natAbs:=by rw[Int.natAbs_mul];exact Nat.mul_le_mul_left _ aq
  have o:(M (r+3) (m (r+2)) d*M (r+3) (m (r+3)) l).natAbs<=X*X:=fr (by rw[t];omega) aq;rw[t]at k;rw[n]at i;rw[t l]at i;generalize M (r+2) (m (r+2)) l*M (r+3) (m (r+3)) d=J at*;generalize M (r+3) (m (r+2)) d*M (r+3) (m (r+3)) l=i at*;omega
 ·obtain⟨i,i,i,G⟩:=H.EO v Q (s:=r+2) aq aq (show c (r+3)=c (r+2) by rw[e,w]);rw[w]at G;rw[e]at g;rcases C with h|h
  ·have J:M (r+3) B d=0/\q (r+3) B=0\/M (r+3) B d=P (r+3)/\q (r+3) B=1:=G B f.2.1 (by show B≠m (r+3);rw[h];exact Ne.symm f.1);rw[h]at g;omega
  ·have J:M (r+3) A d=0/\q (r+3) A=0\/M (r+3) A d=P (r+3)/\q (r+3) A=1:=G A f.2.2 (by show A≠m (r+3);rw[h];exact f.1);rw[h]at g;omega
 ·rw[e]at u;exact u.2.2.2 Y
end
end Go.Ap
namespace Go.Ap
theorem both{M:M3}{A y u v:F3}{l a:F3}{N:Nat}(h:l=u/\a=v\/l=v/\a=u)(b:(mi M A y u v).natAbs<=N):(mi M A y l a).natAbs<=N:=by
 rcases h with⟨e,d⟩|⟨e,d⟩<;>rw[e,d]
 ·exact b
 ·rw[cY,Int.natAbs_neg];exact b
theorem yM{M:M3}{A y u v:F3}{l a:F3}(h:l=u/\a=v\/l=v/\a=u):mi M A y l a=0↔mi M A y u v=0:=by
 rcases h with⟨d,b⟩|⟨d,b⟩<;>rw[d,b];rw[cY];omega
section
variable {T Dt:Nat}{M:Nat->M3}{m c:Nat->F3}{P:Nat->Nat}{q:Nat->F3->Int}
theorem BH{r Hh N:Nat}{u v z:F3}(d:D3 u v z)(h:¬UB M m r Hh)(w:∀y,(mi (M r) (m r) y u v).natAbs<=N)(x:N<=Hh):∃l b y,D3 l b z/\(l=u/\b=v\/l=v/\b=u)/\y≠m r/\Hh<(mi (M r) (m r) y l z).natAbs:=by
 refine Classical.byContradiction λt=>h λy j k=>?_;have f:y=m r->mi (M r) (m r) y j k=0:=λe=>by rw[e,ja]
 by_cases e:y=m r
 ·rw[f e];exact Nat.zero_le _
 have f:∀l b,D3 l b z->(l=u/\b=v\/l=v/\b=u)->(mi (M r) (m r) y l z).natAbs<=Hh:=λl b C B=>Nat.le_of_not_lt λA=>t ⟨l,b,y,C,B,e,A⟩;have p:=f u v d (.inl ⟨F,F⟩);have o:=f v u d.sw (.inr ⟨F,F⟩);have s:=Nat.le_trans (w y) x;have g:∀j,mi (M r) (m r) y j j=0:=λj=>by unfold mi;grind
 rcases d.all j with n|n|n<;>rcases d.all k with i|i|i<;>rw[n,i]
 ·rw[g];exact Nat.zero_le _
 ·exact s
 ·exact p
 ·rw[cY,Int.natAbs_neg];exact s
 ·rw[g];exact Nat.zero_le _
 ·exact o
 ·rw[cY,Int.natAbs_neg];exact p
 ·rw[cY,Int.natAbs_neg];exact o
 ·rw[g];exact Nat.zero_le _
def HH(X L N K:Nat):Nat:=N*(L*X+X*(N+L*K))+L*X+(L*X+X*(N+L*K))+N+2*((12*N+L*X+X*X+X)*(12*N+L*X+X*X+X))
theorem Sq.one(H:Sq T Dt M m c P q){a b r:Nat}(hw:td P a b)(I:b<=T)(ha:a<=r)(hb:r+4<=b){u v z:F3}(hz:D3 u v z)(hc:c r=z){X L N K Hh:Nat}(R:P r<=X)(hL:∀x k,k=u\/k=v->(M r x k).natAbs<=L)(hN:∀x y,(mi (M r) x y u v).natAbs<=N)
 (hK:X+L<=K) (D:HH X L N K<=Hh) (a1:∀y,y≠m r->mi (M r) (m r) y u v≠0) (h1:¬UB M m r Hh) (U:¬UB M m (r+3) Hh):False:=by
 obtain⟨l,d,Z,j,B,a0,hh⟩:=BH hz h1 (hN _) (Nat.le_trans (by unfold HH;omega) D);have i:∀k,k=l\/k=d->(M r (m r) k).natAbs<=L:=λk h=>hL _ k (by rcases B with⟨w,t⟩|⟨w,t⟩<;>rw[w,t]at h;exact h;exact h.symm);have g:∀x y,(mi (M r) x y l d).natAbs<=N:=λx y=>both B (hN x y);have hD:Dt<=X:=Nat.le_trans (Nat.le_of_lt (H.mQ r aq)) R;have hv:∀y,y≠m r->K<(M (r+1) y l).natAbs/\M (r+1) (m r) l≠0/\(M (r+1) (m r) d=0\/K<(M (r+1) y d).natAbs):=λy u=>by
  refine H.zh aq j hc R (i l (.inl F)) (g _ _) u ?_;by_cases e:y=Z
  ·rw[e];exact Nat.lt_of_le_of_lt (Nat.le_trans (by unfold HH;omega) D) hh
  ·refine GK (H.dt (s:=r) aq (show D3 (m r) y Z from⟨Ne.symm u,e,Ne.symm a0⟩) j.FP) hD (i l (.inl F)) (g _ _) (λe=>a1 y u ((yM B).1 e)) (Nat.lt_of_le_of_lt (Nat.le_trans ?_ D) hh);unfold HH;generalize N*(L*X+X*(N+L*K))=w1;generalize (12*N+L*X+X*X+X)*(12*N+L*X+X*X+X)=w2;omega
 obtain⟨u,p,Y,d1,V,d3,J,C⟩:=H.de hw I ha hb j hc R i hK hv;have u:=(H.next (s:=r) aq).1;have u:P (r+2)<P (r+1):=(H.next (s:=r+1) aq).1;have p2:=H.hp (r+2) aq;have pA:=λy=>H.n8 (s:=r) aq y;have O:∀y,M (r+2) (m (r+1)) y=M (r+1) (m (r+1)) y:=λy=>H.n8 (s:=r+1) aq y;have n:D3 (m r) (m (r+1)) (m (r+2)):=p;have u:(mi (M (r+1)) (m r) (m (r+1)) l d).natAbs<=N:=by rw[H.fj aq];exact g _ _
 have u:(mi (M (r+1)) (m r) (m (r+2)) l d).natAbs<=N:=by rw[H.fj aq];exact g _ _
 have u:(mi (M (r+1)) (m (r+1)) (m (r+2)) l d).natAbs<=2*N:=by
  obtain⟨e,u,_,g3⟩:=H.new (s:=r) aq p.sw l d;have:=(grow g3 (H.hp r aq) (H.mQ r aq) u (H.rm r aq _ (Ne.symm p.1)) (H.rm r aq _ (Ne.symm p.2.2)) (g _ _) (g _ _)).1;have:=g (m r) (m (r+2));have:=g (m r) (m (r+1));omega
 have mA:mi (M (r+2)) (m r) (m (r+2)) l d=mi (M (r+1)) (m r) (m (r+2)) l d-mi (M (r+1)) (m r) (m (r+1)) l d+2*mi (M (r+1)) (m (r+1)) (m (r+2)) l d:=by
  simp only[mi,J,C];grind
 have mB:mi (M (r+2)) (m (r+1)) (m (r+2)) l d=mi (M (r+1)) (m (r+1)) (m (r+2)) l d:=by
  simp only[mi,O,C];grind
 have mY:M (r+1) (m r) l*M (r+2) (m (r+2)) d-M (r+1) (m r) d*M (r+2) (m (r+2)) l=mi (M (r+1)) (m r) (m (r+2)) l d-mi (M (r+1)) (m r) (m (r+1)) l d:=by
  simp only[mi,C];grind
 have Q:∀x,x=m r\/x=m (r+1)->(mi (M (r+2)) x (m (r+2)) l d).natAbs<=6*N:=λx o=>by
  rcases o with e|e<;>rw[e]
  ·rw[mA];omega
  ·rw[mB];omega
 have A:∀x,x=m r\/x=m (r+1)->(M (r+2) x z).natAbs<=X:=λx o=>by
  rcases o with e|e<;>rw[e]
  ·rw[J,pA,d1,V];omega
  ·rw[O,V];omega
 have E:M (r+2) (m (r+2)) z=0:=by rw[C,d3,V];omega
 have S:2*((6*N+(6*N+L*X+X*X)+X)*(6*N+(6*N+L*X+X*X)+X))<=Hh:=by
  have e:6*N+(6*N+L*X+X*X)+X=12*N+L*X+X*X+X:=aq;rw[e];refine Nat.le_trans ?_ D;unfold HH;exact Nat.le_add_left _ _
 have a2:=(hv (m (r+1)) (Ne.symm p.1)).2.1;have g:=λk h=>i k h;have g:∀k,k=l\/k=d->(M (r+1) (m r) k).natAbs<=L:=λk h=>by rw[pA];exact i k h
 have IF:∀k f,k=l/\f=d\/k=d/\f=l->c (r+2)=k->M (r+1) (m r) k≠0->(M (r+2) (m (r+2)) f).natAbs<=6*N+L*X+X*X:=λk f h i p=>by
  rw[i]at p2;have W:(M (r+1) (m r) f).natAbs<=L:=g f (by rcases h with⟨_,e⟩|⟨_,e⟩;exact .inr e;exact .inl e);have g:(M (r+1) (m r) k*M (r+2) (m (r+2)) f-M (r+1) (m r) f*M (r+2) (m (r+2)) k).natAbs<=2*N:=by
   rcases h with⟨w,t⟩|⟨w,t⟩<;>rw[w,t]
   ·rw[mY];omega
   ·rw[<-Int.natAbs_neg,Int.neg_sub,mY];omega
  have g:(M (r+1) (m r) f*M (r+2) (m (r+2)) k).natAbs<=L*X:=fr W aq;have g:1*(M (r+2) (m (r+2)) f).natAbs<=(M (r+1) (m r) k*M (r+2) (m (r+2)) f).natAbs:=by rw[Int.natAbs_mul];exact Nat.mul_le_mul_right _ aq
  generalize M (r+1) (m r) f*M (r+2) (m (r+2)) k=w1 at*;generalize M (r+1) (m r) k*M (r+2) (m (r+2)) f=w2 at*;omega
 have G:∀x,x=m r\/x=m (r+1)->(mi (M (r+2)) x (m (r+2)) d l).natAbs<=6*N:=λx o=>by rw[cY,Int.natAbs_neg];exact Q x o
 rcases Y with e|e
 ·exact H.wZ aq aq n j e E A Q (IF l d (.inl ⟨F,F⟩) e a2) U S
 ·by_cases g:M (r+1) (m r) d=0
  ·by_cases f:(M (r+2) (m (r+2)) l).natAbs<=6*N+L*X+X*X
   ·exact H.wZ aq aq n j.sw e E A G f U S
   ·exact H.db hw I ha hb j n (X:=X) (N:=N) (La:=6*N+L*X+X*X) aq e E (by rw[J,g,O];omega) Q aq aq
  ·exact H.wZ aq aq n j.sw e E A G (IF d l (.inr ⟨F,F⟩) e g) U S
end
end Go.Ap
namespace Go.Ap
theorem three(M:M3)(A I K u v k:F3)(a:k=u\/k=v):mi M A I u v*M K k-mi M A K u v*M I k+mi M I K u v*M A k=0:=by
 rcases a with e|e<;>subst e<;>simp only[mi]<;>grind
theorem cancel{a b c d e f:Nat}(h:d*a=e*b)(g:0<e)(i:d*c=e*f):b*c=f*a:=by
 refine Nat.eq_of_mul_eq_mul_left g ?_;rw[<-Nat.mul_assoc,<-h,<-Nat.mul_assoc,<-i];grind
section
variable {T Dt:Nat}{M:Nat->M3}{m c:Nat->F3}{P:Nat->Nat}{q:Nat->F3->Int}
theorem Sq.resume(H:Sq T Dt M m c P q){s t:Nat}(G:t<T){x K y u v z:F3}(hz:D3 u v z)(g:D3 x y K)(hx:x=m t)(b:c t=u\/c t=v){X L N be S e:Nat}{pA:F3->Nat}(j:P t<P s)(hX:P t<=X)(j:X<=L)
 (c0:c s=u\/c s=v) (aj:pA (c s)<=P s) (B:∀k,k=u\/k=v->P t<=pA k) (ai:∀k,k=u\/k=v->pA k<=L)
 (i2:mi (M t) x y u v=0) (i3:∀k,k=u\/k=v->(mi (M t) x y k z).natAbs<=L*X) (he:0<e) (j:e<=N) (i4:∀k,k=u\/k=v->(mi (M t) x K u v).natAbs*pA k=e*(M t x k).natAbs)
 {D:F3->Nat} (i5:∀k,k=u\/k=v->(mi (M t) x K k z).natAbs<=D k+2*(L*X)) (i6:∀k,k=u\/k=v->P s*D k<=be*e+S) (hS:X*((N+L)*X)<=S+2*(X*(L*X))):
 XS M c P t u v z (N+L) N (be+(S+2*(X*(L*X)))) (S+2*(X*(L*X))):=by
 subst hx;have i:=H.pos (s:=t) aq;have j:=H.mQ t aq;have a0:=H.hp t aq;have E:=λy=>H.n8 G y;have C:=λy j k=>H.fj G y j k;have rm:=λx hx=>H.rm t G x hx;have ad:Dt<=X:=aq;obtain⟨a,V,U⟩ : ∃a,(a=u\/a=v)/\(c t=u/\a=v\/c t=v/\a=u):=by
  rcases b with e|e
  ·exact⟨v,.inr F,.inl ⟨e,F⟩⟩
  ·exact⟨u,.inl F,.inr ⟨e,F⟩⟩
 have A:(M t (m t) (c t)).natAbs=P t:=a0;have j:=i4 (c t) b;have e2:=i4 a V;have dK:0<(mi (M t) (m t) K u v).natAbs:=Nat.pos_of_ne_zero λI=>by
  rw[I,Nat.zero_mul,A]at j;have:=Nat.mul_pos he i;omega
 have k:(mi (M t) (m t) K u v).natAbs<=e:=by
  refine Nat.le_of_mul_le_mul_right (c:=pA (c t)) ?_ (Nat.lt_of_lt_of_le i (B _ b));rw[j,A];exact Nat.mul_le_mul_left _ (B _ b)
 have k:(M t (m t) a).natAbs<=pA a:=by
  have Q:=cancel j he e2;rw[A]at Q;refine Nat.le_of_mul_le_mul_right (c:=P t) ?_ i;rw[Nat.mul_comm (pA a),Q];exact Nat.mul_le_mul_left _ (B _ b)
 have j:(M t (m t) a).natAbs<=L:=Nat.le_trans k (ai _ V);have J:mi (M (t+1)) (m t) y u v=0:=by rw[C];exact i2
 have O:(mi (M (t+1)) (m t) K u v).natAbs<=N:=by rw[C];omega
 have ak:mi (M (t+1)) (m t) K u v≠0:=by rw[C];omega
 have j:=rm y (Ne.symm g.1);have j:=rm K (Ne.symm g.2.2);have mm:∀w (j:Nat),(mi (M (t+1)) (m t) w u v).natAbs<=j->(mi (M (t+1)) w (m t) a (c t)).natAbs<=j:=λw j h=>by
  rw[cS,Int.natAbs_neg];rcases U with⟨r,o⟩|⟨r,o⟩<;>rw[r,o]
  ·rw[cY,Int.natAbs_neg];exact h
  ·exact h
 have j:P t<=(M (t+1) (m t) (c t)).natAbs:=by rw[E];omega
 have k:=ie (n:=P t) (show M (t+1) y a*M (t+1) (m t) (c t)-M (t+1) y (c t)*M (t+1) (m t) a=_ from F) (mm y 0 (by rw[J];exact Nat.le_refl 0)) aq i j;have R:=ie (n:=P t) (show M (t+1) K a*M (t+1) (m t) (c t)-M (t+1) K (c t)*M (t+1) (m t) a=_ from F) (mm K N O) aq i j;rw[E]at k R;have lt:∀w l,l=u\/l=v->(M (t+1) w l).natAbs<=N+L:=λw l f=>by
  have ab:l=c t\/l=a:=by
   rcases f with e|e<;>rcases U with⟨r,o⟩|⟨r,o⟩
   ·exact .inl (e.trans r.symm)
   ·exact .inr (e.trans o.symm)
   ·exact .inr (e.trans o.symm)
   ·exact .inl (e.trans r.symm)
  rcases ab with e|e<;>rw[e]<;>rcases g.all w with e3|e3|e3<;>rw[e3]
  ·rw[E];omega
  ·omega
  ·omega
  ·rw[E];omega
  ·omega
  ·omega
 have a7:(mi (M (t+1)) y K u v).natAbs<=N:=by
  have a:=three (M (t+1)) (m t) y K u v (c t) b;rw[J,Int.zero_mul,E]at a;refine Nat.le_of_mul_le_mul_right (c:=P t) ?_ i;have a:(mi (M (t+1)) y K u v).natAbs*P t=(mi (M (t+1)) (m t) K u v*M (t+1) y (c t)).natAbs:=by
   rw[<-A,<-Int.natAbs_mul];congr 1;omega
  rw[a];exact fr O aq
 have JK:∀l,l=u\/l=v->P t*(mi (M (t+1)) (m t) K l z).natAbs<=be*(mi (M (t+1)) (m t) K u v).natAbs+(S+2*(X*(L*X))):=λl f=>by
  rw[C,C];have h5:=i5 l f;have h6:=i6 l f;have h7:e*P t<=(mi (M t) (m t) K u v).natAbs*P s:=by
   have a:=i4 (c s) c0;have j:0<pA (c s):=Nat.lt_of_lt_of_le i (B _ c0);have i:M t (m t) (c s)≠0:=λI=>by
    rw[I]at a;have:=Nat.mul_pos dK j;simp at a;omega
   have:=H.le t aq _ _ i;exact Nat.le_trans (Nat.mul_le_mul_left _ this) (by rw[<-a];exact Nat.mul_le_mul_left _ aj)
  generalize (mi (M t) (m t) K u v).natAbs=d at*;generalize (mi (M t) (m t) K l z).natAbs=DK at*;generalize D l=D1 at*;have a:P t*D1<=be*d+S:=by
   refine Nat.le_of_mul_le_mul_left (c:=P s) ?_ aq;have r:P s*(P t*D1)=P t*(P s*D1):=Nat.mul_left_comm _ _ _;have o:P t*(P s*D1)<=P t*(be*e+S):=Nat.mul_le_mul_left _ h6;have a:P t*(be*e+S)=be*(e*P t)+P t*S:=aC;have a:be*(e*P t)<=be*(d*P s):=Nat.mul_le_mul_left _ h7;have a:P t*S<=P s*S:=Nat.mul_le_mul_right _ aq;have a:P s*(be*d+S)=be*(d*P s)+P s*S:=aC;omega
  have a:P t*DK<=P t*(D1+2*(L*X)):=Nat.mul_le_mul_left _ h5;have i:P t*(2*(L*X))<=X*(2*(L*X)):=Nat.mul_le_mul_right _ hX;have i:X*(2*(L*X))=2*(X*(L*X)):=Nat.mul_left_comm _ _ _;rw[Nat.mul_add]at a;omega
 refine⟨hz,b,lt,oB g (M (t+1)) (λa _=>a.natAbs<=N) u v u v aE (λa b h=>by rw[Int.natAbs_neg];exact h) (by show Int.natAbs _<=N;rw[J];exact Nat.zero_le _) a7 O,λa b l f=>?_⟩;refine oB g (M (t+1)) (λd D=>P t*D.natAbs<=(be+(S+2*(X*(L*X))))*d.natAbs+(S+2*(X*(L*X)))) u v l z aA (λa b h=>by rw[Int.natAbs_neg,Int.natAbs_neg];exact h) ?_ ?_ ?_ a b
 ·show P t*Int.natAbs _<=_;have Q:=i3 l f;rw[C];have a:P t*(mi (M t) (m t) y l z).natAbs<=X*(L*X):=Nat.mul_le_mul hX Q;omega
 ·show P t*Int.natAbs _<=_;have Z:=JK l f;have a:P t*((M (t+1) K l).natAbs*Dt)<=S+2*(X*(L*X)):=Nat.le_trans (Nat.mul_le_mul hX (Nat.mul_le_mul (lt K l f) ad)) hS;rw[<-Int.natAbs_neg,<-cS,<-Int.natAbs_neg (mi _ _ _ u v),<-cS]at Z;rw[cS,Int.natAbs_neg,cS (M (t+1)) K y u,Int.natAbs_neg];have W:D3 K y (m t):=⟨Ne.symm g.2.1,Ne.symm g.1,Ne.symm g.2.2⟩;have Y:mi (M (t+1)) K (m t) u v≠0:=λI=>ak (by rw[cS,I];rfl);rcases f with e|e<;>subst e
  ·have:=Jc (p:=P t) (H.dt (s:=t+1) G W hz.FP) Y Z;omega
  ·have:=Jc (p:=P t) (be:=be) (S:=S+2*(X*(L*X))) (H.dt (s:=t+1) G W hz.sw.FP) (λe=>Y (by rw[cY,e];rfl)) (by rw[cY (M (t+1)) K (m t) u,Int.natAbs_neg];exact Z);rw[cY (M (t+1)) K y u,Int.natAbs_neg]at this;omega
 ·exact Nat.le_trans (JK l f) (Nat.add_le_add_right (Nat.mul_le_mul_right _ (Nat.le_add_right _ _)) _)
end
end Go.Ap
namespace Go.Ap
section
variable {T Dt:Nat}{M:Nat->M3}{m c:Nat->F3}{P:Nat->Nat}{q:Nat->F3->Int}
structure Pz(M:Nat->M3)(m:Nat->F3)(r:Nat)(I K u v z:F3)(X L N K0:Nat):Prop where
 d:D3 (m r) I K
 zero:mi (M r) (m r) I u v=0
 dK:mi (M r) (m r) K u v≠0
 nA:∀k,k=u\/k=v->M r (m r) k≠0
 li:∀k,k=u\/k=v->(mi (M r) (m r) I k z).natAbs<=L*X
 hv:∀k,k=u\/k=v->K0<(M (r+1) K k).natAbs
 lI:∀k,k=u\/k=v->(M (r+1) I k).natAbs<=L*X+L
theorem Sq.pz(H:Sq T Dt M m c P q){r:Nat}(d:r<T){u v z I:F3}(f:D3 u v z)(R:c r=z){X L N Hh K0:Nat}(S:P r<=X)(E:∀x k,k=u\/k=v->(M r x k).natAbs<=L)(U:∀x y,(mi (M r) x y u v).natAbs<=N)
 (V:I≠m r) (j:mi (M r) (m r) I u v=0) (h1:¬UB M m r Hh) (x:L*X+X*(N+L*K0)+N<=Hh):∃K,Pz M m r I K u v z X L N K0:=by
 have h:=D3.mk' (Ne.symm V);have x:Dt<=X:=Nat.le_trans (Nat.le_of_lt (H.mQ r aq)) S;have dK:mi (M r) (m r) (th (m r) I) u v≠0:=λe=>H.Iu aq h f j e;have t:∀l a,D3 l a z->(l=u/\a=v\/l=v/\a=u)->(mi (M r) (m r) I l z).natAbs<=L*X:=λl a B b=>by
  have cr:=u6 (M r) (m r) I (th (m r) I) l a z;rw[(yM b).2 j,Int.zero_mul,Int.sub_zero]at cr;have x:=H.dt (s:=r) aq h B.FP;have k1:1*(mi (M r) (m r) I l z).natAbs<=(mi (M r) (m r) (th (m r) I) l a*mi (M r) (m r) I l z).natAbs:=by
   rw[Int.natAbs_mul];have:mi (M r) (m r) (th (m r) I) l a≠0:=λe=>dK ((yM b).1 e);exact Nat.mul_le_mul_right _ aq
  have x:(M r (m r) l*Ap.dt (M r) (m r) I (th (m r) I) l z a).natAbs<=L*X:=fr (E _ _ (by rcases b with⟨e,_⟩|⟨e,_⟩;exact .inl e;exact .inr e)) aq;rw[cr]at k1;omega
 have A:∀k,k=u\/k=v->(mi (M r) (m r) I k z).natAbs<=L*X:=λk g=>by
  rcases g with e|e<;>subst e
  ·exact t _ _ f (.inl ⟨F,F⟩)
  ·exact t _ _ f.sw (.inr ⟨F,F⟩)
 obtain⟨l,a,y,B,b,hy,C⟩:=BH f h1 (U _) aq;have w:l=u\/l=v:=by rcases b with⟨e,_⟩|⟨e,_⟩;exact .inl e;exact .inr e
 have f:a=u\/a=v:=by rcases b with⟨_,e⟩|⟨_,e⟩;exact .inr e;exact .inl e
 have a0:y=th (m r) I:=by
  rcases h.all y with e|e|e
  ·exact(hy e).elim
  ·rw[e]at C;have:=A l w;omega
  ·exact e
 rw[a0]at C;obtain⟨g1,G,W⟩:=H.zh d B R S (E _ l w) (both b (U _ _)) (Ne.symm h.2.2) (K:=K0) (Nat.lt_of_le_of_lt aq C);rw[H.n8 d l]at G;rw[H.n8 d a]at W;have p:M r (m r) a≠0:=λe=>by
  have i:=(yM b).2 j;unfold mi at i;rw[e,Int.zero_mul,Int.sub_zero]at i;rcases Int.mul_eq_zero.1 i with J|J
  ·exact G J
  ·exact H.EW aq h.1 e J
 have a3:K0<(M (r+1) (th (m r) I) a).natAbs:=by
  rcases W with e|e
  ·exact(p e).elim
  ·exact e
 have o:∀(f:F3->Prop),f l->f a->∀k,k=u\/k=v->f k:=λf Z Y k g=>by
  rcases g with e|e<;>rcases b with⟨Q,O⟩|⟨Q,O⟩<;>rw[e]
  ·rw[<-Q];exact Z
  ·rw[<-O];exact Y
  ·rw[<-O];exact Y
  ·rw[<-Q];exact Z
 refine⟨_,h,j,dK,o (λk=>M r (m r) k≠0) G p,A,o (λk=>K0<(M (r+1) (th (m r) I) k).natAbs) g1 a3,λk g=>?_⟩;have b:=H.rm r d I V;have a:=H.hp r aq;rw[R]at b a;have i:(mi (M (r+1)) I (m r) k z).natAbs<=L*X:=by rw[cS,Int.natAbs_neg,H.fj d];exact A k g
 have:=ie (n:=P r) (show M (r+1) I k*M (r+1) (m r) z-M (r+1) I z*M (r+1) (m r) k=_ by unfold mi at *;rfl) (D:=L*X) (by exact i) aq (H.pos aq) (by rw[H.n8 d];omega);rw[H.n8 d]at this;have:=E (m r) k g;omega
theorem Sq.Jy(H:Sq T Dt M m c P q){a b r:Nat}(D:td P a b)(w:b<=T)(E:a<=r)(k:r+3<=b){u v z I K:F3}(n:D3 u v z)(j:c r=z){X L N K0:Nat}(k:P r<=X)(R:∀x k,k=u\/k=v->(M r x k).natAbs<=L)
 (h:Pz M m r I K u v z X L N K0) (k:X+L*X+L<=K0):m (r+1)=I/\(c (r+1)=u\/c (r+1)=v\/c (r+1)=z/\m (r+2)=m r/\(c (r+2)=u\/c (r+2)=v)/\
  (∀y,M (r+2) (m r) y=M (r+1) (m r) y+2*M (r+1) I y)):=by
 have V:=H.next (s:=r) aq
 have l:P (r+2)<P (r+1)/\m (r+2)≠m (r+1)/\q (r+1) (m (r+2))≠0/\M (r+1) (m (r+1)) (c (r+2))≠0:=H.next (s:=r+1) aq
 have C:=H.hp (r+1) aq;have i:=H.hp (r+2) aq;have Q:=λy=>H.n8 (s:=r) aq y;have A:∀x y,M (r+2) x y=M (r+1) x y-q (r+1) x*M (r+1) (m (r+1)) y:=λx y=>H.st (r+1) aq x y;have k:=H.pos (s:=r+2) aq;have W:m (r+1)=I\/m (r+1)=K:=by
  rcases h.d.all (m (r+1))with e|e|e
  ·exact(V.2.1 e).elim
  ·exact .inl e
  ·exact .inr e
 have S:=λ(k:c (r+1)=z)=>H.EO D w E aq (k.trans j.symm);rcases W with f|f
 ·refine⟨f,?_⟩;rcases n.all (c (r+1))with e|e|e
  ·exact .inl e
  ·exact .inr (.inl e)
  ·obtain⟨O,p,J,o⟩:=S e;rw[j]at O p o;have U:∀y,M (r+2) (m r) y=M (r+1) (m r) y+2*M (r+1) I y:=λy=>by rw[A,J,f];omega
   have Y:m (r+2)=m r:=by
    rcases h.d.all (m (r+2))with g|g|g
    ·exact g
    ·exact(l.2.1 (g.trans f.symm)).elim
    ·exfalso;rw[g]at l i;have k:M (r+1) K z=0/\q (r+1) K=0\/M (r+1) K z=P (r+1)/\q (r+1) K=1:=o K (Ne.symm h.d.2.2) (by show K≠m (r+1);rw[f];exact Ne.symm h.d.2.1);rcases k with⟨_,e3⟩|⟨e3,G⟩
     ·exact l.2.2.1 e3
     ·rw[A,G,f]at i;rcases n.all (c (r+2))with d|d|d<;>rw[d]at i
      ·have:=h.hv u (.inl F);have:=h.lI u (.inl F);omega
      ·have:=h.hv v (.inr F);have:=h.lI v (.inr F);omega
      ·rw[f]at p;omega
   refine .inr (.inr ⟨e,Y,?_,U⟩);rcases n.all (c (r+2))with d|d|d
   ·exact .inl d
   ·exact .inr d
   ·exact(H.wy D w E aq (e.trans j.symm) (d.trans j.symm)).elim
 ·exfalso;rw[f]at C;rcases n.all (c (r+1))with e|e|e
  ·rw[e]at C;have:=h.hv u (.inl F);omega
  ·rw[e]at C;have:=h.hv v (.inr F);omega
  ·obtain⟨O,p,J,o⟩:=S e;rw[j]at O p o;rcases h.d.all (m (r+2))with g|g|g
   ·rw[g,A,J,f]at i;rcases n.all (c (r+2))with d|d|d
    ·rw[d,Q]at i;have:=h.hv u (.inl F);have:=R (m r) u (.inl F);omega
    ·rw[d,Q]at i;have:=h.hv v (.inr F);have:=R (m r) v (.inr F);omega
    ·exact H.wy D w E aq (e.trans j.symm) (d.trans j.symm)
   ·rw[g]at l i;have e:M (r+1) I z=0/\q (r+1) I=0\/M (r+1) I z=P (r+1)/\q (r+1) I=1:=o I (Ne.symm h.d.1) (by show I≠m (r+1);rw[f];exact h.d.2.1);rcases e with⟨_,e3⟩|⟨e3,G⟩
    ·exact l.2.2.1 e3
    ·rw[A,G,f]at i;rcases n.all (c (r+2))with d|d|d<;>rw[d]at i
     ·have:=h.hv u (.inl F);have:=h.lI u (.inl F);omega
     ·have:=h.hv v (.inr F);have:=h.lI v (.inr F);omega
     ·rw[f]at p;omega
   ·exact l.2.1 (g.trans f.symm)
end
end Go.Ap
namespace Go.Ap
section
variable {T Dt:Nat}{M:Nat->M3}{m c:Nat->F3}{P:Nat->Nat}{q:Nat->F3->Int}
theorem Sq.two(H:Sq T Dt M m c P q){a b s:Nat}(hw:td P a b)(a1:b<=T)(ha:a<=s+1)(x:s+4<=b){u v z I:F3}{X L N be S Hh K0:Nat}(h:XS M c P s u v z L N be S)(x:c (s+1)=z)(G:P s<=X)(w:X<=L)
 (G:I≠m (s+1)) (n:mi (M (s+1)) (m (s+1)) I u v=0) (h1:¬UB M m (s+1) Hh) (hH:L*X+X*(N+L*K0)+N<=Hh) (hK:X+L*X+L<=K0) (hS:X*((N+L)*X)<=S):
 XS M c P (s+2) u v z (N+L) N (be+(S+2*(X*(L*X)))) (S+2*(X*(L*X)))\/XS M c P (s+3) u v z (N+L) N (be+(S+2*(X*(L*X)))) (S+2*(X*(L*X))):=by
 have n0:=H.next (s:=s) aq
 have n1:P (s+2)<P (s+1)/\m (s+2)≠m (s+1)/\q (s+1) (m (s+2))≠0/\M (s+1) (m (s+1)) (c (s+2))≠0:=H.next (s:=s+1) aq
 have n2:P (s+3)<P (s+2):=(H.next (s:=s+2) aq).1;obtain⟨K,g⟩:=H.pz (r:=s+1) aq h.hz x (X:=X) aq h.lt h.mn G n h1 hH;obtain⟨hm,G⟩:=H.Jy hw a1 (r:=s+1) ha aq h.hz x (X:=X) aq h.lt g hK;have i:m (s+2)=I:=hm;have x:=H.rm s aq (m (s+1)) n0.2.1;have Y:=g.nA;have p:=λk d=>H.le (s+1) aq (m (s+1)) k (Y k d);have x:=λy j k=>H.fj (s:=s+1) aq y j k;have f:∀y j k,mi (M (s+2)) (m (s+1)) y j k=mi (M (s+1)) (m (s+1)) y j k:=x;have pA:∀y,M (s+2) (m (s+1)) y=M (s+1) (m (s+1)) y:=λy=>H.n8 (s:=s+1) aq y;have x:∀x,x≠m (s+1)->0<=M (s+2) x (c (s+1))/\M (s+2) x (c (s+1))<P (s+1):=λx hx=>H.rm (s+1) aq x hx;have l:∀k,k=u\/k=v->mi (M (s+2)) I K u v*M (s+1) (m (s+1)) k=mi (M (s+1)) (m (s+1)) K u v*M (s+2) I k:=λk d=>by
  have B:=three (M (s+2)) (m (s+1)) I K u v k d;rw[f,f,pA,n,Int.zero_mul]at B;omega
 have Q:∀k,k=u\/k=v->(mi (M (s+2)) I K k z).natAbs<=(mi (M (s+1)) (m (s+1)) K k z).natAbs+L*X:=λk d=>by
  obtain⟨e,o,_,e3⟩:=H.new (s:=s+1) aq g.d.sw k z;have h4:(mi (M (s+2)) I K k z).natAbs<=(mi (M (s+1)) (m (s+1)) K k z).natAbs+(mi (M (s+1)) (m (s+1)) I k z).natAbs:=(grow e3 (H.hp (s+1) aq) (H.mQ (s+1) aq) o (H.rm (s+1) aq _ (Ne.symm g.d.1)) (H.rm (s+1) aq _ (Ne.symm g.d.2.2)) (V:=(mi (M (s+1)) (m (s+1)) K k z).natAbs+(mi (M (s+1)) (m (s+1)) I k z).natAbs) aq aq).1;have:=g.li k d;omega
 have A:X*((N+L)*X)<=S+2*(X*(L*X)):=Nat.le_trans hS (Nat.le_add_right _ _);have U:0<(mi (M (s+1)) (m (s+1)) K u v).natAbs:=by have:=g.dK;omega
 have O:∀k,k=u\/k=v->P s*(mi (M (s+1)) (m (s+1)) K k z).natAbs<=be*(mi (M (s+1)) (m (s+1)) K u v).natAbs+S:=λk d=>h.J _ _ k d;rcases G with e|e|⟨x,Z,a0,x⟩
 ·refine .inl (H.resume (s:=s) (t:=s+2) aq h.hz g.d.sw i.symm (.inl e) (pA:=λk=>(M (s+1) (m (s+1)) k).natAbs) (e:=(mi (M (s+1)) (m (s+1)) K u v).natAbs) (D:=λk=>(mi (M (s+1)) (m (s+1)) K k z).natAbs)
   aq aq w h.cu aq (λk d=>by have:=p k d;omega) (λk d=>h.lt _ k d) ?_ ?_ U (h.mn _ _) ?_ (λk d=>by have:=Q k d;omega) O A)
  ·rw[cS,f,n];rfl
  ·exact λk d=>by rw[cS,Int.natAbs_neg,f];exact g.li k d
  ·exact λk d=>by rw[<-Int.natAbs_mul,<-Int.natAbs_mul,l k d]
 ·refine .inl (H.resume (s:=s) (t:=s+2) aq h.hz g.d.sw i.symm (.inr e) (pA:=λk=>(M (s+1) (m (s+1)) k).natAbs) (e:=(mi (M (s+1)) (m (s+1)) K u v).natAbs) (D:=λk=>(mi (M (s+1)) (m (s+1)) K k z).natAbs)
   aq aq w h.cu aq (λk d=>by have:=p k d;omega) (λk d=>h.lt _ k d) ?_ ?_ U (h.mn _ _) ?_ (λk d=>by have:=Q k d;omega) O A)
  ·rw[cS,f,n];rfl
  ·exact λk d=>by rw[cS,Int.natAbs_neg,f];exact g.li k d
  ·exact λk d=>by rw[<-Int.natAbs_mul,<-Int.natAbs_mul,l k d]
 ·have W:m (s+3)=m (s+1):=Z;have E:∀y j k,mi (M (s+3)) I y j k=mi (M (s+2)) I y j k:=λy j k=>by
   have:=H.fj (s:=s+2) aq y j k;rw[i]at this;exact this
  have qI:∀y,M (s+3) I y=M (s+2) I y:=λy=>by
   have:=H.n8 (s:=s+2) aq y;rw[i]at this;exact this
  have z2:mi (M (s+3)) (m (s+1)) I u v=0:=by rw[cS,E,cS,f,n];rfl
  have nI:∀k,k=u\/k=v->M (s+2) I k≠0:=λk d e=>by
   have C:=l k d;rw[e,Int.mul_zero]at C;rcases Int.mul_eq_zero.1 C with R|R
   ·
    exact H.Iu (s:=s+2) aq g.d.sw h.hz (by rw[cS,f,n];rfl) R
   ·exact Y k d R
  have x:∀k,k=u\/k=v->mi (M (s+3)) (m (s+1)) K u v*M (s+1) (m (s+1)) k=mi (M (s+1)) (m (s+1)) K u v*M (s+3) (m (s+1)) k:=λk d=>by
   have B:=three (M (s+3)) I (m (s+1)) K u v k d;rw[E,E,qI]at B;have j:mi (M (s+2)) I (m (s+1)) u v=0:=by rw[cS,f,n];rfl
   rw[j,Int.zero_mul]at B;have C:=l k d;refine Int.eq_of_mul_eq_mul_right (nI k d) ?_;have o:mi (M (s+3)) (m (s+1)) K u v*M (s+2) I k=mi (M (s+2)) I K u v*M (s+3) (m (s+1)) k:=aq
   calc mi (M (s+3)) (m (s+1)) K u v*M (s+1) (m (s+1)) k*M (s+2) I k
    = (mi (M (s+3)) (m (s+1)) K u v*M (s+2) I k)*M (s+1) (m (s+1)) k:=aC
    _=(mi (M (s+2)) I K u v*M (s+1) (m (s+1)) k)*M (s+3) (m (s+1)) k:=by rw[o];grind
    _=mi (M (s+1)) (m (s+1)) K u v*M (s+3) (m (s+1)) k*M (s+2) I k:=by rw[C];grind
  have n:∀k,k=u\/k=v->(mi (M (s+3)) (m (s+1)) K k z).natAbs<=(mi (M (s+2)) I K k z).natAbs+L*X:=λk d=>by
   have j:D3 (m (s+1)) (m (s+2)) K:=by rw[i];exact g.d
   obtain⟨e,o,_,e3⟩:=H.new (s:=s+2) aq j k z;rw[i]at e3;have l:(mi (M (s+2)) I (m (s+1)) k z).natAbs<=L*X:=by rw[cS,Int.natAbs_neg,f];exact g.li k d
   have l:(M (s+2) I (c (s+2))).natAbs=P (s+2):=by rw[<-i];exact H.hp (s+2) aq
   have h4:(mi (M (s+3)) (m (s+1)) K k z).natAbs<=(mi (M (s+2)) I K k z).natAbs+(mi (M (s+2)) I (m (s+1)) k z).natAbs:=(grow e3 l (H.mQ (s+2) aq) o (H.rm (s+2) aq _ j.1) (H.rm (s+2) aq _ (Ne.symm j.2.1)) (V:=(mi (M (s+2)) I K k z).natAbs+(mi (M (s+2)) I (m (s+1)) k z).natAbs) aq aq).1;omega
  refine .inr (H.resume (s:=s) (t:=s+3) aq h.hz g.d W.symm a0 (pA:=λk=>(M (s+1) (m (s+1)) k).natAbs) (e:=(mi (M (s+1)) (m (s+1)) K u v).natAbs) (D:=λk=>(mi (M (s+1)) (m (s+1)) K k z).natAbs)
   aq aq w h.cu aq (λk d=>by have:=p k d;omega) (λk d=>h.lt _ k d) z2 ?_ U (h.mn _ _) ?_ (λk d=>by have:=Q k d;have:=n k d;omega) O A)
  ·exact λk d=>by rw[cS,Int.natAbs_neg,E,cS,Int.natAbs_neg,f];exact g.li k d
  ·exact λk d=>by rw[<-Int.natAbs_mul,<-Int.natAbs_mul,x k d]
end
end Go.Ap
