import Derived.Test.YtmfndnlifgphjaaGreatQzH
import Derived.Test.YtmfndnlifgphjaaGreatQzD
set_option maxHeartbeats 64000000
open Go.Proofs.YtmfndnlifgphjaaGreat
namespace Go.Se
section
open Go.bc Go.Sm Go.Ap
def qd(k:Nat)(D:Mt):M3:=λi j=>D (k+i.val) (k+j.val)
theorem EL(A:Mt):aQ 2 A=A 0 0*A 1 1-A 0 1*A 1 0:=by
 simp[aQ,sm,fq,minor,skip];grind
theorem EK(A:Mt):aQ 3 A=A 0 0*(A 1 1*A 2 2-A 1 2*A 2 1)-A 0 1*(A 1 0*A 2 2-A 1 2*A 2 0)+A 0 2*(A 1 0*A 2 1-A 1 1*A 2 0):=by
 simp[aQ,sm,fq,minor,skip];grind
theorem sW(k:Nat)(D:Mt):dt (qd k D) 0 1 2 0 1 2=aQ 3 (λi j=>D (k+i) (k+j)):=by
 rw[EK];simp only[dt,mi,qd];show _=_;simp only[show((0:F3).val)=0 from F,show((1:F3).val)=1 from F,show((2:F3).val)=2 from F,Nat.add_zero]
theorem Br(k:Nat)(D:Mt)(a b i j:F3):mi (qd k D) a b i j=D (k+a.val) (k+i.val)*D (k+b.val) (k+j.val)-D (k+a.val) (k+j.val)*D (k+b.val) (k+i.val):=F
def ix(k i:Nat):F3:=if i=k then 0 else if i=k+1 then 1 else 2
theorem mF{k i:Nat}(h1:k<=i)(a:i<k+3):k+(ix k i).val=i:=by
 unfold ix;split
 ·show k+0=i;omega
 ·split
  ·show k+1=i;omega
  ·show k+2=i;omega
def Rb(n k x y:Nat)(D:Mt):Prop:=n=k+3/\∃a,0<a/\a<=4294967296/\(dt (qd k D) 0 1 2 0 1 2).natAbs=a/\Rc a x y (qd k D)
section
variable {n k x y:Nat}{D:Mt}
theorem Rb.mi(h:Rb n k x y D){a b i j:Nat}(f:k<=a/\a<n)(e:k<=b/\b<n)(d:k<=i/\i<n)(c:k<=j/\j<n):(D a i*D b j-D a j*D b i).natAbs<=2^Gb x y:=by
 obtain⟨rfl,g,g,g,g,h⟩:=h;have:=h.minors (ix k a) (ix k b) (ix k i) (ix k j);rw[Br,mF f.1 f.2,mF e.1 e.2,mF d.1 d.2,mF c.1 c.2]at this;exact this
theorem Rb.en(h:Rb n k x y D){i j:Nat}(b:k<=i/\i<n)(a:k<=j/\j<n):(D i j).natAbs<=2^(2*Gb x y+1):=by
 obtain⟨rfl,c,d,c,c,h⟩:=h;have:=h.entry c d (ix k i) (ix k j);simp only[qd,mF b.1 b.2,mF a.1 a.2]at this;refine Nat.le_trans this (Nat.le_of_eq ?_);rw[<-Nat.pow_add,Nat.pow_succ,Nat.mul_comm,Nat.two_mul]
theorem Iw{n k s:Nat}{N:Mt}{I J:Nat->Nat}(c:∀t,t<s->(k<=I t/\I t<n)/\k<=J t/\J t<n)(d:aQ s (cj N I J)≠0):s<=n-k:=by
 refine(tV.rows (n-k) n (λi j=>N (i+k) j)).le ⟨λt=>I t-k,J,λt a=>by have:=c t a;show I t-k<n-k/\J t<n;omega,?_⟩;have e:aQ s (λa b=>N (I a-k+k) (J b))=aQ s (cj N I J):=aY λa b b _=>by
  have f:=c a b;simp only[cj];rw[show I a-k+k=I a by omega]
 exact λh=>d (e ▸ h)
theorem Rb.tm(h:Rb n k x y D):Tm n k (2^(3*Gb x y+40)) D:=by
 intro s I J c;by_cases d:aQ s (cj D I J)=0
 ·rw[d];exact Nat.zero_le _
 have f:=Iw c d;have d:=h.1;have l:∀e,e<=3*Gb x y+40->2^e<=2^(3*Gb x y+40):=λe d=>Nat.pow_le_pow_right ar d;have m:∀{a b:Nat},k<=a/\a<n->k<=b/\b<n->(D a b).natAbs<=2^(2*Gb x y+1):=λf d=>h.en f d;rcases(show s=0\/s=1\/s=2\/s=3 by omega)with rfl|rfl|rfl|rfl
 ·show(1:Int).natAbs<=_;exact Nat.pow_pos ar
 ·have e:aQ 1 (cj D I J)=D (I 0) (J 0):=by simp[aQ,sm,fq,cj]
  rw[e];exact Nat.le_trans (m (c 0 aq).1 (c 0 aq).2) (l _ aq)
 ·rw[EL];exact Nat.le_trans (h.mi (c 0 aq).1 (c 1 aq).1 (c 0 aq).2 (c 1 aq).2) (l _ aq)
 ·rw[EK];have i:=(c 0 aq);have g:=(c 1 aq);have e:=(c 2 aq);have f:∀(a b c d j:Nat),(k<=a/\a<n)->(k<=b/\b<n)->(k<=c/\c<n)->(k<=d/\d<n)->(k<=j/\j<n)->∀w,(k<=w/\w<n)->(D w a*(D b d*D c j-D b j*D c d)).natAbs<=2^(3*Gb x y+1):=λa b c d j o j d c b w a=>by
   have:=fr (m a o) (h.mi j d c b);rw[<-Nat.pow_add]at this;rw[show 3*Gb x y+1=2*Gb x y+1+Gb x y by omega];exact this
  have a:=f (J 0) (I 1) (I 2) (J 1) (J 2) i.2 g.1 e.1 g.2 e.2 (I 0) i.1;have a:=f (J 1) (I 1) (I 2) (J 0) (J 2) g.2 g.1 e.1 i.2 e.2 (I 0) i.1;have a:=f (J 2) (I 1) (I 2) (J 0) (J 1) e.2 g.1 e.1 i.2 g.2 (I 0) i.1;have g:4*2^(3*Gb x y+1)<=2^(3*Gb x y+40):=by
   refine Nat.le_trans (Nat.le_of_eq ?_) (l (3*Gb x y+3) aq);rw[show 3*Gb x y+3=3*Gb x y+1+2 by omega,Nat.pow_add 2 _ 2];omega
  simp only[cj];generalize D (I 0) (J 0)*(D (I 1) (J 1)*D (I 2) (J 2)-D (I 1) (J 2)*D (I 2) (J 1))=a at*;generalize D (I 0) (J 1)*(D (I 1) (J 0)*D (I 2) (J 2)-D (I 1) (J 2)*D (I 2) (J 0))=a at*;generalize D (I 0) (J 2)*(D (I 1) (J 0)*D (I 2) (J 1)-D (I 1) (J 1)*D (I 2) (J 0))=a at*;generalize 2^(3*Gb x y+1)=a at*;generalize 2^(3*Gb x y+40)=a at*;omega
theorem AJ{k p:Nat}(a:k<=p)(jv:p<k+3):Di (λi:F3=>ix k (sx k p (k+i.val)))/\∀i:F3,k+(ix k (sx k p (k+i.val))).val=sx k p (k+i.val):=by
 have v:∀i:F3,k+(ix k (sx k p (k+i.val))).val=sx k p (k+i.val):=λi=>mF (kN a aq) (g_ aq jv (by have:=i.isLt;omega));refine⟨λi j a=>?_,v⟩;have b:sx k p (k+i.val)=sx k p (k+j.val):=by rw[<-v i,<-v j];exact congrArg (λz:F3=>k+z.val) a
 have a:=congrArg (sx k p) b;rw[AI,AI]at a;exact Fin.ext aq
theorem Rb.swp(h:Rb n k x y D){p c:Nat}(a:nK n k D p c):Rb n k x y (Go.Sm.swp D k p c):=by
 obtain⟨rfl,q,o,m,l,h⟩:=h;obtain⟨d,g⟩:=AJ a.hp a.jv;obtain⟨b,f⟩:=AJ a.hc a.ma;have e:qd k (Go.Sm.swp D k p c)=λi j=>qd k D (ix k (sx k p (k+i.val))) (ix k (sx k c (k+j.val))):=by
  funext i j;simp only[qd,Go.Sm.swp,g,f]
 refine⟨F,q,o,m,?_,by rw[e];exact h.swap d b⟩;rw[e,<-l];exact o6 (qd k D) d.d b.d
theorem Rb.bo(h:Rb n k x y D)(d:∀i j,k<=i->i<n->k<=j->j<n->D i j≠0->(D k k).natAbs<=(D i j).natAbs)(c:4294967296<(D k k).natAbs):Rb n k x y (Go.Sm.bo D k n):=by
 obtain⟨rfl,c,o,m,l,h⟩:=h;have f:=h.step (B':=qd k (Go.Sm.bo D k (k+3))) (g:=λi=>if k<k+i.val/\k+i.val<k+3 then D (k+i.val) k/D k k else 0) (λi j e=>d _ _ aq (by have:=i.isLt;omega) aq (by have:=j.isLt;omega) e)
  (by show c<(D (k+0) (k+0)).natAbs;rw[Nat.add_zero];omega) (aa (by show¬(k<k+0/\k+0<k+3);omega)) (λi j=>by
   show Go.Sm.bo D k (k+3) (k+i.val) (k+j.val)=D (k+i.val) (k+j.val)-_*D (k+0) (k+j.val);rw[jH];simp only[Nat.add_zero]) (λi d=>by
   have e:0<i.val:=Nat.pos_of_ne_zero λe=>d (Fin.ext e);have:=i.isLt;show 0<=Go.Sm.bo D k (k+3) (k+i.val) (k+0)/\Go.Sm.bo D k (k+3) (k+i.val) (k+0)<((D (k+0) (k+0)).natAbs:Int);simp only[Nat.add_zero];have e:Go.Sm.bo D k (k+3) (k+i.val) k=D (k+i.val) k%D k k:=by
    simp only[Go.Sm.bo];rw[ae aq,mod_eq]
   rw[e];exact ka F aq)
 refine⟨F,c,o,m,?_,f⟩;rw[<-l,sW,sW];have c:Go.Sm.bo D k (k+3) k=D k:=by funext j;simp only[Go.Sm.bo];rw[aa aq]
 rw[EK,EK];simp only[Nat.add_zero,c];have d:∀j,Go.Sm.bo D k (k+3) (k+1) j=D (k+1) j-D (k+1) k/D k k*D k j:=λj=>by simp only[Go.Sm.bo];rw[ae aq]
 have c:∀j,Go.Sm.bo D k (k+3) (k+2) j=D (k+2) j-D (k+2) k/D k k*D k j:=λj=>by simp only[Go.Sm.bo];rw[ae aq]
 simp only[d,c];congr 1;generalize D (k+1) k/D k k=a;generalize D (k+2) k/D k k=b;grind
theorem Rb.start{x:Nat}(e:n=k+3)(l:Dg n k D)(g:n<=4)(b:aQ n D≠0)(h:(aQ n D).natAbs<=4294967296)(f:Tm n k (2^x) D):Rb n k x x D:=by
 subst e;have a:∃d:Int,aQ (k+3) D=d*aQ 3 (λi j=>D (k+i) (k+j)):=by
  rcases(show k=0\/k=1 by omega)with rfl|rfl
  ·exact⟨1,by rw[Int.one_mul];exact aY λi j _ _=>by rw[Nat.zero_add,Nat.zero_add]⟩
  ·refine⟨D 0 0,?_⟩;show aQ 4 D=_;have z:∀j,j<4->j≠0->fq j*D 0 j*aQ 3 (minor D 0 j)=0:=λj g e=>by
    rw[l 0 j aq g (.inl aq) (Ne.symm e)];simp
   have e:aQ 4 D=sm 4 λj=>fq j*D 0 j*aQ 3 (minor D 0 j):=F;rw[e,cG (c:=0) aq z];have g:minor D 0 0=λi j=>D (1+i) (1+j):=by
    funext i j;simp only[minor,dV,Nat.add_comm]
   rw[g];show(1:Int)*D 0 0*_=_;rw[Int.one_mul]
 obtain⟨d,a⟩:=a;have g:aQ 3 (λi j=>D (k+i) (k+j))≠0:=λe=>b (by rw[a,e,Int.mul_zero]);have g:d≠0:=λe=>b (by rw[a,e,Int.zero_mul]);have b:(aQ 3 λi j=>D (k+i) (k+j)).natAbs<=4294967296:=by
  rw[a,Int.natAbs_mul]at h;have:1*(aQ 3 λi j=>D (k+i) (k+j)).natAbs<=d.natAbs*(aQ 3 λi j=>D (k+i) (k+j)).natAbs:=Nat.mul_le_mul_right _ aq;omega
 refine⟨F,_,aq,b,by rw[sW],Rc.start (by rw[sW]) aq (λi j=>f.entry aq (by have:=i.isLt;omega) aq (by have:=j.isLt;omega)) λa b i j=>?_⟩;have:=f 2 (λt=>if t=0 then k+a.val else k+b.val) (λt=>if t=0 then k+i.val else k+j.val) λt d=>by
  have:=a.isLt;have:=b.isLt;have:=i.isLt;have:=j.isLt;constructor<;>(show k<=(if t=0 then _ else _)/\(if t=0 then _ else _)<_;split<;>omega)
 rw[EL]at this;simpa[cj,Br]using this
end
end
section
open Go.bc Go.Sm
structure Ph(mO:Nat->Nat)(D P0 R:Nat):Prop where
 lt:∀P P',P∣D->P'∣D->P<=P0->P'<P->mO P'<mO P
 le:∀P,P∣D->P<=P0->mO P+1<=R
def Hv(mO:Nat->Nat)(R D P0 Q c u:Nat):Prop:=(u=0/\c=0)\/∃P,P∣D/\P<=P0/\((c=0/\Q<P/\u<=2*(R-mO P))\/(c=1/\Q=P/\u+1<=2*(R-mO P)))
section
variable {mO:Nat->Nat}{R D P0 Q c u P:Nat}
theorem Hv.le(h:Hv mO R D P0 Q c u):u<=2*R:=by
 rcases h with⟨h,_⟩|⟨P,_,_,⟨_,_,h⟩|⟨_,_,h⟩⟩<;>omega
theorem Hv.rows{b:Nat}(h:Hv mO R D P0 Q c u)(d:b<Q):Hv mO R D P0 b 0 u:=by
 rcases h with⟨h,_⟩|⟨P,hP,a,⟨_,h1,h2⟩|⟨_,h1,h2⟩⟩
 ·exact .inl ⟨h,F⟩
 ·exact .inr ⟨P,hP,a,.inl ⟨F,aq,h2⟩⟩
 ·exact .inr ⟨P,hP,a,.inl ⟨F,aq,aq⟩⟩
theorem Ph.JD(d:Ph mO D P0 R){P a:Nat}(h:P∣D)(h':a∣D)(e:P<=P0)(f:a<=P):mO a<=mO P:=by
 rcases Nat.lt_or_ge a P with b|b
 ·exact Nat.le_of_lt (d.lt P a h h' e b)
 ·have:a=P:=aq;rw[this];exact Nat.le_refl _
theorem Hv.zX{g:Nat}(d:Ph mO D P0 R)(h:Hv mO R D P0 Q c u)(e:P∣D)(f:P<=P0)(j:P<=Q)(j:g<P):Hv mO R D P0 g 0 (u+1):=by
 have g:=d.le P e f;refine .inr ⟨P,e,f,.inl ⟨F,j,?_⟩⟩;rcases h with⟨h,_⟩|⟨i,a,b,⟨_,h1,h2⟩|⟨_,h1,h2⟩⟩
 ·omega
 ·have:=d.lt i P a e b aq;have:=d.le i a b;omega
 ·have:=d.JD a e b aq;omega
theorem Hv.add(d:Ph mO D P0 R)(h:Hv mO R D P0 Q c u)(e:P∣D)(g:P<=P0)(j:P<=Q)(i:c=1->P<Q):Hv mO R D P0 P 1 (u+1):=by
 have j:=d.le P e g;refine .inr ⟨P,e,g,.inr ⟨F,F,?_⟩⟩;rcases h with⟨h,_⟩|⟨f,a,b,⟨_,h1,h2⟩|⟨h0,h1,h2⟩⟩
 ·omega
 ·have:=d.lt f P a e b aq;have:=d.le f a b;omega
 ·have:=i h0;have:=d.lt f P a e b aq;have:=d.le f a b;omega
end
structure At(n k Dd P:Nat)(S:Mt):Prop where
 dg:Dg n k S
 aQ:(aQ n S).natAbs=Dd
 abs:(S k k).natAbs=P
 pos:0<P
 mn:∀i j,k<=i->i<n->k<=j->j<n->S i j≠0->P<=(S i j).natAbs
structure Cl(n k P0 Dd Um L Eb:Nat)(Ef:Nat->Nat)(T:Nat->Nat->Mt->Prop)(Rp:Mt->Prop):Prop where
 sw:∀Q u D p c,T Q u D->nK n k D p c->T Q u (swp D k p c)
 rs:∀D p c,Rp D->nK n k D p c->Rp (swp D k p c)
 a:∀Q u S P,T Q u S->At n k Dd P S->P<=Q->(P<=P0\/Rp S)->T (P-1) u (bo S k n)
 ra:∀S P,Rp S->At n k Dd P S->P0<P->Rp (bo S k n)
 b:∀Q u S P,T Q u S->At n k Dd P S->P<=Q->P<=P0->(∀i,k<i->i<n->bo S k n i k=0)->T (P-1) (u+1) (red S k n)
 c:∀Q u S P i0,T Q u S->At n k Dd P S->P<=Q->P<=P0->CLN n k (red S k n)->k<i0->i0<n->T P (u+1) (dh (red S k n) k i0)
 d:∀Q u S P,T Q u S->At n k Dd P S->u<=Um->CLN n k (red S k n)->Tm n k L (red S k n)
 e1:∀Q u S P,T Q u S->At n k Dd P S->u<=Um->Bz n (Ef u) (bo S k n)/\Ef u<=Eb
 e2:∀Q u S P,T Q u S->At n k Dd P S->u<=Um->(∀i,k<i->i<n->bo S k n i k=0)->Bz n Eb (red S k n)
 e3:∀Q u M,T Q u M->Dg n k M->(aQ n M).natAbs=Dd->u<=Um->Bz n Eb M
structure Sy(n k P0 Dd:Nat)(T:Nat->Nat->Mt->Prop)(Rp:Mt->Prop)(mO:Nat->Nat)(R Q c u:Nat)(M:Mt):Prop where
 tm:T Q u M
 rb:P0<Q->Rp M
 hq:Q<=P0\/Dd<=P0
 ex:∃i j,k<=i/\i<n/\k<=j/\j<n/\M i j≠0/\(M i j).natAbs<=Q
 hc:c=0\/c=1/\(M k k).natAbs=Q/\(∀i,k<i->i<n->M i k=0)/\∃j,k<j/\j<n/\¬M k k∣M k j
 hv:Hv mO R Dd P0 Q c u
section
variable {n k P0 Dd Um L Eb R Q c u p q kd:Nat}{Ef mO:Nat->Nat}{T:Nat->Nat->Mt->Prop}{Rp:Mt->Prop}{M M':Mt}
theorem Sy.at(e:Dg n k M)(d:(aQ n M).natAbs=Dd)(a:nK n k M p q):At n k Dd (M p q).natAbs (swp M k p q):=by
 have b:k<n:=Nat.lt_of_le_of_lt a.hp a.jv;refine⟨e.swp b a.hp a.jv a.hc a.ma,by rw[jc (sV M b a.jv a.ma)];exact d,by simp only[swp,uc],by have:=a.nz;omega,λi j h f g e d=>?_⟩;exact a.mn _ _ (kN a.hp h) (g_ b a.jv f) (kN a.hc g) (g_ b a.ma e) d
theorem Sy.round(h:Sy n k P0 Dd T Rp mO R Q c u M)(r:Cl n k P0 Dd Um L Eb Ef T Rp)(S:Ph mO Dd P0 R)(a1:0<Dd)(W:Dg n k M)(G:(aQ n M).natAbs=Dd)(l:nK n k M p q)(hO:Ot n k (swp M k p q) M' kd)(hu:u<=Um):
 (kd=3/\Tm n k L M')\/(kd<3/\∃Q' c',Sy n k P0 Dd T Rp mO R Q' c' (if kd=0 then u else u+1) M'/\2*Q'+1-c'<2*Q+1-c):=by
 have C:k<n:=Nat.lt_of_le_of_lt l.hp l.jv;have s:=Sy.at W G l;have m:(M p q).natAbs<=Q:=by
  obtain⟨i,j,I,Z,O,Y,X,N⟩:=h.ex;have:=l.mn i j I Z O Y X;omega
 have E:=s.pos;have a3:c<=1:=by rcases h.hc with h|⟨h,_⟩<;>omega
 have H:=r.sw Q u M p q h.tm l;have x:=λv=>D5 W G l v;have w:∀v:(∀i,k<i->i<n->bo (swp M k p q) k n i k=0),(M p q).natAbs<=P0:=λv=>by
  rcases h.hq with g|g
  ·omega
  ·have:=Nat.le_of_dvd a1 (x v);omega
 obtain⟨P,G⟩ : ∃P,P=(M p q).natAbs:=⟨_,F⟩;rw[<-G]at s m E x w;have J:=s.abs;cases hO with
 |a e=>
  obtain⟨i,K,B,y⟩:=e;refine .inr ⟨ar,P-1,0,⟨r.a Q u _ P H s m ?_,λA=>?_,?_,⟨i,k,aq,B,Nat.le_refl k,C,y,?_⟩,.inl F,h.hv.rows aq⟩,aq⟩
  ·by_cases g:P<=P0
   ·exact .inl g
   ·exact .inr (r.rs M p q (h.rb aq) l)
  ·exact r.ra _ P (r.rs M p q (h.rb aq) l) s aq
  ·rcases h.hq with g|g
   ·exact .inl aq
   ·exact .inr g
  ·have I:bo (swp M k p q) k n i k=swp M k p q i k%swp M k p q k k:=by
    simp only[bo];rw[ae ⟨K,B⟩,mod_eq]
   have:=ka (z:=swp M k p q i k) J E;omega
 |b e hc=>
  obtain⟨j,t,f,y⟩:=hc;have o:=w e;refine .inr ⟨ar,P-1,0,⟨r.b Q u _ P H s m o e,λA=>aq,.inl aq,⟨k,j,Nat.le_refl k,C,aq,f,y,?_⟩,.inl F,h.hv.zX S (x e) o m aq⟩,aq⟩;rw[pH _ t f];have:=ka (z:=swp M k p q k j) J E;omega
 |c i0 v U hc V=>
  have e:=jx hc;have a2:=x e;have o:=w e;have A:c=1->P<Q:=λe=>by
   rcases h.hc with I|⟨_,I,Z,O⟩
   ·omega
   ·refine Nat.lt_of_le_of_ne m λe=>?_;have e:M k k≠0:=aq;have a0:p=k/\q=k:=by
     refine Decidable.byContradiction λy=>?_;have Y:=l.hp;have X:=l.hc;have:=l.fst k k (Nat.le_refl k) C (Nat.le_refl k) C aq e;omega
    obtain⟨rfl,rfl⟩:=a0;rw[mW]at hc;obtain⟨j,t,f,e⟩:=O;have N:=hc.2 j t f;rw[pH _ t f]at N;exact e (Int.dvd_of_emod_eq_zero N)
  have w:swp M k p q k k=M p q:=by simp only[swp,uc]
  have g:dh (red (swp M k p q) k n) k i0 k k=M p q:=by rw[og,hc.1 i0 v U,n7,w];omega
  refine .inr ⟨ar,P,1,⟨r.c Q u _ P i0 H s m o hc v U,λA=>aq,.inl o,⟨k,k,Nat.le_refl k,C,Nat.le_refl k,C,by rw[g];exact l.nz,by rw[g];omega⟩,.inr ⟨F,by rw[g];omega,λi K B=>?_,?_⟩,h.hv.add S a2 o m A⟩,aq⟩
  ·simp only[dh];rw[aa aq];exact hc.1 i K B
  ·obtain⟨j,t,f,e⟩:=V;refine⟨j,t,f,?_⟩;rw[g,og,hc.2 j t f,Int.zero_add,<-w];exact e
 |d hc V=>exact .inl ⟨rfl,r.d Q u _ P H s hu hc⟩
end
theorem GZ{n k E Dd X:Nat}{M:Mt}(c:Dg n k M)(g:k<=n)(b:(aQ n M).natAbs=Dd)(d:0<Dd)(e:Dd<=2^E)(l:Tm n k X M)(f:X<=2^E):Bz n E M:=λi j i h=>
 G7 c (l.mono f) (λt f=>Nat.le_trans (Nat.le_of_dvd d (by rw[<-b];exact Int.natAbs_dvd_natAbs.2 (uW c g f))) e) i h
section
variable {n k P0 Dd Um L Eb a V0:Nat}{Rp:Mt->Prop}
theorem pY{S:Mt}(b:k<n)(h:(aQ n S).natAbs=Dd):(aQ n (bo S k n)).natAbs=Dd:=by rw[jc (ln S b)];exact h
theorem sY{S:Mt}(b:k<n)(h:(aQ n S).natAbs=Dd):(aQ n (red S k n)).natAbs=Dd:=by rw[jc (oZ S b)];exact h
theorem qa{S:Mt}(b:CLN n k (red S k n)):∀j,k<j->j<n->fe (bo S k n) k n k j=0:=b.2
theorem I7(f:k<n)(r:n-(k+1)<=a)(d:1<=a)(o:0<Dd)(C:∀M,Rp M->Tm n k V0 M)(g:∀D p c,Rp D->nK n k D p c->Rp (swp D k p c))(t:∀S P,Rp S->At n k Dd P S->P0<P->Rp (bo S k n))
 (E:V0*a^P0*2^Um<=L) (A:a*(V0*a^P0*2^Um)<=2^Eb) (q:Dd<=2^Eb):
 Cl n k P0 Dd Um L Eb (λ_=>Eb) (λQ u M=>Tm n k (V0*a^(P0-Q)*2^u) M) Rp:=by
 have w:∀Q u,u<=Um->V0*a^(P0-Q)*2^u<=V0*a^P0*2^Um:=λQ u i=>Nat.mul_le_mul (Nat.mul_le_mul_left _ (Nat.pow_le_pow_right d aq)) (Nat.pow_le_pow_right ar i);have m:∀Q u,u<=Um->a*(V0*a^(P0-Q)*2^u)<=2^Eb:=λQ u i=>Nat.le_trans (Nat.mul_le_mul_left _ (w Q u i)) A;have z:∀Z:Nat,Z<=a*Z:=λZ=>Nat.le_mul_of_pos_left _ d;have j:∀{S P},At n k Dd P S->S k k≠0:=λ{S P} h e=>by have:=h.abs;have:=h.pos;rw[e]at *;simp at *;omega
 refine⟨λQ u D p c h c=>h.swp c.hp c.jv c.hc c.ma,g,λQ u S P h b c l=>?_,t,λQ u S P h b c g s=>?_,λQ u S P p h b c g l s B=>?_,λQ u S P h b i l=>?_,λQ u S P h b i=>⟨?_,aD⟩,λQ u S P h b i s=>?_,λQ u M h G v i=>?_⟩
 ·have x:=b.pos;by_cases g:P<=P0
  ·exact(h.bo f r d (j b)).mono (Bj d aq aD)
  ·rcases l with y|y
   ·omega
   ·refine(C _ (t S P y b aq)).mono ?_;have c:V0*1<=V0*a^(P0-(P-1)):=Nat.mul_le_mul_left _ (Nat.pow_pos d);have c:V0*a^(P0-(P-1))*1<=V0*a^(P0-(P-1))*2^u:=Nat.mul_le_mul_left _ (Nat.pow_pos ar);omega
 ·have x:=b.pos;exact((h.uz f (j b) s).fe f r d (by rw[fi];exact j b)).mono (Bj d aq aq)
 ·have x:=b.pos;exact(((h.uz f (j b) (jx l)).F0 f (by rw[fi];exact j b) (qa l)).dh B aq).mono (D2 d aq aq)
 ·exact((h.uz f (j b) (jx l)).F0 f (by rw[fi];exact j b) (qa l)).mono (Nat.le_trans (w Q u i) E)
 ·exact GZ (b.dg.bo f) aq (pY f b.aQ) o q (h.bo f r d (j b)) (m Q u i)
 ·exact GZ ((b.dg.bo f).fe f) aq (sY f b.aQ) o q ((h.uz f (j b) s).fe f r d (by rw[fi];exact j b)) (m Q u i)
 ·exact GZ G aq v o q h (Nat.le_trans (z _) (m Q u i))
theorem It{M:Mt}(b:n=k+2)(h:∀i j,k<=i->i<n->k<=j->j<n->(M i j).natAbs<=4294967296):Tm n k (2^66) M:=by
 intro s I J d;by_cases b:aQ s (cj M I J)=0
 ·rw[b];exact Nat.zero_le _
 have c:=Iw d b;rcases(show s=0\/s=1\/s=2 by omega)with rfl|rfl|rfl
 ·show(1:Int).natAbs<=_;decide
 ·have e:aQ 1 (cj M I J)=M (I 0) (J 0):=by simp[aQ,sm,fq,cj]
  rw[e];have b:=d 0 aq;exact Nat.le_trans (h _ _ b.1.1 b.1.2 b.2.1 b.2.2) ar
 ·rw[EL];have b:=d 0 aq;have c:=d 1 aq;have d:=Go.Ap.fr (h _ _ b.1.1 b.1.2 b.2.1 b.2.2) (h _ _ c.1.1 c.1.2 c.2.1 c.2.2);have d:=Go.Ap.fr (h _ _ b.1.1 b.1.2 c.2.1 c.2.2) (h _ _ c.1.1 c.1.2 b.2.1 b.2.2);simp only[cj];generalize M (I 0) (J 0)*M (I 1) (J 1)=b at*;generalize M (I 0) (J 1)*M (I 1) (J 0)=b at*;have:(4294967296:Nat)*4294967296+4294967296*4294967296<=2^66:=ar;omega
theorem DQ{n i:Nat}{M:Mt}(c:i<n)(d:∀j,j<n->j≠i->M i j=0):M i i∣aQ n M:=by
 cases n with
 |zero=>omega
 |succ n=>
  rw[<-jd n M i c];refine dSm λj b=>Int.dvd_mul_of_dvd_left ?_;by_cases e:j=i
  ·rw[e];exact Int.dvd_refl _
  ·rw[d j b e];exact Int.dvd_zero _
theorem y_{R:Mt}(b:n=k+2)(c:0<Dd)(b:Dd<=4294967296)(h:Dg n k R)(b:(aQ n R).natAbs=Dd)(d:R (k+1) k=0)(f:(R k (k+1)).natAbs<=(R k k).natAbs):∀i j,k<=i->i<n->k<=j->j<n->(R i j).natAbs<=4294967296:=by
 have q:(R k k).natAbs<=4294967296:=by
  have:=sH h aq λi o m=>by rw[show i=k+1 by omega];exact d
  have:=Nat.le_of_dvd c (by rw[<-b];exact Int.natAbs_dvd_natAbs.2 this);omega
 have p:(R (k+1) (k+1)).natAbs<=4294967296:=by
  have:=DQ (n:=n) (i:=k+1) (M:=R) aq λj f l=>by
   by_cases e:j=k
   ·rw[e];exact d
   ·exact h _ j aq f (.inr aq) (Ne.symm l)
  have:=Nat.le_of_dvd c (by rw[<-b];exact Int.natAbs_dvd_natAbs.2 this);omega
 intro i j o m f b;rcases(show i=k\/i=k+1 by omega)with g|g<;>rcases(show j=k\/j=k+1 by omega)with e|e<;>rw[g,e]
 ·exact q
 ·omega
 ·rw[d];exact Nat.zero_le _
 ·exact p
theorem JL{v:Nat}(q:n=k+2)(g:0<Dd)(c:Dd<=4294967296)(G:66<=v):
 Cl n k P0 Dd Um (2^66) (v+66+Um) (λu=>if u=0 then v else 66+Um) (λ_ u M=>Tm n k (if u=0 then 2^v else 2^(66+u)) M) (λ_=>False):=by
 have f:k<n:=aq;have y:n-(k+1)<=1:=aq;have x:∀{S P},At n k Dd P S->S k k≠0:=λ{S P} h e=>by have:=h.abs;have:=h.pos;rw[e]at *;simp at *;omega
 have l:∀{a b:Nat},a<=b->2^a<=2^b:=λh=>Nat.pow_le_pow_right ar h;have t:∀{e},66<=e->Dd<=2^e:=λ{e} he=>Nat.le_trans c (Nat.le_trans (show 4294967296<=2^66 by decide) (l he));have r:∀{S P},At n k Dd P S->(∀i,k<i->i<n->bo S k n i k=0)->∀i j,k<=i->i<n->k<=j->j<n->(red S k n i j).natAbs<=4294967296:=λ{S P} d m=>by
  refine y_ q g c ((d.dg.bo f).fe f) (sY f d.aQ) ?_ ?_
  ·have:=m (k+1) aq aq;rw[wM S aq aq];simp only[bo]at this;rw[ae aq,mod_eq]at this;exact this
  ·rw[pH S aq aq,n7];have:=ka (z:=S k (k+1)) d.abs d.pos;have:=d.abs;omega
 refine⟨λQ u D p c h b=>h.swp b.hp b.jv b.hc b.ma,λ_ _ _ h=>h.elim,λQ u S P h d b o=>?_,λ_ _ h=>h.elim,λQ u S P h d b c m=>?_,λQ u S P B h d b c o m w=>?_,λQ u S P h d b o=>It q (r d (jx o)),λQ u S P h d b=>?_,λQ u S P h d b m=>?_,λQ u M h J A b=>?_⟩
 ·exact(h.bo f y (Nat.le_refl 1) (x d)).mono aq
 ·rw[aa aq];exact(It q (r d m)).mono (l aq)
 ·rw[aa aq];have s:=r d (jx o);refine(It q λi j I E H C=>?_).mono (l aq);simp only[dh];split
  ·rcases(show j=k\/j=k+1 by omega)with e|e
   ·rw[e,o.1 B m w,Int.add_zero];exact s k k (Nat.le_refl k) f (Nat.le_refl k) f
   ·rw[e,o.2 (k+1) aq aq,Int.zero_add];exact s B (k+1) aq w aq aq
  ·exact s i j I E H C
 ·by_cases e:u=0
  ·subst e;rw[ae F]at h⊢;exact⟨GZ (d.dg.bo f) aq (pY f d.aQ) g (t G) (h.bo f y (Nat.le_refl 1) (x d)) aq,aq⟩
  ·rw[aa e]at h⊢;exact⟨GZ (d.dg.bo f) aq (pY f d.aQ) g (t aq) (h.bo f y (Nat.le_refl 1) (x d)) (by rw[Nat.one_mul];exact l aq),aq⟩
 ·exact GZ ((d.dg.bo f).fe f) aq (sY f d.aQ) g (t aq) (It q (r d m)) (l aq)
 ·refine GZ J aq A g (t aq) h ?_;split
  ·exact l aq
  ·exact l aq
end
end
end Go.Se
namespace Go.Proofs.Qq
section
open Go Go.cU Go.cV Go.Proofs Go.Se
open Go.bc (aQ fa)
open Go.Sm (sx bo red dh nK Sg Dg iT gj)
theorem r_{n t cA Dd ND NU NV Um Eb L P0 R Q0:Nat}{q bf mO:Nat->Nat}{T:Nat->Nat->(Nat->Nat->Int)->Prop}{Rp:(Nat->Nat->Int)->Prop}{A D U V:Nat->Nat->Int}(a0:n<=4)(r:t<n)(d:(aQ n A).natAbs=Dd)(aH:0<Dd)
 (hC:Cl n t P0 Dd Um L Eb q T Rp) (hp:Ph mO Dd P0 R) (v:2*R+1<=Um) (an:∀u,u+1<=Um->bf u+q u+3<=bf (u+1)\/t+1=n/\bf u<=bf (u+1)) (a2:∀u v,u<=v->v<=Um->bf u<=bf v) (hJ:Bz n cA (fa (n-1) A))
 (a6:Eb<32*ND) (au:Eb+bf Um+cA+4<32*NU) (b1:bf Um<32*NV) (ay:Sg n t D) (ax:gj n A D) (av:∃W,Rel n U A D W/\Bz n (bf 0) V/\Bz n (bf 0) W) (h0:Sy n t P0 Dd T Rp mO R Q0 0 0 D):
 ∃(q:Nat) (Inv:Nat->(Nat->Nat->Int)->(Nat->Nat->Int)->(Nat->Nat->Int)->Prop) (v:(Nat->Nat->Int)->(Nat->Nat->Int)->(Nat->Nat->Int)->Prop),Inv q D U V/\
  (∀q D U V,Inv q D U V->(∃i j,t<=i/\i<n/\t<=j/\j<n/\D i j≠0)/\∀p c,nK n t D p c->CR n t ND NU NV q Inv v (Go.Sm.swp D t p c) (λi j=>U (sx t p i) j) λi j=>V i (sx t c j))/\
  ∀h U' V',v h U' V'->Fk n (t+1) A L (bf Um) (jq (h t t) t h) (jq (h t t) t U') V':=by
 have ak:1<=n:=aq;refine⟨2*Q0+1,λq D U V=>∃Q c u W,q=2*Q+1-c/\Sy n t P0 Dd T Rp mO R Q c u D/\Sg n t D/\gj n A D/\Rel n U A D W/\Bz n (bf u) V/\Bz n (bf u) W,
  λh U' V'=>Sg n t h/\Go.Sm.CLN n t h/\(∀i j,t<i->i<n->t<j->j<n->h t t∣h i j)/\gj n A h/\Tm n t L h/\∃W,Rel n U' A h W/\Bz n (bf Um) V'/\Bz n (bf Um) W,?_,?_,?_⟩
 ·obtain⟨W,z,h2,v⟩:=av;exact⟨Q0,0,0,W,F,h0,ay,ax,z,h2,v⟩
 ·rintro q D U V ⟨Q,c,u,W,rfl,hZ,J,Y,hR,hV,hW⟩;obtain⟨i0,j0,x1,x2,x3,v,q,_⟩:=hZ.ex;refine⟨⟨i0,j0,x1,x2,x3,v,q⟩,λp w I=>?_⟩;have jv:=I.jv;have q:=I.ma;have hu:u+1<=Um:=by have:=hZ.hv.le;omega
  have al:(aQ n D).natAbs=Dd:=by rw[jc Y];exact d
  have H:=Sy.at J.dg al I;have a3:=hC.sw Q u D p w hZ.tm I;obtain⟨S,eS⟩ : ∃S,S=Go.Sm.swp D t p w:=⟨_,F⟩;have l:=hR.swp (p:=p) (c:=w) r jv q;have X:=hV.IE (k:=t) (p:=w) r q;have G:=hW.ID (k:=t) (p:=w) r q;rw[<-eS]at l H a3⊢;generalize (λi j=>U (sx t p i) j)=Us at l⊢;generalize (λi j=>V i (sx t w j))=Vs at X⊢;generalize (λi j=>W (sx t w i) j)=B at l G;have q:=H.aQ;have q:=H.dg;obtain⟨a7,q⟩:=hC.e1 Q u S _ a3 H aq;have aj:Bz n Eb (bo S t n):=a7.mono q;have a5:Rel n (fT Us S t n) A (bo S t n) B:=l.rows (g:=λi=>if t<i/\i<n then S i t/S t t else 0) r (λi j _ _=>by
   unfold fT;by_cases e:t<i/\i<n
   ·rw[ae e,ae e]
   ·rw[aa e,aa e,Int.zero_mul,Int.sub_zero]) λi j _ _=>Go.Sm.jH S t n i j
  have l:Bz n (bf Um) B:=G.mono (a2 _ _ aq aD);have b4:Bz n (Eb+bf Um+cA+4) (fT Us S t n):=a5.bd a0 ak (by intro e;rw[e]at d;simp at d;omega) aj l hJ;have a4:Rel n (fT Us S t n) A (red S t n) (oe B (bo S t n) t n):=a5.zX r;have O:Bz n (bf (u+1)) (gZ Vs (bo S t n) t n):=by
   rcases an u hu with hF|⟨hF,a1⟩
   ·exact(X.gZ r a7).mono aq
   ·have e:gZ Vs (bo S t n) t n=Vs:=by
     funext i j;unfold gZ;rw[aa aq]
    rw[e];exact X.mono a1
  have N:Bz n (bf (u+1)) (oe B (bo S t n) t n):=by
   rcases an u hu with hF|⟨hF,a1⟩
   ·exact(G.oe a0 r a7).mono aq
   ·refine λi j o m=>?_;have e:oe B (bo S t n) t n i j=B i j:=by
     unfold oe;by_cases e:i=t
     ·rw[ae e,e,Go.bc.iD λl l=>by rw[aa aq],Int.add_zero]
     ·rw[aa e]
    rw[e];exact G.mono a1 i j o m
  have ai:Bz n (bf Um) (gZ Vs (bo S t n) t n):=O.mono (a2 _ _ hu aD);have ad:Bz n (bf Um) (oe B (bo S t n) t n):=N.mono (a2 _ _ hu aD);have a:=λ{M' kd} (f:Ot n t S M' kd)=>hZ.round (M':=M') (kd:=kd) hC hp aH J.dg al I (by rw[<-eS];exact f) aq;have x:=λ{M' kd} (f:Ot n t S M' kd)=>Ot.sg (M':=M') (kd:=kd) (p:=p) (c:=w) (M:=D) (by rw[<-eS];exact f) I J;have C:=λ{M' kd} (f:Ot n t S M' kd)=>Y.trans (Ot.eqv (M':=M') (kd:=kd) (p:=p) (c:=w) (M:=D) (by rw[<-eS];exact f) I);have b:(∀i,t<i->i<n->S i t%S t t=0)->(∀j,t<j->j<n->bo S t n t j%bo S t n t t=0)->Go.Sm.CLN n t (red S t n):=λz h2=>⟨wK z,zV h2⟩;refine⟨λi j o m=>rJ (aj i j o m) a6,λi j o m=>rJ (b4 i j o m) au,?_,?_,λ_ i j o m=>rJ (ai i j o m) b1,?_,?_,?_⟩
  ·rintro⟨i,o,l,P⟩;have f:Ot n t S (bo S t n) 0:=.a ⟨i,o,l,by unfold bo;rw[ae ⟨o,l⟩,Go.Sm.mod_eq];exact P⟩;rcases a f with⟨e,_⟩|⟨_,K,Z,E,hq⟩
   ·cases e
   exact⟨_,hq,K,Z,u,B,F,E,x f,C f,a5,X,G⟩
  ·intro y i j o m;exact rJ (hC.e2 Q u S _ a3 H aq (q_ y) i j o m) a6
  ·rintro y ⟨j,m,l,P⟩;rw[Go.Sm.fi,Go.Sm.fi]at P;have f:Ot n t S (red S t n) 1:=.b (q_ y) ⟨j,m,l,by rw[Go.Sm.pH S m l];exact P⟩;rcases a f with⟨e,_⟩|⟨_,K,Z,E,hq⟩
   ·cases e
   exact⟨_,hq,K,Z,u+1,_,F,E,x f,C f,a4,O,N⟩
  ·intro y z i1 l ab s;rw[Go.Sm.n7]at s;have f:Ot n t S (dh (red S t n) t i1) 2:=.c i1 l ab (b y z) s;rcases a f with⟨e,_⟩|⟨_,K,Z,E,hq⟩
   ·cases e
   have v:=a4.dh r ab;have l:=x f;have q:Sy n t P0 Dd T Rp mO R K Z (u+1) (dh (red S t n) t i1):=E;have w:Bz n Eb (dh (red S t n) t i1):=hC.e3 K (u+1) _ q.tm l.dg (by rw[jc (C f)];exact d) hu;have B:Bz n (Eb+bf Um+cA+4) (dh (fT Us S t n) t i1):=v.bd a0 ak (by intro e;rw[e]at d;simp at d;omega) w ad hJ;exact⟨λk d=>⟨rJ (w t k r d) a6,rJ (B t k r d) au⟩,_,hq,K,Z,u+1,_,rfl,q,l,C f,v,O,N⟩
  ·intro y z s;rw[Go.Sm.n7]at s;have f:Ot n t S (red S t n) 3:=.d (b y z) s;rcases a f with⟨_,b0⟩|⟨e,_⟩;rotate_left
   ·omega
   exact⟨x f,b y z,λi j a b c d=>by rw[Go.Sm.n7];exact s i j a b c d,C f,b0,_,a4,ai,ad⟩
 ·rintro h U' V' ⟨J,a,s,Y,b,W,hR,hV,hW⟩;have e:∀i j,i<n->j<n->iT h t i j=jq (h t t) t h i j:=λi j o m=>(DI J.dg a r o m).symm;refine⟨Sg.congr (Sg.next' J r a s) e r,(Y.trans (Go.Sm.B8 h t a J.dg r)).congr e,((b.sub (Nat.le_succ t)).iT).congr λi j _ o _ m=>e i j o m,W,DV hR,hV,hW⟩
end
section
open Go Go.cU Go.cV Go.Proofs Go.Se
open Go.bc (aQ fa mul sm tr one)
open Go.Hn (Hf iH)
open Go.Sm (sx bo red dh nK Sg Dg iT gj fy)
def Lq(b a r:Nat):Nat:=if r=4 then 2^35 else if r=3 then 2^b else if r=2 then 2^a else if r=1 then 2^66 else 2^(66+a)
def bq(a b r:Nat):Nat:=if r=4 then 5000 else if r=3 then 501975 else if r=2 then a else b
structure Ht(x4 um P3 v3 v2 E3 b2 b1 E2 ND NU NV cA:Nat):Prop where
 BG:x4=960
 Ji:um=98405
 p3:P3=4294967296
 h3:3*Go.Ap.Gb x4 x4+40<=v3
 Jl:x4<=v3
 h2:v3+P3+98405<=v2
 J2:v2+1<=E3
 mP:501975+(E3+3)*98405<=b2
 od:b2+v2+3+98474*98405<=b1
 J3:v2+66+98405<=E2
 JH:E3<=E2
 nd:E2<32*ND
 nv:b1<32*NV
 nu:E2+b1+cA+4<32*NU
theorem t3(n:Nat):3^(5*n+1)<=2^(8*n+2):=by
 have b:3^(5*n+1)=(3^5)^n*3:=by rw[Nat.pow_succ,Nat.pow_mul]
 have a:2^(8*n+2)=(2^8)^n*2^2:=by rw[Nat.pow_add,Nat.pow_mul]
 rw[b,a];exact Nat.mul_le_mul (Nat.pow_le_pow_left ar n) ar
theorem HN(D:Nat):Ph id D 256 257:=⟨λ_ _ _ _ _ h=>h,λ_ _ h=>by show _+1<=257;simp only[id];omega⟩
theorem wS{D:Nat}(P0:Nat)(b:0<D)(a:D<=4294967296):Ph (Go.Ap.Hx D) D P0 49202:=
 ⟨λ_ _ h d _ c=>Go.Ap.GP b a h d c,λP h _=>by have:=Go.Ap.GQ (D:=D) (P:=P) (Nat.le_trans (Nat.le_of_dvd b h) a);omega⟩
def Iy(a b c d n:Nat)(A:Nat->Nat->Int)(t:Nat)(D U V:Nat->Nat->Int):Prop:=
 Fk n t A (Lq a b (n-t)) (bq c d (n-t)) D U V/\(n-t=4->∃i j,t<=i/\i<n/\t<=j/\j<n/\D i j≠0/\(D i j).natAbs<=256)
theorem pq{a b:Nat}(h:a<=b):2^a<=2^b:=Nat.pow_le_pow_right (by decide) h
theorem HM{l w W v3 m X s B E2 ND NU NV cA n Dd:Nat}{A:Nat->Nat->Int}(b:Ht l w W v3 m X s B E2 ND NU NV cA)(I:n<=4)(J:(aQ n A).natAbs=Dd)(o:0<Dd)(K:Dd<=4294967296)(hJ:Bz n cA (fa (n-1) A))
 (t:Nat) (D U V:Nat->Nat->Int) (C:t<n) (f:Iy l m s B n A t D U V):
 ∃(H:Nat) (r:Nat->(Nat->Nat->Int)->(Nat->Nat->Int)->(Nat->Nat->Int)->Prop) (g:(Nat->Nat->Int)->(Nat->Nat->Int)->(Nat->Nat->Int)->Prop),r H D U V/\
  (∀q D U V,r q D U V->(∃i j,t<=i/\i<n/\t<=j/\j<n/\D i j≠0)/\∀p c,nK n t D p c->CR n t ND NU NV q r g (Go.Sm.swp D t p c) (λi j=>U (sx t p i) j) λi j=>V i (sx t c j))/\
  ∀y G E,g y G E->Iy l m s B n A (t+1) (jq (y t t) t y) (jq (y t t) t G) E:=by
 obtain⟨f,M⟩:=f;obtain⟨BG,Ji,d,P,Jl,d,d,mP,od,d,JH,nd,nv,d⟩:=b;have b:(aQ n D).natAbs=Dd:=by rw[jc f.eqv];exact J
 have a1:aQ n D≠0:=by intro e;rw[e]at b;simp at b;omega
 obtain⟨q,d,b,p⟩:=zl f.sg.dg C a1;have Y:∀{L},Go.Se.Tm n t L D->∃i j,t<=i/\i<n/\t<=j/\j<n/\D i j≠0/\(D i j).natAbs<=L:=λh=>⟨t,q,Nat.le_refl t,C,d,b,p,h.entry (Nat.le_refl t) C d b⟩;have a0:∀{x},32<=x->Dd<=2^x:=λ{x} hx=>Nat.le_trans K (Nat.le_trans (show 4294967296<=2^32 by decide) (pq hx));have b:s<=B:=aq;have b:501975<=s:=aq;have a2:=wS (D:=Dd) W o K;have b:(X+3)*w=(X+3)*98405:=by rw[Ji]
 rcases(show n-t=4\/n-t=3\/n-t=2\/n-t=1 by omega)with z|z|z|z
 ·have T:Lq l m (n-t)=2^35:=by unfold Lq;rw[ae z]
  have R:bq s B (n-t)=5000:=by unfold bq;rw[ae z]
  rw[T,R]at f;have q:n-(t+1)=3:=aq;obtain⟨b,d⟩ : ∃b:Nat,b=51:=⟨_,F⟩;obtain⟨d,p⟩ : ∃d:Nat,d=515:=⟨_,F⟩;have u:2^35*3^(5*b+1)*2^d<=2^l:=by
   have p:2^35*3^(5*b+1)*2^d<=2^35*2^(8*b+2)*2^d:=Nat.mul_le_mul_right _ (Nat.mul_le_mul_left _ (t3 b));rw[<-Nat.pow_add,<-Nat.pow_add]at p;exact Nat.le_trans p (pq aq)
  have x:3*(2^35*3^(5*b+1)*2^d)<=2^(l+2):=by
   have p:3*(2^35*3^(5*b+1)*2^d)<=2^2*2^l:=Nat.mul_le_mul ar u;rw[<-Nat.pow_add,Nat.add_comm 2]at p;exact p
  have N:=I7 (n:=n) (k:=t) (a:=3) (V0:=2^35) (P0:=5*b+1) (Dd:=Dd) (Um:=d) (L:=2^l) (Eb:=l+2) (Rp:=λ_=>False) C aq ar o (λ_ h=>h.elim) (λ_ _ _ h=>h.elim) (λ_ _ h=>h.elim) u x (a0 aq);have x:Ph id Dd (5*b+1) 257:=by
   rw[show 5*b+1=256 by omega];exact HN Dd
  have Z:Tm n t (2^35*3^(5*b+1-256)*2^0) D:=f.tm.mono (by
   have f1:2^35*1<=2^35*3^(5*b+1-256):=Nat.mul_le_mul_left _ (Nat.pow_pos ar);rw[Nat.pow_zero,Nat.mul_one];omega)
  obtain⟨H,r,g,p,Q,O⟩:=r_ (ND:=ND) (NU:=NU) (NV:=NV) (Q0:=256) (bf:=λu=>5000+965*u) I C J o N x aq (λu hu=>.inl aq) (λu v h _=>aq) hJ aq aq aq f.sg f.eqv f.rel
   ⟨Z,λh=>aq,.inl aq,M z,.inl F,.inl ⟨F,F⟩⟩
  ·refine⟨H,r,g,p,Q,λy G E x=>⟨?_,λh=>aq⟩⟩;rw[q];refine(O y G E x).mono aD ?_;show 5000+965*d<=501975;omega
 ·have T:Lq l m (n-t)=2^l:=by unfold Lq;rw[aa aq,ae z]
  have R:bq s B (n-t)=501975:=by unfold bq;rw[aa aq,ae z]
  rw[T,R]at f;have q:n-(t+1)=2:=aq;have N:=I7 (n:=n) (k:=t) (a:=2) (V0:=2^v3) (P0:=W) (Dd:=Dd) (Um:=w) (L:=2^m) (Eb:=X) (Rp:=Rb n t l l) C aq ar o (λM h=>h.tm.mono (pq P)) (λ_ _ _ h b=>h.swp b) (λS P h M b=>h.bo (λi j a b c d e=>by rw[M.abs];exact M.mn i j a b c d e) (by rw[M.abs];omega))
   (by rw[<-Nat.pow_add,<-Nat.pow_add];exact pq aq) (by
    have:2*(2^v3*2^W*2^w)=2^(v3+W+w+1):=by rw[Nat.pow_succ,Nat.pow_add,Nat.pow_add,Nat.mul_comm]
    rw[this];exact pq aq) (a0 aq)
  have Z:Tm n t (2^v3*2^(W-2^l)*2^0) D:=f.tm.mono (by
   have f1:2^l<=2^v3:=pq Jl;have b:2^v3*1<=2^v3*2^(W-2^l):=Nat.mul_le_mul_left _ (Nat.pow_pos ar);rw[Nat.mul_one]at b;rw[Nat.pow_zero,Nat.mul_one];exact Nat.le_trans f1 b)
  obtain⟨H,r,g,p,Q,O⟩:=r_ (ND:=ND) (NU:=NU) (NV:=NV) (Q0:=2^l) (bf:=λu=>501975+(X+3)*u) I C J o N a2 aq (λu hu=>.inl (by rw[Nat.mul_succ];omega)) (λu v h _=>by have:=Nat.mul_le_mul_left (X+3) h;omega) hJ aq aq aq f.sg f.eqv f.rel
   ⟨Z,λ_=>Rb.start aq f.sg.dg I a1 aq f.tm,.inr aq,Y f.tm,.inl F,.inl ⟨F,F⟩⟩
  ·refine⟨H,r,g,p,Q,λy G E x=>⟨(O y G E x).mono ?_ ?_,λh=>aq⟩⟩
   ·rw[q];exact Nat.le_refl _
   ·rw[q];show 501975+(X+3)*w<=s;omega
 ·have T:Lq l m (n-t)=2^m:=by unfold Lq;rw[aa aq,aa aq,ae z]
  have R:bq s B (n-t)=s:=by unfold bq;rw[aa aq,aa aq,ae z]
  rw[T,R]at f;have q:n-(t+1)=1:=aq;have N:=JL (n:=n) (k:=t) (P0:=2^m) (Dd:=Dd) (Um:=w) (v:=m) aq o K aq;obtain⟨H,r,g,p,Q,O⟩:=r_ (ND:=ND) (NU:=NU) (NV:=NV) (Q0:=2^m) (bf:=λu=>s+(if u=0 then 0 else m+3)+98474*u) I C J o N (wS (2^m) o K) aq (λu hu=>.inl (by
   rw[aa (Nat.succ_ne_zero u)];by_cases e:u=0
   ·rw[ae e,ae e];omega
   ·rw[aa e,aa e];omega)) (λu v h _=>by
   by_cases e:u=0
   ·rw[ae e];split<;>omega
   ·rw[aa e,aa aq];omega) hJ aq (by show _+(s+(if w=0 then 0 else m+3)+98474*w)+cA+4<_;rw[aa aq];omega) (by show s+(if w=0 then 0 else m+3)+98474*w<_;rw[aa aq];omega) f.sg f.eqv f.rel
   ⟨f.tm,λh=>aq,.inl aD,Y f.tm,.inl F,.inl ⟨F,F⟩⟩
  refine⟨H,r,g,p,Q,λy G E x=>⟨(O y G E x).mono ?_ ?_,λh=>aq⟩⟩
  ·rw[q];exact Nat.le_refl _
  ·rw[q];show s+(if w=0 then 0 else m+3)+98474*w<=B;rw[aa aq];omega
 ·have T:Lq l m (n-t)=2^66:=by unfold Lq;rw[aa aq,aa aq,aa aq,ae z]
  have R:bq s B (n-t)=B:=by unfold bq;rw[aa aq,aa aq,aa aq]
  rw[T,R]at f;have q:n-(t+1)=0:=aq;obtain⟨b,c⟩ : ∃b:Nat,b=2^66:=⟨_,F⟩;rw[<-c]at f;have N:=I7 (n:=n) (k:=t) (a:=1) (V0:=b) (P0:=b) (Dd:=Dd) (Um:=w) (L:=2^(66+m)) (Eb:=E2) (Rp:=λ_=>False) C aq ar o (λ_ h=>h.elim) (λ_ _ _ h=>h.elim) (λ_ _ h=>h.elim)
   (by rw[Nat.one_pow,Nat.mul_one,c,<-Nat.pow_add];exact pq aq) (by rw[Nat.one_pow,Nat.mul_one,Nat.one_mul,c,<-Nat.pow_add];exact pq aq) (a0 aq)
  obtain⟨H,r,g,p,Q,O⟩:=r_ (ND:=ND) (NU:=NU) (NV:=NV) (Q0:=b) (bf:=λ_=>B) I C J o N (wS b o K) aq (λu hu=>.inr ⟨aq,aD⟩) (λu v _ _=>Nat.le_refl _) hJ nd aq nv f.sg f.eqv f.rel
   ⟨by rw[Nat.one_pow,Nat.mul_one];exact f.tm.mono aq,λh=>aq,.inl aD,Y f.tm,.inl F,.inl ⟨F,F⟩⟩
  refine⟨H,r,g,p,Q,λy G E x=>⟨?_,λh=>aq⟩⟩;rw[q];exact O y G E x
theorem Hy.GH{D:Nat}{T:Nat->Nat->Int}(h:Hy 4 T)(g:iH 4 (λj=>T j j)=(D:Int))(f:D<=4294967296):∃i,i<4/\T i i≠0/\(T i i).natAbs<=256:=by
 refine Decidable.byContradiction λe=>?_;have k:∀j,j<4->(257:Int)<=T j j:=λj b=>by
  have d:=h.pos j b;rcases Int.lt_or_le (T j j) 257 with c|c
  ·exact absurd ⟨j,b,aq,aq⟩ e
  ·exact c
 have d:=Bi (x:=257) ar (p:=λj=>T j j) (n:=4) k;rw[g]at d;have:(257:Int)^4=4362470401:=ar;omega
theorem yZ.JN{n e:Nat}{M a o:Nat->Nat->Int}(h:yZ n M a o)(o:1<=n)(g:n<=4)(l:0<(aQ n M).natAbs)(f:(aQ n M).natAbs<=4294967296)(k:Bz n e (fa (n-1) M)):Bz n (e+32+2) a:=λi j b d=>by
 obtain⟨m,rfl⟩ : ∃m,n=m+1:=⟨n-1,aq⟩;have o:Bz (m+1) 32 (mul (m+1) M a):=λi j b d=>by
  have:=h.h1.le b d;rw[lp h.u1]at this;exact Nat.le_trans this (Nat.le_trans f ar)
 have f:=Bz.mul g (show Bz (m+1) e (fa m M)from k) o i j b d;have e:mul (m+1) (fa m M) (mul (m+1) M a) i j=aQ (m+1) M*a i j:=by
  rw[<-Go.bc.mul_assoc];have d:mul (m+1) (mul (m+1) (fa m M) M) a i j=sm (m+1) λk=>(if i=k then aQ (m+1) M else 0)*a k j:=Go.bc.aO λk a=>by rw[Go.bc.jf m M i k b a]
  rw[d,Go.bc.cG (c:=i) b λk _ a=>by rw[aa (Ne.symm a),Int.zero_mul],ae F]
 rw[e,Int.natAbs_mul]at f;exact Nat.le_trans (Nat.le_mul_of_pos_left _ l) f
theorem G5{l b f v3 m g q r j ND NU NV a n:Nat}{M d c:Nat->Nat->Int}(e:Ht l b f v3 m g q r j ND NU NV a)(g:1<=n)(f:n<=4)(w:0<(aQ n M).natAbs)(k:(aQ n M).natAbs<=4294967296)(x:Bz n a (fa (n-1) M))(b:a<=1029)(h:yZ n M d c):
 Iy l m q r n M 0 (yc n M d c) (λi j=>c j i) d:=by
 have o:=h.Jw;have t:=h.eqv g;have v:(aQ n (yc n M d c)).natAbs=(aQ n M).natAbs:=jc t;have s:iH n (λj=>yc n M d c j j)=((aQ n M).natAbs:Int):=by
  have z:aQ n (mul n (λa b=>mul n M d b a) c)=iH n λj=>yc n M d c j j:=Go.Hn.lU n _ h.h2.up;have y:(aQ n (mul n (λa b=>mul n M d b a) c)).natAbs=(aQ n M).natAbs:=by rw[lp h.u2,o7,lp h.u1]
  have a:=Go.Hn.lR (p:=λj=>yc n M d c j j) (i:=n) o.pos;rw[z]at y;omega
 have c:=o.tm f s v;have a:=h.JN g f w k x;obtain⟨W,v,j⟩:=h.rel g f a;have b:n-0=n:=Nat.sub_zero n;have d:=e.h3;have d:=e.h2;have mP:=e.mP;have od:=e.od;have d:5000<=bq q r n:=by
  unfold bq;split
  ·exact Nat.le_refl _
  ·split
   ·omega
   ·split<;>omega
 have f:6*(aQ n M).natAbs<=2^35:=by
  have:(2:Nat)^35=34359738368:=ar;omega
 have d:2^35<=Lq l m n:=by
  unfold Lq;split
  ·exact Nat.le_refl _
  ·split
   ·have:=e.BG;exact pq aq
   ·split
    ·exact pq aq
    ·split
     ·exact pq ar
     ·exact pq aq
 refine⟨?_,λu=>?_⟩
 ·rw[b];exact⟨Sg.zero n _,t,c.mono (Nat.le_trans f d),W,v,a.mono aq,j.mono aq⟩
 ·rw[b]at u;subst u;obtain⟨i,a,c,b⟩:=Hy.GH o s k;exact⟨i,i,aE,a,aE,a,c,b⟩
theorem HT:Ht 960 98405 4294967296 250333036 4545398737 4545398738 447289963610080 447304199342790 4545497208 142046788 13978398276283 13978256229463 1029:=
 ⟨F,F,F,ar,ar,ar,ar,ar,ar,ar,ar,ar,ar,ar⟩
theorem sI(v:Value)(n N:Nat)(M:Nat->Nat->Int)(w:World)(h:cO (EI N) w v n (λ_=>n) M)(b:0<(aQ n M).natAbs)(c:(aQ n M).natAbs<=4294967296)(a:1<=n)(d:n<=4)(p:2<=N)(q:N<=8):
 aT Tryz.prog 27 #[v] w λu f=>Ext w f/\∃g D,u=.tuple #[.slice (some ⟨g,0,none⟩) n n,.bool true]/\fy n D/\gj n M D/\dk f g n true (λ_=>2) (λi=>D i i):=by
 have l:aQ n M≠0:=λe=>by rw[e]at b;simp at b
 have o:∀i j,i<n->j<n->Bd N (M i j):=λi j j m=>h.bd j m;have m:Bz n 1029 (fa (n-1) M):=(Cy d a (H8 o)).mono aq;have od:Bd N (aQ n M):=Bd.mono (N:=2) (by unfold Bd;exact Nat.lt_of_le_of_lt c ar) p;refine(tZ v n N 142046788 13978398276283 13978256229463 M w h l od a aq aq q aq ar ar ar ar ar
  (Iy 960 4545398737 447289963610080 447304199342790 n M) (λl l l=>G5 HT a d b c m aD l) λt D U V l a=>HM HT d rfl b c m t D U V l a).mono λu f ⟨f,g,D,U,V,e,a,d⟩=>?_
 obtain⟨a,_⟩:=a;refine⟨f,g,D,e,a.sg.jG,a.eqv,d.tight λi j=>?_⟩;have e:D i i∣aQ n D:=uW (k:=n) a.sg.dg (Nat.le_refl n) j;have d:=Int.natAbs_dvd_natAbs.2 e;rw[jc a.eqv]at d;exact Nat.lt_of_le_of_lt (Nat.le_trans (Nat.le_of_dvd b d) c) ar
