import Derived.Test.YtmfndnlifgphjaaGreatDoorQzR
set_option maxHeartbeats 64000000
open Go.Proofs.YtmfndnlifgphjaaGreatDoor
namespace Go.Proofs.Qq
section
open Go Go.cW Go.c7 Go.Proofs Go.Se
open Go.aW (aO fY mul sm tr one)
open Go.Hn (Hf jY)
open Go.Sm (sx cR red eK uM Sg Dg kP iM gN)
def Lr(K r:Nat):Nat:=if r=4 then 60000 else if r=3 then K else if r=2 then 2^(K+10040)else if r=1 then 2^(K+20080)else 2^(K+30120)
def br(a b r:Nat):Nat:=if r=4 then 5000 else if r=3 then 24248 else if r=2 then 24248+a else 24248+a+b
structure fH(K F3 F2 B3 B2 ND NU NV cA:Nat):Prop where
 k1:604661760000<=K
 k2:K<=1099511627776
 f3:K+10045<=F3
 f2:K+20044<=F2
 b3:F3*401<=B3
 b2:F2*401<=B2
 nd:K+30081<32*ND
 nv:24248+B3+B2<32*NV
 nu:K+30081+(24248+B3+B2)+cA+4<32*NU
theorem g3{K c:Nat}(hK:K<=1099511627776):2*(K*2^K*2^c)<=2^(K+c+41):=by
 have e:2^(K+c+41)=2199023255552*(2^K*2^c):=by
  rw[Nat.pow_add,Nat.pow_add,Nat.mul_comm]
 rw[e,Nat.mul_assoc K,<-Nat.mul_assoc 2];exact Nat.mul_le_mul_right _ aq
theorem g3_le{K C:Nat}(a:K<=1099511627776)(b:C=10000):K*2^(K-1)*2^(C-1)<=2^(K+10040):=
 Nat.le_trans (Nat.mul_le_mul_right _ (Nat.mul_le_mul_left _ (Nat.pow_le_pow_right aw aq))) (Nat.le_trans (Nat.le_mul_of_pos_left _ aw) (Nat.le_trans (g3 (c:=C-1) a) (Nat.pow_le_pow_right aw aq)))
theorem EU{n t:Nat}{D:Nat->Nat->Int}(d:Dg n t D)(b:t<n)(a:aO n D≠0):∃j,t<=j/\j<n/\D t j≠0:=by
 refine Classical.byContradiction λc=>a ?_;obtain⟨m,rfl⟩ : ∃m,n=m+1:=⟨n-1,aq⟩;rw[<-Go.aW.mF m D t b];refine Go.aW.fK λj a=>?_;have z:D t j=0:=by
  by_cases h:j<t
  ·exact d t j b a (.inr h) aq
  ·exact Decidable.byContradiction λe=>c ⟨j,aq,a,e⟩
 rw[z];grind
def OG(K a b n:Nat)(A:Nat->Nat->Int)(t:Nat)(D U V:Nat->Nat->Int):Prop:=
 qz n t A (Lr K (n-t)) (br a b (n-t)) D U V/\(n-t=4->∃i j,t<=i/\i<n/\t<=j/\j<n/\D i j≠0/\(D i j).natAbs<=10)
theorem OZ{K Q R g m n c s ND NU NV:Nat}{A:Nat->Nat->Int}(x:fH K Q R g m ND NU NV c)(H:n<=4)(w:(aO n A).natAbs=s)(y:0<s)(z:s<=10000)(O:Bz n c (fY (n-1) A))
 (t:Nat) (D U V:Nat->Nat->Int) (B:t<n) (f:OG K g m n A t D U V):
 ∃(u:Nat) (d:Nat->(Nat->Nat->Int)->(Nat->Nat->Int)->(Nat->Nat->Int)->Prop) (b:(Nat->Nat->Int)->(Nat->Nat->Int)->(Nat->Nat->Int)->Prop),d u D U V/\
  (∀q D U V,d q D U V->(∃i j,t<=i/\i<n/\t<=j/\j<n/\D i j≠0)/\∀p c,uM n t D p c->ID n t ND NU NV q d b (Go.Sm.swp D t p c) (λi j=>U (sx t p i) j) λi j=>V i (sx t c j))/\
  ∀k r o,b k r o->OG K g m n A (t+1) (kz (k t t) t k) (kz (k t t) t r) o:=by
 obtain⟨f,J⟩:=f;obtain⟨N,S,c,c,c,c,c,c,c⟩:=x;have q:(aO n D).natAbs=s:=by rw[j9 f.eqv];exact w
 obtain⟨C,p,c,x⟩:=EU f.sg.dg B (by intro e;rw[e]at q;simp at q;omega);have M:∀{L},Go.Se.Tm n t L D->∃i j,t<=i/\i<n/\t<=j/\j<n/\D i j≠0/\(D i j).natAbs<=L:=λh=>⟨t,C,Nat.le_refl t,B,p,c,x,h.entry (Nat.le_refl t) B p c⟩;have I:∀{x},14<=x->s<=2^x:=λ{x} hx=>by
  have v:2^14<=2^x:=Nat.pow_le_pow_right aw hx;exact Nat.le_trans (show s<=16384 by omega) v
 have G:∀P0 P,P<=P0->P∣s->P<=10000:=λP0 P _ h=>Nat.le_trans (Nat.le_of_dvd y h) z;rcases(show n-t=4\/n-t=3\/n-t=2\/n-t=1 by omega)with l|l|l|l
 ·have C:Lr K (n-t)=60000:=by unfold Lr;rw[ab l]
  have x:br g m (n-t)=5000:=by unfold br;rw[ab l]
  rw[C,x]at f;obtain⟨u,d,b,v,q,p⟩:=kv (a:=3) (P0:=10) (C0:=10) (E:=45) (aI:=48) (ND:=ND) (NU:=NU) (NV:=NV) H B w y z (λP h _=>h) aq aw aw (I aw) (.inl aw) O aq aq aq f (J l);refine⟨u,d,b,v,q,λk r o j=>⟨(p k r o j).mono ?_ ?_,λh=>aq⟩⟩
  ·have e:n-(t+1)=3:=aq;rw[e];show 60000*3^(10-1)*2^(10-1)<=K;exact Nat.le_trans aw N
  ·have e:n-(t+1)=3:=aq;rw[e];show 5000+48*401<=24248;decide
 ·have C:Lr K (n-t)=K:=by unfold Lr;rw[aa aq,ab l]
  have x:br g m (n-t)=24248:=by unfold br;rw[aa aq,ab l]
  rw[C,x]at f;obtain⟨c,N⟩ : ∃c:Nat,c=10000:=⟨_,F⟩;have i:∀P,P<=K->P∣s->P<=c:=λP L J=>Nat.le_trans (G K P L J) aq;obtain⟨u,d,b,v,q,p⟩:=kv (a:=2) (P0:=K) (C0:=c) (E:=K+(c+1)+41) (aI:=Q) (ND:=ND) (NU:=NU) (NV:=NV) H B w y z i aq aw (g3 S) (I aq) (.inl aq) O aq aq aq f (M f.tm);have e:n-(t+1)=2:=aq;refine⟨u,d,b,v,q,λk r o j=>⟨(p k r o j).mono ?_ ?_,λh=>aq⟩⟩
  ·rw[e];show K*2^(K-1)*2^(c-1)<=2^(K+10040);exact g3_le S N
  ·rw[e];show 24248+Q*401<=24248+g;omega
 ·have C:Lr K (n-t)=2^(K+10040):=by unfold Lr;rw[aa aq,aa aq,ab l]
  have x:br g m (n-t)=24248+g:=by unfold br;rw[aa aq,aa aq,ab l]
  rw[C,x]at f;obtain⟨c,N⟩ : ∃c:Nat,c=10000:=⟨_,F⟩;have i:∀P,P<=2^(K+10040)->P∣s->P<=c:=λP L J=>Nat.le_trans (G _ P L J) aq;obtain⟨u,d,b,v,q,p⟩:=kv (a:=1) (P0:=2^(K+10040)) (C0:=c) (E:=K+20041) (aI:=R) (ND:=ND) (NU:=NU) (NV:=NV) H B w y z i aq aw (by
   rw[Nat.one_pow,Nat.mul_one,Nat.one_mul,<-Nat.pow_add];exact Nat.pow_le_pow_right aw aq) (I aq) (.inl aq) O aq aq aq f (M f.tm)
  have e:n-(t+1)=1:=aq;refine⟨u,d,b,v,q,λk r o j=>⟨(p k r o j).mono ?_ ?_,λh=>aq⟩⟩
  ·rw[e,Nat.one_pow,Nat.mul_one,<-Nat.pow_add];exact Nat.pow_le_pow_right aw aq
  ·rw[e];show 24248+g+R*401<=24248+g+m;omega
 ·have C:Lr K (n-t)=2^(K+20080):=by unfold Lr;rw[aa aq,aa aq,aa aq,ab l]
  have x:br g m (n-t)=24248+g+m:=by unfold br;rw[aa aq,aa aq,aa aq]
  rw[C,x]at f;obtain⟨c,N⟩ : ∃c:Nat,c=10000:=⟨_,F⟩;have i:∀P,P<=2^(K+20080)->P∣s->P<=c:=λP L J=>Nat.le_trans (G _ P L J) aq;obtain⟨u,d,b,v,q,p⟩:=kv (a:=1) (P0:=2^(K+20080)) (C0:=c) (E:=K+30081) (aI:=0) (ND:=ND) (NU:=NU) (NV:=NV) H B w y z i aq aw (by
   rw[Nat.one_pow,Nat.mul_one,Nat.one_mul,<-Nat.pow_add];exact Nat.pow_le_pow_right aw aq) (I aq) (.inr aq) O aq aq aq f (M f.tm)
  have e:n-(t+1)=0:=aq;refine⟨u,d,b,v,q,λk r o j=>⟨(p k r o j).mono ?_ ?_,λh=>aq⟩⟩
  ·rw[e,Nat.one_pow,Nat.mul_one,<-Nat.pow_add];exact Nat.pow_le_pow_right aw aq
  ·rw[e];show 24248+g+m+0*401<=24248+g+m;omega
theorem Ig{n e:Nat}{X:Nat->Nat->Int}(a:n<=4)(b:1<=n)(h:Bz n e X):Bz n (4*e+5) (fY (n-1) X):=λi j b b=>by
 obtain⟨m,rfl⟩ : ∃m,n=m+1:=⟨n-1,aq⟩;have c:=Go.Sm.Mn.start a h m (Go.aW.skip j) (Go.aW.skip i) λt a=>⟨Go.aW.iT a,Go.aW.iT a⟩;have b:(fY m X i j).natAbs=(aO m (Go.Sm.cX X (Go.aW.skip j) (Go.aW.skip i))).natAbs:=by
  show(Go.aW.uK m X j i).natAbs=_;unfold Go.aW.uK;rw[Int.natAbs_mul];have a:(Go.aW.jl (j+i)).natAbs=1:=by unfold Go.aW.jl;split<;>rfl
  rw[a,Nat.one_mul];rfl
 show(fY m X i j).natAbs<=_;rw[b];exact c
theorem Oe{n N:Nat}{X:Nat->Nat->Int}(h:∀i j,i<n->j<n->Bd N (X i j)):Bz n (32*N) X:=λi j c b=>by
 have a:=h i j c b;unfold Bd at a;have e:B^N=2^(32*N):=by
  show(4294967296:Nat)^N=2^(32*N);rw[Nat.pow_mul]
 rw[e]at a;omega
theorem EA.Pn{n:Nat}{M f e:Nat->Nat->Int}(h:EA n M f e):Oo n (DG n M f e):=by
 refine⟨λj d=>h.h2.pos j d,λi j g d=>?_⟩;show(mul n (λa b=>mul n M f b a) e j i).natAbs<=(mul n (λa b=>mul n M f b a) e j j).natAbs;rcases Nat.lt_trichotomy i j with c|c|c
 ·have:=h.h2.red j i d c;omega
 ·rw[c];exact Nat.le_refl _
 ·rw[h.h2.up j i d g c];exact Nat.zero_le _
theorem EA.eqv{n:Nat}{M a b:Nat->Nat->Int}(h:EA n M a b)(c:1<=n):iM n M (DG n M a b):=by
 obtain⟨m,rfl⟩ : ∃m,n=m+1:=⟨n-1,aq⟩;have d:iM (m+1) M (mul (m+1) M a):=iM.right (Go.Sm.Inv.qT h.u1) λ_ _ _ _=>rfl;have c:iM (m+1) (tr (mul (m+1) M a)) (mul (m+1) (tr (mul (m+1) M a)) b):=iM.right (Go.Sm.Inv.qT h.u2) λ_ _ _ _=>rfl;exact d.trans c.tr
theorem EA.rel{n b:Nat}{M a c:Nat->Nat->Int}(h:EA n M a c)(l:1<=n)(g:n<=4)(p:Bz n b a):∃W,Rel n (λi j=>c j i) M (DG n M a c) W/\Bz n (4*b+5) W:=by
 obtain⟨m,rfl⟩ : ∃m,n=m+1:=⟨n-1,aq⟩;have q:=Go.Sm.Inv.qT h.u1;refine⟨λi j=>aO (m+1) a*fY m a i j,λi j f d=>?_,λi j f d=>?_⟩
 ·have s:∀i k,DG (m+1) M a c i k=mul (m+1) (mul (m+1) (tr c) M) a i k:=λi k=>by
   show tr (mul (m+1) (tr (mul (m+1) M a)) c) i k=_;rw[Go.aW.nA,Go.aW.mul_assoc];rfl
  have r:mul (m+1) (DG (m+1) M a c) (λi j=>aO (m+1) a*fY m a i j) i j=mul (m+1) (mul (m+1) (mul (m+1) (tr c) M) a) (λi j=>aO (m+1) a*fY m a i j) i j:=Go.aW.aR λk _=>by rw[s]
  rw[r,Go.aW.mul_assoc,Go.Sm.mul_congr (A':=mul (m+1) (tr c) M) (C':=one) (λk _=>rfl) λk c=>q.r k j c d,Go.aW.mul_one _ _ _ _ d];rfl
 ·show(aO (m+1) a*fY m a i j).natAbs<=_;have o:(aO (m+1) a).natAbs=1:=by rcases h.u1 with e|e<;>rw[e]<;>rfl
  rw[Int.natAbs_mul,o,Nat.one_mul];exact Ig g l p i j f d
theorem EA.bz{n e:Nat}{M a o:Nat->Nat->Int}(h:EA n M a o)(o:1<=n)(g:n<=4)(l:0<(aO n M).natAbs)(f:(aO n M).natAbs<=10000)(k:Bz n e (fY (n-1) M)):Bz n (e+14+2) a:=λi j b d=>by
 obtain⟨m,rfl⟩ : ∃m,n=m+1:=⟨n-1,aq⟩;have o:Bz (m+1) 14 (mul (m+1) M a):=λi j b d=>by
  have:=h.h1.le b d;rw[nO h.u1]at this;exact Nat.le_trans this (Nat.le_trans f aw)
 have f:=Bz.mul g (show Bz (m+1) e (fY m M)from k) o i j b d;have e:mul (m+1) (fY m M) (mul (m+1) M a) i j=aO (m+1) M*a i j:=by
  rw[<-Go.aW.mul_assoc];have d:mul (m+1) (mul (m+1) (fY m M) M) a i j=sm (m+1) λk=>(if i=k then aO (m+1) M else 0)*a k j:=Go.aW.aR λk a=>by rw[Go.aW.mM m M i k b a]
  rw[d,Go.aW.dc (c:=i) b λk _ a=>by rw[aa (Ne.symm a),Int.zero_mul],ab F]
 rw[e,Int.natAbs_mul]at f;exact Nat.le_trans (Nat.le_mul_of_pos_left _ l) f
theorem begin{K b e l m n a ND NU NV:Nat}{M d c:Nat->Nat->Int}(u:fH K b e l m ND NU NV a)(f:1<=n)(e:n<=4)(t:0<(aO n M).natAbs)(g:(aO n M).natAbs<=10000)(v:Bz n a (fY (n-1) M))(b:a<=1029)(h:EA n M d c):
 OG K l m n M 0 (DG n M d c) (λi j=>c j i) d:=by
 have k:=h.Pn;have q:=h.eqv f;have s:(aO n (DG n M d c)).natAbs=(aO n M).natAbs:=j9 q;have o:jY n (λj=>DG n M d c j j)=((aO n M).natAbs:Int):=by
  have x:aO n (mul n (λa b=>mul n M d b a) c)=jY n λj=>DG n M d c j j:=Go.Hn.od n _ h.h2.up;have w:(aO n (mul n (λa b=>mul n M d b a) c)).natAbs=(aO n M).natAbs:=by rw[nO h.u2,r_,nO h.u1]
  have a:=Go.Hn.n7 (p:=λj=>DG n M d c j j) (i:=n) k.pos;rw[x]at w;omega
 have d:=k.tm e o s;have b:=h.bz f e t g v;obtain⟨W,s,j⟩:=h.rel f e b;have c:n-0=n:=Nat.sub_zero n;have a:5000<=br l m n:=by
  unfold br;split
  ·exact Nat.le_refl _
  ·split
   ·omega
   ·split<;>omega
 have a:60000<=Lr K n:=by
  have a:∀x,16<=x->60000<=2^x:=λx e=>Nat.le_trans (show 60000<=2^16 by decide) (Nat.pow_le_pow_right aw e);unfold Lr;split
  ·exact Nat.le_refl _
  ·split
   ·have:=u.k1;omega
   ·split
    ·exact a _ aq
    ·split
     ·exact a _ aq
     ·exact a _ aq
 refine⟨?_,λr=>?_⟩
 ·rw[c];exact⟨Sg.zero n _,q,d.mono aq,W,s,b.mono aq,j.mono aq⟩
 ·rw[c]at r;subst r;obtain⟨i,a,c,b⟩:=k.least o g;exact⟨i,i,aE,a,aE,a,c,b⟩
theorem N7:fH 604661760000 604661770045 604661780044 242469369788045 242469373797644 18895680941 15173231418783 15154335737811 1029:=
 ⟨aw,aw,aw,aw,aw,aw,aw,aw,aw⟩
theorem rA(v:Value)(n N:Nat)(M:Nat->Nat->Int)(w:World)(h:cB (EI N) w v n (λ_=>n) M)(b:0<(aO n M).natAbs)(c:(aO n M).natAbs<=10000)(a:1<=n)(d:n<=4)(f:1<=N)(q:N<=8):
 aT Tryz.prog 16 #[v] w λu l=>Ext w l/\∃g D,u=.tuple #[.slice (some ⟨g,0,none⟩) n n,.bool true]/\gN n D/\iM n M D/\di l g n true (λ_=>1) (λi=>D i i):=by
 have m:aO n M≠0:=λe=>by rw[e]at b;simp at b
 have p:∀i j,i<n->j<n->Bd N (M i j):=λi j j o=>h.bd j o;have o:Bz n 1029 (fY (n-1) M):=(Ig d a (Oe p)).mono aq;have p:Bd N (aO n M):=Bd.mono (N:=1) (by unfold Bd;exact Nat.lt_of_le_of_lt c aw) f;refine(yZ v n N 18895680941 15173231418783 15154335737811 M w h m p a aq f q aq aw aw aw aw aw
  (OG 604661760000 242469369788045 242469373797644 n M) (λf f f=>begin N7 a d b c o aD f) λt D U V f a=>OZ N7 d rfl b c o t D U V f a).mono λu l ⟨f,g,D,U,V,e,a,d⟩=>?_
 obtain⟨a,_⟩:=a;refine⟨f,g,D,e,a.sg.nB,a.eqv,d.tight λi j=>?_⟩;have e:D i i∣aO n D:=AG (k:=n) a.sg.dg (Nat.le_refl n) j;have d:=Int.natAbs_dvd_natAbs.2 e;rw[j9 a.eqv]at d;exact Nat.lt_of_le_of_lt (Nat.le_trans (Nat.le_of_dvd b d) c) aw
end
section
open Go Go.cW Go.c7 Go.uN Go.Proofs
open Go.aW (aO gr one)
open Go.Sm (iM Inv gN)
theorem di.Jy{w:World}{g n N:Nat}{M:Nat->Int}(h:di w g n true (λ_=>N) M)(a:n<9223372036854775808):gY (EC N) w (.slice (some ⟨g,0,none⟩) n n) n M:=
 ⟨_,_,F,aD,a,λj b=>by
  obtain⟨x,y,d,c,a⟩:=h.at b;exact⟨_,x,y,F,by rw[add_lit];exact d,by rw[add_lit];exact c,a.2 F,a.1.bd⟩⟩
def Hs(n:Nat)(T:Nat->Nat->Int):Nat->Nat->Int:=qL (gj n T) (iG n T)
theorem Kb{n K:Nat}{T:Nat->Nat->Int}(a:1<=n)(a:n<=4)(h:1<=K)(g:∀i j,i<n->j<n->Bd K (T i j))(f:aO n T=1\/aO n T=-1):∀i j,i<n->j<n->Bd (Nb K 3) (Hs n T i j):=λi j a a=>by
 have d:Bd (Nb K 3) (gj (n-1) (λa b=>T (jn (j:Int) a) (jn (i:Int) b))):=(ie h λa b a a=>g _ _ (by unfold jn;split<;>omega) (by unfold jn;split<;>omega)).mono (mX K aq);have c:Bd (Nb K 3) (iG n T i j):=by
  unfold iG;split
  ·exact d.neg
  ·exact d
 show Bd (Nb K 3) (gj n T*iG n T i j);rw[eJ];rcases f with e|e
 ·rw[e,Int.one_mul];exact c
 ·rw[e,Int.neg_mul,Int.one_mul];exact c.neg
theorem Hr{n:Nat}{T:Nat->Nat->Int}(b:1<=n)(a:aO n T=1\/aO n T=-1):Inv n T (Hs n T):=by
 obtain⟨m,rfl⟩ : ∃m,n=m+1:=⟨n-1,aq⟩;have e:Hs (m+1) T=λi j=>aO (m+1) T*Go.aW.fY m T i j:=by
  funext i j;show gj (m+1) T*iG (m+1) T i j=_;rw[eJ,E6]
 rw[e];exact Go.Sm.Inv.qT a
theorem MG{n:Nat}{T a:Nat->Nat->Int}(h:Inv n T a):aO n a=1\/aO n a=-1:=by
 have b:=h.aO;have c:(aO n a).natAbs=1:=Nat.eq_one_of_mul_eq_one_left (m:=(aO n T).natAbs) (n:=(aO n a).natAbs) (by rw[<-Int.natAbs_mul,b];rfl);omega
theorem z6{vx:Value}{dm kd q m:Nat}{ns ms:Nat->Int}{w:World}(hm:ML w)(hx:By w vx dm kd q ns m ms):
 aT Tryz.prog 3 #[vx] w (PT w):=by
 obtain⟨A,cc,A',bB,rfl,hd,hk,hc,an,hN,av⟩:=hx;have hL:=By.agg hd hk hc an hN av;have an:=Nat.mod_lt dm (show 0<4 by decide);obtain⟨n,hn⟩ : ∃n,n=1+dm%4:=⟨_,F⟩;have J:1<=n:=aq;have ak:n<=4:=aq;have bW:n<=8:=aq;have y:n<9223372036854775808:=aq;have bS:kF n (λ_=>n)=true:=cD.2 ⟨⟨J,aq,J,aq⟩,λ_ _=>rfl⟩;refine bo (n:=185) Tryz.func3 F rfl az aA ?_;have l:Ext w w:=Ext.refl w;refine gb ?_;refine bO (v:=.agg _) (.inl F) F ?_;intro av D a E;have an:bg av w.heap.size 24 #[.int .u8 (dm:Int),.int .u8 (kd:Int),.slice A q cc,.slice A' m bB]:=D;obtain⟨gX,L⟩ : ∃g,g=w.heap.size:=⟨_,F⟩;rw[<-L]at an⊢;have A:w.heap.size<=gX:=by have:=l.size;omega
 replace l:=l.trans a;clear D E L a;obtain⟨A,x1,x2,x3⟩:=M7 an;refine gb ?_;refine q_ aw Em F A x1 x2 x3 ?_;clear A x1 x2 x3;refine gb ?_;refine gb ?_;refine aJ (Fh _ dm kd q m 4 ns ms av (hL av l) aw aw) ?_;rintro _ A ⟨a,gM,av,M,rfl,_,_,hO,h0,b5,bM⟩;replace an:=an.Y a;replace l:=l.trans a;clear a;rw[<-hn]at hO h0 b5 bM⊢;have hK:Ext A A:=Ext.refl _;have ax:∀{u:World},Ext A u->cB (EI 5) u (.slice (some ⟨gM,0,none⟩) n n) n (λ_=>n) M:=λP=>(hO.Y P).read bM y y;have aj:=Mo bM;have bc:=Ft J aq aj;have b1:=Ap M J (show n<=8 by omega);have b8:=(BI h0).2;have aH:=Hz J (show n<=8 by omega) (λi j X W=>b8 i j X W);have bX:=An (show n<=8 by omega) aj;have hv:dQ n (λ_=>n) (nf (wd 10 (j5 n M)))=0:=EM h0 aH;refine gb ?_;refine gb ?_;refine aJ (Ct _ n 5 _ M A (ax hK) aw aw) ?_;rintro _ an ⟨a,hf⟩;replace hK:=hK.trans a;replace l:=l.trans a;clear a;obtain⟨A,_⟩|⟨_,⟨_,rfl⟩|⟨av,_⟩⟩:=hf
 ·exact absurd h0 A
 rotate_left
 ·exact absurd aj av
 refine gb ?_;refine gb ?_;refine aJ (Fo _ an (hm.Y l) aq) ?_;rintro _ ai ⟨a,hg⟩;replace hK:=hK.trans a;replace l:=l.trans a;clear a;obtain⟨A,_⟩|⟨_,c,al,_,_,cd,⟨_,gG,an,rfl,_,_,bt⟩|⟨bK,_⟩⟩:=hg
 ·exact absurd bc A
 rotate_left
 ·rw[b1]at al;subst al;exact absurd hv bK
 rw[b1]at al;subst al;have hG:=bt.congr aH;have O:Ext ai ai:=Ext.refl _;have al:∀{u:World},Ext ai u->cB (EI 5) u (.slice (some ⟨gG,0,none⟩) c c) c (λ_=>c) M:=λP=>(hG.Y P).read bM y y;clear bt cd bc b1 b8 aH bX hv aj;refine gb ?_;refine aJ (E5 _ c 5 (λ_=>c) M ai (al O) aw aw) ?_;rintro _ w6 ⟨A,⟨h1,_⟩|⟨_,h1,_⟩|⟨_,_,T,gH,ai,gT,ai,rfl,_,_,hZ,_,_,hT,hF⟩⟩
 ·exact absurd h0 h1
 ·omega
 have bs:=l.trans A;have ay:∀{u:World},Ext w6 u->cB (EI 5) u (.slice (some ⟨gM,0,none⟩) c c) c (λ_=>c) M:=λP=>ax (hK.trans (A.trans P));have b0:∀{u:World},Ext w6 u->cB (EI 5) u (.slice (some ⟨gG,0,none⟩) c c) c (λ_=>c) M:=λP=>al (O.trans (A.trans P));clear ax al hK O A hO hG l;obtain⟨K,hK⟩ : ∃K,K=15*Nb 5 8+12:=⟨_,F⟩;have ca:K<=30000:=by rw[hK];simp only[Nb];omega
 have bu:12<=K:=aq;rw[<-hK]at hF;obtain⟨R,A⟩ : ∃R:Nat->Nat->Int,R=λi j=>T j i:=⟨_,F⟩;have bR:∀i j,i<c->j<c->Bd K (R i j):=λi j X W=>by rw[A];exact hF.bd j i W X
 have Y:aO c R=1\/aO c R=-1:=by
  have e:aO c R=aO c T:=by rw[A];exact Go.aW.cY c T
  rw[e];exact hF.BK
 obtain⟨H,aj⟩ : ∃H,H=gr c T M:=⟨_,F⟩;have a7:H=BF c M R:=by rw[aj,A];exact(s9 c (λi j=>T j i) M).symm
 have ae:=EL h0 b5 hF;have ar:=Hx hF hZ bW;have ai:=hF.small;rw[<-aj]at ae ar ai;rw[<-A]at hT ae;have bH:∀i j,i<c->j<c->Bd 1 (H i j):=λi j X W=>by
  have:=ai i j X W;unfold Bd B;omega
 have al:=Hr J Y;have bI:=Kb J ak aq bR Y;have bY:=MG al;have an:Nb K 3<=240007:=by simp only[Nb];omega
 have b6:1<=Nb K 3:=by simp only[Nb];omega
 obtain⟨a6,a1⟩:=H9 h0 Y;rw[<-a7]at a6 a1;have hQ:iM c M H:=by rw[a7];exact M3 J Y
 have c4:nh c M c=nh c H c:=Az hQ;have bj:(∀i,i<c->M i i%2=0)↔∀i,i<c->H i i%2=0:=by rw[a7];exact KE J h0 Y
 have b7:∀i j,i<c->j<c->BF c H (Hs c R) i j=M i j:=λi j X W=>by
  rw[a7,LK,ez];exact H_ (λi j X W=>al.r i j X W) i j X W
 clear hF ai A aj hZ;refine gb ?_;refine aN ?_;refine gb ?_;refine aJ (wU _ c (λ_=>c) H w6 ar) ?_;intro u w7 hu;obtain⟨au,gB,A,rfl,_,_,bx⟩:=hu.get bS;clear hu;have b4:=hT.Y au;refine gb ?_;refine aJ (zq _ c K (λ_=>c) R w7 (b4.rd bR aD y y) aq aq) ?_;intro u w8 hu;have A:NB c (λ_=>c) R=true:=by
  unfold NB;rw[qS J aq,eJ];simpa using Y
 unfold OH at hu;rw[ab A]at hu;obtain⟨u,rfl,a8,A,A,A,rfl,_,_,_,hI⟩:=hu;have A:=hI.tight (bn':=λ_ _=>Nb K 3) bI;have bl:=bs.trans (au.trans a8);have ai:=au.trans a8;have G:=bx.Y a8;have I:=b4.Y a8;clear hI au a8 b4 bx hT bs;have l:=bl;have h:=ai;refine gb ?_;refine gb ?_;refine aJ (uT _ _ c K M R w8 ((b0 h).mono aq) (I.rd bR aD y y) h0 Y aq aq) ?_;rintro _ Y ⟨a,gP,a8,rfl,V⟩;replace h:=h.trans a;replace G:=G.Y a;replace I:=I.Y a;replace A:=A.Y a;replace l:=l.trans a;clear a;rw[<-a7]at V;refine gb ?_;refine gb ?_;refine aJ (uT _ _ c (Nb K 3) H (Hs c R) Y (G.rd bH b6 y y) (A.read y y) a6 bY b6 aq) ?_;rintro _ ai ⟨a,Y,Y,rfl,a8⟩;replace h:=h.trans a;replace G:=G.Y a;replace I:=I.Y a;replace A:=A.Y a;replace V:=V.Y a;replace l:=l.trans a;clear a;have U:=a8.congr b7;obtain⟨Y,a7⟩ : ∃Y,Y=ai:=⟨_,F⟩;rw[<-a7]at l h G I V U⊢;clear a7 a8 A;refine gb ?_;refine aY (λf A=>f 3=.slice (some ⟨gM,0,none⟩) c c/\f 6=.slice (some ⟨gG,0,none⟩) c c/\f 9=.slice (some ⟨gH,0,none⟩) c c/\f 10=.slice (some ⟨gT,0,none⟩) c c/\f 12=.slice (some ⟨gB,0,none⟩) c c/\Ext Y A) ?_ ?_
 ·have Z:Ext Y Y:=Ext.refl _;refine gb ?_;refine gb ?_;refine aJ (u_ _ _ _ _ 5 _ _ _ _ Y ((V.sN bH y y).LC aw) ((G.sN bH y y).LC aw) aw) ?_;rintro _ bG ⟨a,b,rfl,S⟩;replace h:=h.trans a;replace G:=G.Y a;replace I:=I.Y a;replace V:=V.Y a;replace U:=U.Y a;replace Z:=Z.trans a;replace l:=l.trans a;clear a;obtain rfl:b=true:=S.2 ⟨F,λi X=>⟨rfl,λj W=>rfl⟩⟩;clear S;refine gb ?_;refine gb ?_;refine aJ (sP _ c c 5 M bG (ay h) aq J aq aw) ?_;rintro _ A ⟨a,Y,Y,Y,rfl,_,_,_,Y⟩;replace h:=h.trans a;replace G:=G.Y a;replace I:=I.Y a;replace V:=V.Y a;replace U:=U.Y a;replace Z:=Z.trans a;replace l:=l.trans a;clear a;refine gb ?_;refine gb ?_;refine aJ (u_ _ _ _ _ 5 _ _ _ _ A (U.sN bM y y) (Y.sN y) aw) ?_;rintro _ A ⟨a,b,rfl,S⟩;replace h:=h.trans a;replace G:=G.Y a;replace I:=I.Y a;replace V:=V.Y a;replace U:=U.Y a;replace Z:=Z.trans a;replace l:=l.trans a;clear a;obtain rfl:b=true:=S.2 ⟨F,λi X=>⟨rfl,λj W=>rfl⟩⟩;clear S;refine gb ?_;exact⟨F,F,F,F,F,Z⟩
 rintro f A ⟨Z,Y,X,W,j,f⟩;rw[ui Z,ui Y,ui X,ui W,ui j];clear Z Y X W j;replace l:=l.trans f;replace h:=h.trans f;replace G:=G.Y f;replace I:=I.Y f;clear V U f;have f:0<aO c M:=by
  obtain⟨_,_,_,hp⟩:=dF.1 h0;have:=hp (c-1) aq;rwa[Nat.sub_add_cancel J]at this
 have W:Bd 111 (aO c M):=by
  rw[<-eJ];exact(ie aw bM).mono (Nat.le_trans (mX 5 ak) aw)
 have X:Bd 5 ((nh c M c:Nat):Int):=xI c bM;have U:∀{u:World},Ext A u->cB (EI 5) u (.slice (some ⟨gB,0,none⟩) c c) c (λ_=>c) H:=λP=>((G.Y P).read bH y y).mono aw;have V:∀{u:World},Ext A u->cB (EI 5) u (.slice (some ⟨gG,0,none⟩) c c) c (λ_=>c) M:=λP=>b0 (h.trans P);have c9:∀{u:World},Ext A u->cB (EI 5) u (.slice (some ⟨gM,0,none⟩) c c) c (λ_=>c) M:=λP=>ay (h.trans P);have c5:∀{u:World},Ext A u->ke u (.slice (some ⟨gH,0,none⟩) c c) c (λ_=>c) H:=λP=>ar.Y (h.trans P);have c6:∀{u:World},Ext A u->cB (EI K) u (.slice (some ⟨gT,0,none⟩) c c) c (λ_=>c) R:=λP=>(I.Y P).rd bR aD y y;clear h ar b0 ay G I bl;have d:Ext A A:=Ext.refl _;refine gb ?_;refine gb ?_;refine aJ (xF _ c 5 _ M A (V d) aw aw) ?_;rintro _ f ⟨a,x1,h,rfl,p⟩;replace d:=d.trans a;replace l:=l.trans a;clear a;rw[h0,ab F]at p;refine gb ?_;refine gb ?_;refine aS (.inl F) a_ ?_;intro h D a E;have o:=Bx.zero (N:=1) true D;obtain⟨P,L⟩ : ∃g,g=f.heap.size:=⟨_,F⟩;rw[<-L]at o⊢;have f:w.heap.size<=P:=by have:=l.size;omega
 have f:A.heap.size<=P:=by have:=d.size;omega
 replace d:=d.trans a;replace p:=p.Y a;replace l:=l.trans a;clear D E L a;refine gb ?_;refine gb ?_;refine aL ag F rfl o (p.ev true W) ?_;intro u o j f E;replace d:=j.aK d λb S=>aq;replace p:=p.kp f;replace l:=j.aK l λb S=>aq;clear j f E;refine gb ?_;refine gb ?_;refine aJ (xF _ c 5 _ H u (U d) aw aw) ?_;rintro _ u ⟨a,x2,G,rfl,r⟩;replace d:=d.trans a;replace p:=p.Y a;replace o:=o.Y a;replace l:=l.trans a;clear a;rw[a6,ab F,a1]at r;refine gb ?_;refine gb ?_;refine aS (.inl F) a_ ?_;intro G D a E;have s:=Bx.zero (N:=1) true D;obtain⟨I,L⟩ : ∃g,g=u.heap.size:=⟨_,F⟩;rw[<-L]at s⊢;have u:w.heap.size<=I:=by have:=l.size;omega
 have u:A.heap.size<=I:=by have:=d.size;omega
 have u:P<I:=by have:=o.lt;omega
 replace d:=d.trans a;replace p:=p.Y a;replace o:=o.Y a;replace r:=r.Y a;replace l:=l.trans a;clear D E L a;refine gb ?_;refine gb ?_;refine aL ag F rfl s (r.ev true W) ?_;intro u s j f E;replace d:=j.aK d λb S=>aq;replace p:=p.kp f;replace o:=o.kp f j ah;replace r:=r.kp f;replace l:=j.aK l λb S=>aq;clear j f E;refine gb ?_;refine gb ?_;refine aJ (tu _ c 5 _ M u (V d) aw aw) ?_;rintro _ u ⟨a,x3,G,rfl,t⟩;replace d:=d.trans a;replace p:=p.Y a;replace o:=o.Y a;replace r:=r.Y a;replace s:=s.Y a;replace l:=l.trans a;clear a;rw[h0,ab F]at t;refine gb ?_;refine gb ?_;refine aS (.inl F) a_ ?_;intro G D a E;have x:=Bx.zero (N:=1) true D;obtain⟨G,L⟩ : ∃g,g=u.heap.size:=⟨_,F⟩;rw[<-L]at x⊢;have u:w.heap.size<=G:=by have:=l.size;omega
 have u:A.heap.size<=G:=by have:=d.size;omega
 have u:P<G:=by have:=o.lt;omega
 have u:I<G:=by have:=s.lt;omega
 replace d:=d.trans a;replace p:=p.Y a;replace o:=o.Y a;replace r:=r.Y a;replace s:=s.Y a;replace t:=t.Y a;replace l:=l.trans a;clear D E L a;refine gb ?_;refine gb ?_;refine aL ag F rfl x (t.ev true X) ?_;intro u x j f E;replace d:=j.aK d λb S=>aq;replace p:=p.kp f;replace o:=o.kp f j ah;replace r:=r.kp f;replace s:=s.kp f j ah;replace t:=t.kp f;replace l:=j.aK l λb S=>aq;clear j f E;refine gb ?_;refine gb ?_;refine aJ (tu _ c 5 _ H u (U d) aw aw) ?_;rintro _ Y ⟨a,u,u,rfl,z⟩;replace d:=d.trans a;replace p:=p.Y a;replace o:=o.Y a;replace r:=r.Y a;replace s:=s.Y a;replace t:=t.Y a;replace x:=x.Y a;replace l:=l.trans a;clear a;rw[a6,ab F,<-c4]at z;refine gb ?_;refine gb ?_;refine aS (.inl F) a_ ?_;intro u D a E;have C:=Bx.zero (N:=1) true D;obtain⟨u,L⟩ : ∃g,g=Y.heap.size:=⟨_,F⟩;rw[<-L]at C⊢;have g:w.heap.size<=u:=by have:=l.size;omega
 have g:A.heap.size<=u:=by have:=d.size;omega
 have g:P<u:=by have:=o.lt;omega
 have g:I<u:=by have:=s.lt;omega
 have g:G<u:=by have:=x.lt;omega
 replace d:=d.trans a;replace p:=p.Y a;replace o:=o.Y a;replace r:=r.Y a;replace s:=s.Y a;replace t:=t.Y a;replace x:=x.Y a;replace z:=z.Y a;replace l:=l.trans a;clear D E L a;refine gb ?_;refine gb ?_;refine aL ag F rfl C (z.ev true X) ?_;intro e C j f E;replace d:=j.aK d λb S=>aq;replace p:=p.kp f;replace o:=o.kp f j ah;replace r:=r.kp f;replace s:=s.kp f j ah;replace t:=t.kp f;replace x:=x.kp f j ah;replace z:=z.kp f;replace l:=j.aK l λb S=>aq;clear j f E;refine gb ?_;refine gb ?_;refine aJ (D6 _ c 5 _ M e (V d) aw aw) ?_;rintro _ e ⟨a,rfl⟩;replace d:=d.trans a;replace p:=p.Y a;replace o:=o.Y a;replace r:=r.Y a;replace s:=s.Y a;replace t:=t.Y a;replace x:=x.Y a;replace z:=z.Y a;replace C:=C.Y a;replace l:=l.trans a;clear a;refine gb ?_;refine gb ?_;refine aJ (D6 _ c 5 _ H e (U d) aw aw) ?_;rintro _ e ⟨a,rfl⟩;replace d:=d.trans a;replace p:=p.Y a;replace o:=o.Y a;replace r:=r.Y a;replace s:=s.Y a;replace t:=t.Y a;replace x:=x.Y a;replace z:=z.Y a;replace C:=C.Y a;replace l:=l.trans a;clear a;rw[h0,a6];have g:0<(aO c M).natAbs:=aq;have f:(aO c M).natAbs<=10000:=aq;refine gb ?_;refine gb ?_;refine aJ (rA _ c 5 M e (V d) g f J ak aw aw) ?_;rintro _ e ⟨a,j,D1,rfl,j,u,I⟩;replace d:=d.trans a;replace p:=p.Y a;replace o:=o.Y a;replace r:=r.Y a;replace s:=s.Y a;replace t:=t.Y a;replace x:=x.Y a;replace z:=z.Y a;replace C:=C.Y a;replace l:=l.trans a;clear a;have Q:Ext e e:=Ext.refl _;refine gb ?_;refine gb ?_;refine aJ (rA _ c 5 H e (U d) (by rw[a1];exact g) (by rw[a1];exact f) J ak aw aw) ?_;rintro _ e ⟨a,f,A,rfl,g,f,G⟩;replace d:=d.trans a;replace p:=p.Y a;replace o:=o.Y a;replace r:=r.Y a;replace s:=s.Y a;replace t:=t.Y a;replace x:=x.Y a;replace z:=z.Y a;replace C:=C.Y a;replace Q:=Q.trans a;replace l:=l.trans a;clear a;have O:Ext e e:=Ext.refl _;have cb:∀k,k<c->D1 k k=A k k:=λk hk=>Go.Sm.wM j g (u.symm.trans (hQ.trans f)) hk;have E:(decide (0=0/\∀i,i<c->M i i%2=0))=(decide (0=0/\∀i,i<c->H i i%2=0)):=decide_eq_decide.2 ⟨λh=>⟨rfl,bj.1 h.2⟩,λh=>⟨rfl,bj.2 h.2⟩⟩;obtain⟨f,f,f,j⟩:=id o;obtain⟨A,u⟩:=bh f;obtain⟨f,f,g,f⟩:=id s;obtain⟨i,h⟩:=bh g;refine gb ?_;refine gb ?_;refine aJ (sK _ _ _ _ _ _ 111 111 e (j.2 F) (f.2 F) aw aw W W) ?_;rintro _ D ⟨a,rfl⟩;replace d:=d.trans a;replace p:=p.Y a;replace o:=o.Y a;replace r:=r.Y a;replace s:=s.Y a;replace t:=t.Y a;replace x:=x.Y a;replace z:=z.Y a;replace C:=C.Y a;replace Q:=Q.trans a;replace O:=O.trans a;replace l:=l.trans a;clear a;rw[decide_eq_true (rfl:aO c M=aO c M)];clear A u i h;refine gb ?_;obtain⟨e,e,e,i⟩:=id x;obtain⟨u,j⟩:=bh e;obtain⟨e,e,f,e⟩:=id C;obtain⟨h,g⟩:=bh f;refine gb ?_;refine gb ?_;refine aJ (sK _ _ _ _ _ _ 5 5 D (i.2 F) (e.2 F) aw aw X X) ?_;rintro _ e ⟨a,rfl⟩;replace d:=d.trans a;replace p:=p.Y a;replace o:=o.Y a;replace r:=r.Y a;replace s:=s.Y a;replace t:=t.Y a;replace x:=x.Y a;replace z:=z.Y a;replace C:=C.Y a;replace Q:=Q.trans a;replace O:=O.trans a;replace l:=l.trans a;clear a;rw[decide_eq_true (rfl:((nh c M c:Nat):Int)=_)];clear u j h g;refine gb ?_;rw[E,beq_self_eq_true];refine gb ?_;refine gb ?_;refine aJ (pR _ _ _ _ 1 _ _ e ((I.Y Q).Jy y) ((G.Y O).Jy y) aw) ?_;rintro _ bA ⟨a,b,rfl,S⟩;replace d:=d.trans a;replace p:=p.Y a;replace o:=o.Y a;replace r:=r.Y a;replace s:=s.Y a;replace t:=t.Y a;replace x:=x.Y a;replace z:=z.Y a;replace C:=C.Y a;replace Q:=Q.trans a;replace O:=O.trans a;replace l:=l.trans a;clear a;obtain rfl:b=true:=S.2 ⟨F,λk hk=>cb k hk⟩;clear S;refine gb ?_;refine gb ?_;refine aJ (EK _ _ _ c c c K (λ_=>c) (λ_=>c) (λ_=>c) M H R bA ((c9 d).mono (Nat.le_trans aw bu)) (c5 d) (c6 d) (Nat.le_trans aw bu) (Nat.lt_of_le_of_lt ca aw)) ?_;rintro _ b ⟨a,rfl⟩;replace d:=d.trans a;replace p:=p.Y a;replace o:=o.Y a;replace r:=r.Y a;replace s:=s.Y a;replace t:=t.Y a;replace x:=x.Y a;replace z:=z.Y a;replace C:=C.Y a;replace Q:=Q.trans a;replace O:=O.trans a;replace l:=l.trans a;clear a;rw[ae];refine gb ?_;exact bF (v:=.bool _) F rfl ⟨l,F⟩
