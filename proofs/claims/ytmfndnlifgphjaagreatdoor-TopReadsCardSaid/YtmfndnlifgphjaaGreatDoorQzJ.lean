import Derived.Test.YtmfndnlifgphjaaGreatDoorQzI
set_option maxHeartbeats 64000000
open Go.Proofs.YtmfndnlifgphjaaGreatDoor
namespace Go.Se
section
open Go.aW Go.Sm
section
variable {n k:Nat}{M M':Mt}{p c kd:Nat}{d:Int}
theorem Ly{q i:Nat}(a:k<=q)(a:i<k):sx k q i=i:=by unfold sx;rw[aa (by omega),aa (by omega)]
theorem Ot.da(j:Ot n k (swp M k p c) M' kd)(f:uM n k M p c)(h:Da n k d M):Da n k d M':=by
 have e:=h.swp f;cases j with
 |a h=>exact e.cR
 |b f h=>exact e.red
 |c i0 h0 g hc i=>exact e.red.eK (Nat.le_of_lt h0) g
 |d hc i=>exact e.red
theorem Ot.dg(l:Ot n k (swp M k p c) M' kd)(f:uM n k M p c)(h:Dg n k M):Dg n k M':=by
 have e:k<n:=Nat.lt_of_le_of_lt f.hp f.kO;have g:=h.swp e f.hp f.kO f.hc f.o6;cases l with
 |a h=>exact g.cR e
 |b f h=>exact(g.cR e).h_ e
 |c i0 h0 i hc j=>exact((g.cR e).h_ e).eK e h0 i
 |d hc j=>exact(g.cR e).h_ e
theorem DN{t:Nat}(M:Mt)(a:t<k):cR M k n t t=M t t:=aa (by omega)
theorem B1{t:Nat}(M:Mt)(a:t<k):red M k n t t=M t t:=by
 show(if k<t/\t<n then _ else cR M k n t t)=M t t;rw[aa aq,DN M a]
theorem Ot.diag{t:Nat}(j:Ot n k (swp M k p c) M' kd)(g:uM n k M p c)(e:t<k):M' t t=M t t:=by
 have f:swp M k p c t t=M t t:=by simp only[swp];rw[Ly g.hp e,Ly g.hc e]
 cases j with
 |a h=>rw[DN _ e,f]
 |b g h=>rw[B1 _ e,f]
 |c i0 h0 g hc i=>
  simp only[eK];rw[aa aq,B1 _ e,f]
 |d hc i=>rw[B1 _ e,f]
theorem Ot.eqv(l:Ot n k (swp M k p c) M' kd)(f:uM n k M p c):iM n M M':=by
 have e:k<n:=Nat.lt_of_le_of_lt f.hp f.kO;have g:=xO M e f.kO f.o6;cases l with
 |a h=>exact g.trans (nM _ e)
 |b f h=>exact g.trans (r9 _ e)
 |c i0 h0 i hc j=>exact(g.trans (r9 _ e)).trans (HQ _ e i aq)
 |d hc j=>exact g.trans (r9 _ e)
theorem Ot.sg(f:Ot n k (swp M k p c) M' kd)(b:uM n k M p c)(h:Sg n k M):Sg n k M':=by
 have e:=λt (a:t<k)=>f.diag b a;exact⟨f.dg b h.dg,λt a=>by rw[e t a];exact h.nn t a,λt a=>by rw[e t aq,e (t+1) a];exact h.dv t a,λt a=>by rw[e t aq];exact f.da b (h.da t a)⟩
theorem Sg.next'(h1:Sg n k M)(h:k<n)(l:CLN n k M)(o:∀i j,k<i->i<n->k<j->j<n->M k k∣M i j):Sg n (k+1) (kP M k):=by
 have a:∀t,t≠k->kP M k t t=M t t:=λt e=>aa aq;have b:kP M k k k=((M k k).natAbs:Int):=ab ⟨F,F⟩;refine⟨λi j g f m m=>?_,λt e=>?_,λt e=>?_,λt e=>?_⟩
 ·simp only[kP];rw[aa aq];by_cases e:i<k\/j<k
  ·exact h1.dg i j g f e m
  ·by_cases m:i=k
   ·rw[m];exact l.2 j aq f
   ·have m:j=k:=aq;rw[m];exact l.1 i aq g
 ·by_cases e:t=k
  ·rw[e,b];exact Int.natCast_nonneg _
  ·rw[a t e];exact h1.nn t aq
 ·by_cases e:t+1=k
  ·rw[e,b,a t aq];have:=h1.da t e k k aD h aD h;exact Int.dvd_natAbs.2 this
  ·rw[a t aq,a (t+1) e];exact h1.dv t aq
 ·have e:t=k:=aq;rw[e,b];intro i j g b f a;simp only[kP];rw[aa aq];exact Int.natAbs_dvd.2 (o i j aq b aq a)
theorem Tm.kP{V:Nat}(h:Tm n (k+1) V M):Tm n (k+1) V (kP M k):=h.congr λi j a _ _ _=>by
 simp only[Go.Sm.kP];rw[aa aq]
end
def Bz(n b:Nat)(M:Mt):Prop:=∀i j,i<n->j<n->(M i j).natAbs<=2^b
theorem Bz.mono{n b a:Nat}{M:Mt}(h:Bz n b M)(f:b<=a):Bz n a M:=λi j e a=>Nat.le_trans (h i j e a) (Nat.pow_le_pow_right (by decide) f)
theorem Bz.OM{n b k p:Nat}{M:Mt}(h:Bz n b M)(e:k<n)(a:p<n):Bz n b (λi j=>M (sx k p i) j):=λ_i _j g f=>h _ _ (lF e a g) f
theorem Bz.OO{n b k p:Nat}{M:Mt}(h:Bz n b M)(e:k<n)(a:p<n):Bz n b (λi j=>M i (sx k p j)):=λ_i _j g f=>h _ _ g (lF e a f)
theorem Bz.mul{n a b:Nat}{X Y:Mt}(f:n<=4)(h:Bz n a X)(g:Bz n b Y):Bz n (a+b+2) (Go.aW.mul n X Y):=λi j m l=>by
 have e:(Go.aW.mul n X Y i j).natAbs<=n*(2^a*2^b):=oW λt e=>by
  rw[Int.natAbs_mul];exact Nat.mul_le_mul (h i t m e) (g t j e l)
 rw[Nat.pow_add,Nat.pow_add];have e:n*(2^a*2^b)<=4*(2^a*2^b):=Nat.mul_le_mul_right _ f;omega
def rV(W R:Mt)(t n:Nat):Mt:=λi j=>if i=t then W t j+sm n λl=>if t<l then R t l/R t t*W l j else 0 else W i j
def Rel(n:Nat)(U A D W:Mt):Prop:=∀i j,i<n->j<n->Go.aW.mul n U A i j=Go.aW.mul n D W i j
section
variable {n t:Nat}{U A D W:Mt}
theorem Jk{n:Nat}(s:Nat->Nat)(a:∀i,i<n->s i<n/\s (s i)=i)(f:Nat->Int):sm n (λi=>f (s i))=sm n f:=by
 have e:∀i,i<n->f (s i)=sm n λj=>if s i=j then f j else 0:=λi g=>by
  rw[dc (c:=s i) (a i g).1 λj _ b=>aa (Ne.symm b),ab rfl]
 rw[aR e,pI];refine aR λj b=>?_;rw[dc (c:=s j) (a j b).1 λi g h=>aa λe=>h (by rw[<-e,(a i g).2]),ab (a j b).2]
theorem Rel.swp{p c:Nat}(h:Rel n U A D W)(a:t<n)(b:p<n)(g:c<n):Rel n (λi j=>U (sx t p i) j) A (Go.Sm.swp D t p c) (λi j=>W (sx t c i) j):=λi j f e=>by
 have l:=h (sx t p i) j (lF a b f) e;show(sm n λk=>U (sx t p i) k*A k j)=sm n λk=>D (sx t p i) (sx t c k)*W (sx t c k) j;rw[Jk (sx t c) (BN a g) λk=>D (sx t p i) k*W k j];exact l
theorem Rel.rows{g:Nat->Int}{a e:Mt}(h:Rel n U A D W)(l:t<n)(m:∀i j,i<n->j<n->a i j=U i j-g i*U t j)(o:∀i j,i<n->j<n->e i j=D i j-g i*D t j):Rel n a A e W:=λi j b f=>by
 have q:Go.aW.mul n a A i j=Go.aW.mul n U A i j-g i*Go.aW.mul n U A t j:=by
  show sm n _=sm n _-g i*sm n _;rw[<-dL,aR (g:=λk=>1*(U i k*A k j)+(-1)*(g i*(U t k*A k j))) λk a=>by rw[m i k b a];grind,fQ];omega
 have m:Go.aW.mul n e W i j=Go.aW.mul n D W i j-g i*Go.aW.mul n D W t j:=by
  show sm n _=sm n _-g i*sm n _;rw[<-dL,aR (g:=λk=>1*(D i k*W k j)+(-1)*(g i*(D t k*W k j))) λk a=>by rw[o i k b a];grind,fQ];omega
 rw[q,m,h i j b f,h t j l f]
theorem Rel.FH(h:Rel n U A D W)(f:t<n):Rel n U A (Go.Sm.h_ D t n) (rV W D t n):=λi j m g=>by
 rw[h i j m g];show(sm n λk=>D i k*W k j)=sm n λk=>Go.Sm.h_ D t n i k*rV W D t n k j;have e:∀k,k<n->Go.Sm.h_ D t n i k*rV W D t n k j=1*(D i k*W k j)+1*((if k=t then D i t*(sm n λl=>if t<l then D t l/D t t*W l j else 0)else 0)-(if t<k then D i t*(D t k/D t t*W k j)else 0)):=λk b=>by
  simp only[Go.Sm.h_,rV];by_cases a:k=t
  ·subst a;rw[aa aq,ab F,ab F,aa aq];grind
  ·rw[aa a,aa a];by_cases a:t<k
   ·rw[ab ⟨a,b⟩,ab a];grind
   ·rw[aa aq,aa a];grind
 rw[aR e,fQ];have z:(sm n λk=>(if k=t then D i t*(sm n λl=>if t<l then D t l/D t t*W l j else 0)else 0)-(if t<k then D i t*(D t k/D t t*W k j)else 0))=0:=by
  have a:(sm n λk=>(if k=t then D i t*(sm n λl=>if t<l then D t l/D t t*W l j else 0)else 0)-(if t<k then D i t*(D t k/D t t*W k j)else 0))=
   1*(sm n λk=>if k=t then D i t*(sm n λl=>if t<l then D t l/D t t*W l j else 0)else 0)+(-1)*sm n λk=>if t<k then D i t*(D t k/D t t*W k j)else 0:=by
   rw[<-fQ];exact aR λk _=>aq
  rw[a,dc (c:=t) f λk _ b=>aa b,ab rfl,<-dL];have a:(sm n λl=>D i t*if t<l then D t l/D t t*W l j else 0)=sm n λk=>if t<k then D i t*(D t k/D t t*W k j)else 0:=aR λk _=>by split<;>simp
  rw[a];omega
 rw[z];omega
theorem Rel.eK{a:Nat}(h:Rel n U A D W)(f:t<n)(m:a<n):Rel n (Go.Sm.eK U t a) A (Go.Sm.eK D t a) W:=λi j l b=>by
 by_cases e:i=t
 ·subst e;have g:Go.aW.mul n (Go.Sm.eK U i a) A i j=Go.aW.mul n U A i j+Go.aW.mul n U A a j:=by
   show sm n _=sm n _+sm n _;rw[<-oV];exact aR λk _=>by rw[qY];grind
  have f:Go.aW.mul n (Go.Sm.eK D i a) W i j=Go.aW.mul n D W i j+Go.aW.mul n D W a j:=by
   show sm n _=sm n _+sm n _;rw[<-oV];exact aR λk _=>by rw[qY];grind
  rw[g,f,h i j l b,h a j m b]
 ·have g:Go.aW.mul n (Go.Sm.eK U t a) A i j=Go.aW.mul n U A i j:=aR λk _=>by simp only[Go.Sm.eK];rw[aa e]
  have f:Go.aW.mul n (Go.Sm.eK D t a) W i j=Go.aW.mul n D W i j:=aR λk _=>by simp only[Go.Sm.eK];rw[aa e]
  rw[g,f,h i j l b]
theorem Rel.bd{a b c:Nat}(h:Rel n U A D W)(g:n<=4)(e:1<=n)(e:aO n A≠0)(r:Bz n a D)(o:Bz n b W)(q:Bz n c (fY (n-1) A)):Bz n (a+b+c+4) U:=λi j l f=>by
 obtain⟨m,rfl⟩ : ∃m,n=m+1:=⟨n-1,aq⟩;have s:Go.aW.mul (m+1) (Go.aW.mul (m+1) D W) (fY m A) i j=U i j*aO (m+1) A:=by
  have u:Go.aW.mul (m+1) (Go.aW.mul (m+1) D W) (fY m A) i j=Go.aW.mul (m+1) (Go.aW.mul (m+1) U A) (fY m A) i j:=aR λk e=>by rw[h i k l e]
  rw[u,mul_assoc];have h:Go.aW.mul (m+1) U (Go.aW.mul (m+1) A (fY m A)) i j=sm (m+1) λk=>U i k*(if k=j then aO (m+1) A else 0):=aR λk e=>by rw[mA m A k j e f]
  rw[h,dc (c:=j) f λk _ e=>by rw[aa e,Int.mul_zero],ab F]
 have e:=Bz.mul g (Bz.mul g r o) (show Bz (m+1) c (fY m A)from q) i j l f;rw[s,Int.natAbs_mul]at e;have g:1<=(aO (m+1) A).natAbs:=aq;have f:(U i j).natAbs<=(U i j).natAbs*(aO (m+1) A).natAbs:=Nat.le_mul_of_pos_right _ g;rw[show a+b+c+4=a+b+2+c+2 by omega];exact Nat.le_trans f e
end
theorem Bz.jy{n b E t:Nat}{V R:Mt}(h:Bz n b V)(e:t<n)(l:Bz n E R):Bz n (b+E+1) (λi j=>if t<j/\j<n then V i j-R t j/R t t*V i t else V i j):=λi j g f=>by
 have m:=h i j g f;have m:=h i t g e;have g:=l t j e f;have e:(R t j/R t t).natAbs<=2^E:=Nat.le_trans (Int.natAbs_ediv_le_natAbs _ _) g;have f:2^b<=2^b*2^E:=Nat.le_mul_of_pos_right _ (Nat.pow_pos aw);have f:2^(b+E+1)=2*(2^b*2^E):=by rw[Nat.pow_succ,Nat.pow_add];omega
 rw[f];show(if t<j/\j<n then V i j-R t j/R t t*V i t else V i j).natAbs<=_;split
 ·have f:(R t j/R t t*V i t).natAbs<=2^b*2^E:=by rw[Int.natAbs_mul,Nat.mul_comm];exact Nat.mul_le_mul m e
  omega
 ·omega
theorem Bz.rV{n b E t:Nat}{W R:Mt}(g:n<=4)(h:Bz n b W)(e:t<n)(m:Bz n E R):Bz n (b+E+3) (rV W R t n):=λi j f a=>by
 have l:=h i j f a;have f:=h t j e a;have f:2^b<=2^b*2^E:=Nat.le_mul_of_pos_right _ (Nat.pow_pos aw);have f:2^(b+E+3)=8*(2^b*2^E):=by rw[Nat.pow_add,Nat.pow_add];omega
 rw[f];unfold Go.Se.rV;split
 ·have f:(sm n λl=>if t<l then R t l/R t t*W l j else 0).natAbs<=n*(2^b*2^E):=oW λl f=>by
   split
   ·rw[Int.natAbs_mul,Nat.mul_comm];exact Nat.mul_le_mul (h l j f a) (Nat.le_trans (Int.natAbs_ediv_le_natAbs _ _) (m t l e f))
   ·exact Nat.zero_le _
  have a:n*(2^b*2^E)<=4*(2^b*2^E):=Nat.mul_le_mul_right _ g;omega
 ·omega
end
end Go.Se
namespace Go.Hn
section
open Go.aW Go.Sm
def Lt(n:Nat)(w:Mt)(v:Nat->Int):Prop:=∃x:Nat->Int,∀r,r<n->v r=sm n λk=>w r k*x k
theorem Lt.congr{n:Nat}{w:Mt}{u v:Nat->Int}(h:Lt n w u)(e:∀r,r<n->u r=v r):Lt n w v:=by
 obtain⟨x,b⟩:=h;exact⟨x,λr a=>by rw[<-e r a,b r a]⟩
theorem Lt.mZ{n:Nat}{w:Mt}{u v:Nat->Int}(h:Lt n w u)(g:Lt n w v)(a b:Int):Lt n w (λr=>a*u r+b*v r):=by
 obtain⟨x,e⟩:=h;obtain⟨y,d⟩:=g;refine⟨λk=>a*x k+b*y k,λr c=>?_⟩;show a*u r+b*v r=_;rw[e r c,d r c,<-fQ];exact aR λk _=>aC
theorem Lt.Pk{n k:Nat}{w:Mt}(a:k<n):Lt n w (λr=>w r k):=by
 refine⟨λt=>if t=k then 1 else 0,λr _=>?_⟩;rw[dc (c:=k) a λt _ a=>by show w r t*(if t=k then 1 else 0)=0;rw[aa a,Int.mul_zero]];show w r k=w r k*(if k=k then 1 else 0);rw[ab F,Int.mul_one]
theorem Lt.zero(n:Nat)(w:Mt):Lt n w (λ_=>0):=⟨λ_=>0,λ_r _=>(fK λ_k _=>Int.mul_zero _).symm⟩
def Mu(n i:Nat)(w:Mt)(m:Int):Prop:=∀k,i<=k->k<n->Lt n w (λr=>if r=k then m else 0)
theorem Mu.sum{n i:Nat}{w:Mt}{m:Int}(h:Mu n i w m)(q:Nat->Int):∀t,i<=t->t<=n->Lt n w (λr=>if i<=r/\r<t then m*q r else 0):=by
 intro t a;obtain⟨d,rfl⟩:=Nat.exists_eq_add_of_le a;clear a;induction d with
 |zero=>exact λ_=>(Lt.zero n w).congr λr _=>by rw[aa aq]
 |succ d b=>
  intro c;obtain⟨t,c⟩ : ∃t,t=i+d:=⟨_,F⟩;have a:i<=t:=aq;rw[<-Nat.add_assoc,<-c];rw[<-c]at b;refine((b aq).mZ (h t a aq) 1 (q t)).congr λr _=>?_;by_cases e:r=t
  ·subst e;rw[aa aq,ab F,ab ⟨a,aq⟩];grind
  ·by_cases a:i<=r/\r<t
   ·rw[ab a,aa e,ab ⟨a.1,aq⟩];omega
   ·rw[aa a,aa e,aa aq];omega
theorem Lt.mod{n i:Nat}{w:Mt}{m:Int}{u v:Nat->Int}(h:Lt n w u)(a:Mu n i w m)(b:i<=n)(e:∀r,r<i->v r=u r)(d:∀r,i<=r->r<n->m∣v r-u r):Lt n w v:=by
 refine(h.mZ (a.sum (λr=>(v r-u r)/m) n b (Nat.le_refl n)) 1 1).congr λr a=>?_;by_cases g:i<=r
 ·rw[ab ⟨g,a⟩];have:=Int.mul_ediv_cancel' (d r g a);omega
 ·rw[aa aq,e r aq];omega
def jY:Nat->(Nat->Int)->Int
 |0,_=>1
 |i+1,p=>jY i p*p i
theorem ko{p q:Nat->Int}:∀{i:Nat},(∀j,j<i->p j=q j)->jY i p=jY i q
 |0,_=>rfl
 |i+1,h=>by simp only[jY];rw[ko (i:=i) λj a=>h j aq,h i aq]
theorem n7{p:Nat->Int}:∀{i:Nat},(∀j,j<i->0<p j)->0<jY i p
 |0,_=>by show(0:Int)<1;decide
 |i+1,h=>Int.mul_pos (n7 (i:=i) λj a=>h j aq) (h i aq)
theorem od:∀(n:Nat) (A:Mt),(∀i j,i<n->j<n->i<j->A i j=0)->aO n A=jY n λi=>A i i
 |0,_,_=>rfl
 |n+1,A,h=>by
  rw[<-cY,qj n (tr A) λj a=>h j n aq aq a,cY,od n A λi j b a a=>h i j aq aq a];simp only[jY,tr];exact Int.mul_comm _ _
structure HS(n i:Nat)(w:Mt)(p:Nat->Int)(m:Int)(C:Mt):Prop where
 mem:∀j,j<n->Lt n w (C j)
 zero:∀j r,j<n->r<j->r<i->C j r=0
 diag:∀j,j<i->C j j=p j/\0<p j
 red:∀j r,j<r->r<i->0<=C j r/\C j r<p r
 mu:Mu n i w m
 dvd:∀j,j<i->∀v,Lt n w v->(∀r,r<j->v r=0)->p j∣v j
 gen:∀v,Lt n w v->(∀r,r<i->v r=0)->∃y:Nat->Int,∀r,i<=r->r<n->m∣v r-sm n λj=>if i<=j then C j r*y j else 0
 prod:jY i p*m=((aO n w).natAbs:Int)
 pos:0<m
 Me:∀j r,j<n->i<=r->r<n->0<=C j r/\C j r<m
theorem Gp{n k:Nat}(w:Mt)(b:k<n)(f:Int)(c:f=aO n w\/f=- aO n w):Lt n w (λr=>if r=k then f else 0):=by
 cases n with
 |zero=>omega
 |succ n=>
  have h:∀r,r<n+1->(sm (n+1) λt=>w r t*fY n w t k)=if r=k then aO (n+1) w else 0:=λr a=>mA n w r k a b;rcases c with e|e
  ·exact⟨λt=>fY n w t k,λr a=>by rw[h r a,e]⟩
  ·refine⟨λt=>- fY n w t k,λr a=>?_⟩;have:(sm (n+1) λt=>w r t*- fY n w t k)=- (sm (n+1) λt=>w r t*fY n w t k):=by
    have:=dL (n+1) (λt=>w r t*fY n w t k) (-1);rw[show(-(sm (n+1) λt=>w r t*fY n w t k))=-1*(sm (n+1) λt=>w r t*fY n w t k) by omega,<-this];exact aR λt _=>aC
   rw[this,h r a,e];show(if r=k then-aO (n+1) w else 0)=_;split<;>omega
theorem HS.start{n:Nat}{w:Mt}(a:aO n w≠0):HS n 0 w (λ_=>0) ((aO n w).natAbs:Int) (λj r=>w r j%((aO n w).natAbs:Int)):=by
 have b:Mu n 0 w ((aO n w).natAbs:Int):=λk _ a=>Gp w a _ aq;have c:(0:Int)<((aO n w).natAbs:Int):=aq;have d:∀a m:Int,m∣a%m-a:=λa m=>⟨-(a/m),by rw[Int.emod_def];grind⟩;refine⟨λj a=>(Lt.Pk a).mod b (Nat.zero_le n) (λr a=>aq) λr _ _=>d _ _,λ_ _ _ _ h=>aq,λ_ h=>aq,λ_ _ _ h=>aq,b,λ_ h=>aq,λv d _=>?_,?_,c,λj r _ _ _=>⟨Int.emod_nonneg _ aq,Int.emod_lt_of_pos _ c⟩⟩
 ·obtain⟨x,b⟩:=d;refine⟨x,λr _ a=>?_⟩;rw[b r a];have e:(sm n λk=>w r k*x k)-(sm n λj=>if 0<=j then w r j%((aO n w).natAbs:Int)*x j else 0)=sm n λk=>(w r k-w r k%((aO n w).natAbs:Int))*x k:=by
   have:=fQ n (λk=>w r k*x k) (λj=>if 0<=j then w r j%((aO n w).natAbs:Int)*x j else 0) 1 (-1);rw[show(sm n λk=>w r k*x k)-(sm n λj=>if 0<=j then w r j%((aO n w).natAbs:Int)*x j else 0)=1*(sm n λk=>w r k*x k)+-1*(sm n λj=>if 0<=j then w r j%((aO n w).natAbs:Int)*x j else 0) by omega,<-this];exact aR λk _=>by rw[ab (Nat.zero_le k)];grind
  rw[e];exact mE λk _=>Int.dvd_trans ⟨w r k/((aO n w).natAbs:Int),by rw[Int.emod_def];grind⟩ ⟨x k,F⟩
 ·simp[jY]
theorem Jl{n i j:Nat}{f:Nat->Int}(k:i<n)(g:j<n)(c:i≠j)(h:∀t,t<n->t≠i->t≠j->f t=0):sm n f=f i+f j:=by
 have e:sm n f=sm n λt=>(if t=i then f i else 0)+(if t=j then f j else 0):=aR λt d=>by
  by_cases a:t=i
  ·subst a;rw[ab F,aa c];omega
  ·by_cases b:t=j
   ·subst b;rw[aa a,ab F];omega
   ·rw[aa a,aa b,h t d a b];rfl
 rw[e,oV,dc k λt _ a=>aa a,dc g λt _ a=>aa a,ab rfl,ab rfl]
theorem xA(a m:Int):m∣a%m-a:=⟨-(a/m),by rw[Int.emod_def];grind⟩
def mH(C:Mt)(i j:Nat)(a b x y m:Int):Mt:=λt r=>
 if t=i then(if i<=r then(a*C i r+b*C j r)%m else a*C i r+b*C j r)
 else if t=j then(if i<=r then(x*C j r+-y*C i r)%m else x*C j r+-y*C i r)else C t r
theorem Ej(C:Mt)(i j r:Nat)(a b x y m:Int)(c:i<=r):mH C i j a b x y m i r=(a*C i r+b*C j r)%m:=by unfold mH;rw[ab F,ab c]
theorem Ei(C:Mt){i j:Nat}(r:Nat)(a b x y m:Int)(c:i<j)(c:i<=r):mH C i j a b x y m j r=(x*C j r+-y*C i r)%m:=by unfold mH;rw[aa (by omega),ab F,ab c]
theorem tw(C:Mt){i j t:Nat}(r:Nat)(a b x y m:Int)(h1:t≠i)(c:t≠j):mH C i j a b x y m t r=C t r:=by unfold mH;rw[aa h1,aa c]
theorem HS.clear{n i j:Nat}{w:Mt}{p:Nat->Int}{m:Int}{C:Mt}{a b x y:Int}(h:HS n i w p m C)(q:i<j)(A:j<n)(h1:a*x+b*y=1):HS n i w p m (mH C i j a b x y m):=by
 have B:i<n:=aq;have s:∀t r,i<=t->t<n->r<i->C t r=0:=λt r o D g=>h.zero t r D aq g;refine⟨λt o=>?_,λt r o H g=>?_,λt o=>by rw[tw C t a b x y m aq aq];exact h.diag t o,λt r D g=>by rw[tw C r a b x y m aq aq];exact h.red t r D g,h.mu,h.dvd,λv I u=>?_,h.prod,h.pos,λt r o c g=>?_⟩
 ·by_cases k:t=i
  ·subst k;refine((h.mem t o).mZ (h.mem j A) a b).mod h.mu aq (λr g=>?_) λr c _=>by rw[Ej C t j r a b x y m c];exact xA _ _
   unfold mH;rw[ab F,aa aq]
  ·by_cases l:t=j
   ·subst l;refine((h.mem t o).mZ (h.mem i B) x (-y)).mod h.mu aq (λr g=>?_) λr c _=>by rw[Ei C r a b x y m q c];exact xA _ _
    unfold mH;rw[aa k,ab F,aa aq]
   ·exact(h.mem t o).congr λr _=>(tw C r a b x y m k l).symm
 ·by_cases k:t=i
  ·subst k;unfold mH;rw[ab F,aa aq,s t r aD o g,s j r aq A g];omega
  ·by_cases l:t=j
   ·subst l;unfold mH;rw[aa k,ab F,aa aq,s t r aq o g,s i r aD B g];omega
   ·rw[tw C r a b x y m k l];exact h.zero t r o H g
 ·obtain⟨z,u⟩:=h.gen v I u;refine⟨λt=>if t=i then x*z i+y*z j else if t=j then -b*z i+a*z j else z t,λr c g=>?_⟩;have L:=u r c g;obtain⟨d,s⟩ : ∃d:Nat->Int,d=λt=>if t=i then x*z i+y*z j else if t=j then -b*z i+a*z j else z t:=⟨_,F⟩;have I:d i=x*z i+y*z j:=by rw[s];exact ab F
  have H:d j=-b*z i+a*z j:=by rw[s];show(if j=i then _ else if j=j then _ else _)=_;rw[aa aq,ab F]
  have D:∀t,t≠i->t≠j->d t=z t:=λt k l=>by rw[s];show(if t=i then _ else if t=j then _ else _)=_;rw[aa k,aa l]
  rw[<-s];have e:(sm n λt=>if i<=t then C t r*z t else 0)-(sm n λt=>if i<=t then mH C i j a b x y m t r*d t else 0)=(C i r*z i-mH C i j a b x y m i r*d i)+(C j r*z j-mH C i j a b x y m j r*d j):=by
   have k:=fQ n (λt=>if i<=t then C t r*z t else 0) (λt=>if i<=t then mH C i j a b x y m t r*d t else 0) 1 (-1);have l:=Jl (f:=λt=>1*(if i<=t then C t r*z t else 0)+-1*(if i<=t then mH C i j a b x y m t r*d t else 0)) B A aq λt _ u s=>by
    show 1*(if i<=t then C t r*z t else 0)+-1*(if i<=t then mH C i j a b x y m t r*d t else 0)=0;rw[tw C r a b x y m u s,D t u s];omega
   rw[k]at l;simp only[ab (Nat.le_refl i),ab (Nat.le_of_lt q)]at l;omega
  have M:m∣(C i r*z i-mH C i j a b x y m i r*d i)+(C j r*z j-mH C i j a b x y m j r*d j):=by
   rw[Ej C i j r a b x y m c,Ei C r a b x y m q c,I,H,Int.emod_def,Int.emod_def];generalize (a*C i r+b*C j r)/m=K;generalize (x*C j r+-y*C i r)/m=J;generalize C i r=c1;generalize C j r=c2;generalize z i=E;generalize z j=z2;refine⟨K*(x*E+y*z2)+J*(-b*E+a*z2),?_⟩;grind
  have:=Int.dvd_add L M;rw[<-e]at this;have e:v r-(sm n λt=>if i<=t then C t r*z t else 0)+((sm n λt=>if i<=t then C t r*z t else 0)-sm n λt=>if i<=t then mH C i j a b x y m t r*d t else 0)=v r-sm n λt=>if i<=t then mH C i j a b x y m t r*d t else 0:=aq;rw[e]at this;exact this
 ·have G:=h.pos;by_cases k:t=i
  ·subst k;rw[Ej C t j r a b x y m c];exact⟨Int.emod_nonneg _ aq,Int.emod_lt_of_pos _ G⟩
  ·by_cases l:t=j
   ·subst l;rw[Ei C r a b x y m q c];exact⟨Int.emod_nonneg _ aq,Int.emod_lt_of_pos _ G⟩
   ·rw[tw C r a b x y m k l];exact h.Me t r o c g
theorem KD{n i j:Nat}{w:Mt}{p:Nat->Int}{m:Int}{C:Mt}{a b x y g:Int}(h:HS n i w p m C)(f:i<j)(o:j<n)(l:C i i=g*x)(k:C j i=g*y)(q:a*C i i+b*C j i=g)(r:C j i≠0)(c:0<g):
 mH C i j a b x y m i i=g/\mH C i j a b x y m j i=0:=by
 rw[Ej C i j i a b x y m (Nat.le_refl i),Ei C i a b x y m f (Nat.le_refl i),q];have f:=h.Me j i o (Nat.le_refl i) aq;have e:1<=y:=by
  rcases Int.lt_or_le 0 y with d|d
  ·omega
  ·have:=Int.mul_nonpos_of_nonneg_of_nonpos (Int.le_of_lt c) d;omega
 have d:g<=g*y:=by
  have:=Int.mul_le_mul_of_nonneg_left e (Int.le_of_lt c);omega
 refine⟨Int.emod_eq_of_lt (Int.le_of_lt c) aq,?_⟩;rw[l,k];have:x*(g*y)+-y*(g*x)=0:=aC;rw[this];exact Int.zero_emod m
theorem L_{n k:Nat}{f:Nat->Int}(a:k<=n)(h:∀t,k<=t->t<n->f t=0):sm n f=sm k f:=by
 obtain⟨d,rfl⟩:=Nat.exists_eq_add_of_le a;clear a;induction d with
 |zero=>rfl
 |succ d b=>
  rw[<-Nat.add_assoc];simp only[sm];rw[b λt a b=>h t a aq,h (k+d) aq aq];omega
theorem JK{p:Nat->Int}{k n:Nat}(a:k<=n):jY n (λr=>if r<k then p r else 1)=jY k p:=by
 obtain⟨d,rfl⟩:=Nat.exists_eq_add_of_le a;clear a;induction d with
 |zero=>exact ko λj a=>ab a
 |succ d b=>
  rw[<-Nat.add_assoc];simp only[jY];rw[b,aa aq,Int.mul_one]
structure Dn(n k:Nat)(w:Mt)(p:Nat->Int)(K:Mt):Prop where
 mem:∀t,t<k->Lt n w (K t)
 low:∀t r,t<k->r<t->K t r=0
 diag:∀t,t<k->K t t=p t/\0<p t
 dvd:∀t,t<k->∀v,Lt n w v->(∀r,r<t->v r=0)->p t∣v t
theorem Dn.expand{n k:Nat}{w:Mt}{p:Nat->Int}{K:Mt}(h:Dn n k w p K){v:Nat->Int}(c:Lt n w v):∀d,d<=k->∃x:Nat->Int,Lt n w (λr=>v r-sm d λt=>K t r*x t)/\∀r,r<d->v r=sm d λt=>K t r*x t:=by
 intro d;induction d with
 |zero=>exact λ_=>⟨λ_=>0,c.congr λr _=>(Int.sub_zero _).symm,λr a=>aq⟩
 |succ d e=>
  intro c;obtain⟨x,c,b⟩:=e aq;obtain⟨q,e⟩:=h.dvd d aq _ c λr a=>by rw[b r a];omega
  have e:∀r,(sm (d+1) λt=>K t r*(if t=d then q else x t))=(sm d λt=>K t r*x t)+K d r*q:=λr=>by
   simp only[sm];rw[ab trivial];congr 1;exact aR λt g=>by rw[aa aq]
  refine⟨λt=>if t=d then q else x t,(c.mZ (h.mem d aq) 1 (-q)).congr λr _=>by rw[e];grind,λr a=>?_⟩;rw[e];by_cases f:r=d
  ·subst f;rw[(h.diag r aq).1];omega
  ·rw[h.low d r aq aq,b r aq];omega
theorem Dn.mu{n k:Nat}{w:Mt}{p:Nat->Int}{K:Mt}{m:Int}(h:Dn n k w p K)(u:jY k p*m=((aO n w).natAbs:Int)):Mu n k w m:=by
 intro c b y;cases n with
 |zero=>omega
 |succ n=>
  have b:0<jY k p:=n7 λj b=>(h.diag j b).2;have v:∀t,jY k p∣fY n w t c:=λt=>by
   simp only[fY,uK];refine Int.dvd_mul_of_dvd_right ?_;have d:∀q,∃x:Nat->Int,q<n->∀r,r<k->w r (skip t q)=sm k λs=>K s r*x s:=λq=>by
    by_cases i:q<n
    ·obtain⟨x,_,h2⟩:=h.expand (Lt.Pk (w:=w) (iT (j:=t) i)) k (Nat.le_refl k);exact⟨x,λ_=>h2⟩
    ·exact⟨λ_=>0,λh=>absurd h i⟩
   obtain⟨X,x⟩:=Classical.axiomOfChoice d;have e:aO n (minor w c t)=aO n (mul n (λr s=>if r<k then(if s<k then K s r else 0)else if s=r then 1 else 0) λs q=>if s<k then X q s else minor w c t s q):=by
    refine bk λr q g i=>?_;simp only[mul];by_cases d:r<k
    ·rw[L_ (k:=k) aq λs z _=>by rw[ab d,aa aq,Int.zero_mul]];simp only[minor];have l:skip c r=r:=by unfold skip;rw[ab aq]
     rw[l,x q i r d];exact aR λs f=>by rw[ab d,ab f,ab f]
    ·rw[dc (c:=r) g λs _ i=>by rw[aa d,aa i,Int.zero_mul],aa d,ab F,aa d,Int.one_mul]
   rw[e,iU,od]
   ·refine Int.dvd_mul_of_dvd_left ?_;have d:jY n (λi=>if i<k then(if i<k then K i i else 0)else if i=i then 1 else 0)=jY k p:=by
     rw[<-JK (p:=p) (show k<=n by omega)];refine ko λj _=>?_;by_cases b:j<k
     ·rw[ab b,ab b,ab b];exact(h.diag j b).1
     ·rw[aa b,aa b,ab F]
    rw[d];exact Int.dvd_refl _
   ·intro i j _ _ q;by_cases d:i<k
    ·rw[ab d];by_cases b:j<k
     ·rw[ab b];exact h.low j i b q
     ·rw[aa b]
    ·rw[aa d,aa aq]
  have o:∀r,r<n+1->jY k p*(sm (n+1) λt=>w r t*(fY n w t c/jY k p))=if r=c then aO (n+1) w else 0:=λr g=>by
   rw[<-mA n w r c g y,<-dL];exact aR λt _=>by
    have:=Int.mul_ediv_cancel' (v t);grind
  have f:∃s:Int,(s=1\/s=-1)/\aO (n+1) w*s=jY k p*m:=by
   rcases Int.natAbs_eq (aO (n+1) w)with e|e
   ·exact⟨1,.inl F,by rw[u];omega⟩
   ·exact⟨-1,.inr F,by rw[u];omega⟩
  obtain⟨s,_,f⟩:=f;refine⟨λt=>s*(fY n w t c/jY k p),λr g=>?_⟩;have l:(sm (n+1) λt=>w r t*(s*(fY n w t c/jY k p)))=s*sm (n+1) λt=>w r t*(fY n w t c/jY k p):=by
   rw[<-dL];exact aR λt _=>aC
  rw[l];refine Int.eq_of_mul_eq_mul_left (a:=jY k p) aq ?_;have d:=o r g;show jY k p*(if r=c then m else 0)=_;by_cases b:r=c
  ·rw[ab b]at d⊢;grind
  ·rw[aa b]at d⊢;grind
def lk(C:Mt)(i:Nat)(a b:Int):Nat->Int:=λr=>if r=i then b else a*C i r
def qa(C:Mt)(i:Nat)(a b:Int):Mt:=λt r=>if t=i then lk C i a b r else if t<i then C t r+-(C t i/b)*lk C i a b r else C t r
def fin(C:Mt)(i:Nat)(a b m:Int):Mt:=λt r=>if i<r then qa C i a b t r%m else qa C i a b t r
theorem xL(C:Mt)(i:Nat)(a b:Int)(r:Nat):qa C i a b i r=lk C i a b r:=ab F
theorem p_(C:Mt){i t:Nat}(a b:Int)(r:Nat)(h:t<i):qa C i a b t r=C t r+-(C t i/b)*lk C i a b r:=by unfold qa;rw[aa (by omega),ab h]
theorem r8(C:Mt){i t:Nat}(a b:Int)(r:Nat)(h:i<t):qa C i a b t r=C t r:=by unfold qa;rw[aa (by omega),aa (by omega)]
theorem te(C:Mt){i r:Nat}(a b m:Int)(t:Nat)(h:r<=i):fin C i a b m t r=qa C i a b t r:=aa (by omega)
theorem xK(C:Mt){i r:Nat}(a b m:Int)(t:Nat)(h:i<r):fin C i a b m t r=qa C i a b t r%m:=ab h
theorem HS.next{n i:Nat}{w:Mt}{p:Nat->Int}{m:Int}{C:Mt}{a b d f:Int}(h:HS n i w p m C)(z:i<n)(R:∀t,i<t->t<n->C t i=0)
 (M:a*C i i+b*m=d) (O:d∣C i i) (u:m=d*f) (Q:0<d):
 HS n (i+1) w (λt=>if t=i then d else p t) f (fin C i a d f):=by
 have D:∀r,r<i->lk C i a d r=0:=λr l=>by unfold lk;rw[aa aq,h.zero i r z l l,Int.mul_zero]
 have P:lk C i a d i=d:=ab F;have E:Lt n w (lk C i a d):=((h.mem i z).mZ (h.mu i (Nat.le_refl i) z) a b).congr λr _=>by
  unfold lk;by_cases e:r=i
  ·rw[ab e,ab e,e];exact M
  ·rw[aa e,aa e];omega
 have B:(if i=i then d else p i)=d:=ab F;have A:∀t,t<i->(if t=i then d else p t)=p t:=λt g=>aa aq;have G:0<f:=by
  have:=h.pos;rcases Int.lt_or_le 0 f with s|s
  ·exact s
  ·have:=Int.mul_nonpos_of_nonneg_of_nonpos (Int.le_of_lt Q) s;omega
 have L:∀v,Lt n w v->(∀r,r<i->v r=0)->d∣v i:=λv H x=>by
  obtain⟨y,J⟩:=h.gen v H x;have s:=J i (Nat.le_refl i) z;rw[dc (c:=i) z λt g X=>?_,ab (Nat.le_refl i)]at s
  ·have o:d∣v i-C i i*y i:=Int.dvd_trans ⟨f,u⟩ s;have T:d∣C i i*y i:=Int.dvd_trans O ⟨y i,F⟩;have:=Int.dvd_add o T;rwa[show v i-C i i*y i+C i i*y i=v i by omega]at this
  ·by_cases o:i<=t
   ·rw[ab o,R t aq g,Int.zero_mul]
   ·rw[aa o]
 have k:Dn n (i+1) w (λt=>if t=i then d else p t) (qa C i a d):=by
  refine⟨λt g=>?_,λt r g l=>?_,λt g=>?_,λt g v H x=>?_⟩
  ·by_cases e:t=i
   ·subst e;exact E.congr λr _=>(xL C t a d r).symm
   ·exact((h.mem t aq).mZ E 1 (-(C t i/d))).congr λr _=>by rw[p_ C a d r aq];omega
  ·by_cases e:t=i
   ·subst e;rw[xL];exact D r l
   ·rw[p_ C a d r aq,D r aq,h.zero t r aq l aq];omega
  ·by_cases e:t=i
   ·subst e;rw[xL,P];exact⟨B.symm,by rw[B];exact Q⟩
   ·have:=h.diag t aq;rw[p_ C a d t aq,D t aq,A t aq];exact⟨by rw[this.1];omega,this.2⟩
  ·by_cases e:t=i
   ·subst e;rw[B];exact L v H x
   ·rw[A t aq];exact h.dvd t aq v H x
 have E:jY (i+1) (λt=>if t=i then d else p t)*f=((aO n w).natAbs:Int):=by
  simp only[jY];rw[ko (q:=p) λj S=>A j S,<-h.prod,u,Int.mul_assoc];simp
 have N:=k.mu E;refine⟨λt g=>?_,λt r g L l=>?_,λt g=>?_,λj r V l=>?_,N,k.dvd,λv H x=>?_,E,G,λt r g W l=>?_⟩
 ·have E:Lt n w (qa C i a d t):=by
   by_cases e:t<i+1
   ·exact k.mem t e
   ·exact(h.mem t g).congr λr _=>(r8 C a d r aq).symm
  exact E.mod N aq (λr l=>te C a d f t aq) λr l _=>by rw[xK C a d f t aq];exact xA _ _
 ·rw[te C a d f t aq];by_cases e:t<i+1
  ·exact k.low t r e L
  ·rw[r8 C a d r aq];by_cases K:r=i
   ·rw[K];exact R t aq g
   ·exact h.zero t r g L aq
 ·rw[te C a d f t aq];exact k.diag t g
 ·rw[te C a d f j aq,p_ C a d r aq];by_cases e:r=i
  ·subst e;rw[P,B];have K:C j r+-(C j r/d)*d=C j r%d:=by rw[Int.emod_def];grind
   rw[K];exact⟨Int.emod_nonneg _ aq,Int.emod_lt_of_pos _ Q⟩
  ·rw[D r aq,A r aq];have:=h.red j r V aq;omega
 ·obtain⟨y,J⟩:=h.gen v H λr l=>x r aq;have s:=J i (Nat.le_refl i) z;rw[dc (c:=i) z λt g X=>?_,ab (Nat.le_refl i),x i aq]at s;rotate_left
  ·by_cases o:i<=t
   ·rw[ab o,R t aq g,Int.zero_mul]
   ·rw[aa o]
  have U:f∣y i:=by
   obtain⟨h,g⟩:=O;obtain⟨k,x⟩:=s;have o:a*h+b*f=1:=by
    refine Int.eq_of_mul_eq_mul_left (a:=d) aq ?_;rw[g,u]at M;grind
   have T:h*y i=f*-k:=by
    refine Int.eq_of_mul_eq_mul_left (a:=d) aq ?_;rw[g,u]at x;grind
   exact⟨a*-k+b*y i,aC⟩
  refine⟨y,λr W l=>?_⟩;have o:f∣v r-sm n λj=>if i<=j then C j r*y j else 0:=Int.dvd_trans ⟨d,by rw[u];exact Int.mul_comm _ _⟩ (J r aq l);have e:(sm n λj=>if i<=j then C j r*y j else 0)-(sm n λj=>if i+1<=j then fin C i a d f j r*y j else 0)=sm n λj=>if i<=j then(if j=i then C i r*y i else(C j r-C j r%f)*y j)else 0:=by
   have g:=fQ n (λj=>if i<=j then C j r*y j else 0) (λj=>if i+1<=j then fin C i a d f j r*y j else 0) 1 (-1);have K:(sm n λj=>1*(if i<=j then C j r*y j else 0)+-1*(if i+1<=j then fin C i a d f j r*y j else 0))=sm n λj=>if i<=j then(if j=i then C i r*y i else(C j r-C j r%f)*y j)else 0:=aR λj S=>by
    by_cases I:j=i
    ·subst I;rw[ab (Nat.le_refl j),aa aq,ab (Nat.le_refl j),ab F];omega
    ·by_cases g:i<=j
     ·rw[ab g,ab aq,ab g,aa I,xK C a d f j aq,r8 C a d r aq];grind
     ·rw[aa g,aa aq,aa g];rfl
   omega
  have h:f∣sm n λj=>if i<=j then(if j=i then C i r*y i else(C j r-C j r%f)*y j)else 0:=mE λj _=>by
   by_cases g:i<=j
   ·rw[ab g];by_cases I:j=i
    ·rw[ab I];exact Int.dvd_trans U ⟨C i r,Int.mul_comm _ _⟩
    ·rw[aa I];exact Int.dvd_trans ⟨C j r/f,by rw[Int.emod_def];grind⟩ ⟨y j,F⟩
   ·rw[aa g];exact Int.dvd_zero _
  rw[<-e]at h;have:=Int.dvd_add o h;rwa[show v r-(sm n λj=>if i<=j then C j r*y j else 0)+((sm n λj=>if i<=j then C j r*y j else 0)-sm n λj=>if i+1<=j then fin C i a d f j r*y j else 0)=v r-sm n λj=>if i+1<=j then fin C i a d f j r*y j else 0 by omega]at this
 ·rw[xK C a d f t aq];exact⟨Int.emod_nonneg _ aq,Int.emod_lt_of_pos _ G⟩
structure Hf(n:Nat)(H:Mt):Prop where
 up:∀i j,i<n->j<n->i<j->H i j=0
 pos:∀i,i<n->0<H i i
 red:∀i j,i<n->j<i->0<=H i j/\H i j<H i i
theorem HS.done{n:Nat}{w:Mt}{p:Nat->Int}{m:Int}{C:Mt}(h:HS n n w p m C)(a:aO n w≠0):Hf n (tr C)/\∃X,(aO n X=1\/aO n X=-1)/\∀r j,r<n->j<n->C j r=mul n w X r j:=by
 refine⟨⟨λi j b a c=>h.zero j i a c b,λi b=>by have:=h.diag i b;simp only[tr];omega,λi j b d=>by have:=h.red j i d b;have:=h.diag i b;simp only[tr];omega⟩,?_⟩;have d:∀j,∃x:Nat->Int,j<n->∀r,r<n->C j r=sm n λk=>w r k*x k:=λj=>by
  by_cases a:j<n
  ·obtain⟨x,d⟩:=h.mem j a;exact⟨x,λ_=>d⟩
  ·exact⟨λ_=>0,λh=>absurd h a⟩
 obtain⟨X,f⟩:=Classical.axiomOfChoice d;have e:∀r j,r<n->j<n->C j r=mul n w (λk j=>X j k) r j:=λr j d a=>f j a r d;refine⟨λk j=>X j k,?_,e⟩;have d:aO n (λr j=>C j r)=jY n p:=by
  rw[od n (λr j=>C j r) λi j b a c=>h.zero j i a c b];exact ko λj a=>(h.diag j a).1
 rw[bk e,iU]at d;have a:=h.prod;rw[<-d]at a;have b:(aO n w).natAbs*((aO n λk j=>X j k).natAbs*m.natAbs)=(aO n w).natAbs*1:=by
  rw[<-Int.natAbs_mul,<-Int.natAbs_mul,<-Int.mul_assoc,a];omega
 have a:=Nat.eq_of_mul_eq_mul_left aq b;have b:=Nat.eq_one_of_mul_eq_one_right a;omega
