import Derived.Test.YtmfndnlifgphjaaGreatDoorQzH
set_option maxHeartbeats 64000000
open Go.Proofs.YtmfndnlifgphjaaGreatDoor
namespace Go.Sm
section
open Go.aW
def cX(M:Mt)(I J:Nat->Nat):Mt:=λa b=>M (I a) (J b)
def Mn(n V:Nat)(M:Mt):Prop:=∀(s:Nat) (I J:Nat->Nat),(∀t,t<s->I t<n/\J t<n)->(aO s (cX M I J)).natAbs<=V
theorem nG{n s:Nat}{M:Mt}{I J:Nat->Nat}(h:∀t,t<s->I t<n/\J t<n)(a:n<s):aO s (cX M I J)=0:=by
 refine Decidable.byContradiction λe=>?_;have:=(Bw.FH n n M).le (s:=s) ⟨I,J,h,e⟩;omega
theorem Mn.tr{n V:Nat}{M:Mt}(h:Mn n V M):Mn n V (Go.aW.tr M):=λs I J a=>by
 have:cX (Go.aW.tr M) I J=Go.aW.tr (cX M J I):=F;rw[this,cY];exact h s J I λt b=>⟨(a t b).2,(a t b).1⟩
theorem Mn.mono{n V a:Nat}{M:Mt}(h:Mn n V M)(b:V<=a):Mn n a M:=λs I J a=>Nat.le_trans (h s I J a) b
theorem Mn.congr{n V:Nat}{M M':Mt}(h:Mn n V M)(e:∀i j,i<n->j<n->M i j=M' i j):Mn n V M':=λs I J c=>by
 have:aO s (cX M' I J)=aO s (cX M I J):=bk λa b f d=>(e _ _ (c a f).1 (c b d).2).symm;rw[this];exact h s I J c
theorem Mn.perm{n V:Nat}{M:Mt}(h:Mn n V M)(f g:Nat->Nat)(d:∀i,i<n->f i<n)(c:∀i,i<n->g i<n):Mn n V (λi j=>M (f i) (g j)):=λs I J a=>
 h s (λt=>f (I t)) (λt=>g (J t)) λt b=>⟨d _ (a t b).1,c _ (a t b).2⟩
theorem EY{n k:Nat}(a:k<n)(g:Nat->Int)(c:g k=0)(A:Mt):(aO n (mul n (pM k g) A)).natAbs=(aO n A).natAbs:=by
 have b:=(u4 a g c).aO;have a:(aO n (pM k g)).natAbs*(aO n (pM k λi=>- g i)).natAbs=1:=by rw[<-Int.natAbs_mul,b];rfl
 rw[iU,Int.natAbs_mul,Nat.eq_one_of_mul_eq_one_right a,Nat.one_mul]
theorem kB{n k s a:Nat}{M N:Mt}{f:Nat->Int}{I J:Nat->Nat}(h:∀i j,i<n->j<n->N i j=M i j-f i*M k j)(b:f k=0)(c:∀t,t<s->I t<n/\J t<n)(d:a<s)(e:I a=k):(aO s (cX N I J)).natAbs=(aO s (cX M I J)).natAbs:=by
 have g:- f (I a)=0:=by rw[e,b];rfl
 rw[<-EY d (λb=>- f (I b)) g (cX M I J)];congr 1;refine bk λi j b g=>?_;rw[qO d b];simp only[cX];rw[h _ _ (c i b).1 (c j g).2,e];grind
theorem oW{W:Nat}:∀{s:Nat} {f:Nat->Int},(∀t,t<s->(f t).natAbs<=W)->(sm s f).natAbs<=s*W:=by
 intro s;induction s with
 |zero=>intro f _;simp[sm]
 |succ s a=>
  intro f h;have b:=a λt a=>h t aq;have a:=h s aq;simp only[sm];rw[Nat.succ_mul];omega
theorem y_:∀(s:Nat) (f:Nat->Int),sm (s+1) f=f 0+sm s λt=>f (t+1):=by
 intro s;induction s with
 |zero=>intro f;simp[sm]
 |succ s a=>intro f;rw[sm,a];simp only[sm];omega
theorem Mn.rows{n k V:Nat}{M N:Mt}{f:Nat->Int}(h:Mn n V M)(b:n<=4)(o:k<n)(q:∀i j,i<n->j<n->N i j=M i j-f i*M k j)(p:f k=0)(b:M k k≠0)
 (y:∀i,i<n->i≠k->0<=N i k/\N i k<(M k k).natAbs):Mn n (5*V) N:=by
 intro s I J g;by_cases b:n<s
 ·rw[nG g b];simp
 by_cases i:∃a,a<s/\I a=k
 ·obtain⟨a,i,b⟩:=i;rw[kB q p g i b];have:=h s I J g;omega
 ·
  let b:Nat->Nat:=λt=>if t=0 then k else I (t-1);let d:Nat->Nat:=λt=>if t=0 then k else J (t-1);have j:∀t,t<s+1->b t<n/\d t<n:=by
   intro t v;by_cases e:t=0
   ·simp only[b,d,e,ab F];exact⟨o,o⟩
   ·simp only[b,d,aa e];exact g (t-1) aq
  have m:(aO (s+1) (cX N b d)).natAbs<=V:=by
   rw[kB q p j (Nat.succ_pos s) (show b 0=k from ab F)];exact h (s+1) b d j
  rw[<-cY]at m;simp only[aO]at m;rw[y_]at m;have x:minor (Go.aW.tr (cX N b d)) 0 0=Go.aW.tr (cX N I J):=by
   funext r c;simp only[minor,fp,Go.aW.tr,cX,b,d];rw[aa (Nat.succ_ne_zero c),aa (Nat.succ_ne_zero r)];rfl
  have w:N k k=M k k:=by rw[q k k o o,p];omega
  have o:Go.aW.tr (cX N b d) 0 0=M k k:=by
   simp only[Go.aW.tr,cX,b,d];exact w
  rw[x,cY,o]at m;have o:0<(M k k).natAbs:=aq;have w:(sm s λt=>jl (t+1)*Go.aW.tr (cX N b d) 0 (t+1)*aO s (minor (Go.aW.tr (cX N b d)) 0 (t+1))).natAbs<=s*((M k k).natAbs*V):=by
   refine oW λt v=>?_;have x:Go.aW.tr (cX N b d) 0 (t+1)=N (I t) k:=by
    simp only[Go.aW.tr,cX,b,d];rw[aa (Nat.succ_ne_zero t)];rfl
   have w:I t≠k:=λe=>i ⟨t,v,e⟩;have e:=y (I t) (g t v).1 w;let e:Nat->Nat:=λa=>b (skip (t+1) a);have l:minor (Go.aW.tr (cX N b d)) 0 (t+1)=Go.aW.tr (cX N e J):=by
    funext r c;simp only[minor,fp,Go.aW.tr,cX,e,d];rw[aa (Nat.succ_ne_zero r)];rfl
   have d:0<s:=aq;have c:∀a,a<s->e a<n/\J a<n:=λa i=>⟨(j (skip (t+1) a) (iT i)).1,(g a i).2⟩;have a:e 0=k:=by simp[e,b,skip]
   have b:(aO s (cX N e J)).natAbs<=V:=by
    rw[kB q p c d a];exact h s e J c
   rw[l,cY,x,Int.natAbs_mul,Int.natAbs_mul];have a:(jl (t+1)).natAbs=1:=by unfold jl;split<;>rfl
   rw[a,Nat.one_mul];exact Nat.mul_le_mul aq b
  have a:jl 0=1:=F;rw[a,Int.one_mul]at m;have b:(M k k).natAbs*(aO s (cX N I J)).natAbs<=V+s*((M k k).natAbs*V):=by
   rw[<-Int.natAbs_mul];omega
  have a:V+s*((M k k).natAbs*V)<=(M k k).natAbs*(5*V):=by
   have c:s*((M k k).natAbs*V)<=4*((M k k).natAbs*V):=Nat.mul_le_mul_right _ aq;have c:1*V<=(M k k).natAbs*V:=Nat.mul_le_mul_right _ o;have c:(M k k).natAbs*(5*V)=5*((M k k).natAbs*V):=aC;omega
  exact Nat.le_of_mul_le_mul_left (Nat.le_trans b a) o
theorem Mn.eK{n k d V:Nat}{M:Mt}(h:Mn n V M)(o:d<n):Mn n (2*V) (eK M k d):=by
 intro s I J f;by_cases g:∃a,a<s/\I a=k
 ·obtain⟨a,g,l⟩:=g;by_cases m:∃b,b<s/\b≠a/\I b=k
  ·obtain⟨b,i,c,e⟩:=m;rw[(eF s).LH _ a b g i (Ne.symm c) λj _=>by simp only[cX,l,e]];simp
  ·have p:∀i j,i<s->j<s->cX (Go.Sm.eK M k d) I J i j=cj (cX M I J) a (λc=>cX M I J a c+M d (J c)) i j:=by
    intro i j b e;simp only[cX,Go.Sm.eK,cj];by_cases e:i=a
    ·rw[ab e,e,ab l,l]
    ·rw[aa e,aa λl=>m ⟨i,b,e,l⟩]
   rw[bk p,(eF s).add _ _ _ _ g,gZ];have m:=h s I J f;have p:=h s (λt=>if t=a then d else I t) J λt m=>⟨by by_cases e:t=a;simp only[ab e];exact o;simp only[aa e];exact(f t m).1,(f t m).2⟩;have l:cX M (λt=>if t=a then d else I t) J=cj (cX M I J) a (λc=>M d (J c)):=by
    funext r c;simp only[cX,cj];split<;>rfl
   rw[l]at p;omega
 ·have:aO s (cX (Go.Sm.eK M k d) I J)=aO s (cX M I J):=bk λi j b _=>by
   simp only[cX,Go.Sm.eK];rw[aa λe=>g ⟨i,b,e⟩]
  rw[this];have:=h s I J f;omega
def Dg(n k:Nat)(M:Mt):Prop:=∀i j,i<n->j<n->i<k\/j<k->i≠j->M i j=0
theorem Dg.OS{n k:Nat}{M:Mt}(h:Dg n k M)(a:k<n){i:Nat}(b:i<n)(h1:¬(k<i/\i<n))(c:i≠k):M i k=0:=h i k b a (.inl (by omega)) c
theorem mq(M:Mt)(k n:Nat)(i j:Nat):cR M k n i j=M i j-(if k<i/\i<n then M i k/M k k else 0)*M k j:=by
 simp only[cR];split
 ·rfl
 ·omega
theorem Mn.cR{n k V:Nat}{M:Mt}(h:Mn n V M)(b:n<=4)(a:k<n)(d:Dg n k M)(c:M k k≠0):Mn n (5*V) (cR M k n):=by
 refine h.rows (f:=λi=>if k<i/\i<n then M i k/M k k else 0) b a (λi j _ _=>mq M k n i j) (aa aq) c λi c b=>?_;simp only[Go.Sm.cR];split
 ·rw[mod_eq];exact qd F aq
 ·next h1=>rw[d.OS a c h1 b];omega
theorem oe(M:Mt)(k n:Nat):h_ M k n=Go.aW.tr (Go.Sm.cR (Go.aW.tr M) k n):=by
 funext i j;simp only[h_,Go.aW.tr,Go.Sm.cR]
theorem Dg.tr{n k:Nat}{M:Mt}(h:Dg n k M):Dg n k (Go.aW.tr M):=λi j d c b a=>h j i c d b.symm (Ne.symm a)
theorem Dg.cR{n k:Nat}{M:Mt}(h:Dg n k M)(d:k<n):Dg n k (Go.Sm.cR M k n):=by
 intro i j e a c b;rw[mq,h i j e a c b];by_cases e:k<i/\i<n
 ·rw[h k j d a aq aq];omega
 ·rw[aa e];omega
theorem Dg.h_{n k:Nat}{M:Mt}(h:Dg n k M)(a:k<n):Dg n k (Go.Sm.h_ M k n):=by
 rw[oe];exact(h.tr.cR a).tr
theorem Dg.swp{n k p c:Nat}{M:Mt}(h:Dg n k M)(m:k<n)(e:k<=p)(kO:p<n)(g:k<=c)(o6:c<n):Dg n k (swp M k p c):=by
 have b:∀{q i},k<=q->i<k->sx k q i=i:=λl f=>by unfold sx;rw[aa aq,aa aq]
 intro i j f o l d;simp only[Go.Sm.swp];rcases l with a|a
 ·rw[b e a];refine h i _ f (lF m o6 o) (.inl a) ?_;by_cases l:j<k
  ·rw[b g l];exact d
  ·have:=uU (i:=j) g aq;omega
 ·rw[b g a];refine h _ j (lF m kO f) o (.inr a) ?_;by_cases l:i<k
  ·rw[b e l];exact d
  ·have:=uU (i:=i) e aq;omega
theorem Dg.eK{n k a:Nat}{M:Mt}(h:Dg n k M)(g:k<n)(b:k<a)(f:a<n):Dg n k (Go.Sm.eK M k a):=by
 intro i j l b d c;simp only[Go.Sm.eK];split
 ·next e=>rw[h k j g b aq aq,h a j f b aq aq];rfl
 ·exact h i j l b d c
theorem Mn.swp{n k V p c:Nat}{M:Mt}(h:Mn n V M)(b:k<n)(d:p<n)(e:c<n):Mn n V (Go.Sm.swp M k p c):=h.perm (sx k p) (sx k c) (λ_ a=>lF b d a) λ_ a=>lF b e a
theorem Mn.red{n k V:Nat}{M:Mt}(h:Mn n V M)(a:n<=4)(b:k<n)(d:Dg n k M)(c:M k k≠0):Mn n (25*V) (Go.Sm.red M k n):=by
 simp only[Go.Sm.red];rw[oe];have e:=(h.cR a b d c).tr.cR a b (d.cR b).tr (by simp only[Go.aW.tr];rw[iK];exact c);refine e.tr.mono aq
theorem BN{n k p:Nat}(b:k<n)(a:p<n):∀i,i<n->sx k p i<n/\sx k p (sx k p i)=i:=λi c=>⟨lF b a c,NP k p i⟩
theorem xO{n k p c:Nat}(M:Mt)(a:k<n)(b:p<n)(d:c<n):iM n M (swp M k p c):=
 (iM.perm (B:=λi j=>M (sx k p i) j) (sx k p) (BN a b) λ_ _ _ _=>rfl).trans (iM.N5 (sx k c) (BN a d) λ_ _ _ _=>rfl)
theorem nM{n k:Nat}(M:Mt)(a:k<n):iM n M (cR M k n):=
 iM.rows a (λi=>- (if k<i/\i<n then M i k/M k k else 0)) (by show-(if k<k/\k<n then M k k/M k k else(0:Int))=0;rw[aa aq];rfl) λi j _ _=>by
  rw[mq];grind
theorem HP{n k:Nat}(M:Mt)(a:k<n):iM n M (h_ M k n):=by
 rw[oe];exact(nM (Go.aW.tr M) a).tr
theorem r9{n k:Nat}(M:Mt)(a:k<n):iM n M (red M k n):=(nM M a).trans (HP _ a)
theorem HQ{n k a:Nat}(M:Mt)(_hk:k<n)(c:a<n)(b:a≠k):iM n M (eK M k a):=
 iM.rows c (λi=>if i=k then 1 else 0) (aa b) λi j _ _=>by
  simp only[eK];by_cases e:i=k
  ·rw[ab e,ab e,e];omega
  ·rw[aa e,aa e];omega
def Da(n k:Nat)(d:Int)(M:Mt):Prop:=∀i j,k<=i->i<n->k<=j->j<n->d∣M i j
theorem Da.swp{n k p c:Nat}{d:Int}{M:Mt}(h:Da n k d M)(a:uM n k M p c):Da n k d (swp M k p c):=λ_i _j i f g e=>
 have b:k<n:=Nat.lt_of_le_of_lt a.hp a.kO
 h _ _ (uU a.hp i) (lF b a.kO f) (uU a.hc g) (lF b a.o6 e)
theorem Da.cR{n k:Nat}{d:Int}{M:Mt}(h:Da n k d M):Da n k d (cR M k n):=λi j e c b a=>by
 rw[mq];exact Int.dvd_sub (h i j e c b a) (Int.dvd_trans (h k j aD aq b a) ⟨_,Int.mul_comm _ _⟩)
theorem Da.tr{n k:Nat}{d:Int}{M:Mt}(h:Da n k d M):Da n k d (Go.aW.tr M):=λi j e b c a=>h j i c a e b
theorem Da.red{n k:Nat}{d:Int}{M:Mt}(h:Da n k d M):Da n k d (red M k n):=by
 simp only[Go.Sm.red];rw[oe];exact(h.cR.tr.cR).tr
theorem Da.eK{n k b:Nat}{d:Int}{M:Mt}(h:Da n k d M)(l:k<=b)(f:b<n):Da n k d (eK M k b):=λi j g e c a=>by
 simp only[Go.Sm.eK];split
 ·exact Int.dvd_add (h k j aD aq c a) (h b j l f c a)
 ·exact h i j g e c a
structure Sg(n k:Nat)(M:Mt):Prop where
 dg:Dg n k M
 nn:∀t,t<k->0<=M t t
 dv:∀t,t+1<k->M t t∣M (t+1) (t+1)
 da:∀t,t+1=k->Da n k (M t t) M
theorem Sg.zero(n:Nat)(M:Mt):Sg n 0 M:=⟨λ_ _ _ _ h _=>by omega,λ_ h=>by omega,λ_ h=>by omega,λ_ h=>by omega⟩
def kP(M:Mt)(k:Nat):Mt:=λi j=>if i=k/\j=k then((M k k).natAbs:Int)else M i j
theorem HR{n:Nat}(M:Mt)(k:Nat)(c:CLN n k M)(d:Dg n k M)(g:k<n):iM n M (kP M k):=by
 refine iM.GG (λi=>if i=k/\M k k<0 then -1 else 1) (λi _=>?_) λi j b a=>?_
 ·show(if i=k/\M k k<0 then(-1:Int)else 1)*(if i=k/\M k k<0 then(-1:Int)else 1)=1;split<;>rfl
 ·show kP M k i j=(if i=k/\M k k<0 then(-1:Int)else 1)*M i j;simp only[kP];by_cases e:i=k
  ·subst e;by_cases f:j=i
   ·subst f;rw[ab ⟨F,F⟩];by_cases h:M j j<0
    ·rw[ab ⟨F,h⟩];omega
    ·rw[aa aq];omega
   ·rw[aa aq];have:M i j=0:=by
     by_cases h:j<i
     ·exact d i j b a (.inr h) aq
     ·exact c.2 j aq a
    rw[this,Int.mul_zero]
  ·rw[aa aq,aa aq];omega
theorem Mn.kP{n V:Nat}{M:Mt}(h:Mn n V M)(k:Nat)(f:CLN n k M)(m:Dg n k M)(q:k<n):Mn n V (kP M k):=by
 have g:∀i j,i<n->j<n->Go.Sm.kP M k i j=(if i=k/\M k k<0 then(-1:Int)else 1)*M i j:=by
  intro i j a b;simp only[Go.Sm.kP];by_cases e:i=k
  ·subst e;by_cases o:j=i
   ·subst o;rw[ab ⟨F,F⟩];by_cases h:M j j<0
    ·rw[ab ⟨F,h⟩];omega
    ·rw[aa aq];omega
   ·rw[aa aq];have:M i j=0:=by
     by_cases h:j<i
     ·exact m i j a b (.inr h) aq
     ·exact f.2 j aq b
    rw[this,Int.mul_zero]
  ·rw[aa aq,aa aq];omega
 intro s I J d;have p:∀i j,i<s->j<s->cX (Go.Sm.kP M k) I J i j=mul s (λi t=>if t=i then(if I i=k/\M k k<0 then(-1:Int)else 1)else 0) (cX M I J) i j:=by
  intro i j a b;simp only[mul];rw[dc (c:=i) a λt _ f=>by rw[aa f,Int.zero_mul],ab F];simp only[cX];exact g _ _ (d i a).1 (d j b).2
 have l:Inv s (λi t=>if t=i then(if I i=k/\M k k<0 then(-1:Int)else 1)else 0) (λi t=>if t=i then(if I i=k/\M k k<0 then(-1:Int)else 1)else 0):=by
  have:∀i j,i<s->j<s->mul s (λi t=>if t=i then(if I i=k/\M k k<0 then(-1:Int)else 1)else 0) (λi t=>if t=i then(if I i=k/\M k k<0 then(-1:Int)else 1)else 0) i j=one i j:=by
   intro i j a b;simp only[mul];rw[dc (c:=i) a λt _ f=>by rw[aa f,Int.zero_mul],ab F];simp only[one];by_cases e:i=j
   ·subst e;rw[ab F,ab F];split<;>rfl
   ·rw[aa e,aa (Ne.symm e),Int.mul_zero]
  exact⟨this,this⟩
 rw[bk p,iU,Int.natAbs_mul];have b:=l.aO;have a:(aO s λi t=>if t=i then(if I i=k/\M k k<0 then(-1:Int)else 1)else 0).natAbs*(aO s λi t=>if t=i then(if I i=k/\M k k<0 then(-1:Int)else 1)else 0).natAbs=1:=by rw[<-Int.natAbs_mul,b];rfl
 rw[Nat.eq_one_of_mul_eq_one_right a,Nat.one_mul];exact h s I J d
theorem Sg.nB{n:Nat}{M:Mt}(h:Sg n n M):gN n M:=by
 refine⟨λi j a c b=>h.dg i j a c (.inl a) b,λi a=>h.dv i a,λi a=>h.nn i a⟩
theorem Sg.rest{n k:Nat}{M:Mt}(h:Sg n k M)(b:∀i j,k<=i->i<n->k<=j->j<n->M i j=0):gN n M:=by
 refine⟨λi j a c d=>?_,λi a=>?_,λi a=>?_⟩
 ·by_cases e:i<k\/j<k
  ·exact h.dg i j a c e d
  ·exact b i j aq a aq c
 ·by_cases e:i+1<k
  ·exact h.dv i e
  ·by_cases c:k<=i+1
   ·rw[b (i+1) (i+1) c a c a];exact Int.dvd_zero _
   ·omega
 ·by_cases e:i<k
  ·exact h.nn i e
  ·rw[b i i aq a aq a];exact Int.le_refl 0
def rb(n k e:Nat):Nat:=if k+1=n then 0 else 129*(e+1)
def dl(W:Nat):Nat->Nat
 |0=>1
 |s+1=>(s+1)*(W*dl W s)
theorem MU{W:Nat}:∀(s:Nat) (A:Mt),(∀i j,i<s->j<s->(A i j).natAbs<=W)->(aO s A).natAbs<=dl W s:=by
 intro s;induction s with
 |zero=>intro A _;exact Nat.le_refl 1
 |succ s b=>
  intro A h;simp only[aO];refine oW λj c=>?_;rw[Int.natAbs_mul,Int.natAbs_mul];have a:(jl j).natAbs=1:=by unfold jl;split<;>rfl
  rw[a,Nat.one_mul];exact Nat.mul_le_mul (h 0 j aq c) (b (minor A 0 j) λi c a a=>h _ _ (by rw[fp];omega) (iT a))
theorem Mn.start{n e:Nat}{M:Mt}(a:n<=4)(h:∀i j,i<n->j<n->(M i j).natAbs<=2^e):Mn n (2^(4*e+5)) M:=by
 intro s I J a;by_cases c:n<s
 ·rw[nG a c];exact Nat.zero_le _
 have f:=MU s (cX M I J) (W:=2^e) λi j d c=>h _ _ (a i d).1 (a j c).2;refine Nat.le_trans f ?_;have b:0<2^e:=Nat.pow_pos aw;have a:2^(4*e+5)=32*(2^e*(2^e*(2^e*2^e))):=by
  rw[Nat.pow_add,Nat.mul_comm 4 e,Nat.pow_mul];have:(2^e)^4=2^e*(2^e*(2^e*2^e)):=aC;rw[this];omega
 rw[a];generalize 2^e=x at b;have a:x<=x*x:=Nat.le_mul_of_pos_left _ b;have a:x*x<=x*(x*x):=Nat.le_mul_of_pos_left _ b;have a:x*(x*x)<=x*(x*(x*x)):=Nat.le_mul_of_pos_left _ b;have a:s=0\/s=1\/s=2\/s=3\/s=4:=aq;rcases a with e|e|e|e|e<;>subst e<;>simp only[dl]<;>grind
end
end Go.Sm
namespace Go.Proofs.Qq
section
open Go Go.cW Go.c7 Go.Proofs
def I7(n k i j a b:Nat):Prop:=k<=a/\k<=b/\b<n/\(a<i\/a=i/\b<j)
def FS(n k i j:Nat)(M:Nat->Nat->Int)(p c:Nat)(d:Bool):Prop:=
 (d=false/\p=0/\c=0/\∀a b,I7 n k i j a b->M a b=0)\/
 (d=true/\I7 n k i j p c/\M p c≠0/\(∀a b,I7 n k i j a b->M a b≠0->(M p c).natAbs<=(M a b).natAbs)/\∀a b,I7 n k p c a b->M a b≠0->(M p c).natAbs<(M a b).natAbs)
theorem FS.same{n k i j f d p c:Nat}{M:Nat->Nat->Int}{q:Bool}(h:FS n k i j M p c q)(e:∀a b,I7 n k f d a b->I7 n k i j a b\/M a b=0)(s:∀a b,I7 n k i j a b->I7 n k f d a b):FS n k f d M p c q:=by
 rcases h with⟨o,m,g,l⟩|⟨o,m,g,l,r⟩
 ·exact .inl ⟨o,m,g,λa b d=>(e a b d).elim (l a b) id⟩
 ·exact .inr ⟨o,s _ _ m,g,λa b d f=>(e a b d).elim (λg=>l a b g f) λg=>absurd g f,r⟩
theorem FS.skip{n k i j p c:Nat}{M:Nat->Nat->Int}{d:Bool}(h:FS n k i j M p c d)(f:M i j=0):FS n k i (j+1) M p c d:=by
 refine h.same (λa b d=>?_) (λa b d=>by unfold I7 at *;omega);by_cases e:a=i/\b=j
 ·rw[e.1,e.2];exact .inr f
 ·refine .inl ?_;unfold I7 at *;omega
end
end Go.Proofs.Qq

namespace Go.Proofs.Qq
section
open Go Go.cW Go.c7 Go.Proofs
open Go.aW (sw su lG)
open Go.Sm (cR h_ red eK Mn Dg Sg iM gN rb)
def eb(n e:Nat):Nat->Nat
 |0=>e
 |k+1=>eb n e k+6*(rb n k (eb n e k)+1)
end
section
open Go Go.cW Go.c7 Go.Proofs
open Go.aW (aO gr one)
open Go.Sm (iM Inv gN)
theorem O3(n:Nat)(X Y Z:Nat->Nat->Int):Go.aW.mul n (Go.aW.mul n X Y) Z=Go.aW.mul n X (Go.aW.mul n Y Z):=by
 funext i j;exact Go.aW.mul_assoc n n X Y Z i j
theorem mJ(n:Nat)(M T:Nat->Nat->Int):BF n M T=Go.aW.mul n (Go.aW.tr T) (Go.aW.mul n M T):=by
 unfold BF;rw[ez,ez];rfl
theorem H9{n:Nat}{M T:Nat->Nat->Int}(h:dQ n (λ_=>n) M=0)(a:aO n T=1\/aO n T=-1):dQ n (λ_=>n) (BF n M T)=0/\aO n (BF n M T)=aO n M:=by
 have e:BF n M T=gr n (Go.aW.tr T) M:=by rw[mJ,Go.aW.qW];rfl
 rw[e];exact AN h (by rw[Go.aW.cY];exact a)
theorem LK(n:Nat)(M T U:Nat->Nat->Int):BF n (BF n M T) U=BF n M (mulM n T U):=by
 rw[ez,mJ,mJ,mJ,Go.aW.nA];simp only[O3]
theorem MF{n:Nat}{X a:Nat->Nat->Int}(h:Inv n X a):Inv n (Go.aW.tr X) (Go.aW.tr a):=by
 refine⟨λi j b a=>?_,λi j b a=>?_⟩
 ·rw[<-Go.aW.nA];simp only[Go.aW.tr];rw[h.l j i a b];simp only[one,eq_comm]
 ·rw[<-Go.aW.nA];simp only[Go.aW.tr];rw[h.r j i a b];simp only[one,eq_comm]
theorem M3{n:Nat}{M T:Nat->Nat->Int}(a:1<=n)(b:aO n T=1\/aO n T=-1):iM n M (BF n M T):=by
 obtain⟨m,rfl⟩ : ∃m,n=m+1:=⟨n-1,aq⟩;have a:=Inv.qT b;rw[mJ];exact(iM.right a λ_ _ _ _=>rfl).trans (iM.left (MF a) λ_ _ _ _=>rfl)
theorem Ko{n:Nat}{A C:Nat->Nat->Int}{d:Int}(h:iM n A C)(m:∀i j,i<n->j<n->d∣A i j):∀i j,i<n->j<n->d∣C i j:=by
 obtain⟨X,b,Y,c,b,l,h⟩:=h;intro i j g f;have e:C i j=Go.aW.mul n (Go.aW.mul n X A) c i j:=by
  rw[Go.Sm.mul_congr (A':=Go.aW.mul n C Y) (C':=c) (λk b=>(h i k g b).symm) λ_ _=>rfl,Go.aW.mul_assoc];rw[Go.Sm.mul_congr (A':=C) (C':=one) (λ_ _=>rfl) λk b=>l.r k j b f,Go.aW.mul_one n C i j f]
 rw[e];refine Go.Sm.dSm λk b=>Int.dvd_trans (Go.Sm.dSm λl e=>Int.dvd_trans (m l k e b) ⟨X i l,Int.mul_comm _ _⟩) ⟨c k j,rfl⟩
theorem HT(M:Nat->Int)(a d:Nat):∀j,d∣xH M a j↔d∣a/\∀k,k<j->(d:Int)∣M k:=by
 intro j;induction j with
 |zero=>exact⟨λh=>⟨h,λk c=>absurd c aq⟩,λh=>h.1⟩
 |succ j b=>
  have e:xH M a (j+1)=Nat.gcd (xH M a j) (M j).natAbs:=F;rw[e,Nat.dvd_gcd_iff,b,show d∣(M j).natAbs↔(d:Int)∣M j from⟨λh=>Int.natAbs_dvd_natAbs.1 (by simpa using h),λh=>by simpa using Int.natAbs_dvd_natAbs.2 h⟩];constructor
  ·rintro⟨⟨f,b⟩,g⟩;refine⟨f,λk c=>?_⟩;by_cases e:k=j
   ·rw[e];exact g
   ·exact b k aq
  ·rintro⟨f,b⟩;exact⟨⟨f,λk c=>b k aq⟩,b j aq⟩
theorem AB(n d:Nat)(M:Nat->Nat->Int):∀i,d∣nh n M i↔∀k j,k<i->j<n->(d:Int)∣M k j:=by
 intro i;induction i with
 |zero=>exact⟨λ_ k j b=>absurd b aq,λ_=>Nat.dvd_zero _⟩
 |succ i a=>
  have e:nh n M (i+1)=xH (M i) (nh n M i) n:=F;rw[e,HT,a];constructor
  ·rintro⟨f,c⟩ k j b a;by_cases e:k=i
   ·rw[e];exact c j a
   ·exact f k j aq a
  ·intro h;exact⟨λk j b a=>h k j aq a,λj a=>h i j aq a⟩
theorem Az{n:Nat}{A C:Nat->Nat->Int}(h:iM n A C):nh n A n=nh n C n:=by
 have a:∀{A C:Nat->Nat->Int},iM n A C->nh n A n∣nh n C n:=λh=>
  (AB _ _ _ _).2 (Ko h ((AB _ _ _ _).1 (Nat.dvd_refl _)))
 exact Nat.dvd_antisymm (a h) (a h.symm)
theorem Fb{n:Nat}{M:Nat->Nat->Int}(d:∀i j,i<n->j<n->M i j=M j i)(e:∀i,i<n->M i i%2=0)(x:Nat->Int):∀m,m<=n->(Go.aW.sm m λk=>x k*Go.aW.sm m λl=>M k l*x l)%2=0:=by
 intro m;induction m with
 |zero=>intro _;rfl
 |succ m c=>
  intro b;have b:=c aq;have b:=e m aq;obtain⟨c,b⟩ : ∃c,M m m=2*c:=⟨M m m/2,aq⟩;have g:(Go.aW.sm (m+1) λk=>x k*Go.aW.sm (m+1) λl=>M k l*x l)=(Go.aW.sm m λk=>x k*Go.aW.sm m λl=>M k l*x l)+2*(x m*Go.aW.sm m λk=>M m k*x k)+2*(c*(x m*x m)):=by
   have f:∀k,(Go.aW.sm (m+1) λl=>M k l*x l)=(Go.aW.sm m λl=>M k l*x l)+M k m*x m:=λk=>rfl;have e:(Go.aW.sm m λk=>x k*((Go.aW.sm m λl=>M k l*x l)+M k m*x m))=(Go.aW.sm m λk=>x k*Go.aW.sm m λl=>M k l*x l)+x m*Go.aW.sm m λk=>M m k*x k:=by
    rw[<-Go.aW.dL,<-Go.aW.oV];refine Go.aW.aR λk c=>?_;rw[d k m aq aq];grind
   have c:(Go.aW.sm (m+1) λk=>x k*Go.aW.sm (m+1) λl=>M k l*x l)=(Go.aW.sm m λk=>x k*Go.aW.sm (m+1) λl=>M k l*x l)+x m*Go.aW.sm (m+1) λl=>M m l*x l:=F;rw[c];simp only[f];rw[e,b];grind
  rw[g];omega
theorem KF(n:Nat)(M T:Nat->Nat->Int)(i:Nat):BF n M T i i=Go.aW.sm n λk=>T k i*Go.aW.sm n λl=>M k l*T l i:=by
 rw[mJ];rfl
theorem AR{n:Nat}{M T:Nat->Nat->Int}(a:∀i j,i<n->j<n->M i j=M j i)(b:∀i,i<n->M i i%2=0):∀i,i<n->BF n M T i i%2=0:=λi _=>by
 rw[KF];exact Fb a b (λk=>T k i) n aD
theorem H_{n:Nat}{M T:Nat->Nat->Int}(h:∀i j,i<n->j<n->T i j=one i j):∀i j,i<n->j<n->BF n M T i j=M i j:=λi j c b=>by
 rw[mJ];have d:∀k,k<n->Go.aW.mul n M T k j=M k j:=λk a=>by
  rw[Go.Sm.mul_congr (A':=M) (C':=one) (λ_ _=>rfl) λt a=>h t j a b,Go.aW.mul_one n M k j b]
 rw[Go.Sm.mul_congr (A':=one) (C':=M) (λt a=>by simp only[Go.aW.tr];rw[h t i a c];simp only[one,eq_comm]) d,Go.aW.one_mul n M i j c]
theorem Dy{n:Nat}{M:Nat->Nat->Int}(h:dQ n (λ_=>n) M=0):∀i j,i<n->j<n->M i j=M j i:=by
 obtain⟨_,_,a,_⟩:=dF.1 h;intro i j c b;by_cases e:j<i
 ·exact a i j c e
 ·by_cases c:i=j
  ·rw[c]
  ·exact(a j i b aq).symm
theorem KE{n:Nat}{M T:Nat->Nat->Int}(d:1<=n)(h:dQ n (λ_=>n) M=0)(c:aO n T=1\/aO n T=-1):(∀i,i<n->M i i%2=0)↔∀i,i<n->BF n M T i i%2=0:=by
 refine⟨λb=>AR (Dy h) b,λb i a=>?_⟩;obtain⟨m,rfl⟩ : ∃m,n=m+1:=⟨n-1,aq⟩;have e:=Inv.qT c;have d:=AR (T:=λi j=>aO (m+1) T*Go.aW.fY m T i j) (Dy (H9 h c).1) b i a;rw[LK,H_ (M:=M) (λi j a b=>by rw[ez];exact e.r i j a b) i i a a]at d;exact d
theorem uT(d c:Value)(n N:Nat)(M T:Nat->Nat->Int)(w:World)(j:cB (EI N) w d n (λ_=>n) M)(i:cB (EI N) w c n (λ_=>n) T)(q:dQ n (λ_=>n) M=0)(k:aO n T=1\/aO n T=-1)(g:1<=N)(m:N<1048576):
 aT Tryz.prog 10 #[d,c] w λv b=>Ext w b/\∃a f,v=.tuple #[.slice (some ⟨a,0,none⟩) n n,.int .i64 ((0:Nat):Int)]/\iF b a f n n (BF n M T):=
 (j6 d c n n N _ _ M T w j i g m).mono λv b ⟨o,h⟩=>by
  have e:=wG (len:=λ_=>n) (len2:=λ_=>n) q (λ_ _=>rfl) (X:=T) (by rcases k with e|e<;>rw[e]<;>decide);rcases h with⟨p,_⟩|⟨_,a,f,rfl,l⟩
  ·exact absurd e p
  ·exact⟨o,a,f,F,l⟩
end
end Go.Proofs.Qq
namespace Go.Se
section
open Go.aW Go.Sm
def Tm(n k V:Nat)(M:Mt):Prop:=∀(s:Nat) (I J:Nat->Nat),(∀t,t<s->(k<=I t/\I t<n)/\k<=J t/\J t<n)->(aO s (cX M I J)).natAbs<=V
theorem Tm.one{n k V:Nat}{M:Mt}(h:Tm n k V M):1<=V:=h 0 id id λ_ h=>by omega
theorem Tm.entry{n k V:Nat}{M:Mt}(h:Tm n k V M){i j:Nat}(d:k<=i)(b:i<n)(c:k<=j)(a:j<n):(M i j).natAbs<=V:=by
 have:=h 1 (λ_=>i) (λ_=>j) λ_ _=>⟨⟨d,b⟩,c,a⟩;simpa[aO,sm,jl,cX]using this
theorem Tm.tr{n k V:Nat}{M:Mt}(h:Tm n k V M):Tm n k V (Go.aW.tr M):=λs I J a=>by
 have:cX (Go.aW.tr M) I J=Go.aW.tr (cX M J I):=F;rw[this,cY];exact h s J I λt b=>⟨(a t b).2,(a t b).1⟩
theorem Tm.mono{n k V a:Nat}{M:Mt}(h:Tm n k V M)(b:V<=a):Tm n k a M:=λs I J a=>Nat.le_trans (h s I J a) b
theorem Tm.sub{n k a V:Nat}{M:Mt}(h:Tm n k V M)(b:k<=a):Tm n a V M:=λs I J a=>h s I J λt b=>by have:=a t b;omega
theorem Tm.congr{n k V:Nat}{M M':Mt}(h:Tm n k V M)(e:∀i j,k<=i->i<n->k<=j->j<n->M i j=M' i j):Tm n k V M':=λs I J c=>by
 have:aO s (cX M' I J)=aO s (cX M I J):=bk λa b g f=>by
  have d:=c a g;have a:=c b f;exact(e _ _ d.1.1 d.1.2 a.2.1 a.2.2).symm
 rw[this];exact h s I J c
theorem Tm.swp{n k V p c:Nat}{M:Mt}(h:Tm n k V M)(e:k<=p)(kO:p<n)(f:k<=c)(o6:c<n):Tm n k V (Go.Sm.swp M k p c):=λs I J b=>
 h s (λt=>sx k p (I t)) (λt=>sx k c (J t)) λt d=>by
  have a:=b t d;exact⟨⟨uU e a.1.1,lF aq kO a.1.2⟩,uU f a.2.1,lF aq o6 a.2.2⟩
theorem GM{n k s:Nat}{N:Mt}{I J:Nat->Nat}(d:∀t,t<s->(k<=I t/\I t<n)/\k<=J t/\J t<n)(c:∀a,a<s->I a≠k)(f:aO s (cX N I J)≠0):s<=n-(k+1):=by
 refine(Bw.rows (n-(k+1)) n (λi j=>N (i+(k+1)) j)).le ⟨λt=>I t-(k+1),J,λt b=>by have:=d t b;have:=c t b;show I t-(k+1)<n-(k+1)/\J t<n;omega,?_⟩;have e:aO s (λa b=>N (I a-(k+1)+(k+1)) (J b))=aO s (cX N I J):=bk λa b b _=>by
  have g:=d a b;have d:=c a b;simp only[cX];rw[show I a-(k+1)+(k+1)=I a by omega]
 exact λh=>f (e ▸ h)
theorem Tm.part{n k V R:Nat}{M N:Mt}{f:Nat->Int}(h:Tm n k V M)(m:k<n)(p:∀i j,i<n->j<n->N i j=M i j-f i*M k j)(o:f k=0)
 (w:∀i,k<i->i<n->(N i k).natAbs<=R) {s:Nat} {I J:Nat->Nat} (j:∀t,t<s->(k<=I t/\I t<n)/\k<=J t/\J t<n) (u:∀a,a<s->I a≠k):
 (M k k).natAbs*(aO s (cX N I J)).natAbs<=V+s*(R*V):=by
 let b:Nat->Nat:=λt=>if t=0 then k else I (t-1);let d:Nat->Nat:=λt=>if t=0 then k else J (t-1);have i:∀t,t<s+1->(k<=b t/\b t<n)/\k<=d t/\d t<n:=by
  intro t g;by_cases e:t=0
  ·simp only[b,d,e,ab F];exact⟨⟨Nat.le_refl k,m⟩,Nat.le_refl k,m⟩
  ·simp only[b,d,aa e];exact j (t-1) aq
 have q:∀{s:Nat} {I J:Nat->Nat},(∀t,t<s->(k<=I t/\I t<n)/\k<=J t/\J t<n)->∀t,t<s->I t<n/\J t<n:=λh t g=>⟨(h t g).1.2,(h t g).2.2⟩;have l:(aO (s+1) (cX N b d)).natAbs<=V:=by
  rw[kB p o (q i) (Nat.succ_pos s) (show b 0=k from ab F)];exact h (s+1) b d i
 rw[<-cY]at l;simp only[aO]at l;rw[y_]at l;have v:minor (Go.aW.tr (cX N b d)) 0 0=Go.aW.tr (cX N I J):=by
  funext r c;simp only[minor,fp,Go.aW.tr,cX,b,d];rw[aa (Nat.succ_ne_zero c),aa (Nat.succ_ne_zero r)];rfl
 have e:N k k=M k k:=by rw[p k k m m,o];omega
 have m:Go.aW.tr (cX N b d) 0 0=M k k:=by
  simp only[Go.aW.tr,cX,b,d];exact e
 rw[v,cY,m]at l;have e:(sm s λt=>jl (t+1)*Go.aW.tr (cX N b d) 0 (t+1)*aO s (minor (Go.aW.tr (cX N b d)) 0 (t+1))).natAbs<=s*(R*V):=by
  refine oW λt g=>?_;have v:Go.aW.tr (cX N b d) 0 (t+1)=N (I t) k:=by
   simp only[Go.aW.tr,cX,b,d];rw[aa (Nat.succ_ne_zero t)];rfl
  have e:I t≠k:=u t g;have m:=w (I t) (by have:=j t g;omega) (j t g).1.2;let e:Nat->Nat:=λa=>b (skip (t+1) a);have u:minor (Go.aW.tr (cX N b d)) 0 (t+1)=Go.aW.tr (cX N e J):=by
   funext r c;simp only[minor,fp,Go.aW.tr,cX,e,d];rw[aa (Nat.succ_ne_zero r)];rfl
  have g:0<s:=aq;have c:∀a,a<s->(k<=e a/\e a<n)/\k<=J a/\J a<n:=λa d=>⟨(i (skip (t+1) a) (iT d)).1,(j a d).2⟩;have a:e 0=k:=by simp[e,b,skip]
  have b:(aO s (cX N e J)).natAbs<=V:=by
   rw[kB p o (q c) g a];exact h s e J c
  rw[u,cY,v,Int.natAbs_mul,Int.natAbs_mul];have a:(jl (t+1)).natAbs=1:=by unfold jl;split<;>rfl
  rw[a,Nat.one_mul];exact Nat.mul_le_mul m b
 have a:jl 0=1:=F;rw[a,Int.one_mul]at l;rw[<-Int.natAbs_mul];omega
theorem Tm.rows{n k V a:Nat}{M N:Mt}{f:Nat->Int}(h:Tm n k V M)(r:k<n)(l:n-(k+1)<=a)(b:1<=a)(o:∀i j,i<n->j<n->N i j=M i j-f i*M k j)(m:f k=0)(e:M k k≠0)
 (q:∀i,k<i->i<n->0<=N i k/\N i k<(M k k).natAbs):Tm n k (a*V) N:=by
 intro s I J c;have e:=h.one;have j:V<=a*V:=Nat.le_mul_of_pos_left V b;by_cases l:∃b,b<s/\I b=k
 ·obtain⟨b,g,u⟩:=l;rw[kB o m (λt e=>⟨(c t e).1.2,(c t e).2.2⟩) g u];exact Nat.le_trans (h s I J c) j
 ·have d:∀b,b<s->I b≠k:=λb g e=>l ⟨b,g,e⟩;by_cases b:aO s (cX N I J)=0
  ·rw[b];exact Nat.zero_le _
  have e:=GM c d b;by_cases p:s=0
  ·subst p;have:(aO 0 (cX N I J)).natAbs=1:=F;omega
  have g:0<(M k k).natAbs:=aq;have j:=h.part (R:=(M k k).natAbs-1) r o m (λi e b=>by have:=q i e b;omega) c d;refine Nat.le_of_mul_le_mul_left (Nat.le_trans j ?_) g;obtain⟨P,b⟩ : ∃P,(M k k).natAbs=P+1:=⟨(M k k).natAbs-1,aq⟩;rw[b];have b:s*V<=a*V:=Nat.mul_le_mul_right _ aq;have c:V<=s*V:=Nat.le_mul_of_pos_left V aq;have c:s*(P*V)=P*(s*V):=by rw[Nat.mul_left_comm]
  have d:P*(s*V)<=P*(a*V):=Nat.mul_le_mul_left _ b;have b:(P+1)*(a*V)=P*(a*V)+a*V:=Nat.succ_mul _ _;rw[show P+1-1=P by omega,c,b];omega
theorem Tm.NX{n k V:Nat}{M N:Mt}{f:Nat->Int}(h:Tm n k V M)(o:k<n)(l:∀i j,i<n->j<n->N i j=M i j-f i*M k j)(g:f k=0)(a:M k k≠0)
 (m:∀i,k<i->i<n->N i k=0):Tm n k V N:=by
 intro s I J a;by_cases j:∃b,b<s/\I b=k
 ·obtain⟨b,c,e⟩:=j;rw[kB l g (λt d=>⟨(a t d).1.2,(a t d).2.2⟩) c e];exact h s I J a
 ·have d:∀b,b<s->I b≠k:=λb c e=>j ⟨b,c,e⟩;have j:0<(M k k).natAbs:=aq;have b:=h.part (R:=0) o l g (λi e c=>by rw[m i e c];exact Nat.le_refl 0) a d;rw[Nat.zero_mul,Nat.mul_zero,Nat.add_zero]at b;exact Nat.le_trans (Nat.le_mul_of_pos_left _ j) b
theorem Tm.cR{n k V a:Nat}{M:Mt}(h:Tm n k V M)(d:k<n)(e:n-(k+1)<=a)(b:1<=a)(c:M k k≠0):Tm n k (a*V) (cR M k n):=by
 refine h.rows (f:=λi=>if k<i/\i<n then M i k/M k k else 0) d e b (λi j _ _=>mq M k n i j) (aa aq) c λi c b=>?_;simp only[Go.Sm.cR];rw[ab ⟨c,b⟩,mod_eq];exact qd F aq
theorem Tm.zo{n k V:Nat}{M:Mt}(h:Tm n k V M)(b:k<n)(a:M k k≠0)(c:∀i,k<i->i<n->Go.Sm.cR M k n i k=0):Tm n k V (Go.Sm.cR M k n):=
 h.NX (f:=λi=>if k<i/\i<n then M i k/M k k else 0) b (λi j _ _=>mq M k n i j) (aa aq) a c
theorem Tm.h_{n k V a:Nat}{M:Mt}(h:Tm n k V M)(d:k<n)(e:n-(k+1)<=a)(b:1<=a)(c:M k k≠0):Tm n k (a*V) (Go.Sm.h_ M k n):=by
 rw[oe];exact(h.tr.cR d e b c).tr
theorem Tm.LJ{n k V:Nat}{M:Mt}(h:Tm n k V M)(c:k<n)(b:M k k≠0)(a:∀j,k<j->j<n->Go.Sm.h_ M k n k j=0):Tm n k V (Go.Sm.h_ M k n):=by
 rw[oe]at a⊢;exact(h.tr.zo c b λi c b=>a i c b).tr
theorem Tm.eK{n k d V:Nat}{M:Mt}(h:Tm n k V M)(p:d<n)(o:k<=d):Tm n k (2*V) (Go.Sm.eK M k d):=by
 intro s I J f;by_cases g:∃a,a<s/\I a=k
 ·obtain⟨a,g,l⟩:=g;by_cases m:∃b,b<s/\b≠a/\I b=k
  ·obtain⟨b,i,c,e⟩:=m;rw[(eF s).LH _ a b g i (Ne.symm c) λj _=>by simp only[cX,l,e]];simp
  ·have q:∀i j,i<s->j<s->cX (Go.Sm.eK M k d) I J i j=cj (cX M I J) a (λc=>cX M I J a c+M d (J c)) i j:=by
    intro i j b e;simp only[cX,Go.Sm.eK,cj];by_cases e:i=a
    ·rw[ab e,e,ab l,l]
    ·rw[aa e,aa λl=>m ⟨i,b,e,l⟩]
   rw[bk q,(eF s).add _ _ _ _ g,gZ];have m:=h s I J f;have q:=h s (λt=>if t=a then d else I t) J λt m=>⟨by by_cases e:t=a;simp only[ab e];exact⟨o,p⟩;simp only[aa e];exact(f t m).1,(f t m).2⟩;have l:cX M (λt=>if t=a then d else I t) J=cj (cX M I J) a (λc=>M d (J c)):=by
    funext r c;simp only[cX,cj];split<;>rfl
   rw[l]at q;omega
 ·have:aO s (cX (Go.Sm.eK M k d) I J)=aO s (cX M I J):=bk λi j b _=>by
   simp only[cX,Go.Sm.eK];rw[aa λe=>g ⟨i,b,e⟩]
  rw[this];have:=h s I J f;omega
inductive Ot(n k:Nat)(S:Mt):Mt->Nat->Prop
 |a (h:∃i,k<i/\i<n/\cR S k n i k≠0):Ot n k S (cR S k n) 0
 |b (hr:∀i,k<i->i<n->cR S k n i k=0) (h:∃j,k<j/\j<n/\red S k n k j≠0):Ot n k S (red S k n) 1
 |c (i0:Nat) (h0:k<i0) (hn:i0<n) (hc:CLN n k (red S k n)) (hd:∃j,k<j/\j<n/\¬S k k∣red S k n i0 j):Ot n k S (eK (red S k n) k i0) 2
 |d (hc:CLN n k (red S k n)) (hd:∀i j,k<i->i<n->k<j->j<n->S k k∣red S k n i j):Ot n k S (red S k n) 3
theorem tz{n k:Nat}{S:Mt}(d:CLN n k (red S k n)):∀i,k<i->i<n->cR S k n i k=0:=λi b a=>by
 have c:=d.1 i b a;rw[GQ S b a]at c;simp only[cR];rw[ab ⟨b,a⟩,mod_eq];exact c
theorem DS{n k:Nat}{M:Mt}(c:Dg n k M)(b:k<n)(f:∀i,k<i->i<n->M i k=0):M k k∣aO n M:=by
 cases n with
 |zero=>omega
 |succ n=>
  rw[<-cY,<-mF n (Go.aW.tr M) k b];refine mE λj a=>Int.dvd_mul_of_dvd_left ?_;show M k k∣M j k;by_cases e:j=k
  ·rw[e];exact Int.dvd_refl _
  ·have:M j k=0:=by
    by_cases d:j<k
    ·exact c j k a b (.inl d) e
    ·exact f j aq a
   rw[this];exact Int.dvd_zero _
theorem j9{n:Nat}{A B:Mt}(h:iM n A B):(aO n B).natAbs=(aO n A).natAbs:=by
 obtain⟨X,g,Y,f,b,d,e⟩:=h;have a:=bk e;rw[iU,iU]at a;have c:=b.aO;have b:=d.aO;have d:(aO n X).natAbs=1:=Nat.eq_one_of_mul_eq_one_right (m:=(aO n X).natAbs) (n:=(aO n g).natAbs) (by rw[<-Int.natAbs_mul,c];rfl);have c:(aO n Y).natAbs=1:=Nat.eq_one_of_mul_eq_one_right (m:=(aO n Y).natAbs) (n:=(aO n f).natAbs) (by rw[<-Int.natAbs_mul,b];rfl);have b:(aO n B*aO n Y).natAbs=(aO n X*aO n A).natAbs:=by rw[a]
 rw[Int.natAbs_mul,Int.natAbs_mul,d,c]at b;omega
structure Sz(n k a P0 C0 V0 Q c:Nat)(M:Mt):Prop where
 tm:Tm n k (V0*a^(P0-Q)*2^(C0-Q+c)) M
 hQ:Q<=P0
 ex:∃i j,k<=i/\i<n/\k<=j/\j<n/\M i j≠0/\(M i j).natAbs<=Q
 hc:c=0\/c=1/\Q<=C0/\(M k k).natAbs=Q/\(∀i,k<i->i<n->M i k=0)/\∃j,k<j/\j<n/\¬M k k∣M k j
theorem G3{a V x y u v:Nat}(d:1<=a)(b:x+1<=y)(c:u<=v):a*(V*a^x*2^u)<=V*a^y*2^v:=by
 have e:a*(V*a^x*2^u)=V*a^(x+1)*2^u:=by rw[Nat.pow_succ];grind
 rw[e];exact Nat.mul_le_mul (Nat.mul_le_mul_left _ (Nat.pow_le_pow_right d b)) (Nat.pow_le_pow_right aw c)
theorem JL{a V x y u v:Nat}(d:1<=a)(b:x<=y)(c:u+1<=v):2*(V*a^x*2^u)<=V*a^y*2^v:=by
 have e:2*(V*a^x*2^u)=V*a^x*2^(u+1):=by rw[Nat.pow_succ];grind
 rw[e];exact Nat.mul_le_mul (Nat.mul_le_mul_left _ (Nat.pow_le_pow_right d b)) (Nat.pow_le_pow_right aw c)
theorem pF(M:Mt)(k:Nat):swp M k k k=M:=by
 funext i j;simp only[swp,Je]
theorem Sz.c1{n k a P0 C0 b Q c:Nat}{M:Mt}(h:Sz n k a P0 C0 b Q c M):c<=1:=by
 rcases h.hc with h|⟨h,_⟩<;>omega
theorem Sz.Ph{n k a P0 C0 b Q c p q:Nat}{M:Mt}(h:Sz n k a P0 C0 b Q c M)(b:uM n k M p q):0<(M p q).natAbs/\(M p q).natAbs<=Q:=by
 obtain⟨i,j,l,g,f,e,d,m⟩:=h.ex;have:=b.mn i j l g f e d;have:=b.nz;omega
theorem JP{n k p q D:Nat}{M:Mt}(d:Dg n k M)(c:(aO n M).natAbs=D)(a:uM n k M p q)(f:∀i,k<i->i<n->cR (swp M k p q) k n i k=0):(M p q).natAbs∣D:=by
 have b:k<n:=Nat.lt_of_le_of_lt a.hp a.kO;have e:=DS ((d.swp b a.hp a.kO a.hc a.o6).cR b) b f;rw[iK]at e;have d:=Int.natAbs_dvd_natAbs.2 e;rw[j9 ((xO M b a.kO a.o6).trans (nM _ b)),c]at d;simpa only[swp,Jf]using d
theorem Sz.round{n k a P0 C0 K Q c D p q kd:Nat}{M M':Mt}(h:Sz n k a P0 C0 K Q c M)(T:Dg n k M)(L:(aO n M).natAbs=D)(N:∀P,P<=P0->P∣D->P<=C0)
 (S:n-(k+1)<=a) (r:1<=a) (g:uM n k M p q) (Z:Ot n k (swp M k p q) M' kd):
 (kd=3/\Tm n k (K*a^(P0-Q)*2^(C0-Q+c)) M'/\(M p q).natAbs∣D)\/(kd<3/\∃A y,Sz n k a P0 C0 K A y M'/\2*A+1-y<2*Q+1-c/\
  ((kd=0/\y=0/\A<(M p q).natAbs)\/(kd=1/\y=0/\A<(M p q).natAbs/\(M p q).natAbs∣D)\/(kd=2/\y=1/\A=(M p q).natAbs/\(M p q).natAbs∣D/\(c=1->(M p q).natAbs<Q)))):=by
 have l:k<n:=Nat.lt_of_le_of_lt g.hp g.kO;obtain⟨B,G⟩:=h.Ph g;have y:=h.hQ;have y:=h.c1;have y:c=1->Q<=C0:=λe=>by rcases h.hc with h|⟨_,h,_⟩<;>omega
 have y:=T.swp l g.hp g.kO g.hc g.o6;have C:=h.tm.swp g.hp g.kO g.hc g.o6;have w:swp M k p q k k=M p q:=by simp only[swp,Jf]
 have s:swp M k p q k k≠0:=by rw[w];exact g.nz
 have u:=λJ=>JP T L g J;obtain⟨P,y⟩ : ∃P,P=(M p q).natAbs:=⟨_,F⟩;rw[<-y]at B G u⊢;have E:(swp M k p q k k).natAbs=P:=by rw[w,y]
 cases Z with
 |a o=>
  obtain⟨i,I,x,v⟩:=o;refine .inr ⟨aw,P-1,0,⟨(C.cR l S r s).mono (G3 r aq aq),aq,⟨i,k,aq,x,Nat.le_refl k,l,v,?_⟩,.inl F⟩,aq,.inl ⟨F,F,aq⟩⟩;have U:cR (swp M k p q) k n i k=swp M k p q i k%swp M k p q k k:=by
   simp only[cR];rw[ab ⟨I,x⟩,mod_eq]
  have:=qd (z:=swp M k p q i k) E B;omega
 |b o hc=>
  obtain⟨j,m,f,v⟩:=hc;refine .inr ⟨aw,P-1,0,⟨((C.zo l s o).h_ l S r (by rw[iK];exact s)).mono (G3 r aq aq),aq,⟨k,j,Nat.le_refl k,l,aq,f,v,?_⟩,.inl F⟩,aq,.inr (.inl ⟨F,F,aq,u o⟩)⟩;rw[w_ _ m f];have:=qd (z:=swp M k p q k j) E B;omega
 |c i0 J O hc R=>
  have o:=tz hc;have H:=u o;have Y:=N P aq H;have t:∀j,k<j->j<n->Go.Sm.h_ (Go.Sm.cR (swp M k p q) k n) k n k j=0:=λj m f=>hc.2 j m f;have X:=(C.zo l s o).LJ l (by rw[iK];exact s) t;have W:c=1->P<Q:=λe=>by
   rcases h.hc with U|⟨_,_,U,h2,h3⟩
   ·omega
   ·refine Nat.lt_of_le_of_ne G λe=>?_;have e:M k k≠0:=aq;have V:p=k/\q=k:=by
     refine Decidable.byContradiction λv=>?_;have h:=g.hp;have h:=g.hc;have:=g.fst k k (Nat.le_refl k) l (Nat.le_refl k) l aq e;omega
    obtain⟨rfl,rfl⟩:=V;rw[pF]at hc;obtain⟨j,m,f,e⟩:=h3;have h:=hc.2 j m f;rw[w_ _ m f]at h;exact e (Int.dvd_of_emod_eq_zero h)
  have h:eK (red (swp M k p q) k n) k i0 k k=M p q:=by rw[qY,hc.1 i0 J O,wY,w];omega
  refine .inr ⟨aw,P,1,⟨(X.eK O aq).mono (JL r aq aq),aq,⟨k,k,Nat.le_refl k,l,Nat.le_refl k,l,by rw[h];exact g.nz,by rw[h];omega⟩,.inr ⟨F,Y,by rw[h];omega,λi I x=>?_,?_⟩⟩,aq,.inr (.inr ⟨F,F,F,H,W⟩)⟩
  ·simp only[eK];rw[aa aq];exact hc.1 i I x
  ·obtain⟨j,m,f,e⟩:=R;refine⟨j,m,f,?_⟩;rw[h,qY,hc.2 j m f,Int.zero_add,<-w];exact e
 |d hc R=>
  have o:=tz hc;have t:∀j,k<j->j<n->Go.Sm.h_ (Go.Sm.cR (swp M k p q) k n) k n k j=0:=λj m f=>hc.2 j m f;exact .inl ⟨F,(C.zo l s o).LJ l (by rw[iK];exact s) t,u o⟩
theorem Sz.le{n k a P0 C0 b Q c:Nat}{M:Mt}(h:Sz n k a P0 C0 b Q c M)(d:1<=a):b*a^(P0-Q)*2^(C0-Q+c)<=b*a^P0*2^(C0+1):=by
 have:=h.c1;exact Nat.mul_le_mul (Nat.mul_le_mul_left _ (Nat.pow_le_pow_right d aq)) (Nat.pow_le_pow_right aw aq)
def JQ(D P:Nat):Nat:=if P<100 then P else 200-D/P
theorem xk{D P a:Nat}(d:0<D)(d:D<=10000)(h:P∣D)(h':a∣D)(b:a<P):JQ D a<JQ D P:=by
 have g:100<=P->D/P<=100:=λd=>by
  have:D/P<101:=Nat.div_lt_of_lt_mul aq;omega
 unfold JQ;by_cases d:P<100
 ·rw[ab d,ab aq];exact b
 ·have i:=g aq;rw[aa d];by_cases d:a<100
  ·rw[ab d];omega
  ·rw[aa d];have d:D/P<D/a:=by
    obtain⟨x,c⟩:=h;obtain⟨y,g⟩:=h';have h:0<P:=aq;have d:0<a:=aq;rw[c,Nat.mul_div_cancel_left x h];rw[<-c,g,Nat.mul_div_cancel_left y d];refine Nat.lt_of_not_le λd=>?_;have g:a*y<=a*x:=Nat.mul_le_mul_left _ d;have f:0<x:=by
     rcases Nat.eq_zero_or_pos x with e|e
     ·rw[e]at c;omega
     ·exact e
    have c:a*x<P*x:=Nat.mul_lt_mul_of_pos_right b f;omega
   omega
theorem Nd{n k V:Nat}{M:Mt}(f:Dg n k M)(d:Tm n k V M)(c:∀t,t<k->(M t t).natAbs<=V){i j:Nat}(b:i<n)(a:j<n):(M i j).natAbs<=V:=by
 by_cases h:i<k\/j<k
 ·by_cases e:i=j
  ·subst e;exact c i aq
  ·rw[f i j b a h e];exact Nat.zero_le _
 ·exact d.entry aq b aq a
theorem AG{n k t:Nat}{M:Mt}(b:Dg n k M)(a:k<=n)(c:t<k):M t t∣aO n M:=by
 have f:Dg n t M:=λi j a d h e=>b i j a d aq e;exact DS f aq λi a a=>b i t a aq (.inr c) aq
