import Derived.Test.YtmfndnlifgphjaaGreatQze
import Derived.Test.YtmfndnlifgphjaaGreatQzc
import Derived.Maps.AppendAt
import Derived.Lib.SliceRun
import Derived.Test.YtmfndnlifgphjaaGreatProg
set_option maxHeartbeats 64000000
open Go.Proofs.YtmfndnlifgphjaaGreat
namespace Go.Se
section
open Go.bc Go.Sm
def Tm(n k V:Nat)(M:Mt):Prop:=∀(s:Nat) (I J:Nat->Nat),(∀t,t<s->(k<=I t/\I t<n)/\k<=J t/\J t<n)->(aQ s (cj M I J)).natAbs<=V
theorem Tm.one{n k V:Nat}{M:Mt}(h:Tm n k V M):1<=V:=h 0 id id λ_ h=>by omega
theorem Tm.entry{n k V:Nat}{M:Mt}(h:Tm n k V M){i j:Nat}(d:k<=i)(b:i<n)(c:k<=j)(a:j<n):(M i j).natAbs<=V:=by
 have:=h 1 (λ_=>i) (λ_=>j) λ_ _=>⟨⟨d,b⟩,c,a⟩;simpa[aQ,sm,fq,cj]using this
theorem Tm.tr{n k V:Nat}{M:Mt}(h:Tm n k V M):Tm n k V (Go.bc.tr M):=λs I J a=>by
 have:cj (Go.bc.tr M) I J=Go.bc.tr (cj M J I):=F;rw[this,df];exact h s J I λt b=>⟨(a t b).2,(a t b).1⟩
theorem Tm.mono{n k V a:Nat}{M:Mt}(h:Tm n k V M)(b:V<=a):Tm n k a M:=λs I J a=>Nat.le_trans (h s I J a) b
theorem Tm.sub{n k a V:Nat}{M:Mt}(h:Tm n k V M)(b:k<=a):Tm n a V M:=λs I J a=>h s I J λt b=>by have:=a t b;omega
theorem Tm.congr{n k V:Nat}{M M':Mt}(h:Tm n k V M)(e:∀i j,k<=i->i<n->k<=j->j<n->M i j=M' i j):Tm n k V M':=λs I J c=>by
 have:aQ s (cj M' I J)=aQ s (cj M I J):=aY λa b g f=>by
  have d:=c a g;have a:=c b f;exact(e _ _ d.1.1 d.1.2 a.2.1 a.2.2).symm
 rw[this];exact h s I J c
theorem Tm.swp{n k V p c:Nat}{M:Mt}(h:Tm n k V M)(e:k<=p)(jv:p<n)(f:k<=c)(ma:c<n):Tm n k V (Go.Sm.swp M k p c):=λs I J b=>
 h s (λt=>sx k p (I t)) (λt=>sx k c (J t)) λt d=>by
  have a:=b t d;exact⟨⟨kN e a.1.1,g_ aq jv a.1.2⟩,kN f a.2.1,g_ aq ma a.2.2⟩
theorem AZ{n k s:Nat}{N:Mt}{I J:Nat->Nat}(d:∀t,t<s->(k<=I t/\I t<n)/\k<=J t/\J t<n)(c:∀a,a<s->I a≠k)(f:aQ s (cj N I J)≠0):s<=n-(k+1):=by
 refine(tV.rows (n-(k+1)) n (λi j=>N (i+(k+1)) j)).le ⟨λt=>I t-(k+1),J,λt b=>by have:=d t b;have:=c t b;show I t-(k+1)<n-(k+1)/\J t<n;omega,?_⟩;have e:aQ s (λa b=>N (I a-(k+1)+(k+1)) (J b))=aQ s (cj N I J):=aY λa b b _=>by
  have g:=d a b;have d:=c a b;simp only[cj];rw[show I a-(k+1)+(k+1)=I a by omega]
 exact λh=>f (e ▸ h)
theorem Tm.part{n k V R:Nat}{M N:Mt}{f:Nat->Int}(h:Tm n k V M)(m:k<n)(p:∀i j,i<n->j<n->N i j=M i j-f i*M k j)(o:f k=0)
 (w:∀i,k<i->i<n->(N i k).natAbs<=R) {s:Nat} {I J:Nat->Nat} (j:∀t,t<s->(k<=I t/\I t<n)/\k<=J t/\J t<n) (u:∀a,a<s->I a≠k):
 (M k k).natAbs*(aQ s (cj N I J)).natAbs<=V+s*(R*V):=by
 let b:Nat->Nat:=λt=>if t=0 then k else I (t-1);let d:Nat->Nat:=λt=>if t=0 then k else J (t-1);have i:∀t,t<s+1->(k<=b t/\b t<n)/\k<=d t/\d t<n:=by
  intro t g;by_cases e:t=0
  ·simp only[b,d,e,ae F];exact⟨⟨Nat.le_refl k,m⟩,Nat.le_refl k,m⟩
  ·simp only[b,d,aa e];exact j (t-1) aq
 have q:∀{s:Nat} {I J:Nat->Nat},(∀t,t<s->(k<=I t/\I t<n)/\k<=J t/\J t<n)->∀t,t<s->I t<n/\J t<n:=λh t g=>⟨(h t g).1.2,(h t g).2.2⟩;have l:(aQ (s+1) (cj N b d)).natAbs<=V:=by
  rw[jr p o (q i) (Nat.succ_pos s) (show b 0=k from ae F)];exact h (s+1) b d i
 rw[<-df]at l;simp only[aQ]at l;rw[uj]at l;have v:minor (Go.bc.tr (cj N b d)) 0 0=Go.bc.tr (cj N I J):=by
  funext r c;simp only[minor,dV,Go.bc.tr,cj,b,d];rw[aa (Nat.succ_ne_zero c),aa (Nat.succ_ne_zero r)];rfl
 have e:N k k=M k k:=by rw[p k k m m,o];omega
 have m:Go.bc.tr (cj N b d) 0 0=M k k:=by
  simp only[Go.bc.tr,cj,b,d];exact e
 rw[v,df,m]at l;have e:(sm s λt=>fq (t+1)*Go.bc.tr (cj N b d) 0 (t+1)*aQ s (minor (Go.bc.tr (cj N b d)) 0 (t+1))).natAbs<=s*(R*V):=by
  refine mz λt g=>?_;have v:Go.bc.tr (cj N b d) 0 (t+1)=N (I t) k:=by
   simp only[Go.bc.tr,cj,b,d];rw[aa (Nat.succ_ne_zero t)];rfl
  have e:I t≠k:=u t g;have m:=w (I t) (by have:=j t g;omega) (j t g).1.2;let e:Nat->Nat:=λa=>b (skip (t+1) a);have u:minor (Go.bc.tr (cj N b d)) 0 (t+1)=Go.bc.tr (cj N e J):=by
   funext r c;simp only[minor,dV,Go.bc.tr,cj,e,d];rw[aa (Nat.succ_ne_zero r)];rfl
  have g:0<s:=aq;have c:∀a,a<s->(k<=e a/\e a<n)/\k<=J a/\J a<n:=λa d=>⟨(i (skip (t+1) a) (iE d)).1,(j a d).2⟩;have a:e 0=k:=by simp[e,b,skip]
  have b:(aQ s (cj N e J)).natAbs<=V:=by
   rw[jr p o (q c) g a];exact h s e J c
  rw[u,df,v,Int.natAbs_mul,Int.natAbs_mul];have a:(fq (t+1)).natAbs=1:=by unfold fq;split<;>rfl
  rw[a,Nat.one_mul];exact Nat.mul_le_mul m b
 have a:fq 0=1:=F;rw[a,Int.one_mul]at l;rw[<-Int.natAbs_mul];omega
theorem Tm.rows{n k V a:Nat}{M N:Mt}{f:Nat->Int}(h:Tm n k V M)(r:k<n)(l:n-(k+1)<=a)(b:1<=a)(o:∀i j,i<n->j<n->N i j=M i j-f i*M k j)(m:f k=0)(e:M k k≠0)
 (q:∀i,k<i->i<n->0<=N i k/\N i k<(M k k).natAbs):Tm n k (a*V) N:=by
 intro s I J c;have e:=h.one;have j:V<=a*V:=Nat.le_mul_of_pos_left V b;by_cases l:∃b,b<s/\I b=k
 ·obtain⟨b,g,u⟩:=l;rw[jr o m (λt e=>⟨(c t e).1.2,(c t e).2.2⟩) g u];exact Nat.le_trans (h s I J c) j
 ·have d:∀b,b<s->I b≠k:=λb g e=>l ⟨b,g,e⟩;by_cases b:aQ s (cj N I J)=0
  ·rw[b];exact Nat.zero_le _
  have e:=AZ c d b;by_cases p:s=0
  ·subst p;have:(aQ 0 (cj N I J)).natAbs=1:=F;omega
  have g:0<(M k k).natAbs:=aq;have j:=h.part (R:=(M k k).natAbs-1) r o m (λi e b=>by have:=q i e b;omega) c d;refine Nat.le_of_mul_le_mul_left (Nat.le_trans j ?_) g;obtain⟨P,b⟩ : ∃P,(M k k).natAbs=P+1:=⟨(M k k).natAbs-1,aq⟩;rw[b];have b:s*V<=a*V:=Nat.mul_le_mul_right _ aq;have c:V<=s*V:=Nat.le_mul_of_pos_left V aq;have c:s*(P*V)=P*(s*V):=by rw[Nat.mul_left_comm]
  have d:P*(s*V)<=P*(a*V):=Nat.mul_le_mul_left _ b;have b:(P+1)*(a*V)=P*(a*V)+a*V:=Nat.succ_mul _ _;rw[show P+1-1=P by omega,c,b];omega
theorem Tm.HI{n k V:Nat}{M N:Mt}{f:Nat->Int}(h:Tm n k V M)(o:k<n)(l:∀i j,i<n->j<n->N i j=M i j-f i*M k j)(g:f k=0)(a:M k k≠0)
 (m:∀i,k<i->i<n->N i k=0):Tm n k V N:=by
 intro s I J a;by_cases j:∃b,b<s/\I b=k
 ·obtain⟨b,c,e⟩:=j;rw[jr l g (λt d=>⟨(a t d).1.2,(a t d).2.2⟩) c e];exact h s I J a
 ·have d:∀b,b<s->I b≠k:=λb c e=>j ⟨b,c,e⟩;have j:0<(M k k).natAbs:=aq;have b:=h.part (R:=0) o l g (λi e c=>by rw[m i e c];exact Nat.le_refl 0) a d;rw[Nat.zero_mul,Nat.mul_zero,Nat.add_zero]at b;exact Nat.le_trans (Nat.le_mul_of_pos_left _ j) b
theorem Tm.bo{n k V a:Nat}{M:Mt}(h:Tm n k V M)(d:k<n)(e:n-(k+1)<=a)(b:1<=a)(c:M k k≠0):Tm n k (a*V) (bo M k n):=by
 refine h.rows (f:=λi=>if k<i/\i<n then M i k/M k k else 0) d e b (λi j _ _=>jH M k n i j) (aa aq) c λi c b=>?_;simp only[Go.Sm.bo];rw[ae ⟨c,b⟩,mod_eq];exact ka F aq
theorem Tm.uz{n k V:Nat}{M:Mt}(h:Tm n k V M)(b:k<n)(a:M k k≠0)(c:∀i,k<i->i<n->Go.Sm.bo M k n i k=0):Tm n k V (Go.Sm.bo M k n):=
 h.HI (f:=λi=>if k<i/\i<n then M i k/M k k else 0) b (λi j _ _=>jH M k n i j) (aa aq) a c
theorem Tm.fe{n k V a:Nat}{M:Mt}(h:Tm n k V M)(d:k<n)(e:n-(k+1)<=a)(b:1<=a)(c:M k k≠0):Tm n k (a*V) (Go.Sm.fe M k n):=by
 rw[lW];exact(h.tr.bo d e b c).tr
theorem Tm.F0{n k V:Nat}{M:Mt}(h:Tm n k V M)(c:k<n)(b:M k k≠0)(a:∀j,k<j->j<n->Go.Sm.fe M k n k j=0):Tm n k V (Go.Sm.fe M k n):=by
 rw[lW]at a⊢;exact(h.tr.uz c b λi c b=>a i c b).tr
theorem Tm.dh{n k d V:Nat}{M:Mt}(h:Tm n k V M)(p:d<n)(o:k<=d):Tm n k (2*V) (Go.Sm.dh M k d):=by
 intro s I J f;by_cases g:∃a,a<s/\I a=k
 ·obtain⟨a,g,l⟩:=g;by_cases m:∃b,b<s/\b≠a/\I b=k
  ·obtain⟨b,i,c,e⟩:=m;rw[(eI s).GO _ a b g i (Ne.symm c) λj _=>by simp only[cj,l,e]];simp
  ·have q:∀i j,i<s->j<s->cj (Go.Sm.dh M k d) I J i j=bJ (cj M I J) a (λc=>cj M I J a c+M d (J c)) i j:=by
    intro i j b e;simp only[cj,Go.Sm.dh,bJ];by_cases e:i=a
    ·rw[ae e,e,ae l,l]
    ·rw[aa e,aa λl=>m ⟨i,b,e,l⟩]
   rw[aY q,(eI s).add _ _ _ _ g,fD];have m:=h s I J f;have q:=h s (λt=>if t=a then d else I t) J λt m=>⟨by by_cases e:t=a;simp only[ae e];exact⟨o,p⟩;simp only[aa e];exact(f t m).1,(f t m).2⟩;have l:cj M (λt=>if t=a then d else I t) J=bJ (cj M I J) a (λc=>M d (J c)):=by
    funext r c;simp only[cj,bJ];split<;>rfl
   rw[l]at q;omega
 ·have:aQ s (cj (Go.Sm.dh M k d) I J)=aQ s (cj M I J):=aY λi j b _=>by
   simp only[cj,Go.Sm.dh];rw[aa λe=>g ⟨i,b,e⟩]
  rw[this];have:=h s I J f;omega
inductive Ot(n k:Nat)(S:Mt):Mt->Nat->Prop
 |a (h:∃i,k<i/\i<n/\bo S k n i k≠0):Ot n k S (bo S k n) 0
 |b (hr:∀i,k<i->i<n->bo S k n i k=0) (h:∃j,k<j/\j<n/\red S k n k j≠0):Ot n k S (red S k n) 1
 |c (i0:Nat) (h0:k<i0) (hn:i0<n) (hc:CLN n k (red S k n)) (hd:∃j,k<j/\j<n/\¬S k k∣red S k n i0 j):Ot n k S (dh (red S k n) k i0) 2
 |d (hc:CLN n k (red S k n)) (hd:∀i j,k<i->i<n->k<j->j<n->S k k∣red S k n i j):Ot n k S (red S k n) 3
theorem jx{n k:Nat}{S:Mt}(d:CLN n k (red S k n)):∀i,k<i->i<n->bo S k n i k=0:=λi b a=>by
 have c:=d.1 i b a;rw[wM S b a]at c;simp only[bo];rw[ae ⟨b,a⟩,mod_eq];exact c
theorem sH{n k:Nat}{M:Mt}(c:Dg n k M)(b:k<n)(f:∀i,k<i->i<n->M i k=0):M k k∣aQ n M:=by
 cases n with
 |zero=>omega
 |succ n=>
  rw[<-df,<-jd n (Go.bc.tr M) k b];refine dSm λj a=>Int.dvd_mul_of_dvd_left ?_;show M k k∣M j k;by_cases e:j=k
  ·rw[e];exact Int.dvd_refl _
  ·have:M j k=0:=by
    by_cases d:j<k
    ·exact c j k a b (.inl d) e
    ·exact f j aq a
   rw[this];exact Int.dvd_zero _
theorem jc{n:Nat}{A B:Mt}(h:gj n A B):(aQ n B).natAbs=(aQ n A).natAbs:=by
 obtain⟨X,g,Y,f,b,d,e⟩:=h;have a:=aY e;rw[fV,fV]at a;have c:=b.aQ;have b:=d.aQ;have d:(aQ n X).natAbs=1:=Nat.eq_one_of_mul_eq_one_right (m:=(aQ n X).natAbs) (n:=(aQ n g).natAbs) (by rw[<-Int.natAbs_mul,c];rfl);have c:(aQ n Y).natAbs=1:=Nat.eq_one_of_mul_eq_one_right (m:=(aQ n Y).natAbs) (n:=(aQ n f).natAbs) (by rw[<-Int.natAbs_mul,b];rfl);have b:(aQ n B*aQ n Y).natAbs=(aQ n X*aQ n A).natAbs:=by rw[a]
 rw[Int.natAbs_mul,Int.natAbs_mul,d,c]at b;omega
theorem Bj{a V x y u v:Nat}(d:1<=a)(b:x+1<=y)(c:u<=v):a*(V*a^x*2^u)<=V*a^y*2^v:=by
 have e:a*(V*a^x*2^u)=V*a^(x+1)*2^u:=by rw[Nat.pow_succ];grind
 rw[e];exact Nat.mul_le_mul (Nat.mul_le_mul_left _ (Nat.pow_le_pow_right d b)) (Nat.pow_le_pow_right ar c)
theorem D2{a V x y u v:Nat}(d:1<=a)(b:x<=y)(c:u+1<=v):2*(V*a^x*2^u)<=V*a^y*2^v:=by
 have e:2*(V*a^x*2^u)=V*a^x*2^(u+1):=by rw[Nat.pow_succ];grind
 rw[e];exact Nat.mul_le_mul (Nat.mul_le_mul_left _ (Nat.pow_le_pow_right d b)) (Nat.pow_le_pow_right ar c)
theorem mW(M:Mt)(k:Nat):swp M k k k=M:=by
 funext i j;simp only[swp,Dy]
theorem D5{n k p q D:Nat}{M:Mt}(d:Dg n k M)(c:(aQ n M).natAbs=D)(a:nK n k M p q)(f:∀i,k<i->i<n->bo (swp M k p q) k n i k=0):(M p q).natAbs∣D:=by
 have b:k<n:=Nat.lt_of_le_of_lt a.hp a.jv;have e:=sH ((d.swp b a.hp a.jv a.hc a.ma).bo b) b f;rw[fi]at e;have d:=Int.natAbs_dvd_natAbs.2 e;rw[jc ((sV M b a.jv a.ma).trans (ln _ b)),c]at d;simpa only[swp,uc]using d
theorem G7{n k V:Nat}{M:Mt}(f:Dg n k M)(d:Tm n k V M)(c:∀t,t<k->(M t t).natAbs<=V){i j:Nat}(b:i<n)(a:j<n):(M i j).natAbs<=V:=by
 by_cases h:i<k\/j<k
 ·by_cases e:i=j
  ·subst e;exact c i aq
  ·rw[f i j b a h e];exact Nat.zero_le _
 ·exact d.entry aq b aq a
theorem uW{n k t:Nat}{M:Mt}(b:Dg n k M)(a:k<=n)(c:t<k):M t t∣aQ n M:=by
 have f:Dg n t M:=λi j a d h e=>b i j a d aq e;exact sH f aq λi a a=>b i t a aq (.inr c) aq
section
variable {n k:Nat}{M M':Mt}{p c kd:Nat}{d:Int}
theorem FN{q i:Nat}(a:k<=q)(a:i<k):sx k q i=i:=by unfold sx;rw[aa (by omega),aa (by omega)]
theorem Ot.da(j:Ot n k (swp M k p c) M' kd)(f:nK n k M p c)(h:Da n k d M):Da n k d M':=by
 have e:=h.swp f;cases j with
 |a h=>exact e.bo
 |b f h=>exact e.red
 |c i0 h0 g hc i=>exact e.red.dh (Nat.le_of_lt h0) g
 |d hc i=>exact e.red
theorem Ot.dg(l:Ot n k (swp M k p c) M' kd)(f:nK n k M p c)(h:Dg n k M):Dg n k M':=by
 have e:k<n:=Nat.lt_of_le_of_lt f.hp f.jv;have g:=h.swp e f.hp f.jv f.hc f.ma;cases l with
 |a h=>exact g.bo e
 |b f h=>exact(g.bo e).fe e
 |c i0 h0 i hc j=>exact((g.bo e).fe e).dh e h0 i
 |d hc j=>exact(g.bo e).fe e
theorem yn{t:Nat}(M:Mt)(a:t<k):bo M k n t t=M t t:=aa (by omega)
theorem wL{t:Nat}(M:Mt)(a:t<k):red M k n t t=M t t:=by
 show(if k<t/\t<n then _ else bo M k n t t)=M t t;rw[aa aq,yn M a]
theorem Ot.diag{t:Nat}(j:Ot n k (swp M k p c) M' kd)(g:nK n k M p c)(e:t<k):M' t t=M t t:=by
 have f:swp M k p c t t=M t t:=by simp only[swp];rw[FN g.hp e,FN g.hc e]
 cases j with
 |a h=>rw[yn _ e,f]
 |b g h=>rw[wL _ e,f]
 |c i0 h0 g hc i=>
  simp only[dh];rw[aa aq,wL _ e,f]
 |d hc i=>rw[wL _ e,f]
theorem Ot.eqv(l:Ot n k (swp M k p c) M' kd)(f:nK n k M p c):gj n M M':=by
 have e:k<n:=Nat.lt_of_le_of_lt f.hp f.jv;have g:=sV M e f.jv f.ma;cases l with
 |a h=>exact g.trans (ln _ e)
 |b f h=>exact g.trans (oZ _ e)
 |c i0 h0 i hc j=>exact(g.trans (oZ _ e)).trans (B7 _ e i aq)
 |d hc j=>exact g.trans (oZ _ e)
theorem Ot.sg(f:Ot n k (swp M k p c) M' kd)(b:nK n k M p c)(h:Sg n k M):Sg n k M':=by
 have e:=λt (a:t<k)=>f.diag b a;exact⟨f.dg b h.dg,λt a=>by rw[e t a];exact h.nn t a,λt a=>by rw[e t aq,e (t+1) a];exact h.dv t a,λt a=>by rw[e t aq];exact f.da b (h.da t a)⟩
theorem Sg.next'(h1:Sg n k M)(h:k<n)(l:CLN n k M)(o:∀i j,k<i->i<n->k<j->j<n->M k k∣M i j):Sg n (k+1) (iT M k):=by
 have a:∀t,t≠k->iT M k t t=M t t:=λt e=>aa aq;have b:iT M k k k=((M k k).natAbs:Int):=ae ⟨F,F⟩;refine⟨λi j g f m m=>?_,λt e=>?_,λt e=>?_,λt e=>?_⟩
 ·simp only[iT];rw[aa aq];by_cases e:i<k\/j<k
  ·exact h1.dg i j g f e m
  ·by_cases m:i=k
   ·rw[m];exact l.2 j aq f
   ·have m:j=k:=aq;rw[m];exact l.1 i aq g
 ·by_cases e:t=k
  ·rw[e,b];exact Int.natCast_nonneg _
  ·rw[a t e];exact h1.nn t aq
 ·by_cases e:t+1=k
  ·rw[e,b,a t aq];have:=h1.da t e k k aD h aD h;exact Int.dvd_natAbs.2 this
  ·rw[a t aq,a (t+1) e];exact h1.dv t aq
 ·have e:t=k:=aq;rw[e,b];intro i j g b f a;simp only[iT];rw[aa aq];exact Int.natAbs_dvd.2 (o i j aq b aq a)
theorem Tm.iT{V:Nat}(h:Tm n (k+1) V M):Tm n (k+1) V (iT M k):=h.congr λi j a _ _ _=>by
 simp only[Go.Sm.iT];rw[aa aq]
end
def Bz(n b:Nat)(M:Mt):Prop:=∀i j,i<n->j<n->(M i j).natAbs<=2^b
theorem Bz.mono{n b a:Nat}{M:Mt}(h:Bz n b M)(f:b<=a):Bz n a M:=λi j e a=>Nat.le_trans (h i j e a) (Nat.pow_le_pow_right (by decide) f)
theorem Bz.ID{n b k p:Nat}{M:Mt}(h:Bz n b M)(e:k<n)(a:p<n):Bz n b (λi j=>M (sx k p i) j):=λ_i _j g f=>h _ _ (g_ e a g) f
theorem Bz.IE{n b k p:Nat}{M:Mt}(h:Bz n b M)(e:k<n)(a:p<n):Bz n b (λi j=>M i (sx k p j)):=λ_i _j g f=>h _ _ g (g_ e a f)
theorem Bz.mul{n a b:Nat}{X Y:Mt}(f:n<=4)(h:Bz n a X)(g:Bz n b Y):Bz n (a+b+2) (Go.bc.mul n X Y):=λi j m l=>by
 have e:(Go.bc.mul n X Y i j).natAbs<=n*(2^a*2^b):=mz λt e=>by
  rw[Int.natAbs_mul];exact Nat.mul_le_mul (h i t m e) (g t j e l)
 rw[Nat.pow_add,Nat.pow_add];have e:n*(2^a*2^b)<=4*(2^a*2^b):=Nat.mul_le_mul_right _ f;omega
def oe(W R:Mt)(t n:Nat):Mt:=λi j=>if i=t then W t j+sm n λl=>if t<l then R t l/R t t*W l j else 0 else W i j
def Rel(n:Nat)(U A D W:Mt):Prop:=∀i j,i<n->j<n->Go.bc.mul n U A i j=Go.bc.mul n D W i j
section
variable {n t:Nat}{U A D W:Mt}
theorem DD{n:Nat}(s:Nat->Nat)(a:∀i,i<n->s i<n/\s (s i)=i)(f:Nat->Int):sm n (λi=>f (s i))=sm n f:=by
 have e:∀i,i<n->f (s i)=sm n λj=>if s i=j then f j else 0:=λi g=>by
  rw[cG (c:=s i) (a i g).1 λj _ b=>aa (Ne.symm b),ae rfl]
 rw[aO e,oS];refine aO λj b=>?_;rw[cG (c:=s j) (a j b).1 λi g h=>aa λe=>h (by rw[<-e,(a i g).2]),ae (a j b).2]
theorem Rel.swp{p c:Nat}(h:Rel n U A D W)(a:t<n)(b:p<n)(g:c<n):Rel n (λi j=>U (sx t p i) j) A (Go.Sm.swp D t p c) (λi j=>W (sx t c i) j):=λi j f e=>by
 have l:=h (sx t p i) j (g_ a b f) e;show(sm n λk=>U (sx t p i) k*A k j)=sm n λk=>D (sx t p i) (sx t c k)*W (sx t c k) j;rw[DD (sx t c) (wE a g) λk=>D (sx t p i) k*W k j];exact l
theorem Rel.rows{g:Nat->Int}{a e:Mt}(h:Rel n U A D W)(l:t<n)(m:∀i j,i<n->j<n->a i j=U i j-g i*U t j)(o:∀i j,i<n->j<n->e i j=D i j-g i*D t j):Rel n a A e W:=λi j b f=>by
 have q:Go.bc.mul n a A i j=Go.bc.mul n U A i j-g i*Go.bc.mul n U A t j:=by
  show sm n _=sm n _-g i*sm n _;rw[<-dD,aO (g:=λk=>1*(U i k*A k j)+(-1)*(g i*(U t k*A k j))) λk a=>by rw[m i k b a];grind,e8];omega
 have m:Go.bc.mul n e W i j=Go.bc.mul n D W i j-g i*Go.bc.mul n D W t j:=by
  show sm n _=sm n _-g i*sm n _;rw[<-dD,aO (g:=λk=>1*(D i k*W k j)+(-1)*(g i*(D t k*W k j))) λk a=>by rw[o i k b a];grind,e8];omega
 rw[q,m,h i j b f,h t j l f]
theorem Rel.zX(h:Rel n U A D W)(f:t<n):Rel n U A (Go.Sm.fe D t n) (oe W D t n):=λi j m g=>by
 rw[h i j m g];show(sm n λk=>D i k*W k j)=sm n λk=>Go.Sm.fe D t n i k*oe W D t n k j;have e:∀k,k<n->Go.Sm.fe D t n i k*oe W D t n k j=1*(D i k*W k j)+1*((if k=t then D i t*(sm n λl=>if t<l then D t l/D t t*W l j else 0)else 0)-(if t<k then D i t*(D t k/D t t*W k j)else 0)):=λk b=>by
  simp only[Go.Sm.fe,oe];by_cases a:k=t
  ·subst a;rw[aa aq,ae F,ae F,aa aq];grind
  ·rw[aa a,aa a];by_cases a:t<k
   ·rw[ae ⟨a,b⟩,ae a];grind
   ·rw[aa aq,aa a];grind
 rw[aO e,e8];have z:(sm n λk=>(if k=t then D i t*(sm n λl=>if t<l then D t l/D t t*W l j else 0)else 0)-(if t<k then D i t*(D t k/D t t*W k j)else 0))=0:=by
  have a:(sm n λk=>(if k=t then D i t*(sm n λl=>if t<l then D t l/D t t*W l j else 0)else 0)-(if t<k then D i t*(D t k/D t t*W k j)else 0))=
   1*(sm n λk=>if k=t then D i t*(sm n λl=>if t<l then D t l/D t t*W l j else 0)else 0)+(-1)*sm n λk=>if t<k then D i t*(D t k/D t t*W k j)else 0:=by
   rw[<-e8];exact aO λk _=>aq
  rw[a,cG (c:=t) f λk _ b=>aa b,ae rfl,<-dD];have a:(sm n λl=>D i t*if t<l then D t l/D t t*W l j else 0)=sm n λk=>if t<k then D i t*(D t k/D t t*W k j)else 0:=aO λk _=>by split<;>simp
  rw[a];omega
 rw[z];omega
theorem Rel.dh{a:Nat}(h:Rel n U A D W)(f:t<n)(m:a<n):Rel n (Go.Sm.dh U t a) A (Go.Sm.dh D t a) W:=λi j l b=>by
 by_cases e:i=t
 ·subst e;have g:Go.bc.mul n (Go.Sm.dh U i a) A i j=Go.bc.mul n U A i j+Go.bc.mul n U A a j:=by
   show sm n _=sm n _+sm n _;rw[<-pn];exact aO λk _=>by rw[og];grind
  have f:Go.bc.mul n (Go.Sm.dh D i a) W i j=Go.bc.mul n D W i j+Go.bc.mul n D W a j:=by
   show sm n _=sm n _+sm n _;rw[<-pn];exact aO λk _=>by rw[og];grind
  rw[g,f,h i j l b,h a j m b]
 ·have g:Go.bc.mul n (Go.Sm.dh U t a) A i j=Go.bc.mul n U A i j:=aO λk _=>by simp only[Go.Sm.dh];rw[aa e]
  have f:Go.bc.mul n (Go.Sm.dh D t a) W i j=Go.bc.mul n D W i j:=aO λk _=>by simp only[Go.Sm.dh];rw[aa e]
  rw[g,f,h i j l b]
theorem Rel.bd{a b c:Nat}(h:Rel n U A D W)(g:n<=4)(e:1<=n)(e:aQ n A≠0)(r:Bz n a D)(o:Bz n b W)(q:Bz n c (fa (n-1) A)):Bz n (a+b+c+4) U:=λi j l f=>by
 obtain⟨m,rfl⟩ : ∃m,n=m+1:=⟨n-1,aq⟩;have s:Go.bc.mul (m+1) (Go.bc.mul (m+1) D W) (fa m A) i j=U i j*aQ (m+1) A:=by
  have u:Go.bc.mul (m+1) (Go.bc.mul (m+1) D W) (fa m A) i j=Go.bc.mul (m+1) (Go.bc.mul (m+1) U A) (fa m A) i j:=aO λk e=>by rw[h i k l e]
  rw[u,mul_assoc];have u:Go.bc.mul (m+1) U (Go.bc.mul (m+1) A (fa m A)) i j=sm (m+1) λk=>U i k*(if k=j then aQ (m+1) A else 0):=aO λk e=>by rw[jJ m A k j e f]
  rw[u,cG (c:=j) f λk _ e=>by rw[aa e,Int.mul_zero],ae F]
 have e:=Bz.mul g (Bz.mul g r o) (show Bz (m+1) c (fa m A)from q) i j l f;rw[s,Int.natAbs_mul]at e;have g:1<=(aQ (m+1) A).natAbs:=aq;have f:(U i j).natAbs<=(U i j).natAbs*(aQ (m+1) A).natAbs:=Nat.le_mul_of_pos_right _ g;rw[show a+b+c+4=a+b+2+c+2 by omega];exact Nat.le_trans f e
end
theorem Bz.gZ{n b E t:Nat}{V R:Mt}(h:Bz n b V)(ht:t<n)(hR:Bz n E R):Bz n (b+E+1) (λi j=>if t<j/\j<n then V i j-R t j/R t t*V i t else V i j):=λi j hi hj=>by
 have h0:=h i j hi hj;have h1:=h i t hi ht;have hE:=hR t j ht hj;have hq:(R t j/R t t).natAbs<=2^E:=Nat.le_trans (Int.natAbs_ediv_le_natAbs _ _) hE;have e1:2^b<=2^b*2^E:=Nat.le_mul_of_pos_right _ (Nat.pow_pos ar);have e2:2^(b+E+1)=2*(2^b*2^E):=by rw[Nat.pow_succ,Nat.pow_add];omega
 rw[e2];show(if t<j/\j<n then V i j-R t j/R t t*V i t else V i j).natAbs<=_;split
 ·have h3:(R t j/R t t*V i t).natAbs<=2^b*2^E:=by rw[Int.natAbs_mul,Nat.mul_comm];exact Nat.mul_le_mul h1 hq
  omega
 ·omega
theorem Bz.oe{n b E t:Nat}{W R:Mt}(g:n<=4)(h:Bz n b W)(e:t<n)(m:Bz n E R):Bz n (b+E+3) (oe W R t n):=λi j f a=>by
 have l:=h i j f a;have f:=h t j e a;have f:2^b<=2^b*2^E:=Nat.le_mul_of_pos_right _ (Nat.pow_pos ar);have f:2^(b+E+3)=8*(2^b*2^E):=by rw[Nat.pow_add,Nat.pow_add];omega
 rw[f];unfold Go.Se.oe;split
 ·have f:(sm n λl=>if t<l then R t l/R t t*W l j else 0).natAbs<=n*(2^b*2^E):=mz λl f=>by
   split
   ·rw[Int.natAbs_mul,Nat.mul_comm];exact Nat.mul_le_mul (h l j f a) (Nat.le_trans (Int.natAbs_ediv_le_natAbs _ _) (m t l e f))
   ·exact Nat.zero_le _
  have a:n*(2^b*2^E)<=4*(2^b*2^E):=Nat.mul_le_mul_right _ g;omega
 ·omega
end
end Go.Se
namespace Go.cU
section
open Go Go.RowKit
section
variable {P:Program}{n:Nat}{S:World->World->Prop}{k:Nat}{K:Fr->World->Prop}{f:Fr}{w:World}
 {d ty t t2:Nat} {x y:Operand} {pos:String} {aft:Array Edge} {gd:Option (Nat×Bool)}
theorem oL(base:Nat)(t ty e:TypeId)(i:TypeInfo)(a:Nat)(h:P.underlying t=some (.slice e))(j:P.info? e=some i)
 (v:Value) (m:Nat) (xs:List Value) (b:w.ownsRow base e a v m xs) (c:Nat):(Builtin.append_ #[t,t] ty #[v,.slice none 0 c]).run P w=.ok v w:=by
 rcases b.2 with⟨rfl,rfl⟩|⟨g,cap,cur,rfl,_,_,l,_⟩
 ·simp[Builtin.append_,run_underlying h,sizeOf,typeInfo,j,Builtin.lenOf,Builtin.firstCells]
 ·simp[Builtin.append_,run_underlying h,sizeOf,typeInfo,j,Builtin.lenOf,Builtin.firstCells,l,storeCells]
theorem Cu{w w':World}{a:Option Nat}(h:w.grownBy w' a):Ch (λb=>some b=a) w w':=⟨h.os,h.tape,h.output,h.size,λb c a=>h.block b c a⟩
theorem oq{base e o p m m0 c:Nat}{z v:Value}{xs news:List Value}{A:Option Addr}(hT:cP P t e o p z)(O:z.cells.size=o)(H:0<o)
 (Z:k=2\/k=1/\∀w',Ch (λb=>some b=v.ownBlock) w w'->S w w') (V:ev n f x=v) (s:w.ownsRow base e o v m0 xs) (U:ev n f y=.slice A m c)
 (M:news.length=m*o) (B:∀j u,news[j]?=some u->∃C,A=some C/\w.cell? (C.add j)=some u) (h1:∀u∈news,u.oneCell'=true)
 (R:m0+m<=9223372036854775807) (D:(m0+m)*p<=140737488355328) (G:base<=w.heap.size)
 (h:∀g w',w'.ownsRow base e o g (m0+m) (xs++news)->Ch (λb=>some b=v.ownBlock) w w'->(g.ownBlock=v.ownBlock\/g.ownBlock=some w.heap.size)->K (bS f d g) w'):
 R1 P n S k ⟨some d,.call { callee:=.builtin .append,args:=#[x,y],argTypes:=#[t,t] },ty,pos,aft,gd⟩ K f w:=by
 have N:∃g w',(Builtin.append_ #[t,t] ty #[v,.slice A m c]).run P w=.ok g w'/\w'.ownsRow base e o g (m0+m) (xs++news)/\Ch (λb=>some b=v.ownBlock) w w'/\(g.ownBlock=v.ownBlock\/g.ownBlock=some w.heap.size):=by
  obtain⟨L,l⟩:=hT;cases hi:P.info? e with
  |none=>rw[hi]at l;simp at l
  |some i=>
   rw[hi]at l;simp at l;obtain⟨T,W,Q⟩:=l;rcases A with _|C
   ·have X:news=[]:=by
     rcases news with _|⟨u,r⟩
     ·rfl
     ·obtain⟨C,h,_⟩:=B 0 u F;cases h
    subst X;have Y:m=0:=by
     rcases Nat.eq_zero_or_pos m with J|J
     ·exact J
     ·have:=Nat.mul_pos J H;simp at M;omega
    subst Y;exact⟨v,w,oL base t ty e i o L hi v m0 xs s c,by simpa using s,Ch.refl _ _,.inl F⟩
   ·obtain⟨g,w',q,I,E,_,h5⟩:=run_append_own_at (P:=P) w base t ty e i z o p L hi T W Q O H v m0 xs s C m c news M
     (λj u b=>by obtain⟨l,e,hc⟩:=B j u b;injection e with e;subst e;exact hc) h1 (by simp only[maxLen];exact R) D G
    exact⟨g,w',q,I,Cu E,h5⟩
 obtain⟨g,w',q,I,E,b⟩:=N;refine kJ (w':=w') (v:=g) (Z.imp id λh=>⟨h.1,h.2 _ E⟩) ?_ (h g w' I E b);simp only[execOp,resolve,invoke,builtin,Sem.run_bind,Sem.run_pure,Result.andThen_ok,List.map_toArray,List.map_cons,List.map_nil,V,U,q]
theorem Aw{e c a:Nat}{z:Value}(j:cP P t e c a z)(c:k=2\/k=1/\∀a,Ext w a->S w a)
 (h:∀a,bh a w.heap.size e #[]->Ext w a->a.heap.size=w.heap.size+1->K (bS f d (.slice (some ⟨w.heap.size,0,none⟩) 0 0)) a):R1 P n S k ⟨some d,.buildSlice t 0 #[],ty,pos,aft,gd⟩ K f w:=by
 refine mM (T:=e) (cs:=#[]) (v:=.slice (some ⟨w.heap.size,0,none⟩) 0 0) c ?_ h;obtain⟨g,b⟩:=j;cases hi:P.info? e with
 |none=>rw[hi]at b;simp at b
 |some i=>simp[execOp,Instr.buildSlice,run_underlying g,sizeOf,typeInfo,hi,Instr.fill,newRow,Array.range];congr 2;exact Array.eq_empty_of_size_eq_zero aA
theorem DJ(xs:Array Value)(h:xs.size=1){v0:Value}:xs.setIfInBounds 0 v0=#[v0]:=by
 obtain⟨l⟩:=xs
 match l,h with
 |[_],_=>rfl
theorem eM{e c:Nat}{z v0:Value}{g:Operand}(o:cP P t e 1 c z)(l:z.oneCell'=true)(p:k=2\/k=1/\∀c,Ext w c->S w c)(q:ev n f g=v0)(j:v0.oneCell'=true)
 (h:∀c,bh c w.heap.size e #[v0]->Ext w c->c.heap.size=w.heap.size+1->K (bS f d (.slice (some ⟨w.heap.size,0,none⟩) 1 1)) c):R1 P n S k ⟨some d,.buildSlice t 1 #[(0,g)],ty,pos,aft,gd⟩ K f w:=by
 refine mM (T:=e) (cs:=#[v0]) (v:=.slice (some ⟨w.heap.size,0,none⟩) 1 1) p ?_ h;obtain⟨m,b⟩:=o;cases hi:P.info? e with
 |none=>rw[hi]at b;simp at b
 |some i=>
  rw[hi]at b;simp at b;obtain⟨g,c,o⟩:=b;simp[execOp,Instr.buildSlice,run_underlying m,sizeOf,typeInfo,hi,c,zeroValue,g,q,Instr.fill,dB j,dB l,newRow,Array.range];rw[DJ _ (by simp[c])]
theorem C_{e b a m c:Nat}{z:Value}{A:Option Addr}(g:cP P t e b a z)(a:ev n f x=.slice A m c)(h:K (bS f d (.bool A.isNone)) w):
 R1 P n S k ⟨some d,.binOp .eql t x (.const (.slice none 0 0)) t2,ty,pos,aft,gd⟩ K f w:=
 cw a F (λ_=>by simp[eqGuard,go_sem]) (λw=>Lib.run_eql_slice_nil w t e A m c 0 0 g.Ge) h
end
end
end Go.cU
namespace Go.Proofs.Qq
section
open Go Go.cU Go.Proofs
theorem D8:([3,2,4,5,105,90,82,91,33,27,25,22,48,75,69,77]:List Nat).all (ia Tryz.prog)=true:=by kernel_rfl
theorem aW{t:Nat}(h:([3,2,4,5,105,90,82,91,33,27,25,22,48,75,69,77]:List Nat).contains t=true):ia Tryz.prog t=true:=
 List.all_eq_true.1 D8 t (by simpa using h)
theorem aN:dL Tryz.prog 35 2=true:=by kernel_rfl
theorem qe:dL Tryz.prog 24 3=true:=by kernel_rfl
theorem di:cP Tryz.prog 33 90 1 4 (.int .u32 0):=⟨Tryz.underlying33,by kernel_rfl⟩
theorem iP:cP Tryz.prog 69 3 1 8 (.int .i64 0):=⟨Tryz.underlying69,by kernel_rfl⟩
theorem po:cP Tryz.prog 48 2 1 8 (.int .i64 0):=⟨Tryz.underlying48,by kernel_rfl⟩
theorem FQ:cP Tryz.prog 22 105 1 1 (.int .i8 0):=⟨Tryz.underlying22,by kernel_rfl⟩
theorem eE:cP Tryz.prog 27 35 2 32 (.agg #[.bool false,.slice none 0 0]):=⟨Tryz.underlying27,by kernel_rfl⟩
theorem fU:cP Tryz.prog 25 27 1 24 (.slice none 0 0):=⟨Tryz.underlying25,by kernel_rfl⟩
theorem lO:cP Tryz.prog 75 48 1 24 (.slice none 0 0):=⟨Tryz.underlying75,by kernel_rfl⟩
theorem a_:im Tryz.prog 35 (.agg #[.bool false,.slice none 0 0]):=by unfold im;kernel_rfl
theorem FG:im Tryz.prog 3 (.int .i64 0):=by unfold im;kernel_rfl
theorem wv:lF Tryz.prog 90 (.int .u32):=by unfold lF;exact Tryz.underlying90
theorem nT:lF Tryz.prog 82 (.int .u64):=by unfold lF;exact Tryz.underlying82
theorem Gg:lF Tryz.prog 3 (.int .i64):=by unfold lF;exact Tryz.underlying3
theorem pf:lF Tryz.prog 2 (.int .i64):=by unfold lF;exact Tryz.underlying2
theorem FK:lF Tryz.prog 5 (.int .u8):=by unfold lF;exact Tryz.underlying5
theorem HC:lF Tryz.prog 105 (.int .i8):=by unfold lF;exact Tryz.underlying105
theorem Gf:lF Tryz.prog 9 .string:=by unfold lF;exact Tryz.underlying9
theorem x9:qE Tryz.prog 4:=z8 (by unfold lF;exact Tryz.underlying4)
theorem vN{P:Program}{n:Nat}{S:World->World->Prop}{k:Nat}{K:Fr->World->Prop}{f:Fr}{w:World}{d ty:Nat}{x:Operand}{b:String}{c:Array Edge}{g:Option (Nat×Bool)}{a:Addr}(e:ev n f x=.pointer (some a))(h:K (bS f d (.pointer (some a))) w):
 R1 P n S k ⟨some d,.nilCheck x,ty,b,c,g⟩ K f w:=
 cD (v:=.pointer (some a)) (λ_=>by simp[execOp,e]) h
theorem BR:c_ Tryz.prog 79 0 0:=by
 unfold c_;intro a w;simp[Instr.fieldAt,run_underlying Tryz.underlying79,Instr.sureAddr,fieldPlace,cQ (aW (t:=22) F)]
theorem BQ:c_ Tryz.prog 79 1 1:=by
 unfold c_;intro a w;simp[Instr.fieldAt,run_underlying Tryz.underlying79,Instr.sureAddr,fieldPlace,cQ (aW (t:=3) F)]
theorem BY:c_ Tryz.prog 24 0 0:=by
 unfold c_;intro a w;simp[Instr.fieldAt,run_underlying Tryz.underlying24,Instr.sureAddr,fieldPlace,cQ (aW (t:=5) F)]
theorem BX:c_ Tryz.prog 24 1 1:=by
 unfold c_;intro a w;simp[Instr.fieldAt,run_underlying Tryz.underlying24,Instr.sureAddr,fieldPlace,cQ (aW (t:=5) F)]
theorem BW:c_ Tryz.prog 24 2 2:=by
 unfold c_;intro a w;simp[Instr.fieldAt,run_underlying Tryz.underlying24,Instr.sureAddr,fieldPlace,cQ (aW (t:=22) F)]
theorem qD{n:Nat}{S:World->World->Prop}{k:Nat}{K:Fr->World->Prop}{f:Fr}{w:World}{d ty:Nat}{x:Operand}{a:String}{b:Array Edge}{e:Option (Nat×Bool)}{A:Option Addr}{m c:Nat}(g:ev n f x=.slice A m c)(h:K (bS f d (.agg #[.slice A m c,.int .i64 ((0:Nat):Int)])) w):
 R1 Tryz.prog n S k ⟨some d,.build 79 #[(0,x)],ty,a,b,e⟩ K f w:=by
 refine cD (v:=.agg #[.slice A m c,.int .i64 ((0:Nat):Int)]) (λw=>?_) h;have e:(#[(0,x)]:Array (Nat×Operand)).map (λ(i,x)=>(i,ev n f x))=#[(0,.slice A m c)]:=by simp[g]
 have a:(Value.agg #[.slice none 0 0,.int .i64 0]).cells=#[.slice none 0 0,.int .i64 0]:=F;have b:(Value.slice A m c).cells=#[.slice A m c]:=F;simp[execOp,e,Instr.build,run_underlying Tryz.underlying79,Instr.fill,a,b,cQ (aW (t:=22) F),cQ (aW (t:=3) F)]
theorem yX{n:Nat}{S:World->World->Prop}{k:Nat}{K:Fr->World->Prop}{f:Fr}{w:World}{d ty:Nat}{x:Operand}{a:String}{b:Array Edge}{e:Option (Nat×Bool)}{u v:Value}(c:ev n f x=.agg #[u,v])(h:K (bS f d v) w):
 R1 Tryz.prog n S k ⟨some d,.field 35 x 1,ty,a,b,e⟩ K f w:=by
 refine cD (v:=v) (λw=>?_) h;simp[execOp,c,Instr.field,run_underlying Tryz.underlying35,asAgg,part,ml (aW (t:=33) F)]
theorem Eu:c_ Tryz.prog 35 0 0:=by
 unfold c_;intro a w;simp[Instr.fieldAt,run_underlying Tryz.underlying35,Instr.sureAddr,fieldPlace,cQ (aW (t:=4) F)]
theorem Et:c_ Tryz.prog 35 1 1:=by
 unfold c_;intro a w;simp[Instr.fieldAt,run_underlying Tryz.underlying35,Instr.sureAddr,fieldPlace,cQ (aW (t:=33) F)]
theorem ij:tT Tryz.prog 35 (.agg #[.bool false,.slice none 0 0]):=by
 unfold tT;intro w;simp[Instr.build,run_underlying Tryz.underlying35,Instr.fill,Value.cells,cQ (aW (t:=4) F),cQ (aW (t:=33) F)]
theorem s_:tS Tryz.prog 35:=by
 unfold tS;intro a a w b a;have c:(Value.agg #[.bool false,.slice none 0 0]).cells=#[.bool false,.slice none 0 0]:=F;simp[Instr.build,run_underlying Tryz.underlying35,Instr.fill,c,cQ (aW (t:=4) F),cQ (aW (t:=33) F),dB b,dB a]
structure Gw(p:Prop):Prop where
 out:p
theorem uP{G a:Prop}(h:a)(t:Gw a->G:=by intro a;(first|(refine nO ?_;(first|refine C4 rfl ?_|refine xW rfl ?_|refine Am ?_|refine v_ ?_|refine Im ?_|refine xX ?_|(refine C6 ?_;(first|refine tG rfl ?_|refine qt rfl rfl ?_|refine tQ rfl (by omega) ?_|refine mN rfl rfl (by omega) ?_|refine tn rfl (by omega) (by omega) ?_|refine mJ rfl rfl (by omega) (by omega) ?_|refine tJ rfl ?_|refine qv rfl rfl ?_|refine tH rfl ?_|refine qu rfl rfl ?_|refine tK rfl ?_|refine qw rfl rfl ?_|refine tN rfl ?_|refine qC rfl rfl ?_|refine tE rfl ?_|refine qp rfl rfl ?_|refine tF rfl (by omega) ?_|refine Ft rfl (by omega) ?_|refine xZ rfl rfl (by omega) ?_|refine tu rfl (by omega) ?_|refine tw rfl (by omega) ?_|refine tk rfl (by omega) (by omega) ?_|refine tl rfl (by omega) (by omega) ?_|refine tP rfl (by omega) ?_|refine CY rfl rfl (by omega) (by omega) ?_|refine Iq rfl rfl (by omega) (by omega) ?_|refine C8 rfl rfl ?_|refine C5 rfl rfl ?_|refine C7 rfl rfl ?_|refine Io rfl rfl ?_|refine Db rfl rfl ?_|refine CZ rfl rfl ?_|refine vY x9 rfl rfl ?_|refine vO x9 rfl rfl ?_|refine tM rfl ?_|refine qB rfl rfl ?_|refine Fs rfl ?_|refine xJ rfl rfl ?_|refine xM rfl rfl ?_|refine xP rfl rfl ?_|refine tL rfl ?_|refine qz rfl rfl ?_|refine tD rfl ?_|refine qo rfl rfl ?_|refine Fu rfl ?_|refine xK rfl rfl ?_|refine Fy rfl ?_|refine xO rfl rfl ?_|refine Fw rfl ?_|refine Hp rfl rfl ?_))|(refine xN ?_;(first|refine kK fU rfl (by omega) ?_|refine l8 fU rfl (by omega) ?_|refine kK lO rfl (by omega) ?_|refine l8 lO rfl (by omega) ?_|refine dP di rfl rfl (by omega) ?_|refine dP eE rfl rfl (by omega) ?_|refine dP fU rfl rfl (by omega) ?_|refine dP po rfl rfl (by omega) ?_|refine dP lO rfl rfl (by omega) ?_|refine dP iP rfl rfl (by omega) ?_|refine dY di rfl rfl (by omega) ?_|refine dY eE rfl rfl (by omega) ?_|refine dY fU rfl rfl (by omega) ?_|refine dY po rfl rfl (by omega) ?_|refine dY lO rfl rfl (by omega) ?_|refine dY iP rfl rfl (by omega) ?_|refine dY FQ rfl rfl (by omega) ?_))|(refine An ?_;(first|refine rW (by decide) (aW F) F (by assumption) ?_|refine rX (by decide) (aW F) F (by assumption) ?_|refine rU (by decide) aN F (by assumption) (by assumption) ?_|refine rV (by decide) aN F (by assumption) (by assumption) ?_))|(refine As ?_;(first|refine iC di rfl ?_|refine iC eE rfl ?_|refine iC fU rfl ?_|refine iC po rfl ?_|refine iC lO rfl ?_|refine iC iP rfl ?_|refine iC FQ rfl ?_))|(refine Fx ?_;(first|refine b6 Eu rfl ?_|refine b6 Et rfl ?_|refine b6 BR rfl ?_|refine b6 BQ rfl ?_|refine b6 BY rfl ?_|refine b6 BX rfl ?_|refine b6 BW rfl ?_))|refine vN rfl ?_|(refine Ao ?_;(first|refine xD wv nT rfl (by omega) ?_|refine xC nT wv rfl ?_|refine Ad FK Gg rfl (by omega) ?_))|refine xU rfl rfl ?_|refine vK rfl rfl ?_|refine vL rfl rfl ?_|refine rR rfl ?_|refine rS rfl ?_|refine Aj rfl (by omega) F ?_|refine Ak rfl (by omega) F ?_|refine xH rfl (by omega) ?_|refine xI rfl (by omega) ?_|refine Hm rfl ?_|refine rQ di rfl rfl (by omega) ?_))|(refine IU ?_;(first|refine Fp rfl ?_|refine Hk ?_|refine xA rfl rfl rfl rfl ?_|refine CU rfl rfl rfl rfl rfl ?_|refine Fm rfl rfl rfl rfl (by omega) ?_|refine Hg rfl rfl rfl rfl (by omega) ?_|refine Fo rfl rfl rfl rfl (by omega) ?_|refine Hj rfl rfl rfl rfl (by omega) ?_))|(refine IT ?_;(first|refine CQ rfl rfl ?_|refine tg ?_|refine yS rfl rfl rfl rfl rfl ?_|refine CP rfl rfl rfl rfl rfl rfl ?_|refine Iz rfl rfl rfl rfl rfl (by omega) ?_|refine Ja rfl rfl rfl rfl rfl (by omega) ?_|refine Fl rfl rfl rfl rfl rfl (by omega) ?_|refine He rfl rfl rfl rfl rfl (by omega) ?_))|(refine JE ?_;(first|refine G_ ?_|refine Fi ?_|refine Fh ?_|refine Fg ?_|refine Ie ?_|refine kF ?_|refine xx ?_|refine CJ ?_|refine Ic ?_|refine Fc rfl (by omega) ?_|refine Fe rfl (by omega) ?_|refine CK rfl (by omega) ?_|refine CL rfl (by omega) ?_|refine te rfl ?_|refine o9 rfl ?_))|refine qi ?_|refine Ha ?_|refine Ii ?_|refine Dm ?_|refine Ir ?_|refine Hw ?_|refine FE rfl ?_);exact a.out):G:=t ⟨h⟩
theorem gg{G G':Prop}(h:G')(t:Gw G'->G:=by intro hgg;(repeat refine uP ?_);exact hgg.out):G:=t ⟨h⟩
theorem mixed:Tryz.prog.follows .mixedOrders=true:=by kernel_rfl
