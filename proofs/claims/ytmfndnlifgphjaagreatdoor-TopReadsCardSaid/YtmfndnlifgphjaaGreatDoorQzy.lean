import Derived.Test.YtmfndnlifgphjaaGreatDoorQzx
set_option maxHeartbeats 64000000
open Go.Proofs.YtmfndnlifgphjaaGreatDoor
namespace Go.aW
section
variable {n:Nat}{H:Mt}
theorem jT(b:tr H=H)(a:PM n H){i:Nat}(f:i<n):∀d c,c+d=i->0<bm c H i i
 |0,c,e=>by
  have:c=i:=aq;subst this;rw[db];exact a _ f
 |d+1,c,e=>by
  have g:=jT b a f d (c+1) aq;have f:=a c aq;have d:=a (c+1) aq;have h:=jc b (show aO c H≠0 by omega) i;have a:=Int.mul_pos f g;have a:=sq_nonneg (bm c H i c);have a:0<aO (c+1) H*bm c H i i:=aq;exact Int.pos_of_mul_pos_right a d
theorem xS(b:tr H=H)(a:PM n H){i:Nat}(e:i<n):∀c,c<=i->bm c H i i<=aO c H*H i i
 |0,_=>by rw[fU];simp[aO]
 |c+1,hc=>by
  have d:=xS b a e c aq;have f:=a c aq;have e:=a (c+1) aq;have h:=jc b (show aO c H≠0 by omega) i;have a:=sq_nonneg (bm c H i c);have a:=Int.mul_le_mul_of_nonneg_left d (Int.le_of_lt e);have a:aO c H*bm (c+1) H i i<=aO c H*(aO (c+1) H*H i i):=by
   have:aO (c+1) H*(aO c H*H i i)=aO c H*(aO (c+1) H*H i i):=aC;omega
  exact Int.le_of_mul_le_mul_left a f
theorem Ho(b:tr H=H)(a:PM n H){i c:Nat}(d:i<n)(e:c<i):bm c H i c*bm c H i c<=aO (c+1) H*(aO c H*H i i):=by
 have g:=a c aq;have f:=a (c+1) aq;have h:=jc b (show aO c H≠0 by omega) i;have e:=jT b a d (i-(c+1)) (c+1) aq;have h:=Int.mul_pos g e;have e:=Int.mul_le_mul_of_nonneg_left (xS b a d c aq) (Int.le_of_lt f);omega
theorem sC{a b:Int}(_hb:0<=b)(h:a.natAbs<=b.natAbs):a*a<=b*b:=by
 have d:a*a=((a.natAbs*a.natAbs:Nat):Int):=by rw[Int.natAbs_mul_self]
 have c:b*b=((b.natAbs*b.natAbs:Nat):Int):=by rw[Int.natAbs_mul_self]
 rw[d,c];exact Int.ofNat_le.2 (Nat.mul_le_mul h h)
theorem norm_le(j:tr H=H)(b:PM n H){i:Nat}(h:i<n){D U:Int}(o:0<=U)(f:∀m,m<=n->aO m H<=D)
 (k:∀c,c<i->bm c H i c*bm c H i c<=U*U*(aO (c+1) H*aO (c+1) H)):∀d c,c+d=i->bm c H i i<=aO c H*(D+(d:Int)*(U*U*D))
 |0,c,e=>by
  have:c=i:=aq;subst this;rw[db];have l:=b c aq;have g:=f (c+1) aq;have m:=b (c+1) aq;have m:D<=aO c H*D:=by
   have:=Int.mul_le_mul_of_nonneg_right (show(1:Int)<=aO c H by omega) (show 0<=D by omega);omega
  have:aO c H*(D+((0:Nat):Int)*(U*U*D))=aO c H*D:=aA;omega
 |d+1,c,e=>by
  have m:=norm_le j b h o f k d (c+1) aq;have l:=b c aq;have g:=b (c+1) aq;have h:=jc j (show aO c H≠0 by omega) i;have b:=k c aq;have b:=f (c+1) aq;have b:=Int.mul_le_mul_of_nonneg_left m (Int.le_of_lt l);have b:0<=U*U:=sq_nonneg U;have f:U*U*(aO (c+1) H*aO (c+1) H)<=aO (c+1) H*(aO c H*(U*U*D)):=by
   have f:aO (c+1) H<=aO c H*D:=by
    have:=Int.mul_le_mul_of_nonneg_right (show(1:Int)<=aO c H by omega) (show 0<=D by omega);omega
   have h:=Int.mul_le_mul_of_nonneg_left f (Int.mul_nonneg b (Int.le_of_lt g));have b:U*U*(aO (c+1) H*aO (c+1) H)=U*U*aO (c+1) H*aO (c+1) H:=aC;have b:aO (c+1) H*(aO c H*(U*U*D))=U*U*aO (c+1) H*(aO c H*D):=aC;omega
  have b:aO (c+1) H*bm c H i i<=aO (c+1) H*(aO c H*(D+((d+1:Nat):Int)*(U*U*D))):=by
   have f:aO (c+1) H*(aO c H*(D+((d+1:Nat):Int)*(U*U*D)))=aO c H*(aO (c+1) H*(D+(d:Int)*(U*U*D)))+aO (c+1) H*(aO c H*(U*U*D)):=by
    rw[Int.natCast_add];grind
   omega
  exact Int.le_of_mul_le_mul_left b g
structure po(n:Nat)(H:Mt):Prop where
 sized:∀i j,j<i->i<n->2*bm j H i j<=aO (j+1) H/\-(2*bm j H i j)<=aO (j+1) H
 I6:∀i,i+1<n->3*(aO (i+1) H*aO (i+1) H)<=4*(aO i H*aO (i+2) H+bm i H (i+1) i*bm i H (i+1) i)
theorem r7{a d:Int}(h1:2*a<=d)(c:-(2*a)<=d):4*(a*a)<=d*d:=by
 have h:=sC (a:=2*a) (b:=d) aq aq;have:2*a*(2*a)=4*(a*a):=aC;omega
theorem po.half(h:po n H){i:Nat}(a:i+1<n):aO (i+1) H*aO (i+1) H<=2*(aO i H*aO (i+2) H):=by
 obtain⟨c,b⟩:=h.sized (i+1) i aq a;have d:=r7 c b;have b:=h.I6 i a;omega
theorem y7(o:tr H=H)(b:PM n H)(f:po n H){D:Int}(h:∀m,m<=n->aO m H<=D){i j:Nat}(s:j<=i)(k:i<n):∀d c,c+d=j->4*bm c H i j<=aO c H*((4+d:Int)*D)/\-(4*bm c H i j)<=aO c H*((4+d:Int)*D)
 |0,c,e=>by
  have:c=j:=aq;subst this;have l:=b c aq;have g:=b (c+1) aq;have t:=h (c+1) aq;have m:D<=aO c H*D:=by
   have:=Int.mul_le_mul_of_nonneg_right (show(1:Int)<=aO c H by omega) (show 0<=D by omega);omega
  have p:aO c H*((4+((0:Nat):Int))*D)=4*(aO c H*D):=by simp;grind
  rw[p];by_cases e:c=i
  ·subst e;rw[db];omega
  ·obtain⟨q,m⟩:=f.sized i c aq k;omega
 |d+1,c,e=>by
  obtain⟨r,e⟩:=y7 o b f h s k d (c+1) aq;have l:=b c aq;have g:=b (c+1) aq;have t:=h (c+1) aq;have h:=pH o (show aO c H≠0 by omega) i j;obtain⟨q,m⟩:=f.sized i c aq k;obtain⟨h,b⟩:=f.sized j c aq aq;have f:4*(bm c H i c*bm c H j c)<=aO (c+1) H*aO (c+1) H/\-(4*(bm c H i c*bm c H j c))<=aO (c+1) H*aO (c+1) H:=by
   have f:=r7 q m;have f:=r7 h b;have b:=sq_nonneg (bm c H i c-bm c H j c);have b:=sq_nonneg (bm c H i c+bm c H j c);have b:(bm c H i c-bm c H j c)*(bm c H i c-bm c H j c)=bm c H i c*bm c H i c+bm c H j c*bm c H j c-2*(bm c H i c*bm c H j c):=aC;have p:(bm c H i c+bm c H j c)*(bm c H i c+bm c H j c)=bm c H i c*bm c H i c+bm c H j c*bm c H j c+2*(bm c H i c*bm c H j c):=aC;omega
  have b:aO (c+1) H*aO (c+1) H<=aO (c+1) H*(aO c H*D):=by
   have:=Int.mul_le_mul_of_nonneg_right (show(1:Int)<=aO c H by omega) (show 0<=D by omega);exact Int.mul_le_mul_of_nonneg_left aq (Int.le_of_lt g)
  have b:=Int.mul_le_mul_of_nonneg_left r (Int.le_of_lt l);have b:=Int.mul_le_mul_of_nonneg_left e (Int.le_of_lt l);have b:aO (c+1) H*(aO c H*((4+((d+1:Nat):Int))*D))=aO c H*(aO (c+1) H*((4+(d:Int))*D))+aO (c+1) H*(aO c H*D):=by rw[Int.natCast_add];grind
  have b:aO c H*(4*bm (c+1) H i j)=4*(aO c H*bm (c+1) H i j):=aC;have b:aO c H*-(4*bm (c+1) H i j)=-(4*(aO c H*bm (c+1) H i j)):=aC;have b:aO (c+1) H*(4*bm c H i j)=4*(aO (c+1) H*bm c H i j):=aC;have b:aO (c+1) H*-(4*bm c H i j)=-(4*(aO (c+1) H*bm c H i j)):=aC;constructor
  ·refine Int.le_of_mul_le_mul_left (a:=aO (c+1) H) ?_ g;omega
  ·refine Int.le_of_mul_le_mul_left (a:=aO (c+1) H) ?_ g;omega
end
theorem vp{e:Nat->Nat}{n:Nat}(a:∀k,k<=n->0<e k)(c:e 0=1)(b:∀k,k+1<n->e (k+1)*e (k+1)<=e k*e (k+2)):∀k,k<n->e k^(k+1)<=e (k+1)^k
 |0,_=>by rw[c];simp
 |k+1,f=>by
  have d:=vp a c b k aq;have h:=b k f;have b:(e (k+1)*e (k+1))^(k+1)<=(e k*e (k+2))^(k+1):=Nat.pow_le_pow_left h _;rw[Nat.mul_pow,Nat.mul_pow]at b;have f:e k^(k+1)*e (k+2)^(k+1)<=e (k+1)^k*e (k+2)^(k+1):=Nat.mul_le_mul_right _ d;have c:=Nat.le_trans b f;have b:0<e (k+1)^k:=Nat.pow_pos (a (k+1) aq);refine Nat.le_of_mul_le_mul_left ?_ b;rw[show e (k+1)^k*e (k+1)^(k+1+1)=e (k+1)^(k+1)*e (k+1)^(k+1) by rw[<-Nat.pow_add,<-Nat.pow_add];congr 1;omega];exact c
theorem zB{e:Nat->Nat}{n:Nat}(h:∀k,k<n->e k^(k+1)<=e (k+1)^k){k:Nat}(a:1<=k):∀m,k<=m->m<=n->e k^m<=e m^k
 |0,h1,_=>aq
 |m+1,h1,h2=>by
  by_cases b:k=m+1
  ·subst b;exact Nat.le_refl _
  ·have b:=zB h a m aq aq;have a:=h m aq;have c:(e k^(m+1))^m<=(e (m+1)^k)^m:=by
    calc (e k^(m+1))^m=(e k^m)^(m+1):=by rw[<-Nat.pow_mul,<-Nat.pow_mul,Nat.mul_comm]
     _<=(e m^k)^(m+1):=Nat.pow_le_pow_left b _
     _=(e m^(m+1))^k:=by rw[<-Nat.pow_mul,<-Nat.pow_mul,Nat.mul_comm]
     _<=(e (m+1)^m)^k:=Nat.pow_le_pow_left a _
     _=(e (m+1)^k)^m:=by rw[<-Nat.pow_mul,<-Nat.pow_mul,Nat.mul_comm]
   exact(Nat.pow_le_pow_iff_left aq).1 c
def lg(H:Mt)(k:Nat):Nat:=(aO k H).toNat*(aO k H).toNat*2^(k*k)
theorem MC{n:Nat}{H:Mt}(b:PM n H)(f:po n H){k:Nat}(e:1<=k)(a:k<=n):lg H k^n<=lg H n^k:=by
 have c:∀k,k<=n->0<lg H k:=λk a=>by
  have:=b k a;have d:0<(aO k H).toNat:=aq;exact Nat.mul_pos (Nat.mul_pos d d) (Nat.pow_pos aw)
 refine zB (vp c (by simp[lg,aO]) λk a=>?_) e n a aD;have d:=f.half a;have a:=b k aq;have a:=b (k+1) aq;have a:=b (k+2) aq;unfold lg;obtain⟨a,g⟩ : ∃a:Nat,aO k H=a:=⟨(aO k H).toNat,aq⟩;obtain⟨b,f⟩ : ∃b:Nat,aO (k+1) H=b:=⟨(aO (k+1) H).toNat,aq⟩;obtain⟨c,e⟩ : ∃c:Nat,aO (k+2) H=c:=⟨(aO (k+2) H).toNat,aq⟩;rw[g,f,e]at d⊢;simp only[Int.toNat_natCast];have e:b*b<=2*(a*c):=by exact_mod_cast d
 have d:b*b*(b*b)<=2*(a*c)*(2*(a*c)):=Nat.mul_le_mul e e;rw[show b*b*2^((k+1)*(k+1))*(b*b*2^((k+1)*(k+1)))=b*b*(b*b)*2^((k+1)*(k+1)+(k+1)*(k+1)) by rw[Nat.pow_add];grind];rw[show a*a*2^(k*k)*(c*c*2^((k+2)*(k+2)))=a*c*(a*c)*2^(k*k+(k+2)*(k+2)) by rw[Nat.pow_add];grind];rw[show k*k+(k+2)*(k+2)=2+((k+1)*(k+1)+(k+1)*(k+1)) by grind,Nat.pow_add 2 2];have:=Nat.mul_le_mul_right (2^((k+1)*(k+1)+(k+1)*(k+1))) d;refine Nat.le_trans this ?_;rw[show 2*(a*c)*(2*(a*c))*2^((k+1)*(k+1)+(k+1)*(k+1))=a*c*(a*c)*(2^2*2^((k+1)*(k+1)+(k+1)*(k+1))) by grind];exact Nat.le_refl _
theorem Mz:∀n,n<9->∀k,k<n->1<=k->(10000*10000*2^(n*n))^k<(65536*65536*2^(k*k))^n:=by decide +kernel
theorem rB{n:Nat}{H:Mt}(b:PM n H)(c:po n H)(f:n<=8)(f:aO n H<=10000):∀k,k<=n->aO k H<=65535:=by
 intro k d;by_cases e:k=0
 ·subst e;simp[aO]
 by_cases a:k=n
 ·subst a;omega
 refine Classical.byContradiction λa=>?_;have a:65536<=(aO k H).toNat:=aq;have e:=MC b c (k:=k) aq d;have c:=Mz n aq k aq aq;have p:=b n aD;have c:lg H n<=10000*10000*2^(n*n):=Nat.mul_le_mul_right _ (Nat.mul_le_mul aq aq);have b:65536*65536*2^(k*k)<=lg H k:=Nat.mul_le_mul_right _ (Nat.mul_le_mul a a);have a:=Nat.pow_le_pow_left c k;have a:=Nat.pow_le_pow_left b n;omega
theorem rF{n:Nat}{H:Mt}(c:tr H=H)(e:PM n H)(d:po n H)(g:n<=8)(l:aO n H<=10000){i j:Nat}(b:i<n)(k:j<n):-262144<H i j/\H i j<262144:=by
 have a:∀i j,j<=i->i<n->-262144<H i j/\H i j<262144:=λi j f b=>by
  have h:=y7 c e d (rB e d g l) f b j 0 aq;rw[fU]at h;have e:aO 0 H=1:=F;rw[e]at h;omega
 by_cases h:j<=i
 ·exact a i j h b
 ·have e:H i j=H j i:=by
   have:=congrFun (congrFun c i) j;exact this.symm
  rw[e];exact a j i aq k
section
variable {n:Nat}{H:Mt}
def dC(a b:Int):Int:=(a+a+b)/(b+b)
theorem nF{a b:Int}(c:0<b):2*(a-dC a b*b)<=b/\-(2*(a-dC a b*b))<=b:=by
 unfold dC;have c:=Int.emod_nonneg (a+a+b) (show b+b≠0 by omega);have c:=Int.emod_lt_of_pos (a+a+b) (show 0<b+b by omega);have c:=Int.mul_ediv_add_emod (a+a+b) (b+b);have e:(b+b)*((a+a+b)/(b+b))=2*((a+a+b)/(b+b)*b):=aC;omega
theorem vw{a b U:Int}(c:0<b)(h1:a<=U*b)(d:-a<=U*b):dC a b<=U+1/\-(dC a b)<=U+1:=by
 obtain⟨d,d⟩:=nF (a:=a) c;constructor
 ·refine Classical.byContradiction λd=>?_;have f:(U+2)*b<=dC a b*b:=Int.mul_le_mul_of_nonneg_right aq (Int.le_of_lt c);have e:(U+2)*b=U*b+2*b:=aC;omega
 ·refine Classical.byContradiction λd=>?_;have f:dC a b*b<=(-(U+2))*b:=Int.mul_le_mul_of_nonneg_right aq (Int.le_of_lt c);have e:(-(U+2))*b=-(U*b)-2*b:=aC;omega
theorem KJ(a:tr H=H){k j:Nat}(i:Nat)(b:j<k):bm k H i j=0:=by rw[iV a,CC i b]
theorem oa(g:tr H=H){q:Int}{b a:Nat}(h:a<b){i c:Nat}(j:c<i):
 bm c (xl q b a H) i c=if i=b then(if c<a then bm c H b c-q*bm c H a c else if c=a then bm c H b c-q*aO (c+1) H else bm c H b c)else bm c H i c:=by
 by_cases j:b<c
 ·rw[rL q H i c j h aq aD,aa aq]
 ·rw[iX q a H i c aq];by_cases e:c=b
  ·subst e;rw[ab F,aa aq,aa aq,aa aq,KJ g i h];omega
  ·rw[aa e];by_cases d:i=b
   ·subst d;rw[ab F,ab F];by_cases b:c<a
    ·rw[ab b]
    ·rw[aa b];by_cases f:c=a
     ·subst f;rw[ab F,db]
     ·rw[aa f,CC c (show a<c by omega)];omega
   ·rw[aa d,aa d]
theorem zE{q:Int}{a c i:Nat}(b:i≠a):xl q a c H i i=H i i:=by
 simp only[xl,tr,ld,cj];rw[aa b,aa b]
theorem PM.xl(c:PM n H){q:Int}{b a:Nat}(h:a<b):PM n (xl q b a H):=λm a=>by rw[jx q H h];exact c m a
structure SI(n k j:Nat)(H:Mt)(U:Int):Prop where
 red:po k H
 sz:∀c,j<=c->c<k->2*bm c H k c<=aO (c+1) H/\-(2*bm c H k c)<=aO (c+1) H
 bd:∀c,c<k->bm c H k c<=U*aO (c+1) H/\-(bm c H k c)<=U*aO (c+1) H
theorem SI.step(s:tr H=H)(u:PM n H){k j:Nat}{U:Int}(y:0<=U)(g:k<n)(b:j<k)(h:SI n k (j+1) H U):
 SI n k j (xl (dC (bm j H k j) (aO (j+1) H)) k j H) (2*U+1):=by
 obtain⟨q,t⟩ : ∃q,q=dC (bm j H k j) (aO (j+1) H):=⟨_,F⟩;rw[<-t];have f:=λm=>jx (m:=m) q H b;have l:∀i c,c<i->i≠k->bm c (xl q k j H) i c=bm c H i c:=λi c d g=>by rw[oa s b d,aa g]
 have p:=u (j+1) aq;have o:=nF (a:=bm j H k j) p;have x:=vw p (h.bd j b).1 (h.bd j b).2;rw[<-t]at o x;refine⟨⟨λi c d g=>?_,λi g=>?_⟩,λc p v=>?_,λc d=>?_⟩
 ·rw[l i c d aq,f];exact h.red.sized i c d g
 ·rw[l (i+1) i aq aq,f,f,f];exact h.red.I6 i g
 ·rw[oa s b v,ab F,f,aa aq];by_cases e:c=j
  ·subst e;rw[ab F];exact o
  ·rw[aa e];exact h.sz c aq v
 ·rw[oa s b d,ab F,f];have r:=u (c+1) aq;obtain⟨f,f⟩:=h.bd c d;have d:(2*U+1)*aO (c+1) H=U*aO (c+1) H+(U+1)*aO (c+1) H:=aC;have d:0<=(U+1)*aO (c+1) H:=Int.mul_nonneg aq (Int.le_of_lt r);by_cases e:c<j
  ·rw[ab e];obtain⟨d,d⟩:=h.red.sized j c e b;have b:(q*bm c H j c).natAbs<=((U+1)*aO (c+1) H).natAbs:=by
    rw[Int.natAbs_mul,Int.natAbs_mul];exact Nat.mul_le_mul aq aq
   omega
  ·rw[aa e];by_cases w:c=j
   ·subst w;rw[ab F];have b:(U+1)*aO (c+1) H=U*aO (c+1) H+aO (c+1) H:=aC;have b:0<=U*aO (c+1) H:=Int.mul_nonneg y (Int.le_of_lt r);omega
   ·rw[aa w];omega
theorem SI.skip(b:PM n H){k j:Nat}{U:Int}(g:0<=U)(g:k<n)(g:j<k)(h:SI n k (j+1) H U)(a:2*bm j H k j<=aO (j+1) H/\-(2*bm j H k j)<=aO (j+1) H):SI n k j H (2*U+1):=by
 refine⟨h.red,λc g f=>?_,λc d=>?_⟩
 ·by_cases e:c=j
  ·subst e;exact a
  ·exact h.sz c aq f
 ·obtain⟨a,a⟩:=h.bd c d;have a:=b (c+1) aq;have b:(2*U+1)*aO (c+1) H=U*aO (c+1) H+(U+1)*aO (c+1) H:=aC;have b:0<=(U+1)*aO (c+1) H:=Int.mul_nonneg aq (Int.le_of_lt a);omega
structure PI(n p:Nat)(T V G:Mt)(f0 f1 g0 g1:Int):Prop where
 B0:∀c,V p c=f0*T p c+f1*T (p+1) c
 E4:∀c,V (p+1) c=g0*T p c+g1*T (p+1) c
 other:∀i,i≠p->i≠p+1->V i=T i
 dt:aO n V=aO n T\/aO n V=- aO n T
 dm:∀m,m≠p+1->aO m (gr n V G)=aO m (gr n T G)
 hi:∀m i j,p+2<=m->m<=i->m<=j->bm m (gr n V G) i j=bm m (gr n T G) i j
 l0:∀c j,c<=p->(j<p\/p+2<=j)->bm c (gr n V G) p j=f0*bm c (gr n T G) p j+f1*bm c (gr n T G) (p+1) j
 l1:∀c j,c<=p->(j<p\/p+2<=j)->bm c (gr n V G) (p+1) j=g0*bm c (gr n T G) p j+g1*bm c (gr n T G) (p+1) j
 lo:∀c i j,c<=p->(i<p\/p+2<=i)->(j<p\/p+2<=j)->bm c (gr n V G) i j=bm c (gr n T G) i j
theorem PI.start(n p:Nat)(T G:Mt):PI n p T T G 1 0 0 1 where
 B0:=λc=>aq
 E4:=λc=>aq
 other:=λi _ _=>rfl
 dt:=.inl F
 dm:=λm _=>rfl
 hi:=λm i j _ _ _=>rfl
 l0:=λc j _ _=>aq
 l1:=λc j _ _=>aq
 lo:=λc i j _ _ _=>rfl
theorem Jh(p:Nat):sw p (p+1) p=p+1:=by unfold sw;rw[ab F]
theorem Jg(p:Nat):sw p (p+1) (p+1)=p:=by unfold sw;rw[aa (by omega),ab F]
theorem Gx{p j:Nat}(h:j<p\/p+2<=j):sw p (p+1) j=j:=by unfold sw;rw[aa (by omega),aa (by omega)]
theorem PI.swap{p:Nat}{T V G:Mt}{j g f d:Int}(h:PI n p T V G j g f d)(k:p+1<n):PI n p T (ov p (p+1) V) G f d j g where
 B0:=λc=>by rw[jq,Jh];exact h.E4 c
 E4:=λc=>by rw[jq,Jg];exact h.B0 c
 other:=λi b a=>by rw[jq,Gx aq];exact h.other i b a
 dt:=by
  rw[(eF n).swap V p (p+1) aq k aq];rcases h.dt with e|e
  ·right;rw[e]
  ·left;rw[e];omega
 dm:=λm d=>by
  rw[rD];by_cases e:m<=p
  ·rw[AI _ e];exact h.dm m d
  ·rw[xV _ aq];exact h.dm m d
 hi:=λm i j b a d=>by rw[rD,AU _ i j b a d];exact h.hi m i j b a d
 l0:=λc j b a=>by rw[rD,jM _ _ _ b,Jh,Gx a];exact h.l1 c j b a
 l1:=λc j b a=>by rw[rD,jM _ _ _ b,Jg,Gx a];exact h.l0 c j b a
 lo:=λc i j b a d=>by rw[rD,jM _ _ _ b,Gx a,Gx d];exact h.lo c i j b a d
theorem PI.sub{p:Nat}{T V G:Mt}{b a d c:Int}(h:PI n p T V G b a d c)(q:Int):PI n p T (ld q (p+1) p V) G b a (d-q*b) (c-q*a) where
 B0:=λc=>by
  simp only[ld,cj];rw[aa aq];exact h.B0 c
 E4:=λc=>by
  simp only[ld,cj];rw[ab trivial,h.B0 c,h.E4 c];grind
 other:=λi b a=>by
  funext c;simp only[ld,cj];rw[aa a,h.other i b a]
 dt:=by rw[sa q V aq];exact h.dt
 dm:=λm d=>by rw[f_,jx q _ aq];exact h.dm m d
 hi:=λm i j b a d=>by rw[f_,rL q _ i j aq aq a d];exact h.hi m i j b a d
 l0:=λc j b a=>by
  rw[f_,iX q p _ p j aq,aa aq,aa aq];exact h.l0 c j b a
 l1:=λc j b a=>by
  rw[f_,iX q p _ (p+1) j aq,aa aq,ab F,h.l0 c j b a,h.l1 c j b a];grind
 lo:=λc i j b a d=>by
  rw[f_,iX q p _ i j aq,aa aq,aa aq];exact h.lo c i j b a d
structure PN(n p:Nat)(V G:Mt)(a b c:Int):Prop where
 pa:bm p (gr n V G) p p=a
 pb:bm p (gr n V G) (p+1) p=b
 pc:bm p (gr n V G) (p+1) (p+1)=c
theorem PN.swap{p:Nat}{V G:Mt}{a b c:Int}(d:Sy n G)(h:PN n p V G a b c):PN n p (ov p (p+1) V) G c b a where
 pa:=by rw[rD,jM _ _ _ aD,Jh];exact h.pc
 pb:=by rw[rD,jM _ _ _ aD,Jh,Jg,iV (eI d)];exact h.pb
 pc:=by rw[rD,jM _ _ _ aD,Jg];exact h.pa
theorem PN.sub{p:Nat}{V G:Mt}{a b c:Int}(d:Sy n G)(h:PN n p V G a b c)(q:Int):PN n p (ld q (p+1) p V) G a (b-q*a) (c-q*(b+(b-q*a))) where
 pa:=by rw[f_,iX q p _ p p aq,aa aq,aa aq];exact h.pa
 pb:=by rw[f_,iX q p _ (p+1) p aq,aa aq,ab F,h.pb,h.pa]
 pc:=by
  rw[f_,iX q p _ (p+1) (p+1) aq,ab F,ab F,ab F,h.pb,h.pa,h.pc,iV (eI d),h.pb];grind
theorem PN.O8{p:Nat}{V G:Mt}{a b c:Int}(f:Sy n G)(h:PN n p V G a b c)(d:aO p (gr n V G)≠0):a*c=aO p (gr n V G)*aO (p+2) (gr n V G)+b*b:=by
 have e:=jc (eI f (T:=V)) d (p+1);rw[h.pb,h.pc,db,<-db p,h.pa]at e;exact e
end
theorem ju{x:Int}{X:Int}(_hX:0<=X)(h:x*x<=X*X):x.natAbs<=X.natAbs:=by
 refine Classical.byContradiction λa=>?_;have a:X.natAbs<x.natAbs:=aq;have b:=Nat.mul_lt_mul_of_lt_of_lt a a;have b:x*x=((x.natAbs*x.natAbs:Nat):Int):=by rw[Int.natAbs_mul_self]
 have a:X*X=((X.natAbs*X.natAbs:Nat):Int):=by rw[Int.natAbs_mul_self]
 rw[b,a]at h;have:=Int.ofNat_le.1 h;omega
def uF(H:Mt):Nat->Nat
 |0=>1
 |m+1=>uF H m*(aO (m+1) H).toNat
theorem DR{n:Nat}{H:Mt}(a:PM n H):∀m,m<=n->0<uF H m
 |0,_=>Nat.one_pos
 |m+1,h=>Nat.mul_pos (DR a m aq) (by have:=a (m+1) h;omega)
theorem xj{H a:Mt}:∀m,(∀q,1<=q->q<=m->aO q a=aO q H)->uF a m=uF H m
 |0,_=>rfl
 |m+1,h=>by simp only[uF];rw[xj m λq a b=>h q a aq,h (m+1) aq aD]
theorem G4{n p:Nat}{H c:Mt}(a:PM n c)(b:∀m,m≠p+1->aO m c=aO m H)(f:aO (p+1) c<aO (p+1) H):∀m,p+1<=m->m<=n->uF c m<uF H m
 |0,h,_=>aq
 |m+1,h,d=>by
  simp only[uF];by_cases e:p=m
  ·subst e;rw[xj p λq g e=>b q aq];have c:=DR a p aq;rw[xj p λq g e=>b q aq]at c;have:=a (p+1) d;exact Nat.mul_lt_mul_of_pos_left aq c
  ·have c:=G4 a b f m aq aq;rw[b (m+1) aq];have:=a (m+1) d;rw[b (m+1) aq]at this;exact Nat.mul_lt_mul_of_pos_right c aq
structure LI(n k:Nat)(G T:Mt)(D B:Int):Prop where
 BK:aO n T=1\/aO n T=-1
 pos:PM n (gr n T G)
 red:po k (gr n T G)
 uj:∀m,m<=n->aO m (gr n T G)<=D
 Gb:∀i,i<n->gr n T G i i<=B
section
variable {n k:Nat}{G T:Mt}{D B:Int}
theorem po.one(H:Mt):po 1 H:=⟨λi j a h=>by omega,λi h=>by omega⟩
theorem dU{m:Nat}(a:m<=n):aO m (gr n one G)=aO m G:=bk λi j a a=>o7 (by omega) (by omega)
theorem lX{m i j:Nat}(a:m<=n)(a:i<n)(a:j<n):bm m (gr n one G) i j=bm m G i j:=by
 unfold bm;refine bk λr c a a=>o7 ?_ ?_
 ·split<;>omega
 ·split<;>omega
theorem LI.start(b:PM n G)(c:∀m,m<=n->aO m G<=D)(d:∀i,i<n->G i i<=B):LI n 1 G one D B where
 BK:=.inl (qi n)
 pos:=λm a=>by rw[dU a];exact b m a
 red:=po.one _
 uj:=λm a=>by rw[dU a];exact c m a
 Gb:=λi a=>by rw[o7 a a];exact d i a
theorem LI.D1(h:LI n k G T D B):1<=D:=by
 have:=h.uj 0 aE;simp only[aO]at this;exact this
theorem LI.Mr(b:Sy n G)(h:LI n k G T D B){i:Nat}(a:i<n):0<gr n T G i i:=by
 have:=jT (eI b (T:=T)) h.pos a i 0 aq;rw[fU]at this;exact this
theorem ME{H:Mt}(d:tr H=H)(b:PM n H)(g:∀m,m<=n->aO m H<=D){i c:Nat}(e:i<n)(f:c<i)(j:H i i<=B):
 bm c H i c<=D*B*aO (c+1) H/\-(bm c H i c)<=D*B*aO (c+1) H:=by
 have h:=Ho d b e f;have f:=b (c+1) aq;have h:=b c aq;have h:=g c aq;have g:0<H i i:=by
  have:=jT d b e i 0 aq;rw[fU]at this;exact this
 have e:aO c H*H i i<=D*B:=Int.mul_le_mul h j (Int.le_of_lt g) aq;have b:1<=D*B:=by
  have:=Int.mul_le_mul (show(1:Int)<=aO c H by omega) (show(1:Int)<=H i i by omega) aq aq;omega
 have d:D*B<=D*B*(D*B)*aO (c+1) H:=by
  have g:=Int.mul_le_mul_of_nonneg_left b (show 0<=D*B by omega);have b:=Int.mul_le_mul_of_nonneg_left (show(1:Int)<=aO (c+1) H by omega) (show 0<=D*B*(D*B) by have:=sq_nonneg (D*B);omega);omega
 have b:=Int.mul_le_mul_of_nonneg_left (Int.le_trans e d) (Int.le_of_lt f);have d:bm c H i c*bm c H i c<=D*B*aO (c+1) H*(D*B*aO (c+1) H):=by
  have e:aO (c+1) H*(D*B*(D*B)*aO (c+1) H)=D*B*aO (c+1) H*(D*B*aO (c+1) H):=aC;omega
 have b:0<=D*B*aO (c+1) H:=Int.mul_nonneg aq aq;have:=ju b d;omega
theorem LI.si(d:Sy n G)(h:LI n k G T D B)(b:k<n):SI n k k (gr n T G) (D*B):=
 ⟨h.red,λc e f=>absurd e aq,λc c=>ME (eI d) h.pos h.uj b c (h.Gb k b)⟩
theorem SI.norm(e:Sy n G)(b:PM n (gr n T G))(f:∀m,m<=n->aO m (gr n T G)<=D){j:Nat}{U:Int}(d:0<=U)(c:k<n)(h:SI n k j (gr n T G) U):gr n T G k k<=D+(k:Int)*(U*U*D):=by
 have:=norm_le (eI e (T:=T)) b c d f (λc f=>?_) k 0 aq
 ·rw[fU]at this;have e:aO 0 (gr n T G)=1:=F;rw[e,Int.one_mul]at this;exact this
 ·obtain⟨g,g⟩:=h.bd c f;have f:0<=U*aO (c+1) (gr n T G):=Int.mul_nonneg d (Int.le_of_lt (b (c+1) aq));have:=sC f (a:=bm c (gr n T G) k c) aq;have e:U*aO (c+1) (gr n T G)*(U*aO (c+1) (gr n T G))=U*U*(aO (c+1) (gr n T G)*aO (c+1) (gr n T G)):=aC;omega
theorem SI.short(i:Sy n G)(d:PM n (gr n T G))(e:∀m,m<=n->aO m (gr n T G)<=D){U:Int}(f:k<n)(b:n<=8)(h:SI n k 0 (gr n T G) U):gr n T G k k<=9*D:=by
 have j:SI n k 0 (gr n T G) 1:=⟨h.red,h.sz,λc g=>by
  obtain⟨a,b⟩:=h.sz c aE g;have:=d (c+1) aq;omega⟩
 have:=j.norm i d e aq f;rw[show(1*1*D:Int)=D by omega]at this;have a:0<=D:=by have:=e 0 aE;simp only[aO]at this;omega
 have e:D+(k:Int)*D<=D+8*D:=by
  have:=Int.mul_le_mul_of_nonneg_right (show(k:Int)<=8 by omega) a;omega
 omega
theorem LI.sub(g:Sy n G){j c:Nat}{f:Int}(h:LI n c G T D B)(q:Int)(b:j<k)(m:k<n)(m:c<=k)(o:B<=f)(l:gr n (ld q k j T) G k k<=f):LI n c G (ld q k j T) D f where
 BK:=by rw[sa q T b];exact h.BK
 pos:=by rw[f_];exact h.pos.xl b
 red:=by
  rw[f_];refine⟨λi c f d=>?_,λi d=>?_⟩
  ·rw[oa (eI g) b f,aa aq,jx q _ b];exact h.red.sized i c f d
  ·rw[oa (eI g) b aq,aa aq,jx q _ b,jx q _ b,jx q _ b];exact h.red.I6 i d
 uj:=λm c=>by rw[f_,jx q _ b];exact h.uj m c
 Gb:=λi d=>by
  by_cases e:i=k
  ·subst e;exact l
  ·rw[f_,zE e];exact Int.le_trans (h.Gb i d) o
theorem JM{j i:Nat}(q:Int)(a:j<i)(m:Nat):uF (gr n (ld q i j T) G) m=uF (gr n T G) m:=xj m λp _ _=>by rw[f_,jx q _ a]
theorem LI.oL(_hG:Sy n G){p:Nat}{V:Mt}{A z y v a b c o:Int}(kO:p+1<n)(h:LI n (p+1) G T D B)(d:PI n p T V G A z y v)(v:PN n p V G a b c)(u:0<a)(s:a<aO (p+1) (gr n T G))(w:B<=o)
 (x:gr n V G p p<=o) (h1:gr n V G (p+1) (p+1)<=o):LI n p G V D o/\uF (gr n V G) n<uF (gr n T G) n:=by
 have f:aO (p+1) (gr n V G)=a:=by rw[<-db];exact v.pa
 have g:PM n (gr n V G):=λm l=>by
  by_cases e:m=p+1
  ·subst e;rw[f];exact u
  ·rw[d.dm m e];exact h.pos m l
 refine⟨⟨?_,g,⟨λi j t q=>?_,λi q=>?_⟩,λm l=>?_,λi q=>?_⟩,?_⟩
 ·rcases d.dt with e|e
  ·rw[e];exact h.BK
  ·rw[e];rcases h.BK with e|e
   ·right;rw[e]
   ·left;rw[e];rfl
 ·rw[d.lo j i j aq aq aq,d.dm (j+1) aq];exact h.red.sized i j t aq
 ·rw[d.lo i (i+1) i aq aq aq,d.dm (i+1) aq,d.dm i aq,d.dm (i+2) aq];exact h.red.I6 i aq
 ·by_cases e:m=p+1
  ·subst e;rw[f];have:=h.uj (p+1) l;omega
  ·rw[d.dm m e];exact h.uj m l
 ·by_cases e:i=p
  ·subst e;exact x
  ·by_cases r:i=p+1
   ·subst r;exact h1
   ·have:gr n V G i i=gr n T G i i:=by simp only[gr];rw[d.other i e r]
    rw[this];exact Int.le_trans (h.Gb i q) w
 ·exact G4 g d.dm (by rw[f];exact s) n aq aD
theorem B_(z:Sy n G){p:Nat}{V:Mt}{x v u s a b c aI:Int}(kO:p+1<n)(L:n<=8)(h:LI n (p+1) G T D B)(K:SI n (p+1) 0 (gr n T G) B)(l:PI n p T V G x v u s)(w:PN n p V G a b c)(t:0<a)(y:a<=D)(E:2*b<=a)(C:-(2*b)<=a)
 (L:1<=aI) (J:x.natAbs<=aI.natAbs) (k1:v.natAbs<=aI.natAbs) (I:u.natAbs<=aI.natAbs) (H:s.natAbs<=aI.natAbs):
 gr n V G p p<=D+8*(2*aI*(2*aI)*D)/\gr n V G (p+1) (p+1)<=D+8*(2*aI*(2*aI)*D):=by
 have o:aO (p+1) (gr n V G)=a:=by rw[<-db];exact w.pa
 have q:PM n (gr n V G):=λm i=>by
  by_cases e:m=p+1
  ·subst e;rw[o];exact t
  ·rw[l.dm m e];exact h.pos m i
 have A:∀m,m<=n->aO m (gr n V G)<=D:=λm i=>by
  by_cases e:m=p+1
  ·subst e;rw[o];exact y
  ·rw[l.dm m e];exact h.uj m i
 have i:=h.D1;have r:∀x y u v d:Int,0<=d->2*x<=d->-(2*x)<=d->2*y<=d->-(2*y)<=d->u.natAbs<=aI.natAbs->v.natAbs<=aI.natAbs->(u*x+v*y)*(u*x+v*y)<=2*aI*(2*aI)*(d*d):=λx y u v d i m m m m s m=>by
  have e:2*aI*(2*aI)*(d*d)=2*aI*d*(2*aI*d):=aC;rw[e];refine sC (Int.mul_nonneg aq i) ?_;have L:(u*x).natAbs<=(aI*d).natAbs:=by
   rw[Int.natAbs_mul,Int.natAbs_mul];exact Nat.mul_le_mul s aq
  have s:(v*y).natAbs<=(aI*d).natAbs:=by
   rw[Int.natAbs_mul,Int.natAbs_mul];exact Nat.mul_le_mul m aq
  have m:2*aI*d=aI*d+aI*d:=aC;have s:0<=aI*d:=Int.mul_nonneg aq i;rw[m];omega
 have m:0<=2*aI:=aq;have j:=λc (f:c<p)=>h.red.sized p c f aq;have g:=λc (f:c<p+1)=>K.sz c aE f;have d:∀i:Nat,i<=8->D+(i:Int)*(2*aI*(2*aI)*D)<=D+8*(2*aI*(2*aI)*D):=λi s=>by
  have s:0<=2*aI*(2*aI)*D:=Int.mul_nonneg (sq_nonneg _) aq;have:=Int.mul_le_mul_of_nonneg_right (show(i:Int)<=8 by omega) s;omega
 constructor
 ·have:=norm_le (eI z (T:=V)) q (show p<n by omega) m A (λc f=>?_) p 0 aq
  ·rw[fU]at this;have e:aO 0 (gr n V G)=1:=F;rw[e,Int.one_mul]at this;exact Int.le_trans this (d p aq)
  ·rw[l.l0 c c aq aq,l.dm (c+1) aq];exact r _ _ _ _ _ (Int.le_of_lt (h.pos (c+1) aq)) (j c f).1 (j c f).2 (g c aq).1 (g c aq).2 J k1
 ·have:=norm_le (eI z (T:=V)) q kO m A (λc f=>?_) (p+1) 0 aq
  ·rw[fU]at this;have e:aO 0 (gr n V G)=1:=F;rw[e,Int.one_mul]at this;exact Int.le_trans this (d (p+1) aq)
  ·by_cases e:c=p
   ·subst e;rw[w.pb,o];have:=r b 0 1 0 a (Int.le_of_lt t) E C aq aq aq aq;have e:(1*b+0*0:Int)=b:=aq;rw[e]at this;exact this
   ·rw[l.l1 c c aq aq,l.dm (c+1) aq];exact r _ _ _ _ _ (Int.le_of_lt (h.pos (c+1) aq)) (j c aq).1 (j c aq).2 (g c f).1 (g c f).2 I H
theorem LI.next(_hG:Sy n G){U:Int}(h:LI n k G T D B)(d:1<=k)(d:k<n)(c:SI n k 0 (gr n T G) U)(a:3*(aO k (gr n T G)*aO k (gr n T G))<=4*(aO (k-1) (gr n T G)*aO (k+1) (gr n T G)+bm (k-1) (gr n T G) k (k-1)*bm (k-1) (gr n T G) k (k-1))):LI n (k+1) G T D B:=by
 refine⟨h.BK,h.pos,⟨λi j b d=>?_,λi d=>?_⟩,h.uj,h.Gb⟩
 ·by_cases e:i=k
  ·subst e;exact c.sz j aE b
  ·exact h.red.sized i j b aq
 ·by_cases e:i+1=k
  ·subst e;rw[show i+1-1=i by omega]at a;exact a
  ·exact h.red.I6 i aq
end
structure PA(A B C:Int)(a b c f0 f1 g0 g1:Int):Prop where
 ea:a=A*(f0*f0)+2*B*(f0*f1)+C*(f1*f1)
 eb:b=A*(f0*g0)+B*(f0*g1+f1*g0)+C*(f1*g1)
 ec:c=A*(g0*g0)+2*B*(g0*g1)+C*(g1*g1)
theorem PA.start(A B C:Int):PA A B C A B C 1 0 0 1:=⟨by grind,by grind,by grind⟩
theorem PA.swap{A B C a b c g f e d:Int}(h:PA A B C a b c g f e d):PA A B C c b a e d g f:=⟨h.ec,by rw[h.eb];grind,h.ea⟩
theorem PA.sub{A B C a b c e d g f:Int}(h:PA A B C a b c e d g f)(q:Int):PA A B C a (b-q*a) (c-q*(b+(b-q*a))) e d (g-q*e) (f-q*d):=
 ⟨h.ea,by rw[h.eb,h.ea];grind,by rw[h.ec,h.eb,h.ea];grind⟩
theorem PA.O_{A B C a b c l j i g E:Int}(h:PA A B C a b c l j i g)(o:1<=A*C-B*B)(d:0<A)(_hC:0<C)(q:0<=a)(p:0<=c)(u:A<=E)(t:C<=E)(s:a<=E)(r:c<=E):
 l.natAbs<=E.natAbs/\j.natAbs<=E.natAbs/\i.natAbs<=E.natAbs/\g.natAbs<=E.natAbs:=by
 have d:∀x y z:Int,z=A*(x*x)+2*B*(x*y)+C*(y*y)->0<=z->z<=E->x*x<=E*E/\y*y<=E*E:=λx y z e m f=>by
  have v:A*z=(A*x+B*y)*(A*x+B*y)+(A*C-B*B)*(y*y):=by rw[e];grind
  have v:C*z=(C*y+B*x)*(C*y+B*x)+(A*C-B*B)*(x*x):=by rw[e];grind
  have e:=sq_nonneg (A*x+B*y);have e:=sq_nonneg (C*y+B*x);have e:=Int.mul_le_mul_of_nonneg_right o (sq_nonneg y);have e:=Int.mul_le_mul_of_nonneg_right o (sq_nonneg x);have e:A*z<=E*E:=Int.mul_le_mul u f m aq;have e:C*z<=E*E:=Int.mul_le_mul t f m aq;omega
 have f:=d l j a h.ea q s;have e:=d i g c h.ec p r;have d:0<=E:=aq;exact⟨ju d f.1,ju d f.2,ju d e.1,ju d e.2⟩
theorem JO{a b c d:Int}(e:0<a)(f:0<=d)(h:a*c=d+b*b)(h1:2*b<=a)(g:-(2*b)<=a):c<=d+a:=by
 refine Classical.byContradiction λh=>?_;have h:=r7 h1 g;have g:a*(d+a+1)<=a*c:=Int.mul_le_mul_of_nonneg_left aq (Int.le_of_lt e);have e:a*(d+a+1)=a*d+a*a+a:=aC;have e:=Int.mul_le_mul_of_nonneg_right (show(1:Int)<=a by omega) f;have e:=sq_nonneg a;omega
end Go.aW
namespace Go.aW
open Go
theorem y8{H:Mt}{k i j:Nat}{C:Int}(_hC:0<=C)(f:0<aO k H)(b:0<aO (k+1) H)(g:aO (k+1) H<=65536)
 (h1:bm k H i j<=aO k H*C) (h:-(bm k H i j)<=aO k H*C)
 (c:2*bm k H i k<=aO (k+1) H) (c:-(2*bm k H i k)<=aO (k+1) H) (c:2*bm k H k j<=aO (k+1) H) (c:-(2*bm k H k j)<=aO (k+1) H):
 bm (k+1) H i j<=aO (k+1) H*(C+16384)/\-(bm (k+1) H i j)<=aO (k+1) H*(C+16384):=by
 have c:=fv k H i j aq;rw[db]at c;generalize aO k H=e at*;generalize aO (k+1) H=d at*;generalize bm k H i j=x at*;generalize bm (k+1) H i j=y at*;generalize bm k H i k=p at*;generalize bm k H k j=q at*;have c:4*(p*q)<=d*d/\-(4*(p*q))<=d*d:=by
  have l:(2*p)*(2*q)=4*(p*q):=aC;have c:((2*p)*(2*q)).natAbs<=d.natAbs*d.natAbs:=by
   rw[Int.natAbs_mul];exact Nat.mul_le_mul aq aq
  rw[l]at c;have c:((d.natAbs*d.natAbs:Nat):Int)=d*d:=by
   rw[<-Int.natAbs_mul];have:=Int.mul_nonneg (Int.le_of_lt b) (Int.le_of_lt b);omega
  omega
 have c:d*d<=d*65536:=Int.mul_le_mul_of_nonneg_left g (Int.le_of_lt b);have c:d*16384<=d*16384*e:=by
  have:=Int.mul_le_mul_of_nonneg_left (show(1:Int)<=e by omega) (show 0<=d*16384 by omega);omega
 have c:d*x<=d*(e*C):=Int.mul_le_mul_of_nonneg_left h1 (Int.le_of_lt b);have c:d*-x<=d*(e*C):=Int.mul_le_mul_of_nonneg_left h (Int.le_of_lt b);have b:d*(C+16384)*e=d*(e*C)+d*16384*e:=aC;have b:e*y=y*e:=Int.mul_comm _ _;have b:d*-x=-(d*x):=aC;constructor
 ·refine Int.le_of_mul_le_mul_right (show y*e<=d*(C+16384)*e from ?_) f;omega
 ·refine Int.le_of_mul_le_mul_right (show -y*e<=d*(C+16384)*e from ?_) f;have:-y*e=-(y*e):=aC;omega
structure qz(n k:Nat)(H:Mt):Prop where
 pos:∀m,m<=k->0<aO m H
 OP:∀m,1<=m->m<=k->aO m H<65536
 sz:∀i j,j<k->j<i->i<n->2*bm j H i j<=aO (j+1) H/\-(2*bm j H i j)<=aO (j+1) H
 I6:∀i,i<k->i+1<n->3*(aO (i+1) H*aO (i+1) H)<=4*(aO i H*aO (i+2) H+bm i H (i+1) i*bm i H (i+1) i)
 bd:∀i j,k<=i->i<n->k<=j->j<n->bm k H i j<=aO k H*(262144+(k:Int)*16384)/\-(bm k H i j)<=aO k H*(262144+(k:Int)*16384)
theorem Pl{n k i j:Nat}{H:Mt}(d:Sy n H)(a:k<=n)(c:i<n)(b:j<n):bm k H i j=bm k H j i:=by
 rw[<-lX a c b,iV (eI d),lX a b c]
theorem qz.zero{n:Nat}{H:Mt}(c:∀i j,i<n->j<n->-262144<H i j/\H i j<262144):qz n 0 H:=by
 refine⟨λm d=>?_,λm d e=>absurd d aq,λi j h=>absurd h aq,λi h=>absurd h aq,λi j _ b _ a=>?_⟩
 ·obtain rfl:m=0:=aq;exact Int.zero_lt_one
 ·rw[fU];have:=c i j b a;simp only[aO];omega
theorem qz.next{n k:Nat}{H:Mt}(o:Sy n H)(h:qz n k H)(r:k+1<n)(g:0<aO (k+1) H)(p:aO (k+1) H<65536)
 (c:∀i,k<i->i<n->2*bm k H i k<=aO (k+1) H/\-(2*bm k H i k)<=aO (k+1) H)
 (q:3*(aO (k+1) H*aO (k+1) H)<=4*(aO k H*aO (k+2) H+bm k H (k+1) k*bm k H (k+1) k)):qz n (k+1) H:=by
 refine⟨λm r=>?_,λm l a=>?_,λi j r b d=>?_,λi d a=>?_,λi j l a r f=>?_⟩
 ·by_cases e:m=k+1
  ·subst e;exact g
  ·exact h.pos m aq
 ·by_cases e:m=k+1
  ·subst e;exact p
  ·exact h.OP m l aq
 ·by_cases e:j=k
  ·subst e;exact c i b d
  ·exact h.sz i j aq b d
 ·by_cases e:i=k
  ·subst e;exact q
  ·exact h.I6 i aq a
 ·have d:=h.bd i j aq a aq f;have b:=c i aq a;have a:=c j aq f;rw[Pl o aq f aq]at a;have:=y8 (C:=262144+(k:Int)*16384) aq (h.pos k aD) g aq d.1 d.2 b.1 b.2 a.1 a.2;rw[show(262144:Int)+((k+1:Nat):Int)*16384=262144+(k:Int)*16384+16384 by omega];exact this
theorem qz.red{n:Nat}{H:Mt}(a:1<=n)(h:qz n (n-1) H):po n H:=by
 exact⟨λi j b a=>h.sz i j aq b a,λi a=>h.I6 i aq a⟩
theorem qz.step{n k:Nat}{H:Mt}(h:qz n k H)(i j:Nat):(aO (k+1) H*bm k H i j-bm k H i k*bm k H k j)/aO k H=bm (k+1) H i j:=by
 have a:=fv k H i j (by have:=h.pos k aD;omega);rw[db]at a;rw[<-a];exact Int.mul_ediv_cancel_left _ (by have:=h.pos k aD;omega)
theorem GP{n:Nat}{H:Mt}(h:po n H):po n (gr n one H):=by
 refine⟨λi j b a=>?_,λi a=>?_⟩
 ·rw[lX aq a aq,dU aq];exact h.sized i j b a
 ·rw[lX aq a aq,dU aq,dU aq,dU aq];exact h.I6 i a
theorem JN{n:Nat}{H:Mt}(h:PM n H):PM n (gr n one H):=λm a=>by rw[dU a];exact h m a
theorem xP{n:Nat}{H:Mt}(c:Sy n H)(e:PM n H)(d:po n H)(f:n<=8)(g:aO n H<=10000){i j:Nat}(b:i<n)(a:j<n):-262144<H i j/\H i j<262144:=by
 have:=rF (eI c (T:=one)) (JN e) (GP d) f (by rw[dU aD];exact g) b a;rwa[o7 b a]at this
end Go.aW
namespace Go.Proofs.Qq
open Go Go.cW Go.c7 Go.Proofs
open Go.aW (gr bm aO Sy PM po qz)
theorem Dz{r:Nat}{len:Nat->Nat}{G:Nat->Nat->Int}(h:dQ r len G=0):PM r G/\Sy r G:=by
 obtain⟨i,i,c,d⟩:=dF.1 h;refine⟨λm h=>?_,λa b g f=>?_⟩
 ·by_cases e:m=0
  ·subst e;exact Int.zero_lt_one
  ·have:=d (m-1) aq;rwa[show m-1+1=m by omega]at this
 ·by_cases e:a=b
  ·rw[e]
  ·by_cases d:b<a
   ·exact c a b g d
   ·exact(c b a f aq).symm
def ru(r:Nat)(len:Nat->Nat)(H:Nat->Nat->Int):Prop:=dQ r len H=0/\aO r H<=10000/\po r H
def qN(r:Nat)(len:Nat->Nat)(H:Nat->Nat->Int):Prop:=
 1<=r/\r<=8/\(∀i,i<r->len i=r)/\∀i j,i<r->j<r->H i j=H j i/\-262144<H i j/\H i j<262144
theorem ru.small{r:Nat}{len:Nat->Nat}{H:Nat->Nat->Int}(h:ru r len H):qN r len H:=by
 obtain⟨b,k,g⟩:=h;obtain⟨e,a⟩:=Dz b;obtain⟨c,d,_,_⟩:=dF.1 b;obtain⟨b,_,f⟩:=dj.1 c;exact⟨b,d,f,λi j c b=>⟨a i j c b,Go.aW.xP a e g d k c b⟩⟩
theorem ru.minor{r:Nat}{len:Nat->Nat}{H:Nat->Nat->Int}(h:ru r len H){m:Nat}(b:m<=r):0<aO m H/\aO m H<=65535:=by
 obtain⟨c,f,e⟩:=h;obtain⟨a,d⟩:=Dz c;obtain⟨_,d,_,_⟩:=dF.1 c;exact⟨a m b,Go.aW.rB a e d f m b⟩
theorem GR{r:Nat}{len:Nat->Nat}{H:Nat->Nat->Int}(b:qN r len H)(h:qz r (r-1) H)(d:0<aO r H)(c:aO r H<=10000):ru r len H:=by
 obtain⟨a,g,e,f⟩:=b;refine⟨nq ⟨dj.2 ⟨a,aq,e⟩,g⟩ (λi j b e=>(f i j b aq).1) λq b=>?_,c,h.red a⟩;by_cases e:q+1=r
 ·rw[e];exact d
 ·exact h.pos (q+1) aq
theorem qN.sy{r:Nat}{len:Nat->Nat}{H:Nat->Nat->Int}(h:qN r len H):Sy r H:=λi j b a=>(h.2.2.2 i j b a).1
end Go.Proofs.Qq
namespace Go.Proofs.Qq
section
open Go Go.cW Go.c7 Go.Proofs
theorem Bd.emod{N:Nat}{a b:Int}(c:Bd N b)(c:b≠0):Bd N (a%b):=by
 have d:=Int.emod_nonneg a c;have d:=Int.emod_lt a c;unfold Bd at*;omega
end
end Go.Proofs.Qq

namespace Go.Proofs.Qq
section
open Go Go.cW Go.c7 Go.Proofs
theorem Pa{w:World}{g T:Nat}{x y z u:Value}(h:bg w g T #[x,y,z,u]):(w.cell? ⟨g,0+0,none⟩=some x/\w.cell? ((⟨g,0+0,none⟩ : Addr).add 1)=some y)/\w.cell? ⟨g,0+2,none⟩=some z/\w.cell? ((⟨g,0+2,none⟩ : Addr).add 1)=some u:=by
 refine⟨⟨by rw[h.cell];rfl,by rw[add_lit,h.cell];rfl⟩,by rw[h.cell];rfl,by rw[add_lit,h.cell];rfl⟩
theorem M7{w:World}{g T:Nat}{x y z u:Value}(h:bg w g T #[x,y,z,u]):w.cell? ⟨g,0,none⟩=some x/\w.cell? ((⟨g,0,none⟩ : Addr).add 1)=some y/\w.cell? ((⟨g,0,none⟩ : Addr).add 2)=some z/\w.cell? ((⟨g,0,none⟩ : Addr).add 3)=some u:=by
 refine⟨by rw[h.cell];rfl,by rw[add_lit,h.cell];rfl,by rw[add_lit,h.cell];rfl,by rw[add_lit,h.cell];rfl⟩
def Qv(w:World)(N:Nat)(x y e c:Value)(a b:Int):Prop:=∃n d,CV w x y n/\CV w e c d/\Bd N n/\Bd N d/\0<d/\n*b=a*d
theorem Qv.red{w:World}{N:Nat}{x y e d:Value}{a b c:Int}(h:Qv w N x y e d (a*c) (b*c))(f:c≠0):Qv w N x y e d a b:=by
 obtain⟨n,d,l,k,j,i,g,e⟩:=h;refine⟨n,d,l,k,j,i,g,Int.eq_of_mul_eq_mul_right f ?_⟩;rw[Int.mul_assoc,e];grind
