import Derived.Test.YtmfndnlifgphjaaGreatDoorQzD
set_option maxHeartbeats 64000000
open Go.Proofs.YtmfndnlifgphjaaGreatDoor
namespace Go.Proofs.Qq
section
open Go Go.cW Go.c7 Go.Proofs
open Go.aW (gr bm aO Sy PM LI ig fY mul one sm)
def pw(m:Nat):Int:=((B^m:Nat):Int)
theorem sR(m:Nat):1<=pw m:=by
 unfold pw;have:=BC m;omega
theorem mr(a b:Nat):pw a*pw b=pw (a+b):=by
 unfold pw;rw[Nat.pow_add];exact(Int.natCast_mul _ _).symm
theorem rz{a b:Nat}(h:a<=b):pw a<=pw b:=by
 unfold pw;exact Int.ofNat_le.2 (Nat.pow_le_pow_right aw h)
theorem E7{a:Nat}{c x:Int}(e:0<=c)(b:c<=4294967296)(d:x<=pw a):c*x<=pw (a+1):=by
 have f:=Int.mul_le_mul_of_nonneg_left d e;have d:=Int.mul_le_mul_of_nonneg_right b (show 0<=pw a by have:=sR a;omega);have e:pw (a+1)=4294967296*pw a:=by
  unfold pw;rw[Nat.pow_succ,Nat.mul_comm];exact Int.natCast_mul _ _
 omega
theorem Ip{N:Nat}{z:Int}(h:Bd N z):z<=pw N:=by
 unfold Bd at h;unfold pw;omega
theorem Io{N M:Nat}{z:Int}(h:z.natAbs<=(pw M).natAbs)(a:M<N):Bd N z:=by
 unfold Bd;have b:(pw M).natAbs=B^M:=by unfold pw;omega
 have b:B^M<B^N:=Nat.pow_lt_pow_right aw a;omega
theorem uX{x:Int}{X:Int}(h:x*x<=X):x.natAbs<=X.natAbs:=by
 have a:x*x=((x.natAbs*x.natAbs:Nat):Int):=by rw[Int.natAbs_mul_self]
 rw[a]at h;have a:x.natAbs<=x.natAbs*x.natAbs:=Nat.le_mul_self _;omega
theorem Ni(n:Nat)(f:Nat->Int)(N:Nat)(h:∀k,k<n->Bd N (f k))(a:n<4294967296):Bd (N+1) (sm n f):=by
 rw[<-sA];exact im a h
theorem OR{n f:Nat}{G:Nat->Nat->Int}(B:Sy n G)(h:1<=n)(h:n<=8)(D:1<=f)(C:∀i j,i<n->j<n->Bd f (G i j))(E:PM n G):
 KZ n (15*Nb f 8+12) G (pw (Nb f 8)) (pw (5*Nb f 8+3)) (pw (13*Nb f 8+9)) (pw (2*Nb f 8+1))/\LI n 1 G one (pw (Nb f 8)) (pw (5*Nb f 8+3)):=by
 obtain⟨K,A⟩ : ∃K,K=Nb f 8:=⟨_,F⟩;have O:f<=K:=by rw[A];exact mX f (Nat.zero_le 8)
 have Q:∀m,m<=n->Bd K (aO m G):=λm y=>by
  rw[<-eJ,A];exact(ie D λi j l h=>C i j (show i<n by omega) (show j<n by omega)).mono (mX f aq)
 rw[<-A];have v:Go.aW.tr (gr n one G)=gr n one G:=Go.aW.eI B;constructor
 ·have h:=sR K;have h:pw K*pw K=pw (2*K):=by rw[mr];congr 1;omega
  have j:pw K<=pw (2*K):=rz aq;have x:pw (2*K+1)*pw (2*K+1)=pw (4*K+2):=by rw[mr];congr 1;omega
  have M:pw K*pw (5*K+3)=pw (6*K+3):=by rw[mr];congr 1;omega
  refine⟨B,?_,rz aq,?_,?_,?_,rz aq,λt u=>?_,λk T o i c l s=>?_,λk T o i c s l=>?_,λz j=>Io j aq⟩
  ·rw[h];have:=E7 (c:=2) aw aw (Int.le_refl (pw (2*K)));omega
  ·rw[show pw K*(9*pw K)=9*(pw K*pw K) by grind,h];exact E7 aw aw (Int.le_refl _)
  ·exact Int.le_trans (E7 (a:=K) aw aw (Int.le_refl _)) (rz aq)
  ·rw[show 2*pw (2*K+1)*(2*pw (2*K+1))*pw K=4*(pw (2*K+1)*pw (2*K+1)*pw K) by grind,x,mr,show 4*K+2+K=5*K+2 by omega];have r:pw K<=pw (5*K+2):=rz aq;have:=E7 (a:=5*K+2) (c:=33) aw aw (Int.le_refl _);rw[show 5*K+2+1=5*K+3 by omega]at this;omega
  ·rw[M];have k:(2:Int)^t<=256:=by
    have j:(2:Nat)^t<=2^8:=Nat.pow_le_pow_right aw u;have h:(2:Nat)^8=256:=aw;rw[h]at j;have h:((2^t:Nat):Int)=(2:Int)^t:=by rw[Int.natCast_pow];rfl
    rw[<-h];omega
   have u:(1:Int)<=2^t:=by
    have j:0<(2:Nat)^t:=Nat.pow_pos aw;have h:((2^t:Nat):Int)=(2:Int)^t:=by rw[Int.natCast_pow];rfl
    rw[<-h];omega
   have h:=sR (6*K+3);have r:(2:Int)^t*(pw (6*K+3)+1)<=256*(2*pw (6*K+3)):=Int.mul_le_mul k aq aq aw;have h:(1:Int)<=2^t*(pw (6*K+3)+1):=by
    have:=Int.mul_le_mul u (show(1:Int)<=pw (6*K+3)+1 by omega) aq aq;omega
   have p:2^t*(pw (6*K+3)+1)-1<=pw (6*K+4):=by
    have:=E7 (a:=6*K+3) (c:=512) aw aw (Int.le_refl _);rw[show 6*K+3+1=6*K+4 by omega]at this;omega
   obtain⟨u,h⟩ : ∃u:Int,u=2^t*(pw (6*K+3)+1)-1:=⟨_,F⟩;rw[<-h]at p⊢;have h:0<=u:=aq;have w:u*u<=pw (6*K+4)*pw (6*K+4):=Int.mul_le_mul p p h (by have:=sR (6*K+4);omega);have J:u*u*pw K<=pw (13*K+8):=by
    have:=Int.mul_le_mul_of_nonneg_right w (show 0<=pw K by omega);rw[mr,mr,show 6*K+4+(6*K+4)+K=13*K+8 by omega]at this;exact this
   have I:pw K<=pw (13*K+8):=rz aq;have:=E7 (a:=13*K+8) (c:=9) aw aw (Int.le_refl _);rw[show 13*K+8+1=13*K+9 by omega]at this;omega
  ·
   have z:Go.aW.tr (gr n one G)=gr n one G:=v;obtain⟨k,j⟩ : ∃k:Nat->Nat->Int,k=gr n one G:=⟨_,F⟩;have M:∀a b,a<n->b<n->k a b=G a b:=λa b q e=>by rw[j];exact Go.aW.o7 q e
   have t:PM n k:=λm y=>by
    rw[j,Go.aW.dU y];exact E m y
   have h:∀u v,ig n k u v=ig n G u v:=λu v=>by
    unfold ig;exact Go.aW.aR λa q=>by rw[Go.aW.aR λb e=>by rw[M a b q e]]
   have P:∀d,d<n->Bd (14*K+10) (sm n λa=>T i a*G a d):=λd g=>by
    have L:ig n G (T i) (λx=>one x d)=sm n λa=>T i a*G a d:=by
     unfold ig;refine Go.aW.aR λa q=>?_;congr 1;rw[Go.aW.dc (c:=d) g λb _ e=>by simp only[one];rw[aa e,Int.mul_zero]];simp only[one,if_true,Int.mul_one]
    have v:ig n G (λx=>one x d) (λx=>one x d)=G d d:=by
     unfold ig;rw[Go.aW.dc (c:=d) g λb _ e=>by simp only[one];rw[aa e,Int.zero_mul]];rw[Go.aW.dc (c:=d) g λb _ e=>by simp only[one];rw[aa e,Int.mul_zero]];simp only[one,if_true,Int.mul_one,Int.one_mul]
    have N:0<G d d:=by
     have:=Go.aW.jT (by rw[j];exact z) t g d 0 aq;rw[Go.aW.fU,M d d g g]at this;exact this
    have u:=Go.aW.Ic (n:=n) (H:=k) (by rw[j];exact z) t (T i) (λx=>one x d) (by rw[h,v];exact N);rw[h,h,h,L,v]at u;have r:ig n G (T i) (T i)<=pw (13*K+9):=o.Gb i l;have p:G d d<=pw K:=Int.le_trans (Ip (C d d g g)) (rz O);have w:ig n G (T i) (T i)*G d d<=pw (13*K+9)*pw K:=Int.mul_le_mul r p aq (by have:=sR (13*K+9);omega);rw[mr,show 13*K+9+K=14*K+9 by omega]at w;exact Io (uX (Int.le_trans u w)) aq
   obtain⟨m,rfl⟩ : ∃m,n=m+1:=⟨n-1,aq⟩;have R:∀d,d<m+1->Bd K (fY m G d c):=λd g=>by
    unfold fY Go.aW.uK;have r:Bd K (aO m (Go.aW.minor G c d)):=by
     rw[<-eJ,A];refine(ie D λa b q e=>?_).mono (mX f aq);exact C _ _ (Go.aW.iT q) (Go.aW.iT e)
    unfold Go.aW.jl;unfold Bd at*;rw[Int.natAbs_mul];split<;>simpa using r
   have b:(sm (m+1) λd=>(sm (m+1) λa=>T i a*G a d)*fY m G d c)=T i c*aO (m+1) G:=by
    have L:(sm (m+1) λd=>(sm (m+1) λa=>T i a*G a d)*fY m G d c)=mul (m+1) (mul (m+1) T G) (fY m G) i c:=F;rw[L,Go.aW.mul_assoc];simp only[mul];rw[Go.aW.dc (c:=c) s λq h f=>by
     have:=Go.aW.mA m G q c h s;simp only[mul]at this;rw[this,aa f,Int.mul_zero]]
    have:=Go.aW.mA m G c c s s;simp only[mul]at this;rw[this];simp
   have e:=Ni (m+1) (λd=>(sm (m+1) λa=>T i a*G a d)*fY m G d c) (14*K+10+K) (λd g=>(P d g).mul (R d g)) aq;rw[b]at e;have b:=E (m+1) aD;have J:Bd (14*K+10+K+1) (T i c):=by
    unfold Bd at*;rw[Int.natAbs_mul]at e;have:(T i c).natAbs<=(T i c).natAbs*(aO (m+1) G).natAbs:=Nat.le_mul_of_pos_right _ aq;omega
   exact J.mono aq
  ·have h:=Go.aW.Ho (Go.aW.eI B (T:=T)) o.pos l s;have r:=o.uj (c+1) aq;have p:=o.uj c aq;have w:=o.Gb i l;have J:=o.Mr B l;have b:=o.pos c aq;have b:=o.pos (c+1) aq;have I:aO c (gr n T G)*gr n T G i i<=pw K*pw (13*K+9):=Int.mul_le_mul p w aq aq;rw[mr]at I;have b:aO (c+1) (gr n T G)*(aO c (gr n T G)*gr n T G i i)<=pw K*pw (K+(13*K+9)):=Int.mul_le_mul r I (Int.mul_nonneg aq aq) aq;rw[mr]at b;exact Io (uX (Int.le_trans h b)) aq
 ·refine LI.start E (λm y=>Ip (Q m y)) λi l=>Int.le_trans (Ip (C i i l l)) (rz aq)
end
end Go.Proofs.Qq


namespace Go.aW
section
open Go Go.Proofs.YtmfndnlifgphjaaGreatDoor
theorem Jo{m n:Nat}{f:Nat->Int}(h:m<=n)(a:∀i,m<=i->i<n->f i=0):sm n f=sm m f:=by
 induction n with
 |zero=>rw[show m=0 by omega]
 |succ n b=>
  by_cases e:m=n+1
  ·rw[e]
  ·simp only[sm];rw[b aq λi b c=>a i b aq,a n aq aq,Int.add_zero]
variable {n:Nat}{G T:Mt}
def ed(d:Nat):Nat->Int:=λx=>if x=d then 1 else 0
theorem Im{u:Nat->Int}{d:Nat}(b:d<n):ig n G u (ed d)=sm n λa=>u a*G a d:=by
 unfold ig;refine aR λa a=>?_;congr 1;rw[dc (c:=d) b λb _ a=>by simp only[ed];rw[aa a,Int.mul_zero]];simp only[ed,if_true,Int.mul_one]
theorem KL{i d:Nat}(a:i<n)(b:d<n):ig n G (ed i) (ed d)=G i d:=by
 rw[Im b,dc (c:=i) a λb _ a=>by simp only[ed];rw[aa a,Int.zero_mul]];simp only[ed,if_true,Int.one_mul]
theorem qt(_hG:Sy n G)(u v:Nat->Int):ig n (gr n one G) u v=ig n G u v:=by
 unfold ig;exact aR λa c=>by rw[aR λb a=>by rw[o7 c a]]
theorem KG(a:Sy n G)(e:PM n G)(x y:Nat->Int)(d:0<ig n G y y):ig n G x y*ig n G x y<=ig n G x x*ig n G y y:=by
 have c:PM n (gr n one G):=λm b=>by rw[dU b];exact e m b
 have:=Ic (n:=n) (H:=gr n one G) (eI a) c x y (by rw[qt a];exact d);rwa[qt a,qt a,qt a]at this
theorem AX(b:Sy n G)(d:PM n G)(x:Nat->Int):0<=ig n G x x:=by
 have c:PM n (gr n one G):=λm a=>by rw[dU a];exact d m a
 have:=tB (n:=n) (H:=gr n one G) (eI b) c x;rwa[qt b]at this
theorem FB(f:Sy n G)(e:PM n G){d:Nat}(a:d<n):0<G d d:=by
 have c:PM n (gr n one G):=λm b=>by rw[dU b];exact e m b
 have:=jT (H:=gr n one G) (eI f) c a d 0 aq;rw[fU,o7 a a]at this;exact this
theorem Il(c:Sy n G)(a:PM n G)(z:Nat->Int)(g:∃i,i<n/\z i≠0):0<ig n G z z:=by
 have d:=AX c a z;refine Classical.byContradiction λd=>?_;have e:0=ig n G z z:=aq;obtain⟨i,j,d⟩:=g;refine d (uniq n (tr G) z (by rw[cY];have:=a n aD;omega) (λd b=>?_) i j);have g:=KG c a z (ed d) (by rw[KL b b];exact FB c a b);rw[<-e,Int.zero_mul]at g;have f:ig n G z (ed d)=0:=by
  have a:=sq_nonneg (ig n G z (ed d));have a:ig n G z (ed d)*ig n G z (ed d)=0:=aq;rcases Int.mul_eq_zero.1 a with h|h<;>exact h
 rw[Im b]at f;rw[<-f];exact aR λc _=>Int.mul_comm _ _
theorem KK(m:Nat)(x y:Nat->Int):ig m (gr n T G) x y=ig n G (λc=>sm m λi=>x i*T i c) (λc=>sm m λi=>y i*T i c):=by
 have f:∀(k:Nat) (z:Nat->Int) ,ig n G (λc=>sm k λi=>x i*T i c) z=sm k λi=>x i*ig n G (T i) z:=by
  intro k z;induction k with
  |zero=>simp only[sm,ig];exact fK λa _=>by rw[Int.zero_mul]
  |succ k d=>
   simp only[sm];have:=mL n G (λc=>sm k λi=>x i*T i c) (T k) z 1 (x k);simp only[Int.one_mul]at this;rw[this,d]
 have e:∀(k:Nat) (z:Nat->Int) ,ig n G z (λc=>sm k λi=>y i*T i c)=sm k λi=>y i*ig n G z (T i):=by
  intro k z;induction k with
  |zero=>simp only[sm,ig];exact fK λa _=>by rw[fK λb _=>by rw[Int.mul_zero],Int.mul_zero]
  |succ k d=>
   simp only[sm];have:=jR n G (λc=>sm k λi=>y i*T i c) (T k) z 1 (y k);simp only[Int.one_mul]at this;rw[this,d]
 rw[f];unfold ig;refine aR λi _=>?_;congr 1;have:=e m (T i);unfold ig at this;rw[this];refine aR λj _=>?_;rw[Int.mul_comm];rfl
theorem M_(m:Nat)(y:Nat->Int):ig m (gr n T G) y y=ig n G (λc=>sm m λi=>y i*T i c) (λc=>sm m λi=>y i*T i c):=KK m y y
theorem PM.O9(b:Sy n G)(c:PM n G)(j:aO n T≠0):PM n (gr n T G):=by
 refine Cl n _ λm y g f=>?_;rw[eI b];show 0<ig m (gr n T G) y y;rw[M_];refine Il b c _ (Classical.byContradiction λb=>?_);have k:∀c,c<n->(sm m λi=>y i*T i c)=0:=λc d=>Classical.byContradiction λh=>b ⟨c,d,h⟩;obtain⟨i,b,e⟩:=f;have:=uniq n (tr T) (λi=>if i<m then y i else 0) (by rw[cY];exact j) (λc d=>by
  rw[Jo g λi f f=>by rw[aa aq,Int.mul_zero],<-k c d];exact aR λi b=>by rw[ab b,Int.mul_comm];rfl) i aq
 rw[ab b]at this;exact e this
end
end Go.aW
namespace Go.Proofs.Qq
section
open Go Go.cW Go.c7 Go.Proofs
def sj(i j:Nat)(c:Int)(U:Nat->Nat->Int):Nat->Nat->Int:=λr q=>
 if i=j then(if c<0 then(if q=i then -U r q else U r q)else U r q)
 else if c=0 then(if q=i then U r j else if q=j then U r i else U r q)
 else(if q=i then U r i+c*U r j else U r q)
theorem Kt{n i j:Nat}(c:Int)(U:Nat->Nat->Int)(g:i<n)(l:j<n)(h:Go.aW.aO n U=1\/Go.aW.aO n U=-1):Go.aW.aO n (sj i j c U)=1\/Go.aW.aO n (sj i j c U)=-1:=by
 have f:=Go.aW.eF n;have k:∀A,Go.aW.aO n (Go.aW.tr A)=Go.aW.aO n A:=Go.aW.cY n;rw[<-k]at h;rw[<-k (sj i j c U)];by_cases e:i=j
 ·by_cases d:c<0
  ·have:Go.aW.tr (sj i j c U)=Go.aW.cj (Go.aW.tr U) i λq=>-1*Go.aW.tr U i q:=by
    funext a b;simp only[Go.aW.tr,sj,Go.aW.cj,ab e,ab d];split
    ·rename_i m;subst m;omega
    ·rfl
   rw[this,f.smul _ i _ _ g,Go.aW.gZ];omega
  ·have:sj i j c U=U:=by funext a b;simp only[sj,ab e,aa d]
   rw[this];exact h
 ·by_cases d:c=0
  ·have:Go.aW.tr (sj i j c U)=Go.aW.ov i j (Go.aW.tr U):=by
    funext a b;simp only[Go.aW.tr,sj,Go.aW.ov,aa e,ab d];split
    ·rfl
    ·split<;>rfl
   rw[this,f.swap _ i j g l e];omega
  ·have:Go.aW.tr (sj i j c U)=Go.aW.cj (Go.aW.tr U) i λq=>Go.aW.tr U i q+c*Go.aW.tr U j q:=by
    funext a b;simp only[Go.aW.tr,sj,Go.aW.cj,aa e,aa d]
   rw[this,f.tC _ i j c g l e];exact h
theorem tD{a c:Int}{N:Nat}(b:a.natAbs<=N)(d:-2<=c/\c<=2):(c*a).natAbs<=2*N:=by
 rw[Int.natAbs_mul];have:c.natAbs<=2:=aq;exact Nat.mul_le_mul this b
theorem LY{i j n N:Nat}{c:Int}{U:Nat->Nat->Int}(f:i<n)(e:j<n)(g:-2<=c/\c<=2)(h:∀a b,a<n->b<n->(U a b).natAbs<=N):∀a b,a<n->b<n->(sj i j c U a b).natAbs<=3*N:=λa b d k=>by
 have l:=h a b d k;have b:=h a i d f;have b:=h a j d e;have a:=tD b g;unfold sj;split
 ·split
  ·split<;>omega
  ·omega
 ·split
  ·split
   ·omega
   ·split<;>omega
  ·split<;>omega
theorem ia.put{w w':World}{l:Nat}{d:Nat->Nat}{r c i j:Nat}{M:Nat->Nat->Int}{z:Int}(h:ia w l d r c M)(f:i<r)(m:fi w' (d i) c (ef (M i) j z))(k:Ch (λb=>b=d i) w w'):ia w' l d r c (cV M i j z):=by
 refine⟨h.outer.ch k (Ne.symm (h.ne i f)),λa g=>?_,h.ne,h.inj⟩;by_cases e:a=i
 ·subst e;rw[kA];exact m
 ·rw[kR _ _ _ e];exact bg.ch (h.row a g) k λb=>e (h.inj a i g f b)
theorem ia.ch{w w':World}{b:Nat}{a:Nat->Nat}{r c:Nat}{M:Nat->Nat->Int}{d:Nat->Prop}(h:ia w b a r c M)(e:Ch d w w')(g:¬d b)(f:∀i,i<r->¬d (a i)):ia w' b a r c M:=
 ⟨h.outer.ch e g,λi a=>bg.ch (h.row i a) e (f i a),h.ne,h.inj⟩
theorem ia.congr{w:World}{b:Nat}{a:Nat->Nat}{r c:Nat}{M M':Nat->Nat->Int}(h:ia w b a r c M)(e:∀i j,i<r->j<c->M i j=M' i j):ia w b a r c M':=
 ⟨h.outer,λi a=>(h.row i a).congr λj b=>e i j a b,h.ne,h.inj⟩
theorem ia.at{w:World}{b:Nat}{a:Nat->Nat}{r c i:Nat}{M:Nat->Nat->Int}(h:ia w b a r c M)(d:i<r):w.cell? ⟨b,0+i*1,none⟩=some (.slice (some ⟨a i,0,none⟩) c c):=by
 rw[h.outer.cell,cE aq,Nat.zero_add,Nat.mul_one]
theorem fi.at{w:World}{g c j:Nat}{M:Nat->Int}(h:fi w g c M)(a:j<c):w.cell? ⟨g,0+j*1,none⟩=some (.int .i64 (M j)):=by
 unfold fi at h;rw[h.cell,cE aq,Nat.zero_add,Nat.mul_one]
theorem Gu{w:World}{g:Nat}{A:Option Addr}{n c k:Nat}(h:fj w g A n c k):w.cell? ⟨g,0+0,none⟩=some (.slice A n c)/\w.cell? ⟨g,0+1,none⟩=some (.int .i64 ((min k n:Nat):Int)):=⟨iR h,fG h⟩
theorem nT(g:Nat)(A:Option Addr)(n c k m:Nat)(d:Nat->Int)(a w:World)(i:Ext a w)(h:qD a A n d)(j:a.heap.size<=g)(l:fj w g A n c k)(f:0<m)(_hm2:m<4294967296):
 aT Tryz.prog 59 #[.pointer (some ⟨g,0,none⟩),.int .i64 (m:Int)] w λv e=>(∃b:Nat,v=.int .i64 (b:Int)/\b<m)/\fj e g A n c (k+1)/\Ch (λb=>b=g) w e/\Kp w e:=by
 refine bo (n:=11) Tryz.func59 F rfl az aA ?_;refine gg ?_;refine aJ (xx g A n c k d a w i h j l) ?_;rintro _ a ⟨rfl,e,i,a⟩;have j:=yY h k;obtain⟨b,h,h⟩ : ∃b:Nat,tp n d k%256=(b:Int)/\b<256:=⟨(tp n d k%256).toNat,aq,aq⟩;refine gg ?_;refine kb (k1:=.i64) (b:=(b:Int)) nw yX F (by rw[IntKind.wrap_u8];omega) ?_;refine gg ?_;refine pg F rfl f ?_;refine gg ?_;exact bF F rfl ⟨⟨b%m,F,Nat.mod_lt b f⟩,e,i,a⟩
def RU(w:World)(n:Nat)(v:Value)(w':World):Prop:=
 Ext w w'/\∃a b U,v=.slice (some ⟨a,0,none⟩) n n/\w.heap.size<=a/\(∀i,i<n->w.heap.size<=b i)/\ia w' a b n n U/\(∀i j,i<n->j<n->(U i j).natAbs<=531441)/\(Go.aW.aO n U=1\/Go.aW.aO n U=-1)
theorem um(A:Option Addr)(m cap n:Nat)(Q:Nat->Int)(w:World)(hN:qD w A m Q)(a7:1<=n)(hn:n<=16):
 aT Tryz.prog 22 #[.slice A m cap,.int .i64 (n:Int)] w (RU w n):=by
 refine bo (n:=145) Tryz.func22 F rfl az aA ?_;refine gg ?_;refine cJ iS (.inl F) F rfl aD aq aq ?_;intro x a7 ak av;obtain⟨u,ar⟩ : ∃g,g=w.heap.size:=⟨_,F⟩;rw[<-ar]at a7⊢;have aj:dZ 113 x u n 0 n (λ_=>0):=fe a7;clear a7;refine gg ?_;refine aY (λf y=>∃p,f 0=.slice A m cap/\f 1=.int .i64 (n:Int)/\f 5=.slice (some ⟨u,0,none⟩) n n/\Ext w y/\ia y u p n n Go.aW.one/\∀k,k<n->u<p k) ?_ ?_
 ·refine gg ?_;refine aU (λq f y=>∃i p,q=n-i/\i<=n/\f 0=.slice A m cap/\f 1=.int .i64 (n:Int)/\f 5=.slice (some ⟨u,0,none⟩) n n/\f 16=.int .i64 (n:Int)/\f 17=.int .i64 ((i:Nat):Int)/\Ext w y/\dZ 113 y u n i n p/\(∀k,k<i->fi y (p k) n (Go.aW.one k)/\u<p k)/\(∀k X,k<i->X<i->p k=p X->k=X))
   n ⟨0,λ_=>0,rfl,aE,rfl,rfl,rfl,rfl,rfl,ak,aj,λk o=>absurd o aq,λk X o=>absurd o aq⟩ ?_
  clear ak aj av x;rintro q f x ⟨i,p,rfl,K,T,z,s,ar,a7,t,hO,J,an⟩;rw[ui T,ui z,ui s,ui ar,ui a7];clear T z s ar a7;by_cases ax:i<n
  ·have a7:=hO.lt;refine gg ?_;refine cJ fS (.inl F) F rfl aD aq aq ?_;intro C W d au;have ar:=lM W;obtain⟨g,hg⟩ : ∃g,g=x.heap.size:=⟨_,F⟩;rw[<-hg]at ar⊢;clear W;refine gg ?_;refine dI (aX F) (.inl F) F rfl (hO.Y d) ax ?_;intro P ⟨_,a7⟩ h b5 a8;have a7:=a7 F;have b5:=a7.at (k:=i) aq ax;rw[show cC p i g i=g by simp[cC]]at b5;have ax:fi P g n _:=bg.ch ar h aq;have V:Ext w P:=h.aK (t.trans d) λb L=>aq;refine gg ?_;refine bZ (aX F) (.inl F) F rfl ax (by rw[bf];omega) ?_;intro w4 al B b6;have b7:=fi.set al;have b0:u<g:=aq;refine gg ?_;refine⟨_,?_,i+1,cC p i g,F,aq,F,F,F,F,F,B.aK V λb L=>aq,a7.kp B aq,λk o=>?_,λk X o a7 e=>?_⟩
   ·omega
   ·by_cases e:k=i
    ·subst e;simp only[cC,if_true];refine⟨b7.congr λb L=>?_,b0⟩;unfold ef Go.aW.one;by_cases e:b=k
     ·rw[ab e,ab e.symm]
     ·rw[aa e,aa (Ne.symm e)]
    ·simp only[cC,aa e];obtain⟨E,D⟩:=J k aq;have hl:p k<x.heap.size:=bg.lt E;exact⟨bg.ch (bg.ch (bg.Y E d) h aq) B aq,D⟩
   ·have hl:∀k,k<i->p k<x.heap.size:=λk o=>bg.lt (J k o).1;simp only[cC]at e;split at e<;>split at e
    ·omega
    ·have:=hl X aq;omega
    ·have:=hl k aq;omega
    ·exact an k X aq aq e
  ·refine gg ?_;obtain rfl:i=n:=aq;exact⟨p,F,F,F,t,⟨hO.full,λk o=>(J k o).1,λk o=>by have:=(J k o).2;omega,an⟩,λk o=>(J k o).2⟩
 clear ak aj av x;rintro f x ⟨p,T,z,s,t,l,ay⟩;rw[ui T,ui z,ui s];clear T z s;refine gg ?_;refine uf F ?_;refine gg ?_;refine bO (v:=.agg _) (.inl F) F ?_;intro C W d au;have a6:fj C x.heap.size A m cap 0:=by unfold fj;rw[Nat.zero_min];exact W
 obtain⟨M,T⟩ : ∃g,g=x.heap.size:=⟨_,F⟩;rw[<-T]at a6⊢;have ae:=l.Y d;have G:u≠M/\(∀k,k<n->p k≠M):=⟨by have:=l.outer.lt;omega,λk o=>by have:p k<x.heap.size:=bg.lt (l.row k o);omega⟩;have g:=t.size;have ai:w.heap.size<=M:=aq;have Z:=t.trans d;clear W l d t au T g;refine gg ?_;refine aY (λf y=>∃U,f 5=.slice (some ⟨u,0,none⟩) n n/\Ext w y/\ia y u p n n U/\(∀i j,i<n->j<n->(U i j).natAbs<=531441)/\(Go.aW.aO n U=1\/Go.aW.aO n U=-1)) ?_ ?_
 ·refine gg ?_;refine aU (λq f y=>∃k I U,q=12-k/\k<=12/\f 1=.int .i64 (n:Int)/\f 5=.slice (some ⟨u,0,none⟩) n n/\f 7=.pointer (some ⟨M,0,none⟩)/\f 8=.int .i64 ((k:Nat):Int)/\Ext w y/\ia y u p n n U/\fj y M A m cap I/\(∀i j,i<n->j<n->(U i j).natAbs<=3^k)/\(Go.aW.aO n U=1\/Go.aW.aO n U=-1))
   12 ⟨0,0,Go.aW.one,F,aE,F,F,F,F,Z,ae,a6,λi j _ _=>by unfold Go.aW.one;split<;>decide,.inl (Go.aW.qi n)⟩ ?_
  clear Z ae a6 C x;rintro q f x ⟨k,I,U,rfl,o,z,s,S,R,t,l,N,hU,hd⟩;rw[ui z,ui s,ui S,ui R];clear z s S R;have O:∀C,Ext x C->∃U,Value.slice (some ⟨u,0,none⟩) n n=.slice (some ⟨u,0,none⟩) n n/\Ext w C/\ia C u p n n U/\(∀i j,i<n->j<n->(U i j).natAbs<=531441)/\(Go.aW.aO n U=1\/Go.aW.aO n U=-1):=λC d=>
   ⟨U,F,t.trans d,l.Y d,λi j K Y=>Nat.le_trans (hU i j K Y) (Nat.le_trans (Nat.pow_le_pow_right aw o) aw),hd⟩
  refine aN ?_;refine b_ [(0,3),(1,3),(2,3),(3,3),(4,3),(5,3),(6,0),(7,3),(8,3),(9,3),(10,0),(11,3),(12,3),(13,3)] mixed az λC d _=>?_;obtain⟨T,g⟩:=Gu (N.Y d);by_cases W:k<12
  ·by_cases W:min I m<m
   ·refine gg ?_;clear T g O;refine aJ (nT M A m cap I n Q w C (t.trans d) hN ai (N.Y d) aq aq) ?_;rintro _ P ⟨⟨i,rfl,K⟩,aj,h,-⟩;have V:Ext w P:=h.aK (t.trans d) λb L=>aq;have H:=(l.Y d).ch h G.1 λk o=>G.2 k o;refine gg ?_;refine aJ (nT M A m cap (I+1) n Q w P V hN ai aj aq aq) ?_;rintro _ w4 ⟨⟨j,rfl,Y⟩,a7,B,-⟩;have g:Ext w w4:=B.aK V λb L=>aq;have a1:=H.ch B G.1 λk o=>G.2 k o;refine gg ?_;refine aJ (xx M A m cap (I+1+1) Q w w4 g hN ai a7) ?_;rintro _ W ⟨rfl,X,T,-⟩;have ai:Ext w W:=T.aK g λb L=>aq;have W:=a1.ch T G.1 λk o=>G.2 k o;have ak:=yY hN (I+1+1);obtain⟨c,o⟩ : ∃c,c=(tp m Q (I+1+1)).tmod 3:=⟨_,F⟩;have aH:-2<=c/\c<=2:=by
     have E:=Int.tmod_lt_of_pos (tp m Q (I+1+1)) (show(0:Int)<3 by decide);have D:=Int.tmod_lt_of_pos (-(tp m Q (I+1+1))) (show(0:Int)<3 by decide);rw[Int.neg_tmod]at D;omega
    refine gg ?_;refine A9 F rfl aw ?_;rw[show(tp m Q (I+1+1)).tmod 3=c from o.symm];have Q:3^k<=3^11:=Nat.pow_le_pow_right aw aq;have Q:(3:Nat)^11=177147:=aw;have b4:=LY K Y aH hU;have b1:=Kt c U K Y hd;clear H a1 aj a7 V g h B T l N t d o ak;refine gg ?_;refine aU (λq f y=>∃r,q=n-r/\r<=n/\f 1=.int .i64 (n:Int)/\f 5=.slice (some ⟨u,0,none⟩) n n/\f 7=.pointer (some ⟨M,0,none⟩)/\f 8=.int .i64 (k:Int)/\f 9=.int .i64 (i:Int)/\f 10=.int .i64 (j:Int)/\f 11=.int .i64 (c)/\f 61=.int .i64 (n:Int)/\f 62=.int .i64 ((r:Nat):Int)/\Ext w y/\ia y u p n n (λa b=>if a<r then sj i j c U a b else U a b)/\fj y M A m cap (I+1+1+1))
     n ⟨0,F,aE,F,F,F,F,F,F,F,F,F,ai,W.congr λa b _ _=>by rw[aa aq],X⟩ ?_
    clear ai W X;rintro q f x ⟨r,rfl,g,z,s,S,R,M,y,q,o,g,t,l,N⟩;rw[ui z,ui s,ui S,ui R,ui M,ui y,ui q,ui o,ui g];clear z s S R M y q o g;by_cases g:r<n
    ·have J:=l.row r g;have o:=ay r g;have o:=G.2 r g;have o:=hU r i g K;have o:=hU r j g Y;have q:=tD o aH;by_cases q:i=j
     ·by_cases o:c<0
      ·refine gg ?_;refine cP [(0,3),(1,3),(2,3),(3,0),(4,3),(5,3),(6,3),(7,3),(8,0),(9,3),(10,3),(11,0),(12,3),(13,3),(14,2)] mixed az λC d _=>?_;have J:=(l.Y d).at g;have y:=((l.Y d).row r g).at K;rw[aa aq]at y;refine gg ?_;refine Bh F aq aq ?_;refine gg ?_;refine bZ (aX F) (.inl F) F rfl ((l.Y d).row r g) (by rw[bf];omega) ?_;intro P z h a8;have H:=(l.Y d).put g (fi.set z) h;refine gg ?_;refine⟨_,?_,r+1,F,aq,F,F,F,F,F,F,F,F,F,h.aK (t.trans d) λb L=>aq,H.congr λa b _ _=>?_,bg.ch (N.Y d) h aq⟩
       ·omega
       ·simp only[cV];by_cases e:a=r/\b=i
        ·rw[ab e,ab aq];unfold sj;rw[ab q,ab o,ab e.2,e.1,e.2];omega
        ·rw[aa e];by_cases E:a<r
         ·rw[ab E,ab aq]
         ·rw[aa E];by_cases D:a<r+1
          ·rw[ab D];unfold sj;rw[ab q,ab o,aa aq]
          ·rw[aa D]
      ·refine gg ?_;refine⟨_,?_,r+1,F,aq,F,F,F,F,F,F,F,F,F,t,l.congr λa b _ _=>?_,N⟩
       ·omega
       ·by_cases E:a<r
        ·rw[ab E,ab aq]
        ·rw[aa E];by_cases D:a<r+1
         ·rw[ab D];unfold sj;rw[ab q,aa o]
         ·rw[aa D]
     ·by_cases o:c=0
      ·refine gg ?_;refine cP [(0,3),(1,3),(2,3),(3,0),(4,3),(5,3),(6,3),(7,3),(8,0),(9,3),(10,3),(11,3),(12,3),(13,0),(14,3),(15,3),(16,0),(17,3),(18,3),(19,3),(20,0),(21,3),(22,3),(23,0),(24,3),(25,2),(26,3),(27,2)] mixed az λC d _=>?_;have J:=(l.Y d).at g;have y:=((l.Y d).row r g).at K;have G:=((l.Y d).row r g).at Y;rw[aa aq]at y G;refine gg ?_;refine bZ (aX F) (.inl F) F rfl ((l.Y d).row r g) (by rw[bf];omega) ?_;intro P z h a8;have H:=(l.Y d).put g (fi.set z) h;refine gg ?_;refine bZ (aX F) (.inl F) F rfl (H.row r g) (by rw[bf];omega) ?_;intro w4 al B b6;have a1:=H.put g (fi.set al) B;refine gg ?_;refine⟨_,?_,r+1,F,aq,F,F,F,F,F,F,F,F,F,B.aK (h.aK (t.trans d) λb L=>aq) λb L=>aq,a1.congr λa b _ _=>?_,bg.ch (bg.ch (N.Y d) h aq) B aq⟩
       ·omega
       ·simp only[cV];by_cases e:a=r/\b=j
        ·rw[ab e,ab aq];unfold sj;rw[aa q,ab o,aa aq,ab e.2,e.1]
        ·rw[aa e];by_cases B:a=r/\b=i
         ·rw[ab B,ab aq];unfold sj;rw[aa q,ab o,ab B.2,B.1]
         ·rw[aa B];by_cases E:a<r
          ·rw[ab E,ab aq]
          ·rw[aa E];by_cases D:a<r+1
           ·rw[ab D];unfold sj;rw[aa q,ab o,aa aq,aa aq]
           ·rw[aa D]
      ·refine gg ?_;refine cP [(0,3),(1,3),(2,3),(3,0),(4,3),(5,3),(6,0),(7,3),(8,3),(9,3),(10,3),(11,0),(12,3),(13,3),(14,0),(15,3),(16,3),(17,3),(18,2)] mixed az λC d _=>?_;have J:=(l.Y d).at g;have y:=((l.Y d).row r g).at K;have G:=((l.Y d).row r g).at Y;rw[aa aq]at y G;refine gg ?_;refine fg F rfl aq aq ?_;refine gg ?_;refine bZ (aX F) (.inl F) F rfl ((l.Y d).row r g) (by rw[bf];omega) ?_;intro P z h a8;have H:=(l.Y d).put g (fi.set z) h;refine gg ?_;refine⟨_,?_,r+1,F,aq,F,F,F,F,F,F,F,F,F,h.aK (t.trans d) λb L=>aq,H.congr λa b _ _=>?_,bg.ch (N.Y d) h aq⟩
       ·omega
       ·simp only[cV];by_cases e:a=r/\b=i
        ·rw[ab e,ab aq];unfold sj;rw[aa q,aa o,ab e.2,e.1]
        ·rw[aa e];by_cases E:a<r
         ·rw[ab E,ab aq]
         ·rw[aa E];by_cases D:a<r+1
          ·rw[ab D];unfold sj;rw[aa q,aa o,aa aq]
          ·rw[aa D]
    ·obtain rfl:r=n:=aq;refine gg ?_;refine⟨_,?_,k+1,I+1+1+1,sj i j c U,F,aq,F,F,F,F,t,l.congr λa b c _=>by rw[ab c],N,λa b c L=>?_,b1⟩
     ·omega
     ·have:=b4 a b c L;rw[Nat.pow_succ];omega
   ·refine gg ?_;exact O C d
  ·refine gg ?_;exact O C d
 clear Z ae a6 C x;rintro f x ⟨U,s,t,l,hU,hd⟩;rw[ui s];clear s;refine gg ?_;exact bF F rfl ⟨t,u,p,U,F,aq,λi K=>by have:=ay i K;omega,l,hU,hd⟩
def allFit(r c:Nat)(M:Nat->Nat->Int):Bool:=(List.range r).all λi=>(List.range c).all λj=>fits (M i j)
theorem o9{r c:Nat}{M:Nat->Nat->Int}:allFit r c M=true↔∀i j,i<r->j<c->fits (M i j)=true:=by
 simp only[allFit,List.all_eq_true,List.mem_range];exact⟨λh i j b a=>h i b j a,λh i b j a=>h i j b a⟩
def okF(r:Nat)(len:Nat->Nat)(M:Nat->Nat->Int):Bool:=kF r len&&allFit r (len 0) M
def Ow(w:World)(ok:Bool)(r c:Nat)(M:Nat->Nat->Int)(v:Value)(w':World):Prop:=
 if ok then ∃u,v=.tuple #[u,.bool true]/\RZ w r c M u w' else Ext w w'/\v=.tuple #[.slice none 0 0,.bool false]
theorem DJ{w w':World}{ok:Bool}{r c:Nat}{M:Nat->Nat->Int}(h:ok=false)(a:Ext w w'):Ow w ok r c M (.tuple #[.slice none 0 0,.bool false]) w':=by
 subst h;unfold Ow;rw[aa aw];exact⟨a,F⟩
theorem H8{z:Int}(h:fits z=true):clip z=z:=by unfold clip;rw[ab h]
theorem EZ(v:Value)(r:Nat)(len:Nat->Nat)(M:Nat->Nat->Int)(w:World)(h:ke w v r len M):
 aT Tryz.prog 120 #[v] w λv' b=>w=b/\v'=ky r len:=by
 obtain⟨A,c,rfl,s,s,a⟩:=h;refine bo (n:=40) Tryz.func120 F rfl az aA ?_;refine gg ?_;refine aN ?_;by_cases s:r<1
 ·refine gg ?_;refine jG (v:=.int _ _) (v':=.int _ _) (v'':=.bool _) F rfl rfl rfl ⟨F,?_⟩;rw[dG (λe=>by have:=cD.1 e;omega)]
 by_cases s:16<r
 ·refine gg ?_;refine jG (v:=.int _ _) (v':=.int _ _) (v'':=.bool _) F rfl rfl rfl ⟨F,?_⟩;rw[dG (λe=>by have:=cD.1 e;omega)]
 obtain⟨j,u,rfl,f,m,d,rfl,s⟩:=a 0 aq;have s:w.cell? (j.add (((0:Nat):Nat)*1))=some (.slice m (len 0) d):=f;refine gg ?_;refine aN ?_;by_cases d:len 0<1
 ·refine gg ?_;refine jG (v:=.int _ _) (v':=.int _ _) (v'':=.bool _) F rfl rfl rfl ⟨F,?_⟩;rw[dG (λe=>by have:=cD.1 e;omega)]
 by_cases d:16<len 0
 ·refine gg ?_;refine jG (v:=.int _ _) (v':=.int _ _) (v'':=.bool _) F rfl rfl rfl ⟨F,?_⟩;rw[dG (λe=>by have:=cD.1 e;omega)]
 refine gg ?_;refine aN ?_;refine gg ?_;refine aU (λm f b=>w=b/\∃i,m=r-i/\i<=r/\f 0=.slice (some j) r c/\f 5=.int .i64 ((len 0:Nat):Int)/\f 26=.slice (some j) r c/\f 27=.int .i64 (r:Int)/\f 28=.int .i64 ((i:Nat):Int)/\∀k,k<i->len k=len 0)
  r ⟨F,0,F,aE,F,F,F,F,F,λk g=>absurd g aq⟩ ?_
 rintro m f b ⟨rfl,i,rfl,b,m,f,d,c,b,g⟩;rw[ui m,ui f,ui d,ui c,ui b];clear m f d c b;by_cases o:i<r
 ·obtain⟨q,u,e,b,b,b,rfl,b⟩:=a i o;obtain rfl:j=q:=Option.some.inj e;by_cases l:len i=len 0
  ·refine gg ?_;refine⟨_,?_,F,i+1,F,aq,F,F,F,F,F,λk p=>?_⟩
   ·omega
   ·rcases Nat.lt_succ_iff_lt_or_eq.1 p with h|h
    ·exact g k h
    ·rw[h];exact l
  ·refine gg ?_;refine jG (v:=.int _ _) (v':=.int _ _) (v'':=.bool _) F rfl rfl rfl ⟨F,?_⟩;rw[dG λe=>l ((cD.1 e).2 i o)]
 ·refine gg ?_;refine jG (v:=.int _ _) (v':=.int _ _) (v'':=.bool _) F rfl rfl rfl ⟨F,?_⟩;rw[js (cD.2 ⟨⟨aq,aq,aq,aq⟩,λk p=>g k aq⟩)]
theorem xJ(i j g r c:Nat)(d:Value)(X:Nat->Nat->Int)(w:World)(o:bg w g 32 #[d])
 (m:ke w d r (λ_=>c) X) (l:i<r) (k:j<c):
 aT Tryz.prog 121 #[.int .i64 (i:Int),.int .i64 (j:Int),.pointer (some ⟨g,0,none⟩)] w (RI w (X i j)):=by
 refine bo (n:=14) Tryz.func121 F rfl az aA ?_;refine gg ?_;refine aS (.inl F) a_ ?_;intro f d a g;have h:Bx f w.heap.size 1 true 0:=Bx.zero true d;have d:=iY (o.Y a);obtain⟨A,d,rfl,_,_,b⟩:=m.Y a;obtain⟨d,u,rfl,d,d,d,rfl,_,_,e⟩:=b i l;obtain⟨b,rfl,b,d,b⟩:=e j k;refine gg ?_;refine aJ (du _ f d b) ?_;rintro _ e ⟨e,f,f,rfl,f⟩;refine gg ?_;refine aL (.inl F) F rfl (h.Y e) (f.ev true (N:=2) (CD d b)) ?_;intro b b d f f;refine gg ?_;obtain⟨x,y,g,f⟩:=b;exact eZ F aQ F g ⟨d.aK (a.trans e) λb a=>aq,x,y,F,f.2 F⟩
theorem ke.sq{w:World}{v:Value}{r c:Nat}{len:Nat->Nat}{M:Nat->Nat->Int}(h:ke w v r len M)(f:∀i,i<r->len i=c):ke w v r (λ_=>c) M:=by
 obtain⟨A,a,e,d,b,g⟩:=h;refine⟨A,a,e,d,b,λi b=>?_⟩;obtain⟨h,u,e,d,a⟩:=g i b;rw[f i b]at a;exact⟨h,u,e,d,a⟩
theorem rE(c:Value)(r:Nat)(len:Nat->Nat)(X:Nat->Nat->Int)(w:World)(g:ke w c r len X):
 aT Tryz.prog 55 #[c] w (oq w (kF r len) r (len 0) X):=by
 obtain⟨d,d,h,_⟩:=id g;refine bo (n:=19) Tryz.func55 F rfl az aA ?_;refine gg ?_;refine bO (v:=c) (.inl F) F ?_;intro f d b i;have e:bg f w.heap.size 32 #[c]:=by rw[h]at d⊢;exact d
 have d:=iY e;refine gg ?_;refine aJ (EZ c r len X f (g.Y b)) ?_;rintro _ _ ⟨rfl,rfl⟩;obtain⟨k,d,d,h,d⟩:=df r len;rw[h];rcases d with⟨a,rfl,rfl,rfl⟩|⟨a,rfl,rfl,rfl⟩
 ·obtain⟨⟨i,d,l,j⟩,h⟩:=cD.1 a;refine gg ?_;refine aN ?_;refine gg ?_;refine jD ?_;refine gg ?_;refine aJ (lW k (len 0) _ _ X f aq aq λi j m l f d=>xJ i j w.heap.size k (len 0) c X f (e.Y d) ((g.Y (b.trans d)).sq h) m l) ?_;rintro v c c;have d:=c;obtain⟨_,e,gs,rfl,_⟩:=d;refine gg ?_;exact cU (v:=.slice _ _ _) (v':=.bool _) F rfl rfl (wW a b c)
 ·refine gg ?_;refine aN ?_;refine gg ?_;exact cU (v:=.slice _ _ _) (v':=.bool _) F rfl rfl (jQ a b)
theorem EE(r c g p:Nat)(cap:List Value)(Z:Nat->Nat->Int)(N:Nat->Nat->Bool)(w:World)(z:r<1073741824)(z:c<1073741824)(A:bg w p 4 #[.bool true])
 (hf:∀i j b,i<r->j<c->∀l,Ch (λq=>q=p) w l->bg l p 4 #[.bool b]->aT Tryz.prog g (.int .i64 ((i:Nat):Int)::.int .i64 ((j:Nat):Int)::cap).toArray l λv z=>v=.int .i64 (Z i j)/\bg z p 4 #[.bool (b&&N i j)]/\Ch (λq=>q=p) l z):
 aT Tryz.prog 88 #[.int .i64 (r:Int),.int .i64 (c:Int),.func (.func g) #[] cap.toArray] w λv l=>Ch (λq=>q=p) w l/\(∃b,bg l p 4 #[.bool b]/\(b=true↔∀i j,i<r->j<c->N i j=true))/\∃s d,v=.slice (some ⟨s,0,none⟩) r r/\w.heap.size<=s/\(∀i,i<r->w.heap.size<=d i)/\ia l s d r c Z:=by
 have z:=A.lt;refine bo (n:=43) Tryz.func88 F rfl az aA ?_;refine gg ?_;refine cJ iS (.inl F) F rfl aD aq aq ?_;intro Q z P U;obtain⟨s,L⟩ : ∃g,g=w.heap.size:=⟨_,F⟩;rw[<-L]at z⊢;have R:dZ 113 Q s r 0 c (λ_=>0):=fe z;clear z;refine gg ?_;refine aY (λf l=>∃d,f 7=.slice (some ⟨s,0,none⟩) r r/\Ch (λq=>q=p) w l/\ia l s d r c Z/\(∀k,k<r->s<d k)/\∃b,bg l p 4 #[.bool b]/\(b=true↔∀i j,i<r->j<c->N i j=true)) ?_ ?_
 ·refine gg ?_;refine aU (λm f l=>∃i d b,m=r-i/\i<=r/\f 1=.int .i64 (c:Int)/\f 2=.func (.func g) #[] cap.toArray/\f 7=.slice (some ⟨s,0,none⟩) r r/\f 13=.int .i64 (r:Int)/\f 14=.int .i64 ((i:Nat):Int)/\Ch (λq=>q=p) w l/\dZ 113 l s r i c d/\(∀k,k<i->fi l (d k) c (Z k)/\s<d k)/\(∀k M,k<i->M<i->d k=d M->k=M)/\bg l p 4 #[.bool b]/\(b=true↔∀a q,a<i->q<c->N a q=true))
   r ⟨0,λ_=>0,true,rfl,aE,rfl,rfl,rfl,rfl,rfl,P.ch,R,λk o=>absurd o aq,λk M o=>absurd o aq,A.Y P,aA⟩ ?_
  clear P R U;rintro m f w2 ⟨i,d,b,rfl,hi,K,J,y,E,D,u,I,x,S,G,H⟩;rw[ui K,ui J,ui y,ui E,ui D];clear K J y E D;by_cases O:i<r
  ·have z:=I.lt;refine gg ?_;refine cJ fS (.inl F) F rfl aD aq aq ?_;intro z A z a7;have Q:=lM A;obtain⟨C,L⟩ : ∃g,g=w2.heap.size:=⟨_,F⟩;rw[<-L]at Q⊢;clear A;refine gg ?_;refine dI (aX F) (.inl F) F rfl (I.Y z) O ?_;intro Y ⟨_,L⟩ A T T;have L:=L F;have T:=L.at (k:=i) aq O;rw[show cC d i C i=C by simp[cC]]at T;have X:fi Y C c _:=bg.ch Q A aq;have a1:Ch (λq=>q=p) w Y:=by
    refine⟨A.os.trans (z.os.trans u.os),A.tape.trans (z.tape.trans u.tape),A.output.trans (z.output.trans u.output),by have:=u.size;omega,λq B hn=>?_⟩;have h2:=u.size;rw[A.block q aq aq,z.mb aq,u.block q B hn]
   have a6:s<C:=aq;have t:∀k,k<i->fi Y (d k) c (Z k)/\s<d k/\d k<C:=λk o=>by
    obtain⟨a,b⟩:=x k o;have Y:d k<w2.heap.size:=bg.lt a;exact⟨bg.ch (bg.Y a z) A aq,b,aq⟩
   have Y:=(G.Y z).ch A aq;clear I x u Q A z a7 G;refine gg ?_;refine aU (λm f l=>∃j b,m=c-j/\j<=c/\f 1=.int .i64 (c:Int)/\f 2=.func (.func g) #[] cap.toArray/\f 7=.slice (some ⟨s,0,none⟩) r r/\f 13=.int .i64 (r:Int)/\f 14=.int .i64 (i:Int)/\f 8=.int .i64 (i:Int)/\f 26=.int .i64 (c:Int)/\f 27=.int .i64 ((j:Nat):Int)/\Ch (λq=>q=p) w l/\dZ 113 l s r (i+1) c (cC d i C)/\(∀k,k<i->fi l (d k) c (Z k))/\fi l C c (λq=>if q<j then Z i q else 0)/\bg l p 4 #[.bool b]/\(b=true↔(∀a q,a<i->q<c->N a q=true)/\∀q,q<j->N i q=true))
    c ⟨0,b,F,aE,F,F,F,F,F,F,F,F,a1,L,λk o=>(t k o).1,X.congr λ_ _=>by rw[aa aq],Y,by rw[H];simp⟩ ?_
   clear a1 L X T Y H;rintro m f l ⟨j,b',rfl,l,K,J,y,E,D,z,m,l,u,I,W,V,G,H⟩;rw[ui K,ui J,ui y,ui E,ui D,ui z,ui m,ui l];clear K J y E D z m l;by_cases z:j<c
   ·refine gg ?_;refine mN (λq=>q=p) [(0,3),(1,3),(2,3),(3,0),(4,3),(5,3),(6,3),(7,3),(8,1),(9,3),(10,2)] mixed az λA l _=>?_;have m:=(I.Y l).at (k:=i) aq O;rw[show cC d i C i=C by simp[cC]]at m;refine gg ?_;refine eQ aw (aX F) F m (by show¬s=p;omega) ?_;refine gg ?_;refine rf (.inr F) F rfl rfl (hf i j b' O z A (u.trans l.ch) (G.Y l)) ?_;rintro _ D ⟨rfl,J,z⟩;refine⟨λ_=>z,?_⟩;have m:fi D C c _:=bg.ch (bg.Y V l) z aq;refine gg ?_;refine bZ (aX F) (.inl F) F rfl m (by rw[bf];omega) ?_;intro L A m E;have E:=fi.set A;have K:Ch (λq=>q=p) w L:=by
     have A:Ch (λq=>q=p) w D:=(u.trans l.ch).trans z;refine⟨m.os.trans A.os,m.tape.trans A.tape,m.output.trans A.output,by have:=A.size;omega,λq B hn=>?_⟩;have h2:=A.size;rw[m.block q aq aq,A.block q B hn]
    refine gg ?_;refine⟨_,?_,j+1,b'&&N i j,F,aq,F,F,F,F,F,F,F,F,K,((I.Y l).kp z aq).kp m aq,λk o=>bg.ch (bg.ch (bg.Y (W k o) l) z (by have:=(t k o).2;omega)) m (by have:=(t k o).2.2;omega),E.congr λq _=>?_,J.ch m aq,?_⟩
    ·omega
    ·simp only[ef];by_cases e:q=j
     ·rw[ab e,ab aq,e]
     ·rw[aa e];by_cases l:q<j
      ·rw[ab l,ab aq]
      ·rw[aa l,aa aq]
    ·rw[Bool.and_eq_true,H];refine⟨λh=>⟨h.1.1,λq B=>?_⟩,λh=>⟨⟨h.1,λq B=>h.2 q aq⟩,h.2 j aq⟩⟩;by_cases e:q=j
     ·subst e;exact h.2
     ·exact h.1.2 q aq
   ·obtain rfl:j=c:=aq;refine gg ?_;refine⟨_,?_,i+1,cC d i C,b',F,aq,F,F,F,F,F,u,I,λk o=>?_,λk M o j e=>?_,G,?_⟩
    ·omega
    ·by_cases e:k=i
     ·subst e;simp only[cC,if_true];exact⟨V.congr λb G=>by rw[ab G],a6⟩
     ·simp only[cC,aa e];exact⟨W k aq,(t k aq).2.1⟩
    ·simp only[cC]at e;split at e<;>split at e
     ·omega
     ·have:=(t M aq).2.2;omega
     ·have:=(t k aq).2.2;omega
     ·exact S k M aq aq e
    ·rw[H];refine⟨λh a q j B=>?_,λh=>⟨λa q j B=>h a q aq B,λq B=>h i q aq B⟩⟩;by_cases e:a=i
     ·subst e;exact h.2 q B
     ·exact h.1 a q aq B
  ·refine gg ?_;obtain rfl:i=r:=aq;exact⟨d,F,u,⟨I.full,λk o=>(x k o).1,λk o=>by have:=(x k o).2;omega,S⟩,λk o=>(x k o).2,b,G,H⟩
 clear P R U;rintro f w2 ⟨d,y,u,b,a,G⟩;rw[ui y];clear y;refine gg ?_;exact bF (v:=.slice _ _ _) F rfl ⟨u,G,s,d,F,aq,λi hi=>by have:=a i hi;omega,b⟩
theorem BM(i j k g r c N:Nat)(b:Bool)(h:Value)(X:Nat->Nat->Int)(w:World)(y:bg w k 25 #[h])(x:bg w g 4 #[.bool b])
 (t:cB (EI N) w h r (λ_=>c) X) (s:i<r) (p:j<c) (u:N<1099511627776):
 aT Tryz.prog 89 #[.int .i64 (i:Int),.int .i64 (j:Int),.pointer (some ⟨k,0,none⟩),.pointer (some ⟨g,0,none⟩)] w λv h=>v=.int .i64 (clip (X i j))/\bg h g 4 #[.bool (b&&fits (X i j))]/\Ch (λq=>q=g) w h:=by
 refine bo (n:=25) Tryz.func89 F rfl az aA ?_;have g:=iY y;obtain⟨g,g,g,rfl,g,m⟩:=t.at s;obtain⟨g,g,g,g,rfl,g,g,g⟩:=m.at p;refine gg ?_;refine aJ (z7 _ _ _ N w g u) ?_;rintro _ g ⟨e,rfl⟩;have d:=x.Y e;have g:=iY d;refine gg ?_;cases b with
 |true=>
  refine gg ?_;refine q8 (aX F) (.inl F) F rfl d aw ?_;intro o a f l;refine gg ?_;exact bF (v:=.int _ _) F rfl ⟨F,a,e.ch.trans f⟩
 |false=>
  refine gg ?_;refine q8 (aX F) (.inl F) F rfl d aw ?_;intro o a f l;refine gg ?_;exact bF (v:=.int _ _) F rfl ⟨F,a,e.ch.trans f⟩
theorem LS:fo Tryz.prog 4 (.bool false):=by unfold fo;kernel_rfl
theorem cB.Pt{w w':World}{v:Value}{r N b:Nat}{len:Nat->Nat}{M:Nat->Nat->Int}(h:cB (EI N) w v r len M){a:World}(c:Ext w a)(d:w.heap.size<=b)(d:Ch (λq=>q=b) a w'):cB (EI N) w' v r len M:=
 h.Y (d.aK c λb a=>aq)
theorem EO(f:Value)(r N:Nat)(len:Nat->Nat)(X:Nat->Nat->Int)(w:World)(z:cB (EI N) w f r len X)(M:N<1099511627776):
 aT Tryz.prog 37 #[f] w (Ow w (okF r len X) r (len 0) X):=by
 obtain⟨a,a,g,_⟩:=id z;refine bo (n:=23) Tryz.func37 F rfl az aA ?_;refine gg ?_;refine bO (v:=f) (.inl F) F ?_;intro o a s C;have t:bg o w.heap.size 25 #[f]:=by rw[g]at a⊢;exact a
 have a:=iY t;refine gg ?_;refine aJ (jr _ f r len X o (z.Y s)) ?_;rintro _ _ ⟨rfl,rfl⟩;obtain⟨p,a,C,a,O⟩:=df r len;rw[a];refine gg ?_;refine aS (.inl F) LS ?_;intro J a r E;obtain⟨k,D⟩ : ∃g,g=o.heap.size:=⟨_,F⟩;rw[<-D]at a⊢;have a:bg J k 4 #[.bool false]:=a;refine gg ?_;refine q8 (aX F) (.inl F) F rfl a aw ?_;intro u d g D;have d:bg u k 4 #[.bool C]:=d;have m:Ext o u:=g.aK r λb y=>aq;have e:=s.trans m;have B:=iY d;clear a g r E D;rcases O with⟨c,rfl,rfl,rfl⟩|⟨c,rfl,rfl,rfl⟩;rotate_left
 ·refine gg ?_;refine aN ?_;refine gg ?_;exact cU F rfl rfl (DJ (by unfold okF;rw[c];rfl) e)
 obtain⟨⟨o,g,s,r⟩,a⟩:=cD.1 c;have r:=z.sq a;have g:w.heap.size<=k:=aq;refine gg ?_;refine aN ?_;refine gg ?_;clear B;refine jD ?_;refine gg ?_;refine aJ (EE p (len 0) _ k _ (λi j=>clip (X i j)) (λi j=>fits (X i j)) u aq aq d λi j b h x o a d=>BM i j w.heap.size k p (len 0) N b f X o ((t.Y m).ch a aq) d (r.Pt e g a) h x M) ?_;rintro v I ⟨H,⟨b,y,l⟩,Q,P,rfl,a,G,L⟩;have q:Ext w I:=H.aK e λb y=>aq;have a:=e.size;have B:=iY y;have A:okF p len X=b:=by
  unfold okF;rw[c,Bool.true_and];cases b with
  |true=>exact o9.2 (l.1 rfl)
  |false=>
   cases K:allFit p (len 0) X with
   |false=>rfl
   |true=>have:=l.2 (o9.1 K);cases this
 rw[A];cases b with
 |false=>
  refine gg ?_;refine aN ?_;refine gg ?_;exact cU F rfl rfl (DJ F q)
 |true=>
  refine gg ?_;refine aN ?_;refine gg ?_;refine cU (v:=.slice _ _ _) (v':=.bool _) F rfl rfl ?_;unfold Ow;rw[ab F];exact⟨_,F,q,Q,P,F,aq,λi h=>by have:=G i h;omega,L.congr λi j h x=>H8 (l.1 rfl i j h x)⟩
