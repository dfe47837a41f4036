import Derived.Test.YtmfndnlifgphjaaGreatDoorQzQ
import Derived.Lib.MinMax
set_option maxHeartbeats 64000000
open Go.Proofs.YtmfndnlifgphjaaGreatDoor
namespace Go.Se
open Go.aW Go.Sm
def Hu(D Q c u:Nat):Prop:=(u=0/\c=0)\/∃P,P∣D/\((c=0/\Q<P/\u<=2*(200-JQ D P))\/(c=1/\Q=P/\u+1<=2*(200-JQ D P)))
theorem pU{D P:Nat}(a:0<D)(h:P∣D):JQ D P<=199:=by
 unfold JQ;split
 ·omega
 ·have:1<=D/P:=Nat.div_pos (Nat.le_of_dvd a h) aq;omega
theorem E9{D P a:Nat}(e:0<D)(d:D<=10000)(h:P∣D)(h':a∣D)(f:a<=P):JQ D a<=JQ D P:=by
 rcases Nat.lt_or_ge a P with b|b
 ·exact Nat.le_of_lt (xk e d h h' b)
 ·have:a=P:=aq;rw[this];exact Nat.le_refl _
section
variable {D Q c u P:Nat}
theorem Hu.le(h:Hu D Q c u):u<=400:=by
 rcases h with⟨h,_⟩|⟨P,_,⟨_,_,h⟩|⟨_,_,h⟩⟩<;>omega
theorem Hu.rows{a:Nat}(h:Hu D Q c u)(b:a<Q):Hu D a 0 u:=by
 rcases h with⟨h,_⟩|⟨P,hP,⟨_,h1,h2⟩|⟨_,h1,h2⟩⟩
 ·exact .inl ⟨h,F⟩
 ·exact .inr ⟨P,hP,.inl ⟨F,aq,h2⟩⟩
 ·exact .inr ⟨P,hP,.inl ⟨F,aq,aq⟩⟩
theorem Hu.FH{f:Nat}(h:Hu D Q c u)(d:0<D)(e:D<=10000)(b:P∣D)(g:P<=Q)(g:f<P):Hu D f 0 (u+1):=by
 have f:=pU d b;refine .inr ⟨P,b,.inl ⟨F,g,?_⟩⟩;rcases h with⟨h,_⟩|⟨f,a,⟨_,h1,h2⟩|⟨_,h1,h2⟩⟩
 ·omega
 ·have:=xk d e a b aq;have:=pU d a;omega
 ·have:=E9 d e a b aq;omega
theorem Hu.add(h:Hu D Q c u)(b:0<D)(e:D<=10000)(d:P∣D)(g:P<=Q)(f:c=1->P<Q):Hu D P 1 (u+1):=by
 have g:=pU b d;refine .inr ⟨P,d,.inr ⟨F,F,?_⟩⟩;rcases h with⟨h,_⟩|⟨g,a,⟨_,h1,h2⟩|⟨h0,h1,h2⟩⟩
 ·omega
 ·have:=xk b e a d aq;have:=pU b a;omega
 ·have:=f h0;have:=xk b e a d aq;have:=pU b a;omega
end
theorem Sz.Pq{n k a P0 C0 b Q c:Nat}{M:Mt}(h:Sz n k a P0 C0 b Q c M)(d:1<=a):b*a^(P0-Q)*2^(C0-Q+c)<=b*a^(P0-1)*2^(C0-1):=by
 have b:1<=Q:=by
  obtain⟨i,j,_,_,_,_,b,b⟩:=h.ex;omega
 have f:C0-Q+c<=C0-1:=by
  rcases h.hc with b|⟨b,b,b,_,j,_,_,g⟩
  ·omega
  ·have:Q≠1:=λe=>g (by
    have:M k k=1\/M k k=-1:=aq;rcases this with e|e<;>rw[e]
    ·exact Int.one_dvd _
    ·exact Int.neg_dvd.2 (Int.one_dvd _))
   omega
 exact Nat.mul_le_mul (Nat.mul_le_mul_left _ (Nat.pow_le_pow_right d aq)) (Nat.pow_le_pow_right aw f)
theorem Ie{n k E a X:Nat}{M:Mt}(d:Dg n k M)(g:k<=n)(b:(aO n M).natAbs=a)(e:0<a)(f:a<=2^E)(l:Tm n k X M)(a:X<=2^E):Bz n E M:=λi j i h=>
 Nd d (l.mono a) (λt a=>Nat.le_trans (Nat.le_of_dvd e (by rw[<-b];exact Int.natAbs_dvd_natAbs.2 (AG d g a))) f) i h
structure qz(n t:Nat)(A:Mt)(L b:Nat)(D U V:Mt):Prop where
 sg:Sg n t D
 eqv:iM n A D
 tm:Tm n t L D
 rel:∃W,Rel n U A D W/\Bz n b V/\Bz n b W
theorem qz.mono{n t L e b d:Nat}{A D U V:Mt}(h:qz n t A L b D U V)(f:L<=e)(a:b<=d):qz n t A e d D U V:=by
 obtain⟨W,g,e,d⟩:=h.rel;exact⟨h.sg,h.eqv,h.tm.mono f,W,g,e.mono a,d.mono a⟩
theorem Sg.congr{n k:Nat}{M M':Mt}(h:Sg n k M)(e:∀i j,i<n->j<n->M i j=M' i j)(a:k<=n):Sg n k M':=
 ⟨λi j d b f a=>by rw[<-e i j d b];exact h.dg i j d b f a,λt a=>by rw[<-e t t aq aq];exact h.nn t a,λt a=>by rw[<-e t t aq aq,<-e _ _ aq aq];exact h.dv t a,
  λt a i j d g b f=>by rw[<-e t t aq aq,<-e i j g f];exact h.da t a i j d g b f⟩
end Go.Se
namespace Go.Proofs.Qq
open Go Go.cW Go.c7 Go.Proofs Go.Se
open Go.aW (aO fY)
open Go.Sm (sx cR red eK uM Sg Dg kP iM)
theorem vV{E N:Nat}{z:Int}(h:z.natAbs<=2^E)(a:E<32*N):Bd N z:=by
 unfold Bd;have e:B^N=2^(32*N):=by
  show(4294967296:Nat)^N=2^(32*N);rw[Nat.pow_mul]
 rw[e];exact Nat.lt_of_le_of_lt h (Nat.pow_lt_pow_right aw a)
theorem Jq{n t:Nat}{D:Nat->Nat->Int}(g:Dg n t D)(f:Go.Sm.CLN n t D)(h:t<n){i j:Nat}(d:i<n)(b:j<n):kz (D t t) t D i j=kP D t i j:=by
 unfold kz kP;by_cases e:i=t
 ·subst e;by_cases a:j=i
  ·subst a;by_cases h:D j j<0
   ·rw[ab ⟨h,F⟩,ab ⟨F,F⟩];omega
   ·rw[aa λx=>h x.1,ab ⟨rfl,rfl⟩];omega
  ·rw[aa (show¬(i=i/\j=i)from λx=>a x.2)];have z:D i j=0:=by
    by_cases h:j<i
    ·exact g i j d b (.inr h) λx=>a x.symm
    ·exact f.2 j aq b
   rw[z];split<;>rfl
 ·rw[aa λx=>e x.2,aa λx=>e x.1]
theorem JB{n t:Nat}{U A D W:Nat->Nat->Int}{d:Int}(h:Rel n U A D W):Rel n (kz d t U) A (kz d t D) W:=λi j f b=>by
 have a:∀(X Y:Nat->Nat->Int),Go.aW.mul n (kz d t X) Y i j=(if d<0/\i=t then -1 else 1)*Go.aW.mul n X Y i j:=λX Y=>by
  show Go.aW.sm n _=_*Go.aW.sm n _;rw[<-Go.aW.dL];refine Go.aW.aR λk _=>?_;unfold kz;by_cases e:d<0/\i=t
  ·rw[ab e,ab e,e.2];grind
  ·rw[aa e,aa e];grind
 rw[a,a,h i j f b]
theorem ve{n t:Nat}{S:Nat->Nat->Int}(h:∀i,t<i->i<n->S i t%S t t=0):∀i,t<i->i<n->cR S t n i t=0:=λi b a=>by
 unfold cR;rw[ab ⟨b,a⟩,Go.Sm.mod_eq];exact h i b a
theorem FG{n t:Nat}{S:Nat->Nat->Int}(h:∀j,t<j->j<n->cR S t n t j%cR S t n t t=0):∀j,t<j->j<n->red S t n t j=0:=λj b a=>by
 rw[Go.Sm.w_ S b a];have:=h j b a;rwa[Go.Sm.iK,Go.Sm.iK]at this
theorem BZ{n t:Nat}{S:Nat->Nat->Int}(h:∀i,t<i->i<n->S i t%S t t=0):∀i,t<i->i<n->red S t n i t=0:=λi b a=>by
 rw[Go.Sm.GQ S b a];exact h i b a
theorem kv{n t a P0 C0 l E aI d cA C ND NU NV:Nat}{A D U V:Nat->Nat->Int}(an:n<=4)(f:t<n)(G:(aO n A).natAbs=C)(N:0<C)(bc:C<=10000)
 (bl:∀P,P<=P0->P∣C->P<=C0) (ha:n-(t+1)<=a) (w:1<=a) (hE:a*(l*a^P0*2^(C0+1))<=2^E) (ay:C<=2^E) (hF:E+3<=aI\/t+1=n) (hJ:Bz n cA (fY (n-1) A))
 (av:E<32*ND) (b8:E+(d+aI*401)+cA+4<32*NU) (bA:d+aI*401<32*NV) (hS:qz n t A l d D U V) (bt:∃i j,t<=i/\i<n/\t<=j/\j<n/\D i j≠0/\(D i j).natAbs<=P0):
 ∃(q:Nat) (Inv:Nat->(Nat->Nat->Int)->(Nat->Nat->Int)->(Nat->Nat->Int)->Prop) (X:(Nat->Nat->Int)->(Nat->Nat->Int)->(Nat->Nat->Int)->Prop),Inv q D U V/\
  (∀q D U V,Inv q D U V->(∃i j,t<=i/\i<n/\t<=j/\j<n/\D i j≠0)/\∀p c,uM n t D p c->ID n t ND NU NV q Inv X (Go.Sm.swp D t p c) (λi j=>U (sx t p i) j) λi j=>V i (sx t c j))/\
  ∀o U' V',X o U' V'->qz n (t+1) A (l*a^(P0-1)*2^(C0-1)) (d+aI*401) (kz (o t t) t o) (kz (o t t) t U') V':=by
 have b4:1<=n:=aq;refine⟨2*P0+1,λq D U V=>∃Q c u W,q=2*Q+1-c/\Sz n t a P0 C0 l Q c D/\Sg n t D/\iM n A D/\Rel n U A D W/\Bz n (d+aI*u) V/\Bz n (d+aI*u) W/\Hu C Q c u,
  λo U' V'=>Sg n t o/\Go.Sm.CLN n t o/\(∀i j,t<i->i<n->t<j->j<n->o t t∣o i j)/\iM n A o/\Tm n t (l*a^(P0-1)*2^(C0-1)) o/\∃W,Rel n U' A o W/\Bz n (d+aI*401) V'/\Bz n (d+aI*401) W,?_,?_,?_⟩
 ·obtain⟨W,B,h2,X⟩:=hS.rel;refine⟨P0,0,0,W,F,⟨hS.tm.mono ?_,aD,bt,.inl F⟩,hS.sg,hS.eqv,B,h2.mono aq,X.mono aq,.inl ⟨F,F⟩⟩;rw[Nat.sub_self,Nat.pow_zero,Nat.mul_one];exact Nat.le_mul_of_pos_right _ (Nat.pow_pos aw)
 ·rintro q D U V ⟨Q,c,u,W,rfl,hZ,R,a8,hR,hV,hW,hH⟩;obtain⟨i0,j0,x1,x2,x3,X,q,_⟩:=hZ.ex;refine⟨⟨i0,j0,x1,x2,x3,X,q⟩,λp I x=>?_⟩;have hp:=x.kO;have h:=x.o6;have q:=hH.le;have b6:(aO n D).natAbs=C:=by rw[j9 a8];exact G
  obtain⟨S,T⟩ : ∃S,S=Go.Sm.swp D t p I:=⟨_,F⟩;have a7:=hR.swp (p:=p) (c:=I) f hp h;have a6:=hV.OO (k:=t) (p:=I) f h;have O:=hW.OM (k:=t) (p:=I) f h;rw[<-T]at a7⊢;generalize (λi j=>U (sx t p i) j)=Us at a7⊢;generalize (λi j=>V i (sx t I j))=Vs at a6⊢;generalize (λi j=>W (sx t I i) j)=Y at a7 O;have hT:=hZ.tm.swp x.hp hp x.hc h;have ax:=R.dg.swp f x.hp hp x.hc h;have b5:(aO n S).natAbs=C:=by rw[T,j9 (Go.Sm.xO D f hp h)];exact b6
  rw[<-T]at hT ax;have q:=hZ.le w;have bj:=hZ.Pq w;have hx:S t t≠0:=by
   have e:S t t=D p I:=by rw[T];simp only[Go.Sm.swp,Go.Sm.Jf]
   rw[e];exact x.nz
  have ak:∀{X},X<=a*(l*a^(P0-Q)*2^(C0-Q+c))->X<=2^E:=λh=>Nat.le_trans h (Nat.le_trans (Nat.mul_le_mul_left a q) hE);have h:l*a^(P0-Q)*2^(C0-Q+c)<=a*(l*a^(P0-Q)*2^(C0-Q+c)):=Nat.le_mul_of_pos_left _ w;have au:Rel n (iP Us S t n) A (cR S t n) Y:=a7.rows (g:=λi=>if t<i/\i<n then S i t/S t t else 0) f (λi j _ _=>by
   unfold iP;by_cases e:t<i/\i<n
   ·rw[ab e,ab e]
   ·rw[aa e,aa e,Int.zero_mul,Int.sub_zero]) λi j _ _=>Go.Sm.mq S t n i j
  have l:(aO n (cR S t n)).natAbs=C:=by rw[j9 (Go.Sm.nM S f)];exact b5
  have aj:Bz n E (cR S t n):=Ie (ax.cR f) aq l N ay (hT.cR f ha w hx) (ak aD);have l:Bz n (d+aI*401) Y:=O.mono (by have:=Nat.mul_le_mul_left aI (show u<=401 by omega);omega);have bB:Bz n (E+(d+aI*401)+cA+4) (iP Us S t n):=au.bd an b4 (by intro e;rw[e]at G;simp at G;omega) aj l hJ;have ar:Rel n (iP Us S t n) A (red S t n) (rV Y (cR S t n) t n):=au.FH f;have ai:∀H,u+1<=H->Bz n (d+aI*H) (jy Vs (cR S t n) t n):=λH al=>by
   rcases hF with hF|hF
   ·refine(a6.jy f aj).mono ?_;have:=Nat.mul_le_mul_left aI al;rw[Nat.mul_succ]at this;omega
   ·have e:jy Vs (cR S t n) t n=Vs:=by
     funext i j;unfold jy;rw[aa aq]
    rw[e];exact a6.mono (by have:=Nat.mul_le_mul_left aI (show u<=H by omega);omega)
  have ae:∀H,u+1<=H->Bz n (d+aI*H) (rV Y (cR S t n) t n):=λH al=>by
   rcases hF with hF|hF
   ·refine(O.rV an f aj).mono ?_;have:=Nat.mul_le_mul_left aI al;rw[Nat.mul_succ]at this;omega
   ·refine λi j s r=>?_;have e:rV Y (cR S t n) t n i j=Y i j:=by
     unfold rV;by_cases e:i=t
     ·rw[ab e,e,Go.aW.fK λl h=>by rw[aa aq],Int.add_zero]
     ·rw[aa e]
    rw[e];exact O.mono (by have:=Nat.mul_le_mul_left aI (show u<=H by omega);omega) i j s r
  have bu:(aO n (red S t n)).natAbs=C:=by rw[j9 (Go.Sm.r9 S f)];exact b5
  have b:=λ{M' kd} (m:Ot n t S M' kd)=>hZ.round (M':=M') (kd:=kd) R.dg b6 bl ha w x (by rw[<-T];exact m);have Z:=λ{M' kd} (m:Ot n t S M' kd)=>Ot.sg (M':=M') (kd:=kd) (p:=p) (c:=I) (M:=D) (by rw[<-T];exact m) x R;have L:=λ{M' kd} (m:Ot n t S M' kd)=>a8.trans (Ot.eqv (M':=M') (kd:=kd) (p:=p) (c:=I) (M:=D) (by rw[<-T];exact m) x);have b1:=(hZ.Ph x).2;have z:(∀i,t<i->i<n->S i t%S t t=0)->(∀j,t<j->j<n->cR S t n t j%cR S t n t t=0)->Go.Sm.CLN n t (red S t n):=λB h2=>⟨BZ B,FG h2⟩;refine⟨λi j s r=>vV (aj i j s r) av,λi j s r=>vV (bB i j s r) b8,?_,?_,λ_ i j s r=>vV (ai 401 aq i j s r) bA,?_,?_,?_⟩
  ·rintro⟨i,s,h,a1⟩;have m:Ot n t S (cR S t n) 0:=.a ⟨i,s,h,by unfold cR;rw[ab ⟨s,h⟩,Go.Sm.mod_eq];exact a1⟩;rcases b m with⟨e,_⟩|⟨_,Q',c',y,hq,J⟩
   ·cases e
   rcases J with⟨_,rfl,b7⟩|⟨e,_⟩|⟨e,_⟩;rotate_left
   ·cases e
   ·cases e
   exact⟨_,hq,Q',0,u,Y,F,y,Z m,L m,au,a6,O,hH.rows aq⟩
  ·intro K i j s r;have B:=(hT.zo f hx (ve K)).h_ f ha w (by rw[Go.Sm.iK];exact hx);exact vV (Ie ((ax.cR f).h_ f) aq bu N ay B (ak aD) i j s r) av
  ·rintro K ⟨j,r,h,a1⟩;rw[Go.Sm.iK,Go.Sm.iK]at a1;have m:Ot n t S (red S t n) 1:=.b (ve K) ⟨j,r,h,by rw[Go.Sm.w_ S r h];exact a1⟩;rcases b m with⟨e,_⟩|⟨_,Q',c',y,hq,J⟩
   ·cases e
   rcases J with⟨e,_⟩|⟨_,rfl,b7,hP⟩|⟨e,_⟩
   ·cases e
   rotate_left
   ·cases e
   exact⟨_,hq,Q',0,u+1,_,F,y,Z m,L m,ar,ai _ aD,ae _ aD,hH.FH N bc hP b1 b7⟩
  ·intro K B i1 h aH v;rw[Go.Sm.wY]at v;have m:Ot n t S (eK (red S t n) t i1) 2:=.c i1 h aH (z K B) v;rcases b m with⟨e,_⟩|⟨_,Q',c',y,hq,J⟩
   ·cases e
   rcases J with⟨e,_⟩|⟨e,_⟩|⟨_,rfl,rfl,hP,bs⟩
   ·cases e
   ·cases e
   have l:=ar.eK f aH;have h:=Z m;have q:Bz n E (eK (red S t n) t i1):=Ie h.dg aq (by rw[j9 (L m)];exact G) N ay y.tm (Nat.le_trans (y.le w) (Nat.le_trans (Nat.le_mul_of_pos_left _ w) hE));have w:Bz n (E+(d+aI*401)+cA+4) (eK (iP Us S t n) t i1):=l.bd an b4 (by intro e;rw[e]at G;simp at G;omega) q (ae 401 aq) hJ;refine⟨λk J=>⟨vV (q t k f J) av,vV (w t k f J) b8⟩,_,hq,_,1,u+1,_,rfl,y,h,L m,l,ai _ aD,ae _ aD,hH.add N bc hP b1 bs⟩
  ·intro K B v;rw[Go.Sm.wY]at v;have m:Ot n t S (red S t n) 3:=.d (z K B) v;rcases b m with⟨_,bx,_⟩|⟨e,_⟩;rotate_left
   ·omega
   exact⟨Z m,z K B,λi j a b c d=>by rw[Go.Sm.wY];exact v i j a b c d,L m,bx.mono bj,_,ar,ai 401 aq,ae 401 aq⟩
 ·rintro o U' V' ⟨R,b,v,a8,hT,W,hR,hV,hW⟩;have e:∀i j,i<n->j<n->kP o t i j=kz (o t t) t o i j:=λi j s r=>(Jq R.dg b f s r).symm;refine⟨Sg.congr (Sg.next' R f b v) e f,(a8.trans (Go.Sm.HR o t b R.dg f)).congr e,((hT.sub (Nat.le_succ t)).kP).congr λi j _ s _ r=>e i j s r,W,JB hR,hV,hW⟩
end Go.Proofs.Qq
namespace Go.Proofs.Qq
section
open Go Go.cW Go.c7 Go.Proofs
open Go.aW (aO mul)
open Go.Hn (Hf)
theorem Nh:eP Tryz.prog 157 3=true:=by kernel_rfl
theorem OL:fo Tryz.prog 157 (.agg #[.slice none 0 0,.slice none 0 0,.slice none 0 0]):=by unfold fo;kernel_rfl
section
variable {n:Nat}{S:World->World->Prop}{k:Nat}{K:Fr->World->Prop}{f:Fr}{w:World}{d ty:Nat}{x y z:Operand}{pos:String}{aft:Array Edge}{gd:Option (Nat×Bool)}
theorem I1{A B C:Option Addr}{p q c b r a:Nat}(j:ev n f x=.slice A p q)(g:ev n f y=.slice B c b)(e:ev n f z=.slice C r a)(h:K (cg f d (.agg #[.slice A p q,.slice B c b,.slice C r a])) w):
 R1 Tryz.prog n S k ⟨some d,.build 157 #[(0,x),(1,y),(2,z)],ty,pos,aft,gd⟩ K f w:=by
 refine cH (v:=.agg #[.slice A p q,.slice B c b,.slice C r a]) (λw=>?_) h;have h:(#[(0,x),(1,y),(2,z)]:Array (Nat×Operand)).map (λ(i,x)=>(i,ev n f x))=#[(0,.slice A p q),(1,.slice B c b),(2,.slice C r a)]:=by simp[j,g,e]
 have g:(Value.slice A p q).cells=#[.slice A p q]:=F;have e:(Value.slice B c b).cells=#[.slice B c b]:=F;have b:(Value.slice C r a).cells=#[.slice C r a]:=F;have a:(Value.agg #[.slice none 0 0,.slice none 0 0,.slice none 0 0]).cells=#[.slice none 0 0,.slice none 0 0,.slice none 0 0]:=F;simp[execOp,h,Instr.build,run_underlying Tryz.underlying157,Instr.fill,g,e,b,a,cK n8]
theorem Ny{t e:Nat}{a b:Nat}(i:ev n f x=.int .i64 (a:Int))(g:ev n f y=.int .i64 (b:Int))(c:a=b)(h:K (cg f d (.int .i64 (a:Int))) w):
 R1 Tryz.prog n S k ⟨some d,.call { callee:=.builtin .min,args:=#[x,y],argTypes:=#[t,e] },ty,pos,aft,gd⟩ K f w:=by
 refine cH (v:=.int .i64 (a:Int)) (λw=>?_) h;subst c;simp[execOp,resolve,invoke,builtin,i,g,Go.Lib.run_min_ints]
end
theorem gi{G G':Prop}(h:G')(t:Gw G'->G:=by intro hgg;(repeat (first|refine ta ?_|(refine mT ?_;(first|refine dP eO rfl rfl (by omega) ?_|refine fh eO rfl rfl (by omega) ?_|refine jC eO rfl ?_|refine ku (by decide) (aX F) F (by assumption) ?_|refine l9 (by decide) aQ F (by assumption) (by assumption) ?_|refine aV HN rfl ?_|refine aV HM rfl ?_|refine aV HL rfl ?_|refine I1 rfl rfl rfl ?_|refine Ny rfl rfl rfl ?_))));exact hgg.out):G:=t ⟨h⟩
theorem qK{e:Value}{r c N:Nat}{X:Nat->Nat->Int}{w:World}(g:cB (EI N) w e r (λ_=>c) X)(l:N<1099511627776)(h1:1<=r)(q:r<=16)(p:1<=c)(o:c<=16):
 aT Tryz.prog 36 #[e] w λv j=>Ext w j/\∃a b,v=.tuple #[.slice (some ⟨a,0,none⟩) c c,.bool true]/\w.heap.size<=a/\(∀i,i<c->w.heap.size<=b i)/\iF j a b c r (λi j=>X j i):=
 (mh e r N _ X w g l).mono λ_ _ h=>by
  obtain⟨u,rfl,m,a,b,rfl,g,e,i⟩:=h.get (cD.2 ⟨⟨h1,q,p,o⟩,λ_ _=>rfl⟩);exact⟨m,a,b,F,g,e,i⟩
theorem iF.gm{w:World}{gO r c N:Nat}{gs:Nat->Nat}{M:Nat->Nat->Int}(h:iF w gO gs r c M)(hN:∀i j,i<r->j<c->Bd N (M i j))(hc:c<9223372036854775808):cF w gO gs (λ_=>c) r c true (λ_ _=>N) M:=
 ⟨h.outer,λi hi=>((h.wm true hN).row i hi).rg (Nat.le_refl c) hc,h.ne,h.inj⟩
def DG(n:Nat)(M e c:Nat->Nat->Int):Nat->Nat->Int:=λi j=>mul n (λa b=>mul n M e b a) c j i
structure EA(n:Nat)(M X1 X2:Nat->Nat->Int):Prop where
 h1:Hf n (mul n M X1)
 u1:aO n X1=1\/aO n X1=-1
 h2:Hf n (mul n (λa b=>mul n M X1 b a) X2)
 u2:aO n X2=1\/aO n X2=-1
theorem xi{p:Nat->Int}:∀{n i:Nat},(∀j,j<n->0<p j)->i<n->p i<=Go.Hn.jY n p
 |n+1,i,h,hi=>by
  simp only[Go.Hn.jY];have a:0<Go.Hn.jY n p:=Go.Hn.n7 λj b=>h j aq;have a:=h n aq;by_cases e:i=n
  ·rw[e];have a:=Int.mul_le_mul_of_nonneg_right (show(1:Int)<=Go.Hn.jY n p by omega) (show 0<=p n by omega);rw[Int.one_mul]at a;exact a
  ·have a:=xi (p:=p) (n:=n) (i:=i) (λj b=>h j aq) aq;have b:=Int.mul_le_mul_of_nonneg_left (show(1:Int)<=p n by omega) (show 0<=Go.Hn.jY n p by omega);rw[Int.mul_one]at b;exact Int.le_trans a b
theorem _root_.Go.Hn.Hf.le{n:Nat}{H:Nat->Nat->Int}(h:Hf n H){i j:Nat}(b:i<n)(c:j<n):(H i j).natAbs<=(aO n H).natAbs:=by
 rw[Go.Hn.od n H h.up];have e:=xi (p:=λi=>H i i) (n:=n) (i:=i) (λj c=>h.pos j c) b;have e:=h.pos i b;rcases Nat.lt_trichotomy i j with a|a|a
 ·rw[h.up i j b c a];exact Nat.zero_le _
 ·subst a;omega
 ·have:=h.red i j b a;omega
theorem nO{n:Nat}{M X:Nat->Nat->Int}(h:aO n X=1\/aO n X=-1):(aO n (mul n M X)).natAbs=(aO n M).natAbs:=by
 rw[Go.aW.iU,Int.natAbs_mul];rcases h with e|e<;>rw[e]<;>simp
theorem r_{n:Nat}(M:Nat->Nat->Int):aO n (λa b=>M b a)=aO n M:=Go.aW.cY n M
theorem EA.bd{n:Nat}{M b a:Nat->Nat->Int}(h:EA n M b a){i j:Nat}(e:i<n)(c:j<n):(DG n M b a i j).natAbs<=(aO n M).natAbs:=by
 have a:=h.h2.le c e;rw[nO h.u2,r_,nO h.u1]at a;exact a
theorem OV{P:Program}{n:Nat}{f:Fr}{w:World}{b:Func}{t u s r:Tmp}{a:Value->World->Prop}{v v' v'' v3:Value}(m:b.results=#[.tmp t,.tmp u,.tmp s,.tmp r])(j:ev n f (.tmp t)=v)(i:ev n f (.tmp u)=v')(l:ev n f (.tmp s)=v'')(o:ev n f (.tmp r)=v3)(h:a (.tuple #[v,v',v'',v3]) w):
 bodyPost P b (Et a) .ret (act n f) w:=by
 refine bodyPost_ret (v:=.tuple #[v,v',v'',v3]) ?_ F ⟨_,F,h⟩;have e:=congrFun (cO n f) (.tmp t);have c:=congrFun (cO n f) (.tmp u);have h:=congrFun (cO n f) (.tmp s);have g:=congrFun (cO n f) (.tmp r);simp only[Act.eval]at e c h g;have a:(act n f).tmps[t]?.getD undef=v:=by rw[<-j,<-e];simp
 have b:(act n f).tmps[u]?.getD undef=v':=by rw[<-i,<-c];simp
 have c:(act n f).tmps[s]?.getD undef=v'':=by rw[<-l,<-h];simp
 have d:(act n f).tmps[r]?.getD undef=v3:=by rw[<-o,<-g];simp
 simp[results,m,a,b,c,d]
theorem Gt(v:Value)(n N ND NU NV:Nat)(M:Nat->Nat->Int)(w:World)(h:cB (EI N) w v n (λ_=>n) M)(e:aO n M≠0)(X:Bd N (aO n M))(g:1<=n)(J:n<=16)(a:1<=N)(hN:N<=8)
 (al:N<=ND) (c:416<=NU) (c:416<=NV) (bC:ND+ND<17592186044416) (bB:ND+NU<17592186044416) (bA:ND+NV<17592186044416)
 (St:Nat->(Nat->Nat->Int)->(Nat->Nat->Int)->(Nat->Nat->Int)->Prop) (a1:∀A I,EA n M A I->St 0 (DG n M A I) (λi j=>I j i) A)
 (ak:∀t D U V,t<n->St t D U V->∃(q0:Nat) (R:Nat->(Nat->Nat->Int)->(Nat->Nat->Int)->(Nat->Nat->Int)->Prop) (O:(Nat->Nat->Int)->(Nat->Nat->Int)->(Nat->Nat->Int)->Prop),R q0 D U V/\
  (∀q D U V,R q D U V->(∃i j,t<=i/\i<n/\t<=j/\j<n/\D i j≠0)/\∀p c,Go.Sm.uM n t D p c->ID n t ND NU NV q R O (Go.Sm.swp D t p c) (λi j=>U (Go.Sm.sx t p i) j) λi j=>V i (Go.Sm.sx t c j))/\
  ∀D' U' V',O D' U' V'->St (t+1) (kz (D' t t) t D') (kz (D' t t) t U') V'):
 aT Tryz.prog 51 #[v] w λu C=>Ext w C/\∃s r E l m c H G p D U V,u=.tuple #[.slice (some ⟨s,0,none⟩) n n,.slice (some ⟨r,0,none⟩) n n,.slice (some ⟨E,0,none⟩) n n,.bool true]/\St n D U V/\
  cF C s l H n n true (λ_ _=>ND) D/\cF C r m G n n true (λ_ _=>NU) U/\cF C E c p n n true (λ_ _=>NV) V:=by
 refine bo (n:=66) Tryz.func51 F rfl az aA ?_;refine gi ?_;refine aJ (Ad v n N M w h e X g J a hN) ?_;rintro _ w1 ⟨aj,c,gh,E,L,A,rfl,bu,c,bj,b7,hH,hV,a6,pn⟩;have bH:∀i j,i<n->j<n->Bd N (mul n M A i j):=λi j c p=>by
  have:=a6.le c p;rw[nO pn]at this;exact Nat.lt_of_le_of_lt this X
 refine gi ?_;refine aN ?_;refine gi ?_;refine aJ (qK ((hH.tight bH).read aq aq) aq g J g J) ?_;rintro _ e ⟨Z,gT,gt,rfl,bs,b8,hT⟩;refine gi ?_;refine aJ (Ad _ n N _ e (hT.rd (N:=N) (λi j c p=>bH j i p c) (Nat.le_refl N) aq aq) (by rw[r_];intro e;have:=nO (n:=n) (M:=M) pn;rw[e]at this;omega) (by unfold Bd;rw[r_,nO pn];exact X) g J a hN) ?_;rintro _ a ⟨u,a,a,a,a,I,rfl,bt,b5,bc,b4,W,ae,av,z_⟩;have hB:EA n M A I:=⟨a6,pn,av,z_⟩;have bK:∀i j,i<n->j<n->Bd N (mul n (λa b=>mul n M A b a) I i j):=λi j c p=>Nat.lt_of_le_of_lt (hB.bd p c) X;refine gi ?_;refine aJ (qK ((W.tight bK).read aq aq) aq g J g J) ?_;rintro _ w4 ⟨e,s,l,rfl,bx,X,hD⟩;refine gi ?_;refine aJ (qK ((ae.Y e).read aq aq) aq g J g J) ?_;rintro _ w5 ⟨a,r,m,rfl,bl,g,hU⟩;have bU:∀i j,i<n->j<n->Bd NU (I j i):=λi j c p=>((ae.read aq aq).bd p c).mono aq;have b0:=(hD.gm (N:=ND) (λi j c p=>(bK j i p c).mono al) aq).Y a;have ay:=hU.gm bU aq;have ax:=(hV.congr (bn':=λ_ _=>NV) (M':=A) λ_ _ _ _=>⟨aq,F⟩).Y (Z.trans (u.trans (e.trans a)));have z0:=aj.size;have z1:=Z.size;have z2:=u.size;have z3:=e.size;have z4:=a.size;have lV:=hV.lt;have al:∀i,i<n->L i<w1.heap.size:=λi c=>(hV.row i c).lt;have lD:=hD.outer.lt;have an:∀i,i<n->l i<w4.heap.size:=λi c=>by obtain⟨_,hb,_⟩:=hD.row i c;exact hb.lt
 have a8:=aj.trans (Z.trans (u.trans (e.trans a)));have o:(s≠r/\s≠E/\r≠E)/\(∀i j,i<n->j<n->l i≠m j/\l i≠L j/\m i≠L j)/\w.heap.size<=s/\w.heap.size<=r/\∀t,t<n->w.heap.size<=l t/\w.heap.size<=m t/\w.heap.size<=L t:=by
  refine⟨aq,λi j c p=>?_,aq,aq,λt ht=>?_⟩
  ·have:=an i c;have:=g j p;have:=g i c;have:=X i c;have:=al j p;omega
  ·have:=X t ht;have:=g t ht;have:=b7 t ht;omega
 clear aj Z u e a hH hV hT W ae hD hU z0 z1 z2 z3 z4 lV al lD an bu bj bs b8 bt bc b5 b4 bx X bl g bH bK bU a6 av pn z_ h;refine gi ?_;refine aS (.inl F) OL ?_;intro a Q aH b6;replace Q:bg a w5.heap.size 157 #[.slice none 0 0,.slice none 0 0,.slice none 0 0]:=Q;obtain⟨gE,au⟩ : ∃g,g=w5.heap.size:=⟨_,F⟩;rw[<-au]at Q⊢;refine gi ?_;refine rN Nh (.inl F) F rfl (λv T=>?_) Q rfl rfl ?_
 ·rcases List.mem_cons.1 T with rfl|T
  ·rfl
  ·rcases List.mem_cons.1 T with rfl|T
   ·rfl
   ·rcases List.mem_cons.1 T with rfl|T
    ·rfl
    ·cases T
 intro g e c h;have a:Ext w5 g:=c.aK aH λb hb=>aq;have a7:=a8.trans a;have p:=a8.size;have Y:El w.heap.size g gE s r E n ND NU NV (DG n M A I) (λi j=>I j i) A l m L (λ_=>n) (λ_=>n) (λ_=>n):=
  ⟨e,b0.Y a,ay.Y a,ax.Y a,o.1,o.2.1,aq,o.2.2.1,o.2.2.2.1,aq,o.2.2.2.2⟩
 clear b0 ay ax aH c h b6 a p Q e o au a8;have ai:=a1 A I hB;have b1:=Y.d.at (show 0<n by omega);refine gi ?_;refine aY (λf C=>∃D U V l m H G,f 12=.pointer (some ⟨gE,0,none⟩)/\Ext w C/\El w.heap.size C gE s r E n ND NU NV D U V l m L H G (λ_=>n)/\St n D U V) ?_ ?_
 ·refine gi ?_;clear b1;refine aU (λq f C=>∃t D U V l m H G,q=n-t/\t<=n/\f 12=.pointer (some ⟨gE,0,none⟩)/\f 53=.int .i64 (n:Int)/\f 54=.int .i64 ((t:Nat):Int)/\Ext w C/\El w.heap.size C gE s r E n ND NU NV D U V l m L H G (λ_=>n)/\St t D U V)
   n ⟨0,_,_,_,l,m,_,_,F,aE,F,F,F,a7,Y,ai⟩ ?_
  clear a7 Y ai a1 l m;rintro q f w8 ⟨t,D,U,V,l,m,H,G,rfl,ht,B,c,a,P,hE,hS⟩;rw[ui B,ui c,ui a];clear B c a;by_cases ar:t<n;rotate_left
  ·obtain rfl:t=n:=aq;refine gi ?_;exact⟨D,U,V,l,m,H,G,F,P,hE,hS⟩
  obtain⟨q0,R,O,c,a,j⟩:=ak t D U V ar hS;refine gi ?_;refine aJ (GB w.heap.size gE s r E n ND NU NV t q0 D U V l m L H G (λ_=>n) w8 hE ar J aq bC bB bA R O c a) ?_;rintro _ a ⟨rfl,hC,W,D',U',V',g,a,i,h,c,e⟩;refine gi ?_;refine⟨_,?_,t+1,_,_,_,g,a,i,h,F,aq,F,F,F,hC.aK P λb hb=>hb,e,j D' U' V' c⟩;omega
 clear a7 Y ai a1 l m b1;rintro f w8 ⟨D,U,V,l,m,H,G,B,P,hE,hS⟩;rw[ui B];clear B;have P:Ext w w8:=P;have W:Ext w8 w8:=Ext.refl _;refine gi ?_;refine b_ [(0,3),(1,0),(2,3),(3,0),(4,3),(5,0),(6,3),(7,3),(8,3),(9,3)] mixed az λa a _=>?_;replace W:=W.trans a;replace P:=P.trans a;clear a;have a:=hE.Y W;have b:=a.c0;have b:=a.c1;have b:=a.c2;refine gi ?_;exact OV (v:=.slice _ _ _) (v':=.slice _ _ _) (v'':=.slice _ _ _) (v3:=.bool _) F rfl rfl rfl rfl ⟨P,s,r,E,l,m,L,H,G,λ_=>n,D,U,V,rfl,hS,a.d,a.u,a.v⟩
theorem yZ(v:Value)(n N ND NU NV:Nat)(M:Nat->Nat->Int)(w:World)(h:cB (EI N) w v n (λ_=>n) M)(E:aO n M≠0)(Q:Bd N (aO n M))(L:1<=n)(Z:n<=16)(X:1<=N)(hN:N<=8)
 (I:N<=ND) (H:416<=NU) (G:416<=NV) (W:ND+ND<17592186044416) (T:ND+NU<17592186044416) (R:ND+NV<17592186044416)
 (A:Nat->(Nat->Nat->Int)->(Nat->Nat->Int)->(Nat->Nat->Int)->Prop) (J:∀c b,EA n M c b->A 0 (DG n M c b) (λi j=>b j i) c)
 (C:∀t D U V,t<n->A t D U V->∃(c:Nat) (Inv:Nat->(Nat->Nat->Int)->(Nat->Nat->Int)->(Nat->Nat->Int)->Prop) (b:(Nat->Nat->Int)->(Nat->Nat->Int)->(Nat->Nat->Int)->Prop),Inv c D U V/\
  (∀q D U V,Inv q D U V->(∃i j,t<=i/\i<n/\t<=j/\j<n/\D i j≠0)/\∀p c,Go.Sm.uM n t D p c->ID n t ND NU NV q Inv b (Go.Sm.swp D t p c) (λi j=>U (Go.Sm.sx t p i) j) λi j=>V i (Go.Sm.sx t c j))/\
  ∀c p j,b c p j->A (t+1) (kz (c t t) t c) (kz (c t t) t p) j):
 aT Tryz.prog 16 #[v] w λu b=>Ext w b/\∃g D U V,u=.tuple #[.slice (some ⟨g,0,none⟩) n n,.bool true]/\A n D U V/\di b g n true (λ_=>ND) (λi=>D i i):=by
 refine bo (n:=44) Tryz.func16 F rfl az aA ?_;refine gi ?_;refine aJ (Gt v n N ND NU NV M w h E Q L Z X hN I H G W T R A J C) ?_;rintro _ G ⟨h,p,c,c,A,us,c,I,c,c,D,U,V,rfl,hS,l,_,_⟩;refine gi ?_;refine aN ?_;have E:=l.at (show 0<n by omega);refine gi ?_;refine cJ dJ (.inl F) F rfl aD aq aq ?_;intro c j c C;obtain⟨g,u⟩ : ∃g,g=G.heap.size:=⟨_,F⟩;rw[<-u]at j⊢;have o:=fq true ND j;have m:=h.trans c;have G:=h.size;have B:=l.Y c;have P:∀t,t<n->A t≠g:=λt H=>by have:=(l.row t H).lt;omega
 have O:p≠g:=by have:=l.lt;omega
 have t:w.heap.size<=g:=aq;clear j c C h E l G u;refine gi ?_;refine aY (λf b=>f 8=.slice (some ⟨g,0,none⟩) n n/\Ext w b/\di b g n true (λ_=>ND) λi=>D i i) ?_ ?_
 ·refine gi ?_;refine aU (λq f b=>∃i,q=n-i/\i<=n/\f 4=.slice (some ⟨p,0,none⟩) n n/\f 8=.slice (some ⟨g,0,none⟩) n n/\f 28=.int .i64 (n:Int)/\f 29=.int .i64 ((i:Nat):Int)/\Ext w b/\cF b p A I n n true (λ_ _=>ND) D/\di b g n true (λ_=>ND) λa=>if a<i then D a a else 0)
   n ⟨0,F,aE,F,F,F,F,m,B,o.congr λa _=>⟨aD,by rw[aa aq]⟩⟩ ?_
  clear m B o;rintro q f Y ⟨i,rfl,b,h,r,c,b,m,l,o⟩;rw[ui h,ui r,ui c,ui b];clear h r c b;by_cases s:i<n;rotate_left
  ·obtain rfl:i=n:=aq;refine gi ?_;exact⟨F,m,o.congr λa h=>⟨aD,by rw[ab h]⟩⟩
  have b:=l.at s;obtain⟨b,b,b,b,b⟩:=(l.row i s).at s;refine gi ?_;refine c_ (.inl F) F rfl o s b ?_;intro b q c j b;have p:=c.aK m λb b=>aq;have b:=l.kp j c O P;refine gi ?_;refine⟨_,?_,i+1,F,aq,F,F,F,F,p,b,q.congr λa h=>⟨?_,?_⟩⟩
  ·omega
  ·simp only[cC];split<;>exact Nat.le_refl _
  ·simp only[ef];by_cases e:a=i
   ·subst e;rw[ab F,ab aq]
   ·rw[aa e];by_cases b:a<i
    ·rw[ab b,ab aq]
    ·rw[aa b,aa aq]
 clear m B o;rintro f Y ⟨r,m,o⟩;rw[ui r];clear r;refine gi ?_;exact cU (v:=.slice _ _ _) (v':=.bool _) F rfl rfl ⟨m,g,D,U,V,F,hS,o⟩
end
end Go.Proofs.Qq
namespace Go.Se
section
open Go.aW Go.Sm Go.Hn
theorem qU:∀{n:Nat} {f:Nat->Int},(∀i,i<n->0<=f i)->∀i,i<n->f i<=sm n f
 |n+1,f,h,i,a=>by
  simp only[sm];have b:=h n aq;have b:0<=sm n f:=by
   rcases Nat.eq_zero_or_pos n with e|e
   ·subst e;exact Int.le_refl _
   ·exact Int.le_trans (h 0 aq) (qU (n:=n) (λi a=>h i aq) 0 e)
  by_cases e:i=n
  ·rw[e];omega
  ·have:=qU (n:=n) (f:=f) (λi a=>h i aq) i aq;omega
theorem zA{p:Nat->Int}:∀{n i:Nat},i<n->p i=0->jY n p=0
 |n+1,i,hi,h0=>by
  simp only[jY];by_cases e:i=n
  ·rw[<-e,h0,Int.mul_zero]
  ·rw[zA (n:=n) (i:=i) aq h0,Int.zero_mul]
theorem DQ{p:Nat->Int}:∀{n:Nat},(∀i,i<n->p i=1)->jY n p=1
 |0,_=>rfl
 |n+1,h=>by
  simp only[jY];rw[DQ (n:=n) λi a=>h i aq,h n aq];rfl
theorem za(n:Nat)(c:Int):sm n (λ_=>c)=(n:Int)*c:=by
 induction n with
 |zero=>simp[sm]
 |succ n a=>simp only[sm];rw[a];push_cast;grind
theorem B8{n:Nat}{c:Nat->Int}(e:∀i,i<n->0<=c i)(a:sm n c<=n):0<=jY n c/\jY n c<=1:=by
 by_cases a:∃i,i<n/\c i=0
 ·obtain⟨i,b,a⟩:=a;rw[zA b a];omega
 ·have g:∀i,i<n->c i=1:=λi b=>by
   have d:∀j,j<n->0<=c j-1:=λj f=>by
    have:=e j f;have:c j≠0:=λe=>a ⟨j,f,e⟩;omega
   have a:=qU d i b;have a:(sm n λj=>c j-1)=sm n c-n:=by
    have e:(sm n λj=>c j-1)=sm n λj=>1*c j+(-1)*(λ_=>(1:Int)) j:=aR λj _=>by show c j-1=1*c j+(-1)*1;omega
    rw[e,fQ,za];omega
   have:=d i b;omega
  rw[DQ g];omega
theorem rI{n:Nat}{J:Nat->Nat}(o:∀t,t<n->J t<n):(aO n λi k=>one i (J k)).natAbs<=1:=by
 have g:∀i k,i<n->k<n->i≠k->mul n (λi k=>one i (J k)) (tr λi k=>one i (J k)) i k=0:=λi k _ _ b=>fK λl _=>by
  show one i (J l)*one k (J l)=0;simp only[one];by_cases e:i=J l
  ·rw[aa (show¬k=J l by omega),Int.mul_zero]
  ·rw[aa e,Int.zero_mul]
 have d:aO n (mul n (λi k=>one i (J k)) (tr λi k=>one i (J k)))=jY n λi=>sm n λl=>one i (J l):=by
  rw[od n _ λi j a b p=>g i j a b aq];refine ko λi a=>aR λl _=>?_;show one i (J l)*one i (J l)=one i (J l);simp only[one];split<;>rfl
 have f:=B8 (n:=n) (c:=λi=>sm n λl=>one i (J l)) (λi _=>by
  have:∀m,0<=sm m λl=>one i (J l):=λm=>by
   induction m with
   |zero=>exact Int.le_refl _
   |succ m b=>
    have b:0<=one i (J m):=by simp only[one];split<;>decide
    simp only[sm];omega
  exact this n) (by
  show(sm n λi=>sm n λl=>one i (J l))<=n;rw[pI];have e:(sm n λl=>sm n λi=>one i (J l))=sm n λ_=>1:=aR λl b=>by
   rw[dc (c:=J l) (o l b) λi _ a=>by simp only[one];exact aa a];show(if J l=J l then(1:Int)else 0)=1;exact ab F
  rw[e,za];omega)
 rw[<-d,iU,cY]at f;obtain⟨d,a⟩ : ∃d,d=aO n λi k=>one i (J k):=⟨_,F⟩;rw[<-a]at f⊢;have a:d.natAbs*d.natAbs<=1:=by
  have:((d.natAbs*d.natAbs:Nat):Int)=d*d:=by rw[<-Int.natAbs_mul];exact Int.natAbs_of_nonneg f.1
  omega
 rcases Nat.lt_or_ge d.natAbs 2 with h|h
 ·omega
 ·have:=Nat.mul_le_mul h h;omega
theorem AJ{n:Nat}(A:Mt){J:Nat->Nat}(f:∀t,t<n->J t<n):aO n (λi k=>A i (J k))=aO n A*aO n (λi k=>one i (J k)):=by
 refine MA.unique (D:=λA=>aO n λi k=>A i (J k)) ?_ A;have h:=eF n;have e:∀(A:Mt) (i:Nat) (u:Nat->Int),(λr k=>cj A i u r (J k))=cj (λr k=>A r (J k)) i λk=>u (J k):=λA i u=>by
  funext r k;simp only[cj]
 refine⟨λA C a=>bk λi j d c=>a i (J j) d (f j c),λA i u v a b d=>?_,λA i d g=>h.alt _ i d λj c=>g (J j) (f j c)⟩;show aO n (λr k=>cj A i (λc=>a*u c+b*v c) r (J k))=a*aO n (λr k=>cj A i u r (J k))+b*aO n λr k=>cj A i v r (J k);rw[e,e,e];exact h.mZ (λr k=>A r (J k)) i (λk=>u (J k)) (λk=>v (J k)) a b d
theorem GK{n:Nat}(A:Mt){I J:Nat->Nat}(b:∀t,t<n->I t<n)(a:∀t,t<n->J t<n):(aO n (cX A I J)).natAbs<=(aO n A).natAbs:=by
 have c:(aO n λi k=>(λi j=>A (I i) j) i (J k)).natAbs<=(aO n λi j=>A (I i) j).natAbs:=by
  rw[AJ (λi j=>A (I i) j) a,Int.natAbs_mul];exact Nat.le_trans (Nat.mul_le_mul_left _ (rI a)) aq
 have a:(aO n λi j=>A (I i) j).natAbs<=(aO n A).natAbs:=by
  rw[<-cY];have e:tr (λi j=>A (I i) j)=λi k=>tr A i (I k):=F;rw[e,AJ (tr A) b,Int.natAbs_mul,cY];exact Nat.le_trans (Nat.mul_le_mul_left _ (rI b)) aq
 exact Nat.le_trans c a
theorem Ku{s a b:Nat}{A:Mt}(e:a<s)(d:b<s)(c:a≠b)(h:∀i,i<s->A i a=A i b):aO s A=0:=by
 rw[<-cY];exact(eF s).LH _ a b e d c λj c=>h j c
theorem Ee{B:Mt}{x:Nat}(h:(B 0 0).natAbs<=x):(aO 1 B).natAbs<=x:=by
 simpa[aO,sm,jl]using h
theorem Ed{B:Mt}{c:Nat->Nat}(h:∀i j,i<2->j<2->(B i j).natAbs<=c j):(aO 2 B).natAbs<=2*(c 0*c 1):=by
 show(sm 2 λj=>jl j*B 0 j*aO 1 (minor B 0 j)).natAbs<=_;refine oW λj a=>?_;have b:(jl j).natAbs=1:=by unfold jl;split<;>rfl
 rw[Int.natAbs_mul,Int.natAbs_mul,b,Nat.one_mul];have b:(aO 1 (minor B 0 j)).natAbs<=c (skip j 0):=Ee (h (skip 0 0) (skip j 0) aw (by unfold skip;split<;>omega));refine Nat.le_trans (Nat.mul_le_mul (h 0 j aw a) b) ?_
 match j,a with
 |0,_=>exact Nat.le_refl _
 |1,_=>rw[Nat.mul_comm];exact Nat.le_refl _
theorem Kx{B:Mt}{c:Nat->Nat}(h:∀i j,i<3->j<3->(B i j).natAbs<=c j):(aO 3 B).natAbs<=3*(2*(c 0*c 1*c 2)):=by
 show(sm 3 λj=>jl j*B 0 j*aO 2 (minor B 0 j)).natAbs<=_;refine oW λj a=>?_;have b:(jl j).natAbs=1:=by unfold jl;split<;>rfl
 rw[Int.natAbs_mul,Int.natAbs_mul,b,Nat.one_mul];have b:(aO 2 (minor B 0 j)).natAbs<=2*(c (skip j 0)*c (skip j 1)):=Ed (c:=λt=>c (skip j t)) λi k d d=>h (skip 0 i) (skip j k) (by unfold skip;split<;>omega) (by unfold skip;split<;>omega);refine Nat.le_trans (Nat.mul_le_mul (h 0 j aw a) b) ?_
 match j,a with
 |0,_=>show c 0*(2*(c 1*c 2))<=_;rw[Nat.mul_left_comm,<-Nat.mul_assoc (c 0)];exact Nat.le_refl _
 |1,_=>show c 1*(2*(c 0*c 2))<=_;rw[Nat.mul_left_comm,<-Nat.mul_assoc (c 1),Nat.mul_comm (c 1)];exact Nat.le_refl _
 |2,_=>show c 2*(2*(c 0*c 1))<=_;rw[Nat.mul_left_comm,Nat.mul_comm (c 2)];exact Nat.le_refl _
theorem B7{p:Nat->Int}{i:Nat}:∀{n:Nat},(∀j,j<n->0<p j)->i<=n->jY i p<=jY n p
 |0,_,hi=>by
  have:i=0:=aq;rw[this];exact Int.le_refl _
 |n+1,h,hi=>by
  by_cases e:i=n+1
  ·rw[e];exact Int.le_refl _
  ·have d:=B7 (n:=n) (i:=i) (λj c=>h j aq) aq;have b:=Int.mul_le_mul_of_nonneg_left (show(1:Int)<=p n from h n aq) (show 0<=jY n p from Int.le_of_lt (n7 λj c=>h j aq));rw[Int.mul_one]at b;exact Int.le_trans d b
theorem G1{n:Nat}{p:Nat->Int}(h:∀j,j<n->0<p j){x y:Nat}(b:x<y)(a:y<n):p x*p y<=jY n p:=
 Int.le_trans (Int.mul_le_mul_of_nonneg_right (Go.Proofs.Qq.xi (n:=y) (i:=x) (λj c=>h j aq) b) (Int.le_of_lt (h y a))) (B7 (n:=n) (i:=y+1) h a)
theorem N4{n:Nat}{p:Nat->Int}(h:∀j,j<n->0<p j){x y z:Nat}(c:x<y)(b:y<z)(a:z<n):p x*p y*p z<=jY n p:=
 Int.le_trans (Int.mul_le_mul_of_nonneg_right (G1 (n:=z) (λj d=>h j aq) c b) (Int.le_of_lt (h z a))) (B7 (n:=n) (i:=z+1) h a)
structure Oo(n:Nat)(T:Mt):Prop where
 pos:∀j,j<n->0<T j j
 BD:∀i j,i<n->j<n->(T i j).natAbs<=(T j j).natAbs
theorem vz{a b:Int}{D:Nat}(d:0<a)(c:0<b)(h:a*b<=(D:Int)):a.natAbs*b.natAbs<=D:=by
 rw[<-Int.natAbs_mul];have:=Int.mul_pos d c;omega
theorem Fc{a b c:Int}{D:Nat}(f:0<a)(e:0<b)(d:0<c)(h:a*b*c<=(D:Int)):a.natAbs*b.natAbs*c.natAbs<=D:=by
 rw[<-Int.natAbs_mul,<-Int.natAbs_mul];have:=Int.mul_pos (Int.mul_pos f e) d;omega
theorem Oo.tm{n D:Nat}{T:Mt}(h:Oo n T)(a:n<=4)(w:jY n (λj=>T j j)=(D:Int))(C:(aO n T).natAbs=D):Tm n 0 (6*D) T:=by
 have a:1<=D:=by have:=n7 (p:=λj=>T j j) h.pos;omega
 intro s I J a;have k:∀t,t<s->I t<n:=λt u=>(a t u).1.2;have d:∀t,t<s->J t<n:=λt u=>(a t u).2.2;have g:∀i j,i<s->j<s->(cX T I J i j).natAbs<=(T (J j) (J j)).natAbs:=λi j b a=>h.BD _ _ (k i b) (d j a);have f:∀a b,a<s->b<s->a≠b->J a=J b->aO s (cX T I J)=0:=λa b z b a e=>Ku z b a λi _=>by simp only[cX,e]
 by_cases B:n<s
 ·rw[nG (λt u=>⟨k t u,d t u⟩) B];exact Nat.zero_le _
 match s,B,k,d,g,f with
 |0,_,_,_,_,_=>
  have:(aO 0 (cX T I J)).natAbs=1:=F;omega
 |1,_,k,d,g,_=>
  have A:=Ee (g 0 0 aw aw);have r:=Go.Proofs.Qq.xi (p:=λj=>T j j) (n:=n) (i:=J 0) h.pos (d 0 aw);have a:=h.pos _ (d 0 aw);rw[w]at r;omega
 |2,_,k,d,g,f=>
  have A:=Ed (c:=λt=>(T (J t) (J t)).natAbs) g;have y:=h.pos _ (d 0 aw);have x:=h.pos _ (d 1 aw);have l:(T (J 0) (J 0)).natAbs*(T (J 1) (J 1)).natAbs<=D\/J 0=J 1:=by
   rcases Nat.lt_trichotomy (J 0) (J 1)with r|r|r
   ·exact .inl (vz y x (by rw[<-w];exact G1 (p:=λj=>T j j) h.pos r (d 1 aw)))
   ·exact .inr r
   ·rw[Nat.mul_comm];exact .inl (vz x y (by rw[<-w];exact G1 (p:=λj=>T j j) h.pos r (d 0 aw)))
  rcases l with l|l
  ·exact Nat.le_trans A aq
  ·rw[f 0 1 aw aw aw l];exact Nat.zero_le _
 |3,_,k,d,g,f=>
  have A:=Kx (c:=λt=>(T (J t) (J t)).natAbs) g;by_cases a:J 0=J 1
  ·rw[f 0 1 aw aw aw a];exact Nat.zero_le _
  by_cases a:J 0=J 2
  ·rw[f 0 2 aw aw aw a];exact Nat.zero_le _
  by_cases a:J 1=J 2
  ·rw[f 1 2 aw aw aw a];exact Nat.zero_le _
  have q:∀x y z,x<y->y<z->z<n->(T x x).natAbs*(T y y).natAbs*(T z z).natAbs<=D:=λx y z f b a=>
   Fc (h.pos x aq) (h.pos y aq) (h.pos z a) (by rw[<-w];exact N4 (p:=λj=>T j j) h.pos f b a)
  have H:=d 0 aw;have G:=d 1 aw;have E:=d 2 aw;have l:(T (J 0) (J 0)).natAbs*(T (J 1) (J 1)).natAbs*(T (J 2) (J 2)).natAbs<=D:=by
   rcases Nat.lt_or_ge (J 0) (J 1)with v|v
   ·rcases Nat.lt_or_ge (J 1) (J 2)with m|m
    ·exact q _ _ _ v m E
    ·rcases Nat.lt_or_ge (J 0) (J 2)with o|o
     ·have:=q _ _ _ o (show J 2<J 1 by omega) G;rwa[Nat.mul_right_comm]at this
     ·have:=q _ _ _ (show J 2<J 0 by omega) v G;rw[Nat.mul_comm (T (J 2) (J 2)).natAbs,Nat.mul_right_comm]at this;exact this
   ·rcases Nat.lt_or_ge (J 0) (J 2)with o|o
    ·have:=q _ _ _ (show J 1<J 0 by omega) o E;rwa[Nat.mul_comm (T (J 1) (J 1)).natAbs]at this
    ·rcases Nat.lt_or_ge (J 1) (J 2)with m|m
     ·have:=q _ _ _ m (show J 2<J 0 by omega) H;rw[Nat.mul_comm,<-Nat.mul_assoc]at this;exact this
     ·have:=q _ _ _ (show J 2<J 1 by omega) (show J 1<J 0 by omega) H;rw[Nat.mul_comm,Nat.mul_comm (T (J 2) (J 2)).natAbs,<-Nat.mul_assoc]at this;exact this
  exact Nat.le_trans A aq
 |s+4,B,k,d,g,_=>
  have e:s+4=n:=aq;subst e;have:=GK T k d;rw[C]at this;omega
theorem G2{x:Int}(a:0<=x){p:Nat->Int}:∀{n:Nat},(∀j,j<n->x<=p j)->x^n<=jY n p
 |0,_=>by rw[Int.pow_zero];exact Int.le_refl _
 |n+1,h=>by
  simp only[jY];rw[Int.pow_succ];have b:=G2 a (n:=n) (p:=p) λj c=>h j aq;exact Int.mul_le_mul b (h n aq) a (Int.le_trans (Int.pow_nonneg a) b)
theorem Oo.least{D:Nat}{T:Mt}(h:Oo 4 T)(g:jY 4 (λj=>T j j)=(D:Int))(f:D<=10000):∃i,i<4/\T i i≠0/\(T i i).natAbs<=10:=by
 refine Decidable.byContradiction λe=>?_;have k:∀j,j<4->(11:Int)<=T j j:=λj b=>by
  have d:=h.pos j b;rcases Int.lt_or_le (T j j) 11 with c|c
  ·exact absurd ⟨j,b,aq,aq⟩ e
  ·exact c
 have d:=G2 (x:=11) aw (p:=λj=>T j j) (n:=4) k;rw[g]at d;have:(11:Int)^4=14641:=aw;omega
