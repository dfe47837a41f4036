import Derived.Test.YtmfndnlifgphjaaGreatDoorQzE
import Derived.Deep.Strs
import Derived.WideShapes
import Derived.Lib.SmallJoins
set_option maxHeartbeats 64000000
open Go.Proofs.YtmfndnlifgphjaaGreatDoor
namespace Go.Proofs.Qq
section
open Go Go.cW Go.c7 Go.Proofs
open Go.aW (gr bm aO Sy PM po)
theorem Af(n:Nat)(T G:Nat->Nat->Int):mulM n (mulM n (λi j=>T j i) G) T=gr n (λi j=>T j i) G:=by
 have:mulM n (mulM n (λi j=>T j i) G) T=mulM n (λi j=>T j i) (mulM n G T):=by
  funext i j;exact Ck n _ _ _ i j
 rw[this,Go.aW.qW,ez,ez];rfl
theorem uE{c h:Value}{n N N2:Nat}{G T:Nat->Nat->Int}{w:World}(k:cB (EI N) w c n (λ_=>n) G)(b:cB (EI N) w h n (λ_=>n) T)(a:1<=n)(d:n<=16)(e:N<34359738)(_hN2:N2=N+N+1):
 aT Tryz.prog 21 #[c,h] w (RM w n n (gr n (λi j=>T j i) G)):=by
 refine bo (n:=17) Tryz.func21 F rfl az aA ?_;have p:∀i j,i<n->j<n->Bd N (G i j):=λi j c e=>k.bd c e;have m:∀i j,i<n->j<n->Bd N (T i j):=λi j c e=>b.bd c e;have f:n<9223372036854775808:=aq;have g:Ext w w:=Ext.refl w;refine gh ?_;refine aJ (oJ h n N (λ_=>n) T w b aq) ?_;intro u h l;obtain⟨_,rfl,h,gt,o,rfl,_,_,o⟩:=l.get (cD.2 ⟨⟨a,d,a,d⟩,λ_ _=>rfl⟩);clear l;replace k:=k.Y h;replace b:=b.Y h;replace g:=g.trans h;refine gh ?_;refine aJ (pS (N:=N) (o.rd (λi j c e=>m j i e c) aD f f) k aq a d a d a d) ?_;rintro _ h ⟨h,g4,k,rfl,_,_,k⟩;replace b:=b.Y h;replace g:=g.trans h;have h:∀i j,i<n->j<n->Bd (N+N+1) (mulM n (λi j=>T j i) G i j):=λi j c e=>by
  exact im (N:=N+N) aq λt b=>(m t i b c).mul (p t j b e)
 refine gh ?_;refine aJ (pS (N:=N+N+1) (k.rd h aD f f) (b.mono aq) aq a d a d a d) ?_;rintro _ a ⟨b,g5,e,rfl,a,d,a⟩;rw[Af]at a;have f:=g.size;refine gh ?_;exact bF (v:=.slice _ _ _) F rfl ⟨g.trans b,g5,e,F,aq,λi c=>by have:=d i c;omega,a⟩
theorem Pg{z:Int}(h1:-9223372036854775808<=z)(a:z<9223372036854775808):Bd 2 z:=by
 unfold Bd;have:B^2=18446744073709551616:=aw;omega
theorem ke.Me{w:World}{v:Value}{r i j:Nat}{len:Nat->Nat}{M:Nat->Nat->Int}(h:ke w v r len M)(d:i<r)(c:j<len i):-9223372036854775808<=M i j/\M i j<9223372036854775808:=by
 obtain⟨A,a,rfl,_,_,a⟩:=h;obtain⟨_,u,_,_,b⟩:=a i d;obtain⟨_,_,_,_,_,he⟩:=b;obtain⟨_,_,_,h1,h2⟩:=he j c;exact⟨h1,h2⟩
end
end Go.Proofs.Qq


namespace Go.Proofs.Qq
section
open Go Go.cW Go.c7 Go.Proofs
open Go.aW (gr bm aO Sy PM po)
def xU(D:Nat->Int):Nat->Nat->Int:=λi j=>if i=j then D i else 0
structure fV(w:World)(gO:Nat)(gs:Nat->Nat)(r i c:Nat)(M:Nat->Nat->Int):Prop where
 outer:dZ 113 w gO r i c gs
 row:∀t,t<i->fi w (gs t) c (M t)
 gt:∀t,t<i->gO<gs t
 inj:∀t t',t<i->t'<i->gs t=gs t'->t=t'
theorem fV.full{w:World}{b r c:Nat}{a:Nat->Nat}{M:Nat->Nat->Int}(h:fV w b a r r c M):ia w b a r c M:=
 ⟨h.outer.full,h.row,λt a=>by have:=h.gt t a;omega,h.inj⟩
theorem fV.Y{w w':World}{d r i c:Nat}{b:Nat->Nat}{M:Nat->Nat->Int}(h:fV w d b r i c M)(a:Ext w w'):fV w' d b r i c M:=
 ⟨h.outer.Y a,λt b=>bg.Y (h.row t b) a,h.gt,h.inj⟩
theorem fV.ch{w w':World}{b r i c:Nat}{a:Nat->Nat}{M:Nat->Nat->Int}{d:Nat->Prop}(h:fV w b a r i c M)(e:Ch d w w')(h1:¬d b)(f:∀t,t<i->¬d (a t)):fV w' b a r i c M:=
 ⟨h.outer.kp e h1,λt a=>bg.ch (h.row t a) e (f t a),h.gt,h.inj⟩
theorem fV.put{w w':World}{k r i c t j:Nat}{a:Nat->Nat}{M:Nat->Nat->Int}{z:Int}(h:fV w k a r i c M)(d:t<i)(l:fi w' (a t) c (ef (M t) j z))(g:Ch (λb=>b=a t) w w'):fV w' k a r i c (cV M t j z):=by
 refine⟨h.outer.kp g (by have:=h.gt t d;omega),λq f=>?_,h.gt,h.inj⟩;by_cases e:q=t
 ·subst e;rw[kA];exact l
 ·rw[kR M j z e];exact bg.ch (h.row q f) g λa=>e (h.inj q t f d a)
theorem fV.congr{w:World}{b r i c:Nat}{a:Nat->Nat}{M M':Nat->Nat->Int}(h:fV w b a r i c M)(e:∀t j,t<i->j<c->M t j=M' t j):fV w b a r i c M':=
 ⟨h.outer,λt a=>(h.row t a).congr λj b=>e t j a b,h.gt,h.inj⟩
theorem fV.more{w k j:World}{d r i c g:Nat}{a:Nat->Nat}{M:Nat->Nat->Int}(h:fV w d a r i c M)(o:Ext w k)(b:w.heap.size<=g)(n:fi k g c λ_=>0)(m:Ch (λb=>b=d) k j)
 (b:dZ 113 j d r (i+1) c (cC a i g)):fV j d (cC a i g) r (i+1) c (λt=>if t=i then λ_=>0 else M t):=by
 have d:=h.outer.lt;have f:∀t,t<i->a t<w.heap.size:=λt a=>bg.lt (h.row t a);refine⟨b,λt a=>?_,λt a=>?_,λt l a a e=>?_⟩
 ·by_cases e:t=i
  ·subst e;simp only[cC,if_true];exact bg.ch n m aq
  ·simp only[cC,aa e];exact bg.ch (bg.Y (h.row t aq) o) m (by have:=h.gt t aq;omega)
 ·by_cases e:t=i
  ·simp only[cC,ab e];omega
  ·simp only[cC,aa e];exact h.gt t aq
 ·simp only[cC]at e;split at e<;>split at e
  ·omega
  ·have:=f l aq;omega
  ·have:=f t aq;omega
  ·exact h.inj t l aq aq e
theorem fV.at{w:World}{b r i c t:Nat}{a:Nat->Nat}{M:Nat->Nat->Int}(h:fV w b a r i c M)(d:t<i)(e:t<r):w.cell? ⟨b,0+t*1,none⟩=some (.slice (some ⟨a t,0,none⟩) c c):=h.outer.at d e
theorem kW(g:Nat)(A:Option Addr)(n c k m a:Nat)(L:Nat->Int)(x w:World)(s:Ext x w)(T:qD x A n L)(S:x.heap.size<=g)(z:fj w g A n c k)(_hm1:1<=m)(h:m<=16)(O:0<a)(h:a<=100):
 aT Tryz.prog 60 #[.pointer (some ⟨g,0,none⟩),.int .i64 (m:Int),.int .i64 (a:Int)] w λv h=>∃o l d D,v=.slice (some ⟨l,0,none⟩) m m/\w.heap.size<=l/\(∀i,i<m->l<d i)/\ia h l d m m (xU D)/\(∀i,i<m->1<=D i/\D i<=a)/\fj h g A n c o/\Ext x h:=by
 refine bo (n:=33) Tryz.func60 F rfl az aA ?_;have q:g<w.heap.size:=bg.lt z;refine gh ?_;refine cJ iS (.inl F) F rfl aD aq aq ?_;intro C u G K;obtain⟨l,q⟩ : ∃g,g=w.heap.size:=⟨_,F⟩;rw[<-q]at u⊢;have q:dZ 113 C l m 0 m (λ_=>0):=fe u;have J:fV C l (λ_=>0) m 0 m (xU λ_=>0):=⟨q,λt p=>absurd p aq,λt p=>absurd p aq,λt H p=>absurd p aq⟩;clear u q;have H:=s.trans G;have u:fj C g A n c k:=bg.Y z G;refine gh ?_;refine aY (λf h=>∃o d D,f 7=.slice (some ⟨l,0,none⟩) m m/\fV h l d m m m (xU D)/\(∀i,i<m->1<=D i/\D i<=a)/\fj h g A n c o/\Ext x h) ?_ ?_
 ·refine gh ?_;refine aU (λq f h=>∃i o d D,q=m-i/\i<=m/\f 0=.pointer (some ⟨g,0,none⟩)/\f 1=.int .i64 (m:Int)/\f 2=.int .i64 (a:Int)/\f 7=.slice (some ⟨l,0,none⟩) m m/\f 12=.int .i64 (m:Int)/\f 13=.int .i64 ((i:Nat):Int)/\fV h l d m i m (xU D)/\(∀t,t<i->1<=D t/\D t<=a)/\fj h g A n c o/\Ext x h)
   m ⟨0,k,λ_=>0,λ_=>0,rfl,aE,rfl,rfl,rfl,rfl,rfl,rfl,J,λt p=>absurd p aq,u,H⟩ ?_
  clear J H u z G K C s;rintro q f C ⟨i,o,d,D,rfl,h,H,G,u,B,q,h,y,I,z,s⟩;rw[ui H,ui G,ui u,ui B,ui q,ui h];clear H G u B q h;by_cases G:i<m
  ·have h:=y.outer.lt;have h:g<C.heap.size:=bg.lt z;refine gh ?_;refine cJ fS (.inl F) F rfl aD aq aq ?_;intro R E r N;have u:=lM E;obtain⟨h,q⟩ : ∃g,g=C.heap.size:=⟨_,F⟩;rw[<-q]at u⊢;clear E;refine gh ?_;refine dI (aX F) (.inl F) F rfl (y.outer.Y r) G ?_;intro K ⟨_,H⟩ q P C;have C:=y.more r aq u q (H F);have J:Ext x K:=q.aK (s.trans r) (λb M=>by have:=s.size;omega);have Q:fj K g A n c o:=bg.ch (bg.Y z r) q aq;clear H q P u r N y z s;refine gh ?_;refine mN (λb=>b=g) [(0,3),(1,3),(2,3),(3,0),(4,3),(5,3),(6,3),(7,1),(8,3),(9,3),(10,2)] mixed az λH q _=>?_;have u:=(C.Y q).at (t:=i) aq G;rw[show cC d i h i=h by simp[cC]]at u;refine gh ?_;refine eQ aw (aX F) F u (by show¬l=g;omega) ?_;refine gh ?_;refine jE (nT g A n c o a L x H (J.trans q) T S (Q.Y q) O aq) ?_;rintro _ H ⟨⟨b,rfl,a⟩,G,a,u⟩;refine⟨a,?_⟩;have u:=(C.Y q).ch a aq (λt p=>by have:=(C.gt t p);by_cases e:t=i;(simp only[cC,ab e];omega);(simp only[cC,aa e]at this⊢;omega));have C:Ext x H:=a.aK (J.trans q) λb M=>aq;have a:=u.row i aq;rw[show cC d i h i=h by simp[cC]]at a;refine gh ?_;refine bZ (aX F) (.inl F) F rfl a (by rw[bf];omega) ?_;intro a x a q;have q:=u.put (t:=i) aq (by rw[show cC d i h i=h by simp[cC]];exact fi.set x) (by rw[show cC d i h i=h by simp[cC]];exact a);refine gh ?_;refine⟨_,?_,i+1,o+1,cC d i h,λt=>if t=i then(((OfNat.ofNat 1+b:Nat)):Int)else D t,rfl,aq,F,F,F,F,F,F,q.congr λt j p h=>?_,λt p=>?_,bg.ch G a aq,a.aK C (λb M=>by have:=C.size;omega)⟩
   ·omega
   ·unfold cV xU;by_cases e:t=i
    ·subst e;by_cases a:j=t
     ·rw[ab ⟨F,a⟩,ab a.symm];show _=if t=t then _ else _;rw[ab F]
     ·rw[aa λh=>a h.2,aa (Ne.symm a)];show(if t=t then(λ_=>(0:Int))else _) j=0;rw[ab F]
    ·rw[aa λh=>e h.1];show(if t=i then(λ_=>(0:Int))else λj=>if t=j then D t else 0) j=if t=j then(if t=i then _ else D t)else 0;rw[aa e,aa e]
   ·dsimp only;by_cases e:t=i
    ·rw[ab e];have:(OfNat.ofNat 1+b:Nat)=1+b:=F;omega
    ·rw[aa e];exact I t aq
  ·refine gh ?_;obtain rfl:i=m:=aq;exact⟨o,d,D,F,y,I,z,s⟩
 rintro f R ⟨o,d,D,B,y,I,E,r⟩;rw[ui B];clear B;refine gh ?_;exact bF (v:=.slice _ _ _) F rfl ⟨o,l,d,D,F,aq,y.gt,y.full,I,E,r⟩
theorem Ke(v:Value)(n:Nat)(M:Nat->Nat->Int)(w:World)(h:ke w v n (λ_=>n) M)(e:1<=n)(d:n<=16):
 aT Tryz.prog 61 #[v] w (Nw w (dQ n (λ_=>n) M=0/\aO n M<=10000)):=by
 refine bo (n:=16) Tryz.func61 F rfl az aA ?_;have m:kF n (λ_=>n)=true:=cD.2 ⟨⟨e,d,e,d⟩,λ_ _=>rfl⟩;have k:∀i j,i<n->j<n->Bd 2 (M i j):=λi j i e=>by
  have:=h.Me i (j:=j) e;exact Pg this.1 this.2
 have o:=Ec (show 1<=2 by decide) (Nat.le_refl n) d k;have e:=iL (show 2<1048576 by decide) (Nat.le_refl 16);have e:1<=Nb 2 16:=aw;have p:Bd (Nb 2 16) 10000:=(show Bd 1 10000 by unfold Bd B;decide).mono e;have b:Ext w w:=Ext.refl w;refine gh ?_;refine aJ (wU v n (λ_=>n) M w h) ?_;intro u r f;obtain⟨q,e,e,rfl,_,_,e⟩:=f.get m;clear f;have c:=e.rd k aD aq aq;replace b:=b.trans q;refine gh ?_;refine gh ?_;refine aJ (wS _ n 2 (λ_=>n) M r c aw aw) ?_;rintro _ l ⟨a,rfl⟩;replace c:=c.Y a;replace b:=b.trans a;clear a;have e:=mf n (λ_=>n) M;by_cases g:dQ n (λ_=>n) M=0;rotate_left
 ·refine gh ?_;exact bF (v:=.bool _) F rfl ⟨b,false,F,(λh=>by cases h),λh=>absurd h.1 g⟩
 refine gh ?_;refine gh ?_;refine aJ (pT _ n 2 M l c d aw aw) ?_;rintro _ e ⟨a,x,y,rfl,d⟩;replace c:=c.Y a;replace b:=b.trans a;clear a;rw[eJ]at d;refine gh ?_;refine aJ (kl 10000 e aw aw) ?_;rintro _ f ⟨a,x0,e,rfl,e⟩;replace c:=c.Y a;replace d:=d.Y a;replace b:=b.trans a;clear a;refine gh ?_;refine aJ (sQ _ _ _ _ _ _ (Nb 2 16) f (d.iv o) (e.iv p) aq) ?_;rintro _ f ⟨a,rfl⟩;replace c:=c.Y a;replace d:=d.Y a;replace e:=e.Y a;replace b:=b.trans a;clear a;refine gh ?_;refine bF (v:=.bool _) F rfl ⟨b,_,F,?_⟩;rw[decide_eq_true_iff,qn];exact⟨λh=>⟨g,h⟩,λh=>h.2⟩
theorem ml{n N:Nat}{M:Nat->Nat->Int}{a b:Nat}{z:Int}(h:∀i j,i<n->(M i j).natAbs<=N)(c:z.natAbs<=N):∀i j,i<n->(cV M a b z i j).natAbs<=N:=by
 intro i j d;unfold cV;split
 ·exact c
 ·exact h i j d
theorem AP(m:Nat)(l:Bool)(w:World)(_hm1:1<=m)(q:m<=16):
 aT Tryz.prog 58 #[.int .i64 (m:Int),.bool l] w λv u=>∃d c M,v=.slice (some ⟨d,0,none⟩) m m/\w.heap.size<=d/\(∀i,i<m->d<c i)/\ia u d c m m M/\(∀i j,i<m->(M i j).natAbs<=2)/\Ext w u:=by
 refine bo (n:=57) Tryz.func58 F rfl az aA ?_;refine gh ?_;refine cJ iS (.inl F) F rfl aD aq aq ?_;intro e q U a1;obtain⟨d,R⟩ : ∃g,g=w.heap.size:=⟨_,F⟩;rw[<-R]at q⊢;have S:dZ 113 e d m 0 m (λ_=>0):=fe q;have R:fV e d (λ_=>0) m 0 m (λ_ _=>0):=⟨S,λt x=>absurd x aq,λt x=>absurd x aq,λt t' x=>absurd x aq⟩;clear q S;refine gh ?_;refine aY (λf u=>∃c M,f 5=.slice (some ⟨d,0,none⟩) m m/\fV u d c m m m M/\(∀i j,i<m->(M i j).natAbs<=2)/\Ext w u) ?_ ?_
 ·refine gh ?_;refine aU (λq f u=>∃i c M,q=m-i/\i<=m/\f 0=.int .i64 (m:Int)/\f 1=.bool (l)/\f 5=.slice (some ⟨d,0,none⟩) m m/\f 11=.int .i64 (m:Int)/\f 12=.int .i64 ((i:Nat):Int)/\fV u d c m i m M/\(∀t j,t<i->(M t j).natAbs<=2)/\Ext w u)
   m ⟨0,λ_=>0,λ_ _=>0,rfl,aE,rfl,rfl,rfl,rfl,rfl,R,λt j x=>absurd x aq,U⟩ ?_
  clear R U a1 e;rintro q f e ⟨i,c,M,rfl,q,E,D,o,r,p,C,P,L⟩;rw[ui E,ui D,ui o,ui r,ui p];clear E D o r p;by_cases N:i<m
  ·have q:=C.outer.lt;refine gh ?_;refine cJ fS (.inl F) F rfl aD aq aq ?_;intro w2 R A S;have q:=lM R;obtain⟨B,U⟩ : ∃g,g=e.heap.size:=⟨_,F⟩;rw[<-U]at q⊢;clear R;refine gh ?_;refine dI (aX F) (.inl F) F rfl (C.outer.Y A) N ?_;intro U ⟨_,g⟩ e R a1;have J:=C.more A aq q e (g F);have T:Ext w U:=e.aK (L.trans A) (λb X=>by have:=L.size;omega);have U:w.heap.size<=B:=by have:=L.size;omega
   clear g e R q A S C L;have Q:=J.at (t:=i) aq N;have H:=J.row i aq;rw[show cC c i B i=B by simp[cC]]at Q H;refine gh ?_;refine bZ (aX F) (.inl F) F rfl H (by rw[bf];omega) ?_;intro Y V O e;have h:=J.put (t:=i) aq (by rw[show cC c i B i=B by simp[cC]];exact fi.set V) (by rw[show cC c i B i=B by simp[cC]];exact O);have G:Ext w Y:=O.aK T λb X=>aq;have y:∀t j,t<i+1->(cV (λt=>if t=i then λ_=>0 else M t) i i 2 t j).natAbs<=2:=ml (λt j x=>by
    by_cases e:t=i
    ·rw[ab e];decide
    ·rw[aa e];exact P t j aq) aw
   have I:∀t,t<i+1->w.heap.size<=cC c i B t:=λt x=>by have:=h.gt t x;omega
   generalize cV (λt=>if t=i then λ_=>(0:Int)else M t) i i 2=e at h y;generalize cC c i B=W at h I;clear J Q H V O T;have s:∀(K:World) (g:Nat->Nat->Int) (e:Fr),fV K d W m (i+1) m g->(∀t j,t<i+1->(g t j).natAbs<=2)->Ext w K->e 0=.int .i64 (m:Int)->e 1=.bool l->e 5=.slice (some ⟨d,0,none⟩) m m->e 11=.int .i64 (m:Int)->e 12=.int .i64 ((i+1:Nat):Int)->
    ∃q,q<m-i/\∃i c M,q=m-i/\i<=m/\e 0=.int .i64 (m:Int)/\e 1=.bool l/\e 5=.slice (some ⟨d,0,none⟩) m m/\e 11=.int .i64 (m:Int)/\e 12=.int .i64 ((i:Nat):Int)/\fV K d c m i m M/\(∀t j,t<i->(M t j).natAbs<=2)/\Ext w K:=
    λK g e x q Z J H B j e=>⟨m-(i+1),aq,i+1,W,g,F,aq,J,H,B,j,e,x,q,Z⟩
   by_cases h0:i=0
   ·subst h0;by_cases a6:m=1
    ·subst a6;cases l with
     |false=>
      refine gh ?_;refine aN ?_;refine gh ?_;exact s _ _ _ h y G F rfl rfl rfl rfl
     |true=>
      refine gh ?_;refine aN ?_;refine gh ?_;exact s _ _ _ h y G F rfl rfl rfl rfl
    ·cases l with
     |false=>
      refine gh ?_;refine aN ?_;refine gh ?_;exact s _ _ _ h y G F rfl rfl rfl rfl
     |true=>
      refine gh ?_;refine aN ?_;refine gh ?_;exact s _ _ _ h y G F rfl rfl rfl rfl
   refine gh ?_;refine aY (λf u=>∃k,k<i/\f 0=.int .i64 (m:Int)/\f 1=.bool l/\f 5=.slice (some ⟨d,0,none⟩) m m/\f 6=.int .i64 (i:Int)/\f 7=.int .i64 ((k:Nat):Int)/\f 11=.int .i64 (m:Int)/\f 12=.int .i64 (i:Int)/\Y=u) ?_ ?_
   ·cases l with
    |false=>
     refine gh ?_;exact⟨i-1,aq,F,F,F,F,F,F,F,F⟩
    |true=>
     by_cases e:i=m-1
     ·by_cases Z:3<m
      ·refine gh ?_;exact⟨i-2,aq,F,F,F,F,F,F,F,F⟩
      ·refine gh ?_;exact⟨i-1,aq,F,F,F,F,F,F,F,F⟩
     ·refine gh ?_;exact⟨i-1,aq,F,F,F,F,F,F,F,F⟩
   rintro f _ ⟨k,e,E,D,o,g,e,r,p,rfl⟩;rw[ui E,ui D,ui o,ui g,ui e,ui r,ui p];clear E D o g e r p;refine gh ?_;refine cP [(0,3),(1,3),(2,3),(3,0),(4,3),(5,3),(6,3),(7,3),(8,0),(9,3),(10,3),(11,2),(12,3),(13,2)] mixed az λK e _=>?_;have g:=(h.Y e).at (t:=i) aq N;have g:=(h.Y e).at (t:=k) aq aq;refine gh ?_;refine bZ (aX F) (.inl F) F rfl ((h.Y e).row i aq) (by rw[bf];omega) ?_;intro g l j g;have g:=(h.Y e).put (t:=i) aq (fi.set l) j;have p:=ml (a:=i) (b:=k) (z:=-1) y aw;have h:=I i aq;have h:=I k aq;refine gh ?_;refine bZ (aX F) (.inl F) F rfl (g.row k aq) (by rw[bf];omega) ?_;intro h q h l;have l:=g.put (t:=k) aq (fi.set q) h;have g:=ml (a:=k) (b:=i) (z:=-1) p aw;refine gh ?_;exact s _ _ _ l g (h.aK (j.aK (G.trans e) λb X=>aq) λb X=>aq) F rfl rfl rfl rfl
  ·refine gh ?_;obtain rfl:i=m:=aq;exact⟨c,M,F,C,P,L⟩
 rintro f w2 ⟨c,M,o,C,P,A⟩;rw[ui o];clear o;refine gh ?_;exact bF (v:=.slice _ _ _) F rfl ⟨d,c,M,F,aq,C.gt,C.full,P,A⟩
theorem mC(g:Nat)(A:Option Addr)(n c k m:Nat)(E:Nat->Int)(r w:World)(q:Ext r w)(P:qD r A n E)(O:r.heap.size<=g)(p:fj w g A n c k)(R:1<=m)(T:m<=16):
 aT Tryz.prog 57 #[.pointer (some ⟨g,0,none⟩),.int .i64 (m:Int)] w λv e=>∃d l G M,v=.slice (some ⟨l,0,none⟩) m m/\w.heap.size<=l/\(∀i,i<m->l<G i)/\ia e l G m m M/\(∀i j,i<m->(M i j).natAbs<=100)/\fj e g A n c d/\Ext r e:=by
 refine bo (n:=45) Tryz.func57 F rfl az aA ?_;have V:g<w.heap.size:=bg.lt p;refine gh ?_;refine aJ (kW g A n c k m 6 E r w q P O p R T aw aw) ?_;rintro _ J ⟨k1,l,G,D,rfl,S,H,h,Q,L,K⟩;have R:=q.size;have I:∀i j,i<m->(xU D i j).natAbs<=100:=λi j N=>by
  unfold xU;have:=Q i N;split
  ·omega
  ·decide
 generalize xU D=U at h I;clear p q Q;refine gh ?_;refine aY (λf e=>∃d M,f 5=.slice (some ⟨l,0,none⟩) m m/\ia e l G m m M/\(∀i j,i<m->(M i j).natAbs<=100)/\fj e g A n c d/\Ext r e) ?_ ?_
 ·refine gh ?_;refine aU (λq f e=>∃i d M,q=m-i/\i<=m/\f 0=.pointer (some ⟨g,0,none⟩)/\f 5=.slice (some ⟨l,0,none⟩) m m/\f 12=.int .i64 (m:Int)/\f 13=.int .i64 ((i:Nat):Int)/\ia e l G m m M/\(∀i j,i<m->(M i j).natAbs<=100)/\fj e g A n c d/\Ext r e)
   m ⟨0,k1,U,F,aE,F,F,F,F,h,I,L,K⟩ ?_
  clear h I L K J;rintro u f J ⟨i,d,M,rfl,N,C,o,x,t,h,B,p,y⟩;rw[ui C,ui o,ui x,ui t];clear C o x t;by_cases s:i<m
  ·refine gh ?_;refine aU (λu f e=>∃j d M,u=i-j/\j<=i/\f 0=.pointer (some ⟨g,0,none⟩)/\f 5=.slice (some ⟨l,0,none⟩) m m/\f 12=.int .i64 (m:Int)/\f 13=.int .i64 (i:Int)/\f 6=.int .i64 (i:Int)/\f 7=.int .i64 ((j:Nat):Int)/\ia e l G m m M/\(∀i j,i<m->(M i j).natAbs<=100)/\fj e g A n c d/\Ext r e)
    i ⟨0,d,M,F,aE,F,F,F,F,F,F,h,B,p,y⟩ ?_
   clear h B p y J;rintro u f J ⟨j,d,M,rfl,e,C,o,x,t,q,e,h,B,p,y⟩;rw[ui C,ui o,ui x,ui t,ui q,ui e];clear C o x t q e;refine aN ?_;by_cases e:j<i
   ·have e:=H i s;have e:=H j aq;refine gh ?_;refine kX (λb=>b=g) [(0,3),(1,3),(2,3),(3,0),(4,3),(5,3),(6,1),(7,3),(8,3),(9,2)] mixed az λt e _=>?_;have q:=(h.Y e).at s;refine gh ?_;refine eQ aw (aX F) F q (by show¬l=g;omega) ?_;refine gh ?_;refine jE (xx g A n c d E r t (y.trans e) P O (p.Y e)) ?_;rintro _ x ⟨rfl,K,q,t⟩;refine⟨q,?_⟩;have u:=(h.Y e).ch q aq (λt C=>by have:=H t C;omega);have J:Ext r x:=q.aK (y.trans e) λb C=>aq;obtain⟨z,e⟩ : ∃z,z=(tp n E d).tmod 3:=⟨_,F⟩;have I:z.natAbs<=100:=by
     have q:=Int.tmod_lt_of_pos (tp n E d) (show(0:Int)<3 by decide);have q:=Int.tmod_lt_of_pos (-(tp n E d)) (show(0:Int)<3 by decide);rw[Int.neg_tmod]at q;omega
    refine gh ?_;refine A9 F rfl aw ?_;rw[show(tp n E d).tmod 3=z from e.symm];refine gh ?_;refine bZ (aX F) (.inl F) F rfl (u.row i s) (by rw[bf];omega) ?_;intro x t e q;have q:=u.put s (fi.set t) e;have t:=ml (a:=i) (b:=j) (z:=z) B I;have u:fj x g A n c (d+1):=bg.ch K e aq;have E:Ext r x:=e.aK J λb C=>aq;refine gh ?_;refine cP [(0,3),(1,3),(2,3),(3,0),(4,3),(5,3),(6,3),(7,3),(8,0),(9,3),(10,3),(11,0),(12,3),(13,2)] mixed az λe e _=>?_;have r:=(q.Y e).at s;have r:=(q.Y e).at (i:=j) aq;have r:=((q.Y e).row i s).at (j:=j) aq;refine gh ?_;refine bZ (aX F) (.inl F) F rfl ((q.Y e).row j aq) (by rw[bf];omega) ?_;intro r I r x;have x:=(q.Y e).put (i:=j) aq (fi.set I) r;have q:=ml (a:=j) (b:=i) t (t i j s);refine gh ?_;refine⟨_,?_,j+1,d+1,_,F,aq,F,F,F,F,F,F,x,q,bg.ch (bg.Y u e) r aq,r.aK (E.trans e) λb C=>aq⟩;omega
   ·refine gh ?_;refine⟨_,?_,i+1,d,M,F,aq,F,F,F,F,h,B,p,y⟩;omega
  ·refine gh ?_;exact⟨d,M,F,h,B,p,y⟩
 rintro f e ⟨d,M,o,h,B,p,y⟩;rw[ui o];clear o;refine gh ?_;exact bF (v:=.slice _ _ _) F rfl ⟨d,l,G,M,F,S,H,h,B,p,y⟩
end
section
open Go Go.cW Go.c7 Go.Proofs
section
variable {H:Type}{enc:TypeId×Value->H}{w:World}{sp:Nat->Bool}{hd:Bool}
theorem Ia:Tryz.prog.cellsOf 5=1:=by kernel_rfl
theorem Ib:Tryz.prog.cellsOf 161=1:=by kernel_rfl
theorem FL:Tryz.prog.cellsOf 22=1:=by kernel_rfl
theorem Gq{a:Int}(h:(Lit.int .u8 a).wf=true):0<=a/\a<256:=by
 simp[Lit.wf,IntKind.min,IntKind.max,IntKind.signed,IntKind.bits]at h;omega
theorem Hv{a:Int}(h:(Lit.int .i8 a).wf=true):-128<=a/\a<128:=by
 simp[Lit.wf,IntKind.min,IntKind.max,IntKind.signed,IntKind.bits]at h;omega
theorem Ih:Tryz.prog.bytesOf 161=1:=by kernel_rfl
theorem zD{c:Nat}{cs:List Value}{x:DataW H×List MemPlace}(h:DataW.trod enc Tryz.prog w 0 sp hd c 22 cs=some x)(k:Wt 22 x.1):
 ∃A n c d,cs=[.slice A n c]/\n<=c/\qD w A n d:=by
 rcases ChangeShapes.open_ints Tryz.underlying22 Tryz.underlying161 Ib h with⟨rfl,rfl⟩|⟨a,len,cap,b,rfl,_,l,hm,e,rfl,hc,g⟩
 ·exact⟨none,0,0,λ_=>0,rfl,aD,λj d=>absurd d aq,aw⟩
 ·have f:len<=b.length:=by rw[e];split<;>omega
  have e:∀i,i<len->-128<=b.getD i 0/\b.getD i 0<128:=λi c=>by
   have:b.getD i 0∈b:=by
    have c:i<b.length:=aq;simp[List.getD,c]
   exact Hv (g _ this)
  have c:=(Gf Tryz.underlying22 k).1;rw[Ih]at c;have g:(ChangeShapes.lits (H:=H) .i8 (b.take len)).length=len:=by simp[ChangeShapes.lits,Nat.min_eq_left f]
  rw[g]at c;refine⟨some a,len,cap,λi=>b.getD i 0,rfl,l,λj d=>⟨a,rfl,?_,e j d⟩,aq⟩;rw[Nat.mul_one];exact hc j aq
theorem DU{b:Nat}{a:Value}{x:DataW H×List MemPlace}(h:DataW.trod enc Tryz.prog w 0 sp hd b 5 [a]=some x):∃r:Nat,a=.int .u8 (r:Int)/\r<256:=by
 cases b with
 |zero=>simp[DataW.trod]at h
 |succ n=>
  cases a<;>simp[DataW.trod,Tryz.underlying5]at h;rename_i z;obtain⟨⟨rfl,c⟩,d⟩:=h;have:=Gq c;exact⟨z.toNat,by rw[Int.toNat_of_nonneg this.1],aq⟩
theorem Nf{P:Program}{W:World}{r:Reach}{b t:Nat}{v:Value}{a:Array Field}(c:P.underlying t=some (.struct a))(h:Value.okWide P W r b t v):∃a,v=.agg a:=by
 simp only[Value.okWide,c]at h;obtain⟨a,e,_⟩:=h;exact⟨a,e⟩
end
theorem NI{H:Type}{a:List TypeId}{b:List (DataW H)}(h:(DataW.weightsEach Tryz.prog a b).all (·<=reachBytes)=true){j:Nat}{t:TypeId}{d:DataW H}(c:a[j]?=some t)(hd:b[j]?=some d):Wt t d:=λn a=>by
 have:=List.all_eq_true.1 h _ (DataW.weights_mem_each c hd n a);simpa using this
end
end Go.Proofs.Qq


namespace Go.Proofs.Qq
section
open Go Go.cW Go.c7 Go.Proofs
def By(w:World)(v:Value)(d kd n:Nat)(f:Nat->Int)(m:Nat)(g:Nat->Int):Prop:=
 ∃A c e b,v=.agg #[.int .u8 (d:Int),.int .u8 (kd:Int),.slice A n c,.slice e m b]/\d<256/\kd<256/\n<=c/\m<=b/\qD w A n f/\qD w e m g
section
variable {H:Type}{enc:TypeId×Value->H}{w:World}{sp:Nat->Bool}{hd:Bool}
theorem FN:Tryz.prog.cellsOf 24=4:=by kernel_rfl
theorem Ak{l:List Value}(h:l.length=4):∃a b c d,l=[a,b,c,d]:=by
 match l,h with
 |[a,b,c,d],_=>exact⟨a,b,c,d,rfl⟩
theorem G8{v:Value}{d:DataW H}{a:List MemPlace}(h:DataW.Trod enc Tryz.prog w 0 sp hd 24 v d a)(D:Wt 24 d)(b:∃t,v=.agg t):
 ∃c a n x m y,By w v c a n x m y:=by
 obtain⟨t,rfl⟩:=b;obtain⟨a,h⟩:=h;obtain⟨s,r,p,o,n,e,E,k,j,i,g⟩:=Go.Joins.trod_struct4 Tryz.underlying24 h;rw[FN]at E;obtain⟨a,b,c,f,G⟩:=Ak E;rw[G]at k j i g;have k:DataW.trod enc Tryz.prog w 0 sp hd n 5 (([a,b,c,f].drop 0).take (Tryz.prog.cellsOf 5))=some s:=k;have j:DataW.trod enc Tryz.prog w 0 sp hd n 5 (([a,b,c,f].drop 1).take (Tryz.prog.cellsOf 5))=some r:=j;have i:DataW.trod enc Tryz.prog w 0 sp hd n 22 (([a,b,c,f].drop 2).take (Tryz.prog.cellsOf 22))=some p:=i;have g:DataW.trod enc Tryz.prog w 0 sp hd n 22 (([a,b,c,f].drop 3).take (Tryz.prog.cellsOf 22))=some o:=g;rw[Ia]at k j;rw[FL]at i g;have k:DataW.trod enc Tryz.prog w 0 sp hd n 5 [a]=some s:=k;have j:DataW.trod enc Tryz.prog w 0 sp hd n 5 [b]=some r:=j;have i:DataW.trod enc Tryz.prog w 0 sp hd n 22 [c]=some p:=i;have g:DataW.trod enc Tryz.prog w 0 sp hd n 22 [f]=some o:=g;injection e with e _;subst e;have b:DataW.weights Tryz.prog 24 (.agg [s.1,r.1,p.1,o.1])=DataW.weights Tryz.prog 5 s.1++(DataW.weights Tryz.prog 5 r.1++(DataW.weights Tryz.prog 22 p.1++(DataW.weights Tryz.prog 22 o.1++[]))):=by rw[DataW.weights,Tryz.underlying24];rfl
 have c:Wt 22 p.1:=λm a=>D m (by
  rw[b];exact List.mem_append_right _ (List.mem_append_right _ (List.mem_append_left _ a)))
 have J:Wt 22 o.1:=λm a=>D m (by
  rw[b];exact List.mem_append_right _ (List.mem_append_right _ (List.mem_append_right _ (List.mem_append_left _ a))))
 obtain⟨A,m,u,x,e,O,P⟩:=zD i c;injection e with e;subst e;obtain⟨I,C,q,y,e,M,N⟩:=zD g J;injection e with e;subst e;obtain⟨B,rfl,L⟩:=DU k;obtain⟨z,rfl,K⟩:=DU j;have Q:t=#[.int .u8 (B:Int),.int .u8 (z:Int),.slice A m u,.slice I C q]:=by
  cases t with|mk l=>exact congrArg Array.mk G
 exact⟨B,z,m,x,C,y,A,u,I,q,by rw[Q],L,K,O,M,P,N⟩
end
end
section
open Go Go.cW Go.c7 Go.Proofs
open Go.aW (gr bm aO Sy PM po)
theorem Em:eP Tryz.prog 24 4=true:=by kernel_rfl
theorem Kl:cI Tryz.prog 24 0 0:=by
 unfold cI;intro a w;simp[Instr.fieldAt,run_underlying Tryz.underlying24,Instr.sureAddr,fieldPlace,cK (aX (t:=5) F)]
theorem Kk:cI Tryz.prog 24 1 1:=by
 unfold cI;intro a w;simp[Instr.fieldAt,run_underlying Tryz.underlying24,Instr.sureAddr,fieldPlace,cK (aX (t:=5) F)]
theorem Kj:cI Tryz.prog 24 2 2:=by
 unfold cI;intro a w;simp[Instr.fieldAt,run_underlying Tryz.underlying24,Instr.sureAddr,fieldPlace,cK (aX (t:=22) F)]
theorem Ki:cI Tryz.prog 24 3 3:=by
 unfold cI;intro a w;simp[Instr.fieldAt,run_underlying Tryz.underlying24,Instr.sureAddr,fieldPlace,cK (aX (t:=22) F)]
section
variable {P:Program}{n:Nat}{S:World->World->Prop}{k:Nat}{K:Fr->World->Prop}{f:Fr}{w:World}{d ty t t2:Nat}{x y:Operand}{pos:String}{aft:Array Edge}{g:Option (Nat×Bool)}
theorem CU{a b:Nat}(e:ev n f x=.int .u8 (a:Int))(c:ev n f y=.int .u8 (b:Int))(h:0<b)(h:K (cg f d (.int .u8 ((a%b:Nat):Int))) w):R1 P n S k ⟨some d,.binOp .rem t x y t2,ty,pos,aft,g⟩ K f w:=by
 refine cw e c (λ_=>by simp[eqGuard,go_sem]) (λ_=>?_) h;have e:((b:Int)=0)=False:=by(simp;omega)
 simp only[binOp,Op.intDiv,ne_eq,not_true_eq_false,if_false,e];rfl
end
theorem CA(D:Nat->Int):∀n,(∀i,i<n->1<=D i/\D i<=2)->1<=aO n (xU D)/\aO n (xU D)<=2^n
 |0,_=>by simp[aO]
 |n+1,h=>by
  obtain⟨l,c⟩:=CA D n λi a=>h i aq;obtain⟨b,a⟩:=h n aq;have e:aO (n+1) (xU D)=D n*aO n (xU D):=by
   rw[Go.aW.qj n _ λj i=>aa aq];unfold xU;rw[ab F]
  rw[e];have e:=Int.mul_le_mul b l aw aq;have b:=Int.mul_le_mul a c aq aw;rw[Int.pow_succ];omega
theorem Oc{D:Nat->Int}{n:Nat}(b:1<=n)(a:n<=8)(h:∀i,i<n->1<=D i/\D i<=2):dQ n (λ_=>n) (xU D)=0/\aO n (xU D)<=10000:=by
 refine⟨nq ⟨dj.2 ⟨b,aq,λ_ _=>rfl⟩,a⟩ (λi j b c=>?_) λq c=>?_,?_⟩
 ·unfold xU;rw[aa aq,aa aq]
 ·have:=(CA D (q+1) λi b=>h i aq).1;omega
 ·have b:=(CA D n h).2;have b:(2:Nat)^n<=2^8:=Nat.pow_le_pow_right aw a;have a:(2:Nat)^8=256:=aw;have a:((2^n:Nat):Int)=(2:Int)^n:=by rw[Int.natCast_pow];rfl
  omega
def PH(w:World)(n:Nat)(v:Value)(w':World):Prop:=
 Ext w w'/\∃a b M,v=.slice (some ⟨a,0,none⟩) n n/\w.heap.size<=a/\(∀i,i<n->a<b i)/\ia w' a b n n M/\dQ n (λ_=>n) M=0/\aO n M<=10000/\∀i j,i<n->(M i j).natAbs<=1000
theorem Oi{w:World}{g T:Nat}{x y z u:Value}(h:bg w g T #[x,y,z,u]):w.cell? ⟨g,0+0,none⟩=some x:=by rw[h.cell];rfl
theorem Oh{w:World}{g T:Nat}{x y z u:Value}(h:bg w g T #[x,y,z,u]):w.cell? ⟨g,0+1,none⟩=some y:=by rw[h.cell];rfl
theorem Og{w:World}{g T:Nat}{x y z u:Value}(h:bg w g T #[x,y,z,u]):w.cell? ⟨g,0+2,none⟩=some z:=by rw[h.cell];rfl
theorem Cm(v:Value)(s kd q m o:Nat)(W u:Nat->Int)(w:World)(h:By w v s kd q W m u)(R:0<o)(u:o<=8):
 aT Tryz.prog 20 #[v,.int .i64 (o:Int)] w (PH w (1+s%o)):=by
 obtain⟨A,B,V,U,rfl,u,u,u,u,X,u⟩:=h;refine bo (n:=74) Tryz.func20 F rfl az aA ?_;have h:=Nat.mod_lt s R;obtain⟨n,hn⟩ : ∃n,n=1+s%o:=⟨_,F⟩;rw[<-hn];have H:1<=n:=aq;have an:n<=8:=aq;refine gh ?_;refine bO (v:=.agg _) (.inl F) F ?_;intro w1 u a1 h;have h:bg w1 w.heap.size 24 #[.int .u8 (s:Int),.int .u8 (kd:Int),.slice A q B,.slice V m U]:=u;obtain⟨U,U⟩ : ∃g,g=w.heap.size:=⟨_,F⟩;rw[<-U]at h⊢;clear u;have c2:=Og h;refine gh ?_;refine aV Kj F ?_;refine gh ?_;refine uf F ?_;refine gh ?_;refine bO (v:=.agg _) (.inl F) F ?_;intro Q V U u;have I:fj Q w1.heap.size A q B 0:=by unfold fj;rw[Nat.zero_min];exact V
 obtain⟨r,u⟩ : ∃g,g=w1.heap.size:=⟨_,F⟩;rw[<-u]at I⊢;have u:=h.Y U;have l:=a1.trans U;have O:w.heap.size<=r:=aq;clear V c2 h;have V:=Oi u;have U:=Oh u;refine gh ?_;refine aV Kl F ?_;refine gh ?_;refine pg F rfl R ?_;refine gh ?_;rw[show(OfNat.ofNat 1+s%o:Nat)=n from hn.symm];obtain⟨h,o⟩ : ∃h,h=kd%8:=⟨_,F⟩;have R:h<8:=aq;refine gh ?_;refine aY (λf s=>∃J p E M,f 5=.pointer (some ⟨r,0,none⟩)/\f 6=.int .i64 (n:Int)/\f 7=.slice (some ⟨p,0,none⟩) n n/\Q.heap.size<=p/\(∀i,i<n->p<E i)/\ia s p E n n M/\(∀i j,i<n->(M i j).natAbs<=1000)/\fj s r A q B J/\Ext w s) ?_ ?_
 ·refine gh ?_;refine aV Kk F ?_;refine gh ?_;refine CU (b:=8) F rfl aw ?_;rw[show kd%8=h from o.symm];refine gh ?_;refine aN ?_;refine gh ?_;have:h=0\/h=1\/h=2\/h=3\/h=4\/h=5\/h=6\/h=7:=aq;clear o R V U u;rcases this with rfl|rfl|rfl|rfl|rfl|rfl|rfl|rfl
  ·refine bw F ?_;refine gh ?_;refine aJ (mC r A q B 0 n W w Q l X O I H aq) ?_;rintro _ R ⟨J,p,E,M,rfl,o,c,C,L,u,h⟩;refine gh ?_;exact⟨J,p,E,M,F,F,F,o,c,C,λi j G=>by(have:=L i j G;omega),u,h⟩
  ·refine bw F ?_;refine gh ?_;refine bw F ?_;refine gh ?_;refine aJ (mC r A q B 0 n W w Q l X O I H aq) ?_;rintro _ R ⟨J,p,E,M,rfl,o,c,C,L,u,h⟩;refine gh ?_;exact⟨J,p,E,M,F,F,F,o,c,C,λi j G=>by(have:=L i j G;omega),u,h⟩
  ·refine bw F ?_;refine gh ?_;refine bw F ?_;refine gh ?_;refine bw F ?_;refine gh ?_;refine aJ (mC r A q B 0 n W w Q l X O I H aq) ?_;rintro _ R ⟨J,p,E,M,rfl,o,c,C,L,u,h⟩;refine gh ?_;exact⟨J,p,E,M,F,F,F,o,c,C,λi j G=>by(have:=L i j G;omega),u,h⟩
  ·refine bw F ?_;refine gh ?_;refine bw F ?_;refine gh ?_;refine bw F ?_;refine gh ?_;refine bw F ?_;refine gh ?_;refine aJ (mC r A q B 0 n W w Q l X O I H aq) ?_;rintro _ R ⟨J,p,E,M,rfl,o,c,C,L,u,h⟩;refine gh ?_;exact⟨J,p,E,M,F,F,F,o,c,C,λi j G=>by(have:=L i j G;omega),u,h⟩
  ·refine bw F ?_;refine gh ?_;refine bw F ?_;refine gh ?_;refine bw F ?_;refine gh ?_;refine bw F ?_;refine gh ?_;refine bw F ?_;refine gh ?_;refine aJ (AP n false Q H aq) ?_;rintro _ R ⟨p,E,M,rfl,o,c,C,L,h⟩;have u:fj R r A q B 0:=bg.Y I h;have aj:r<Q.heap.size:=bg.lt I;refine gh ?_;refine mN (λb=>b=r) [(0,3),(1,3),(2,0),(3,3),(4,0),(5,3),(6,1),(7,3),(8,3),(9,2)] mixed az λZ e _=>?_;have s:0<n:=aq;have a6:=(C.Y e).at s;have a1:=((C.Y e).row _ s).at s;have av:=c _ s;have ar:=L (0) (0) s;refine gh ?_;refine eQ aw (aX F) F a6 (by show¬p=r;omega) ?_;refine gh ?_;refine eQ aw (aX F) F a1 (by show¬E (0)=r;omega) ?_;refine gh ?_;refine jE (nT r A q B 0 3 W w Z (l.trans (h.trans e)) X O (u.Y e) aw aw) ?_;rintro _ w5 ⟨⟨b,rfl,ax⟩,ai,V,au⟩;refine⟨V,?_⟩;have T:=(C.Y e).ch V aq λt ht=>by(have:=c t ht;omega)
   have Y:Ext w w5:=V.aK (l.trans (h.trans e)) λb hb=>aq;refine gh ?_;refine bZ (aX F) (.inl F) F rfl (T.row _ s) (by rw[bf];omega) ?_;intro w6 ae U al;have a7:=T.put s (fi.set ae) U;have ak:=l.size;have a8:=ml (M:=M) (N:=1000) (a:=0) (b:=0) (z:=M (0) (0)+(b:Int)) (λi j G=>by(have:=L i j G;omega)) aq;refine gh ?_;exact⟨1,p,E,_,F,F,F,o,c,a7,a8,bg.ch ai U aq,U.aK Y λb hb=>aq⟩
  ·refine bw F ?_;refine gh ?_;refine bw F ?_;refine gh ?_;refine bw F ?_;refine gh ?_;refine bw F ?_;refine gh ?_;refine bw F ?_;refine gh ?_;refine bw F ?_;refine gh ?_;refine aJ (AP n true Q H aq) ?_;rintro _ R ⟨p,E,M,rfl,o,c,C,L,h⟩;have u:fj R r A q B 0:=bg.Y I h;have aj:r<Q.heap.size:=bg.lt I;refine gh ?_;refine mN (λb=>b=r) [(0,3),(1,3),(2,3),(3,3),(4,0),(5,3),(6,3),(7,3),(8,0),(9,3),(10,1),(11,3),(12,3),(13,2)] mixed az λZ e _=>?_;have s:n-1<n:=aq;have a6:=(C.Y e).at s;have a1:=((C.Y e).row _ s).at s;have av:=c _ s;have ar:=L (n-1) (n-1) s;refine gh ?_;refine eQ aw (aX F) F a6 (by show¬p=r;omega) ?_;refine gh ?_;refine eQ aw (aX F) F a1 (by show¬E (n-1)=r;omega) ?_;refine gh ?_;refine jE (nT r A q B 0 2 W w Z (l.trans (h.trans e)) X O (u.Y e) aw aw) ?_;rintro _ w5 ⟨⟨b,rfl,ax⟩,ai,V,au⟩;refine⟨V,?_⟩;have T:=(C.Y e).ch V aq λt ht=>by(have:=c t ht;omega)
   have Y:Ext w w5:=V.aK (l.trans (h.trans e)) λb hb=>aq;refine gh ?_;refine bZ (aX F) (.inl F) F rfl (T.row _ s) (by rw[bf];omega) ?_;intro w6 ae U al;have a7:=T.put s (fi.set ae) U;have ak:=l.size;have a8:=ml (M:=M) (N:=1000) (a:=n-1) (b:=n-1) (z:=M (n-1) (n-1)+(b:Int)) (λi j G=>by(have:=L i j G;omega)) aq;refine gh ?_;exact⟨1,p,E,_,F,F,F,o,c,a7,a8,bg.ch ai U aq,U.aK Y λb hb=>aq⟩
  ·refine bw F ?_;refine gh ?_;refine bw F ?_;refine gh ?_;refine bw F ?_;refine gh ?_;refine bw F ?_;refine gh ?_;refine bw F ?_;refine gh ?_;refine bw F ?_;refine gh ?_;refine bw F ?_;refine gh ?_;refine aJ (kW r A q B 0 n 9 W w Q l X O I H aq aw aw) ?_;rintro _ R ⟨J,p,E,D,rfl,o,c,C,hD,u,h⟩;refine gh ?_;exact⟨J,p,E,_,F,F,F,o,c,C,λi j G=>by(have:=hD i G;unfold xU;split<;>omega),u,h⟩
  ·refine bw F ?_;refine gh ?_;refine bw F ?_;refine gh ?_;refine bw F ?_;refine gh ?_;refine bw F ?_;refine gh ?_;refine bw F ?_;refine gh ?_;refine bw F ?_;refine gh ?_;refine bw F ?_;refine gh ?_;refine aJ (kW r A q B 0 n 1 W w Q l X O I H aq aw aw) ?_;rintro _ R ⟨J,p,E,D,rfl,o,c,C,hD,u,h⟩;refine gh ?_;exact⟨J,p,E,_,F,F,F,o,c,C,λi j G=>by(have:=hD i G;unfold xU;split<;>omega),u,h⟩
 rintro f R ⟨J,p,E,M,u,s,h,o,c,C,L,hT,hE⟩;rw[ui u,ui s,ui h];clear u s h;have h:=l.size;refine aN ?_;refine gh ?_;refine aJ (Ke _ n M R (C.read (λi j G h=>by have:=L i j G;omega) aq aq) H aq) ?_;rintro _ Z ⟨e,b,rfl,hb⟩;cases b with
 |true=>
  refine gh ?_;exact bF (v:=.slice _ _ _) F rfl ⟨hE.trans e,p,E,M,F,aq,c,C.Y e,(hb.1 F).1,(hb.1 F).2,L⟩
 |false=>
  have c:fj Z r A q B J:=bg.Y hT e;refine gh ?_;refine aJ (kW r A q B J n 2 W w Z (hE.trans e) X O c H aq aw aw) ?_;rintro _ w5 ⟨c,o,l,D,rfl,c,h,T,hD,c,Y⟩;have c:=(hE.trans e).size;have c:=Oc H an hD;refine gh ?_;exact bF (v:=.slice _ _ _) F rfl ⟨Y,o,l,_,F,aq,h,T,c.1,c.2,λi j G=>by(have:=hD i G;unfold xU;split<;>omega)⟩
end
end Go.Proofs.Qq

