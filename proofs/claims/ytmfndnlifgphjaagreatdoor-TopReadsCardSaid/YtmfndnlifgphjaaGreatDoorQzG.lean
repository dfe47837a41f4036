import Derived.Test.YtmfndnlifgphjaaGreatDoorQzF
set_option maxHeartbeats 64000000
open Go.Proofs.YtmfndnlifgphjaaGreatDoor
namespace Go.Proofs.Qq
section
open Go Go.cW Go.c7 Go.Proofs
open Go.aW (gr bm aO Sy PM po LI one)
theorem BI{r:Nat}{len:Nat->Nat}{G:Nat->Nat->Int}(h:dQ r len G=0):PM r G/\Sy r G:=by
 obtain⟨i,i,c,d⟩:=dF.1 h;refine⟨λm h=>?_,λa b g f=>?_⟩
 ·by_cases e:m=0
  ·subst e;exact Int.zero_lt_one
  ·have:=d (m-1) aq;rwa[show m-1+1=m by omega]at this
 ·by_cases e:a=b
  ·rw[e]
  ·by_cases d:b<a
   ·exact c a b g d
   ·exact(c b a f aq).symm
theorem wG{r:Nat}{len len2:Nat->Nat}{G X:Nat->Nat->Int}(h:dQ r len G=0)(a:∀i,i<r->len2 i=r)(e:aO r X≠0):DD r len G r len2 X=0:=by
 obtain⟨b,c,_⟩:=dF.1 h;obtain⟨d,c,_⟩:=dj.1 b;have b:=a 0 aq;unfold DD;rw[ab h,ab ⟨cD.2 ⟨⟨d,c,aq,aq⟩,λi c=>by rw[a i c,b]⟩,F,aq⟩,aa];rintro⟨k,c,a⟩;rw[b]at c a;have:=a.2.le (s:=r) ⟨id,id,λt a=>⟨a,a⟩,e⟩;omega
theorem Kd(n:Nat)(T G:Nat->Nat->Int):mulM n T (mulM n G λi j=>T j i)=gr n T G:=by
 rw[Go.aW.qW,ez,ez];rfl
structure Found(n N:Nat)(G T:Nat->Nat->Int):Prop where
 BK:aO n T=1\/aO n T=-1
 pos:PM n (gr n T G)
 sym:Go.aW.tr (gr n T G)=gr n T G
 red:po n (gr n T G)
 aO:aO n (gr n T G)=aO n G
 bd:∀i j,i<n->j<n->Bd N (T i j)
 small:∀i j,i<n->j<n->-262144<gr n T G i j/\gr n T G i j<262144
def PD(w:World)(r N:Nat)(len:Nat->Nat)(G:Nat->Nat->Int)(v:Value)(w':World):Prop:=
 Ext w w'/\((dQ r len G≠0/\v=.tuple #[.slice none 0 0,.slice none 0 0,.int .i64 ((dQ r len G:Nat):Int)])\/
  (dQ r len G=0/\10000<aO r G/\v=.tuple #[.slice none 0 0,.slice none 0 0,.int .i64 ((7:Nat):Int)])\/
  (dQ r len G=0/\aO r G<=10000/\∃T c d b a,v=.tuple #[.slice (some ⟨c,0,none⟩) r r,.slice (some ⟨b,0,none⟩) r r,.int .i64 ((0:Nat):Int)]/\
   w.heap.size<=c/\(∀i,i<r->w.heap.size<=d i)/\ia w' c d r r (gr r T G)/\w.heap.size<=b/\(∀i,i<r->w.heap.size<=a i)/\iF w' b a r r (λi j=>T j i)/\Found r N G T))
theorem E5(L:Value)(r N:Nat)(len:Nat->Nat)(G:Nat->Nat->Int)(w:World)(k:cB (EI N) w L r len G)(H:1<=N)(a:N<=200):
 aT Tryz.prog 7 #[L] w (PD w r (15*Nb N 8+12) len G):=by
 refine bo (n:=51) Tryz.func7 F rfl az aA ?_;have P:=k;have d:Ext w w:=Ext.refl w;refine gh ?_;refine gh ?_;refine aJ (xF L r N len G w k H aq) ?_;rintro _ X ⟨a,x,y,rfl,c⟩;replace k:=k.Y a;replace d:=d.trans a;clear a;have b:=mf r len G;by_cases t:dQ r len G=0;rotate_left
 ·rw[aa t]at c;refine gh ?_;refine aS (.inl F) a_ ?_;intro b s a p;have m:=Bx.zero (N:=1) true s;obtain⟨gD,z⟩ : ∃g,g=X.heap.size:=⟨_,F⟩;rw[<-z]at m⊢;have S:w.heap.size<=gD:=by have:=d.size;omega
  replace k:=k.Y a;replace c:=c.Y a;replace d:=d.trans a;clear s p z a;refine gh ?_;refine aL ag F rfl m (c.ev true (Bd.zero 1)) ?_;intro u m A u p;clear k;replace c:=c.kp u;replace d:=A.aK d λb Y=>aq;clear A u p;refine gh ?_;refine aN ?_;refine gh ?_;exact jG (v:=.slice _ _ _) (v':=.slice _ _ _) (v'':=.int _ _) F rfl rfl rfl ⟨d,.inl ⟨t,F⟩⟩
 rw[ab t]at c;obtain⟨O,V,_⟩:=dF.1 t;obtain⟨q,D,C⟩:=dj.1 O;obtain⟨hp,hs⟩:=BI t;have M:=k.sq C;have a8:Bd (Nb N r) (aO r G):=by rw[<-eJ];exact ie H λi j f l=>M.bd f l
 refine gh ?_;refine aS (.inl F) a_ ?_;intro ai s a p;have m:=Bx.zero (N:=1) true s;obtain⟨gD,z⟩ : ∃g,g=X.heap.size:=⟨_,F⟩;rw[<-z]at m⊢;have S:w.heap.size<=gD:=by have:=d.size;omega
 replace k:=k.Y a;replace c:=c.Y a;replace d:=d.trans a;clear s p z a;refine gh ?_;refine aL ag F rfl m (c.ev true a8) ?_;intro g m A u p;clear k;replace c:=c.kp u;replace d:=A.aK d λb Y=>aq;clear A u p;refine gh ?_;refine aN ?_;refine gh ?_;refine aN ?_;refine gh ?_;refine b_ [(0,0),(1,1),(2,2),(3,3)] mixed az λp a _=>?_;replace c:=c.Y a;replace m:=m.Y a;replace d:=d.trans a;clear a;obtain⟨g,g,h,g⟩:=id m;obtain⟨s,s⟩:=bh h;have s:Bd (Nb N r+1) 10000:=(show Bd 1 10000 by unfold Bd B;decide).mono aq;refine gh ?_;refine gh ?_;refine aM (du 10000 p aw aw) ?_;rintro _ p ⟨a,h,h,rfl,h⟩;refine⟨a,?_⟩;replace c:=c.Y a;replace m:=m.Y a;replace g:=g.Y a;replace d:=d.trans a;clear a;refine gh ?_;refine aJ (o8 _ _ _ _ _ _ (Nb N r+1) p (g.1.mono aq) (h.iv s) (by have:=iL (show N<1048576 by omega) (show r<=16 by omega);omega)) ?_;rintro _ p ⟨a,rfl⟩;replace c:=c.Y a;replace m:=m.Y a;replace g:=g.Y a;replace h:=h.Y a;replace d:=d.trans a;clear a;by_cases hd:aO r G<=10000;rotate_left
 ·have a:e_ (aO r G) 10000=1:=by
   unfold e_;rw[aa aq,ab aq]
  refine gh ?_;exact jG (v:=.slice _ _ _) (v':=.slice _ _ _) (v'':=.int _ _) F rfl rfl rfl ⟨d,.inr (.inl ⟨t,aq,F⟩)⟩
 have a:¬0<e_ (aO r G) 10000:=by
  unfold e_;split
  ·decide
  ·split
   ·omega
   ·decide
 refine gh ?_;have M:=(P.sq C).Y d;obtain⟨K,U⟩ : ∃K,K=Nb N 8:=⟨_,F⟩;have a:K<=51455:=by
  rw[U];simp only[Nb];omega
 have a:N<=K:=by rw[U];exact mX N (Nat.zero_le 8)
 refine aJ (zK L r N (15*K+12) G p M q V H aq aq hp) ?_;rintro _ g ⟨p,I,rfl,z,s,c⟩;obtain⟨a,h⟩:=OR hs q V H (λi j f l=>M.bd f l) hp;rw[<-U]at a h;have u:jf g I r (15*K+12) (dH r G one) (lH r G one) one:=c.congr aD (λm c=>(Go.aW.dU c).symm) (λi c c f=>(Go.aW.lX aq f aq).symm) λ_ _ _ _=>rfl;refine gh ?_;refine aJ (Mc I r (15*K+12) I.gS G one _ _ _ _ g u z F q V aq aq a h) ?_;rintro _ h ⟨rfl,g,c,T,c,o⟩;have d:=d.trans (g.aK p λb Y=>s b Y.mb);have k:=P.Y d;have M:=k.sq C;have b:=d.size;have b:=c.c2;have bT:∀i j,i<r->j<r->Bd (15*K+12) (T i j):=λi j f l=>a.bT _ _ (o.up a.Bl) i j f l;refine gh ?_;have a:=c.ba.o;refine aJ (mh _ r (15*K+12) (λ_=>r) T h (a.rd bT aD aq aq) aq) ?_;intro _ a7 J;obtain⟨_,rfl,R,gT,ae,rfl,a,a1,E⟩:=J.get (cD.2 ⟨⟨q,D,q,D⟩,λ_ _=>rfl⟩);have d:=d.trans R;have k:=P.Y d;refine gh ?_;have hu:aO r (λi j=>T j i)≠0:=by
  rw[show aO r (λi j=>T j i)=aO r T from Go.aW.cY r T];rcases o.BK with e|e<;>rw[e]<;>decide
 have h:DD r len G r (λ_=>r) (λi j=>T j i)=0:=wG t (λ_ _=>rfl) hu;have a:∀i j,i<r->j<r->Bd (15*K+12) (T j i):=λi j f l=>bT j i l f;refine aJ (j6 L _ r r (15*K+12) len (λ_=>r) G (λi j=>T j i) a7 (cB.mono k aq) (E.rd a aD aq aq) aq aq) ?_;rintro _ W ⟨a,⟨b,_⟩|⟨_,g,c,rfl,Z⟩⟩
 ·exact absurd h b
 have Z:iF W g c r r (gr r T G):=by
  have:=Z;rw[show(λi j=>(λi j=>T j i) j i)=T from rfl,Kd]at this;exact this
 have d:=d.trans a;have E:=E.Y a;have a:=d.size;have Q:=Go.aW.eI hs (T:=T);have a6:aO r (gr r T G)=aO r G:=by
  rw[Go.aW.Hw];rcases o.BK with e|e<;>rw[e]<;>omega
 have b:∀i j,i<r->j<r->-262144<gr r T G i j/\gr r T G i j<262144:=λi j f l=>Go.aW.rF Q o.pos o.red V aq f l;have a:∀i j,i<r->j<r->Bd 1 (gr r T G i j):=λi j f l=>by
  have:=b i j f l;unfold Bd B;omega
 refine gh ?_;refine aJ (EO _ r 1 (λ_=>r) (gr r T G) W (Z.rd a aD aq aq) aw) ?_;intro _ a J;have O:okF r (λ_=>r) (gr r T G)=true:=by
  unfold okF;rw[show kF r (λ_=>r)=true from cD.2 ⟨⟨q,D,q,D⟩,λ_ _=>rfl⟩,Bool.true_and];exact o9.2 λi j f l=>(Cu (by have:=b i j f l;omega) (by have:=b i j f l;omega)).1
 rw[O]at J;unfold Ow at J;rw[ab F]at J;obtain⟨_,rfl,a,g,gs,rfl,c,c,e⟩:=J;have h:=(d.trans a).size;have h:=R.size;refine gh ?_;refine jG (v:=.slice _ _ _) (v':=.slice _ _ _) (v'':=.int _ _) F rfl rfl rfl ⟨d.trans a,.inr (.inr ⟨t,hd,T,g,gs,gT,ae,F,aq,λi f=>by have:=c i f;omega,e,aq,λi f=>by have:=a1 i f;omega,E.Y a,?_⟩)⟩;exact⟨o.BK,o.pos,Q,o.red,a6,by rw[<-U];exact bT,b⟩
end
end Go.Proofs.Qq


namespace Go.Proofs.Qq
section
open Go Go.cW Go.c7 Go.Proofs
open Go.aW (gr bm aO Sy PM po)
theorem Cn(v:Value)(r:Nat)(len:Nat->Nat)(M:Nat->Nat->Int)(w:World)(h:ke w v r len M):
 aT Tryz.prog 117 #[v] w λu l=>w=l/\∃b,u=.bool b/\(b=true↔qN r len M):=by
 obtain⟨A,o,rfl,u,u,y⟩:=h;refine bo (n:=62) Tryz.func117 F rfl az aA ?_;by_cases L:1<=r/\r<=8;rotate_left
 ·have E:¬qN r len M:=λh=>L ⟨h.1,h.2.1⟩;by_cases u:r<1
  ·refine gh ?_;refine aN ?_;refine gh ?_;exact bF (v:=.bool _) F rfl ⟨F,false,F,(λh=>by cases h),λh=>absurd h E⟩
  ·refine gh ?_;refine aN ?_;refine gh ?_;exact bF (v:=.bool _) F rfl ⟨F,false,F,(λh=>by cases h),λh=>absurd h E⟩
 obtain⟨R,Q⟩:=L;obtain⟨z,_,rfl,_⟩:=y 0 aq;refine gh ?_;refine aN ?_;refine gh ?_;refine aY (λf l=>f 0=.slice (some z) r o/\f 3=.int .i64 (r:Int)/\w=l/\∀k,k<r->len k=r) ?_ ?_
 ·refine gh ?_;refine aU (λm f l=>∃i,m=r-i/\i<=r/\f 0=.slice (some z) r o/\f 3=.int .i64 (r:Int)/\f 18=.slice (some z) r o/\f 19=.int .i64 (r:Int)/\f 20=.int .i64 ((i:Nat):Int)/\w=l/\∀k,k<i->len k=r)
   r ⟨0,F,aE,F,F,F,F,F,F,λk h=>absurd h aq⟩ ?_
  rintro m f _ ⟨i,rfl,hi,d,c,E,A,u,rfl,t⟩;rw[ui d,ui c,ui E,ui A,ui u];clear d c E A u;by_cases g:i<r
  ·obtain⟨S,T,J,pn,C⟩:=y i g;obtain rfl:=Option.some.inj J;obtain⟨O,N,rfl,_,_,D⟩:=C;by_cases K:len i=r
   ·refine gh ?_;refine⟨_,?_,i+1,F,aq,F,F,F,F,F,F,λk U=>?_⟩
    ·omega
    ·by_cases e:k=i
     ·rw[e];exact K
     ·exact t k aq
   ·refine gh ?_;exact bF (v:=.bool _) F rfl ⟨F,false,F,(λh=>by cases h),λh=>absurd (h.2.2.1 i g) K⟩
  ·refine gh ?_;exact⟨F,F,F,λk U=>t k aq⟩
 rintro f _ ⟨d,c,rfl,hlen⟩;rw[ui d,ui c];clear d c;refine aY (λf l=>w=l/\∀a b,a<r->b<r->M a b=M b a/\-262144<M a b/\M a b<262144) ?_ ?_
 ·refine gh ?_;refine aU (λm f l=>∃i,m=r-i/\i<=r/\f 0=.slice (some z) r o/\f 3=.int .i64 (r:Int)/\f 29=.slice (some z) r o/\f 30=.int .i64 (r:Int)/\f 31=.int .i64 ((i:Nat):Int)/\w=l/\∀a b,a<i->b<r->M a b=M b a/\-262144<M a b/\M a b<262144)
   r ⟨0,F,aE,F,F,F,F,F,F,λa b h=>absurd h aq⟩ ?_
  rintro m f _ ⟨i,rfl,hi,d,c,s,q,p,rfl,t⟩;rw[ui d,ui c,ui s,ui q,ui p];clear d c s q p;by_cases g:i<r
  ·obtain⟨S,T,J,pn,C⟩:=y i g;obtain rfl:=Option.some.inj J;obtain⟨O,N,rfl,_,_,D⟩:=C;rw[hlen i g]at D pn;refine gh ?_;refine aU (λm f l=>∃j,m=r-j/\j<=r/\f 0=.slice (some z) r o/\f 3=.int .i64 (r:Int)/\f 29=.slice (some z) r o/\f 30=.int .i64 (r:Int)/\f 31=.int .i64 (i:Int)/\f 6=.int .i64 (i:Int)/\f 36=.slice O r N/\f 37=.int .i64 (r:Int)/\f 38=.int .i64 ((j:Nat):Int)/\w=l/\∀b,b<j->M i b=M b i/\-262144<M i b/\M i b<262144)
    r ⟨0,F,aE,F,F,F,F,F,F,F,F,F,F,λb h=>absurd h aq⟩ ?_
   rintro m f _ ⟨j,rfl,k,d,c,s,q,p,o,m,l,k,rfl,B⟩;rw[ui d,ui c,ui s,ui q,ui p,ui o,ui m,ui l,ui k];clear d c s q p o m l k;by_cases x:j<r
   ·obtain⟨c,rfl,c,c,c⟩:=D j x;obtain⟨c,c,W,z_,P⟩:=y j x;obtain rfl:=Option.some.inj W;obtain⟨c,c,rfl,_,_,I⟩:=P;rw[hlen j x]at I z_;obtain⟨c,rfl,c,c,c⟩:=I i g;by_cases G:M i j=M j i/\-262144<M i j/\M i j<262144
    ·refine gh ?_;refine⟨_,?_,j+1,F,aq,F,F,F,F,F,F,F,F,F,F,λb H=>?_⟩
     ·omega
     ·by_cases e:b=j
      ·subst e;exact G
      ·exact B b aq
    ·by_cases c:M i j=M j i
     ·by_cases c:M i j<=-262144
      ·refine gh ?_;exact bF (v:=.bool _) F rfl ⟨F,false,F,(λh=>by cases h),λh=>absurd (h.2.2.2 i j g x) G⟩
      ·refine gh ?_;exact bF (v:=.bool _) F rfl ⟨F,false,F,(λh=>by cases h),λh=>absurd (h.2.2.2 i j g x) G⟩
     ·refine gh ?_;exact bF (v:=.bool _) F rfl ⟨F,false,F,(λh=>by cases h),λh=>absurd (h.2.2.2 i j g x) G⟩
   ·refine gh ?_;refine⟨_,?_,i+1,F,aq,F,F,F,F,F,F,λa b V H=>?_⟩
    ·omega
    ·by_cases e:a=i
     ·subst e;exact B b aq
     ·exact t a b aq H
  ·refine gh ?_;exact⟨F,λa b V H=>t a b aq H⟩
 rintro f _ ⟨rfl,he⟩;refine gh ?_;exact bF (v:=.bool _) F rfl ⟨F,true,F,λ_=>⟨R,Q,hlen,he⟩,λ_=>rfl⟩
end
end Go.Proofs.Qq

namespace Go.cW
open Go Go.RowKit
section
variable {P:Program}{n:Nat}{S:World->World->Prop}{k:Nat}{K:Fr->World->Prop}{f:Fr}{w:World}
 {d ty t t2:Nat} {x y:Operand} {pos:String} {aft:Array Edge} {g:Option (Nat×Bool)}
theorem II{a b q:Int}(j:ev n f x=.int .i64 a)(i:ev n f y=.int .i64 b)(c:b≠0)(e:a=b*q)(h1:-9223372036854775808<=q)(l:q<9223372036854775808)(h:K (cg f d (.int .i64 q)) w):R1 P n S k ⟨some d,.binOp .quo t x y t2,ty,pos,aft,g⟩ K f w:=by
 refine cw j i (λ_=>by simp[eqGuard,go_sem]) (λ_=>?_) h;simp only[binOp,Op.intDiv,ne_eq,not_true_eq_false,if_false,c];rw[e,Int.mul_tdiv_cancel_left _ c,wrap_i64 h1 l];rfl
end
end Go.cW
namespace Go.Proofs.Qq
open Go Go.cW Go.c7 Go.Proofs
open Go.aW (gr bm aO Sy PM po qz)
def BV(m:Nat)(M:Nat->Nat->Int):Prop:=0<M 0 0/\M 0 0<65536/\∀i,1<=i->i<m->2*M i 0<=M 0 0/\-(2*M i 0)<=M 0 0
theorem sZ(v:Value)(m:Nat)(M:Nat->Nat->Int)(w:World)(h:ke w v m (λ_=>m) M)(u:2<=m)(I:∀i,i<m->-1000000000000<M i 0/\M i 0<1000000000000):
 aT Tryz.prog 118 #[v] w λu p=>w=p/\∃b,u=.bool b/\(b=true↔BV m M):=by
 obtain⟨A,G,rfl,u,u,B⟩:=h;refine bo (n:=39) Tryz.func118 F rfl az aA ?_;obtain⟨ad,Q,rfl,u,q⟩:=B 0 aq;replace q:tH w Q m (M 0):=q;obtain⟨u,u,rfl,_,_,N⟩:=q;obtain⟨q,rfl,q,q,q⟩:=N 0 aq;have q:=I 0 aq;refine gh ?_;refine dY fS F aq ?_;refine gh ?_;refine aN ?_;by_cases E:0<M 0 0/\M 0 0<65536;rotate_left
 ·by_cases q:M 0 0<=0
  ·refine gh ?_;exact bF (v:=.bool _) F rfl ⟨F,false,F,(λh=>by cases h),λh=>absurd ⟨h.1,h.2.1⟩ E⟩
  ·refine gh ?_;exact bF (v:=.bool _) F rfl ⟨F,false,F,(λh=>by cases h),λh=>absurd ⟨h.1,h.2.1⟩ E⟩
 refine gh ?_;refine aY (λf p=>w=p/\∀i,1<=i->i<m->2*M i 0<=M 0 0/\-(2*M i 0)<=M 0 0) ?_ ?_
 ·refine gh ?_;refine v8 iS F (l:=1) F aq ?_;rw[aa aq];obtain⟨z,D⟩ : ∃a,a=ad.add (1*1):=⟨_,F⟩;rw[show Option.map (λx:Addr=>x.add (1*1)) (some ad)=some z from congrArg some D.symm];refine gh ?_;refine aU (λq f p=>∃i,q=m-1-i/\i<=m-1/\f 0=.slice (some ad) m G/\f 3=.int .i64 (M 0 0)/\f 18=.slice (some z) (m-1) (G-1)/\f 19=.int .i64 ((m-1:Nat):Int)/\f 20=.int .i64 ((i:Nat):Int)/\w=p/\∀k,1<=k->k<i+1->2*M k 0<=M 0 0/\-(2*M k 0)<=M 0 0)
   (m-1) ⟨0,F,aE,F,F,F,F,F,F,λk r J=>absurd r aq⟩ ?_
  rintro q f _ ⟨i,rfl,hi,G,A,u,q,p,rfl,C⟩;rw[ui G,ui A,ui u,ui q,ui p];clear G A u q p;by_cases p:i<m-1
  ·obtain⟨p,O,R,pn,s⟩:=B (i+1) aq;obtain rfl:=Option.some.inj R;replace s:tH w O m (M (i+1)):=s;obtain⟨p,o,rfl,_,_,L⟩:=s;obtain⟨j,rfl,p,p,p⟩:=L 0 aq;have p:=I (i+1) aq;have p:w.cell? (z.add (i*1))=some (.slice (some j) m o):=by
    rw[D,add_add,show 1*1+i*1=(i+1)*1 by omega];exact pn
   by_cases H:2*M (i+1) 0<=M 0 0/\-(2*M (i+1) 0)<=M 0 0
   ·refine gh ?_;refine dY (m:=m) (c:=o) (ad:=j) fS F aq ?_;refine gh ?_;refine fg (a:=2) (b:=M (i+1) 0) F rfl aq aq ?_;refine gh ?_;refine dY (m:=m) (c:=o) (ad:=j) fS F aq ?_;refine gh ?_;refine fg (a:=(-2)) (b:=M (i+1) 0) F rfl aq aq ?_;refine gh ?_;refine⟨_,?_,i+1,F,aq,F,F,F,F,F,F,λk r J=>?_⟩
    ·omega
    ·by_cases e:k=i+1
     ·subst e;exact H
     ·exact C k r aq
   ·by_cases e:2*M (i+1) 0<=M 0 0
    ·refine gh ?_;refine dY (m:=m) (c:=o) (ad:=j) fS F aq ?_;refine gh ?_;refine fg (a:=2) (b:=M (i+1) 0) F rfl aq aq ?_;refine gh ?_;refine dY (m:=m) (c:=o) (ad:=j) fS F aq ?_;refine gh ?_;refine fg (a:=(-2)) (b:=M (i+1) 0) F rfl aq aq ?_;refine gh ?_;exact bF (v:=.bool _) F rfl ⟨F,false,F,(λh=>by cases h),λh=>absurd (h.2.2 (i+1) aq aq) H⟩
    ·refine gh ?_;refine dY (m:=m) (c:=o) (ad:=j) fS F aq ?_;refine gh ?_;refine fg (a:=2) (b:=M (i+1) 0) F rfl aq aq ?_;refine gh ?_;exact bF (v:=.bool _) F rfl ⟨F,false,F,(λh=>by cases h),λh=>absurd (h.2.2 (i+1) aq aq) H⟩
  ·refine gh ?_;exact⟨F,λk r J=>C k r aq⟩
 rintro f _ ⟨rfl,he⟩;refine gh ?_;exact bF (v:=.bool _) F rfl ⟨F,true,F,λ_=>⟨E.1,E.2,he⟩,λ_=>rfl⟩
theorem EX{r k:Nat}{M:Nat->Nat->Int}:BV (r-k) (λi j=>bm k M (k+i) (k+j))↔0<aO (k+1) M/\aO (k+1) M<65536/\∀i,k<i->i<r->2*bm k M i k<=aO (k+1) M/\-(2*bm k M i k)<=aO (k+1) M:=by
 unfold BV;simp only[Nat.add_zero,Go.aW.db];constructor
 ·rintro⟨c,b,a⟩;refine⟨c,b,λi h e=>?_⟩;have:=a (i-k) aq aq;rwa[show k+(i-k)=i by omega]at this
 ·rintro⟨c,b,a⟩;exact⟨c,b,λi h e=>a (k+i) aq aq⟩
theorem qz.fD{r k:Nat}{M:Nat->Nat->Int}(h:qz r k M)(b:r<=8)(b:k<r){i j:Nat}(m:k<=i)(c:i<r)(l:k<=j)(b:j<r):-25769803776<bm k M i j/\bm k M i j<25769803776:=by
 have p:=h.bd i j m c l b;have o:aO k M<=65535:=by
  by_cases e:k=0
  ·subst e;exact(by decide:(1:Int)<=65535)
  ·have:=h.OP k aq aD;omega
 have b:=h.pos k aD;have b:aO k M*(262144+(k:Int)*16384)<=65535*(262144+8*16384):=Int.mul_le_mul o aq aq aw;omega
theorem qz.O4{r k:Nat}{M:Nat->Nat->Int}(m:Sy r M)(h:qz r k M)(a:r<=8)(a:k+1<r)(o:0<aO (k+1) M)(a:aO (k+1) M<65536)
 (e:∀i,k<i->i<r->2*bm k M i k<=aO (k+1) M/\-(2*bm k M i k)<=aO (k+1) M) {i j:Nat} (a:k+1<=i) (a:i<r) (b:k+1<=j) (b:j<r):-25769803776<bm (k+1) M i j/\bm (k+1) M i j<25769803776:=by
 have l:=h.bd i j aq a aq b;have c:=e i aq a;have a:=e j aq b;rw[Go.aW.Pl m aq b aq]at a;have:=Go.aW.y8 (C:=262144+(k:Int)*16384) aq (h.pos k aD) o aq l.1 l.2 c.1 c.2 a.1 a.2;have a:aO (k+1) M*(262144+(k:Int)*16384+16384)<=65535*(262144+8*16384):=Int.mul_le_mul aq aq aq aw;omega
theorem pY{a b A C:Int}(h1:-A<=a)(c:a<=A)(c:-C<=b)(c:b<=C):-(A*C)<=a*b/\a*b<=A*C:=by
 have e:0<=A:=aq;have c:0<=C:=aq;have h:(a*b).natAbs<=A.natAbs*C.natAbs:=by rw[Int.natAbs_mul];exact Nat.mul_le_mul aq aq
 have h:((A.natAbs*C.natAbs:Nat):Int)=A*C:=by rw[<-Int.natAbs_mul];have:=Int.mul_nonneg e c;omega
 omega
theorem xC(v0:Value)(r:Nat)(len:Nat->Nat)(M:Nat->Nat->Int)(w:World)(h:ke w v0 r len M):
 aT Tryz.prog 53 #[v0] w (Nw w (ru r len M)):=by
 refine bo (n:=118) Tryz.func53 F rfl az aA ?_;refine gh ?_;refine aN ?_;refine gh ?_;refine aJ (Cn v0 r len M w h) ?_;rintro _ _ ⟨rfl,b,rfl,I⟩;cases b with
 |false=>
  refine gh ?_;exact bF (v:=.bool _) F rfl ⟨Ext.refl _,false,F,(λh=>by cases h),λh=>I.2 h.small⟩
 |true=>
 have av:=I.1 F;clear I;obtain⟨b7,aj,u,ax⟩:=id av;have ak:=av.sy;have h0:ke w v0 (r-0) (λ_=>r-0) (λi j=>bm 0 M (0+i) (0+j)):=by
  have:=h.sq (c:=r) u;obtain⟨A,X,e,Y,h2,h3⟩:=this;refine⟨A,X,e,Y,h2,λi hi=>?_⟩;obtain⟨ad,u,Z,e2,e3⟩:=h3 i hi;refine⟨ad,u,Z,e2,?_⟩;have:(λj=>bm 0 M (0+i) (0+j))=M i:=by
   funext j;rw[Go.aW.fU,Nat.zero_add,Nat.zero_add]
  show tH w u (r-0) λj=>bm 0 M (0+i) (0+j);rw[this];exact e3
 refine gh ?_;refine aY (λf B=>∃k vS,k+1=r/\f 3=vS/\Ext w B/\ke B vS (r-k) (λ_=>r-k) (λi j=>bm k M (k+i) (k+j))/\qz r k M) ?_ ?_
 ·refine gh ?_;refine aU (λq f B=>∃k vS,q=r-k/\k+1<=r/\f 0=v0/\f 3=vS/\f 4=.int .i64 (aO k M)/\Ext w B/\ke B vS (r-k) (λ_=>r-k) (λi j=>bm k M (k+i) (k+j))/\qz r k M)
   r ⟨0,v0,F,b7,F,F,F,Ext.refl _,h0,Go.aW.qz.zero λi j hi hj=>(ax i j hi hj).2⟩ ?_
  clear h0;rintro q f H ⟨k,vS,rfl,hk,E,l,D,hE,hS,G⟩;rw[ui E,ui l,ui D];clear E l D;obtain⟨m,hm⟩ : ∃m,m=r-k:=⟨_,F⟩;rw[<-hm]at hS;have al:=hS;obtain⟨A,X,rfl,u,u,T⟩:=hS;obtain⟨ad,u0,rfl,b5,Q⟩:=T 0 aq;refine aN ?_;by_cases u:m=1
  ·refine gh ?_;exact⟨k,_,aq,F,hE,by rw[<-hm];exact al,G⟩
  replace Q:tH H u0 m (λj=>bm k M (k+0) (k+j)):=Q;obtain⟨A0,c0,rfl,bu,bt,ai⟩:=Q;obtain⟨an,rfl,a6,bK,bI⟩:=ai 0 aq;replace a6:H.cell? (an.add (0*1))=some (.int .i64 (aO (k+1) M)):=by rw[<-Go.aW.db];exact a6
  refine gh ?_;refine dY fS F aq ?_;refine gh ?_;have u:∀i,i<m->-1000000000000<bm k M (k+i) (k+0)/\bm k M (k+i) (k+0)<1000000000000:=λi hi=>by
   have:=qz.fD G aj aq (i:=k+i) (j:=k+0) aq aq aq aq;omega
  refine aN ?_;refine gh ?_;refine aJ (sZ _ m (λi j=>bm k M (k+i) (k+j)) H al aq u) ?_;rintro _ _ ⟨rfl,b,rfl,I⟩;rw[hm,EX]at I;cases b with
  |false=>
   refine gh ?_;refine bF (v:=.bool _) F rfl ⟨hE,false,F,(λh=>by cases h),λh=>?_⟩;refine I.2 ⟨(h.minor (show k+1<=r by omega)).1,?_,λi hi hr=>h.2.2.sized i k hi hr⟩;have:=(h.minor (show k+1<=r by omega)).2;omega
  |true=>
  obtain⟨al,u,hz⟩:=I.1 F;clear I;have ax:=G.pos k aD;have b4:=G.step;have bD:=G.next ak (show k+1<r by omega) al u hz
  have ay:∀i j,k+1<=i->i<r->k+1<=j->j<r->-25769803776<bm (k+1) M i j/\bm (k+1) M i j<25769803776:=λi j=>qz.O4 ak G aj (show k+1<r by omega) al u hz;have ar:=λi j Y h2 h3 u=>qz.fD G aj aq (i:=i) (j:=j) Y h2 h3 u;have u:aO k M<=65535:=by
   by_cases e:k=0
   ·subst e;exact(by decide:(1:Int)<=65535)
   ·have:=G.OP k aq aD;omega
  obtain⟨p,u⟩ : ∃p,m=p+1:=⟨m-1,aq⟩;refine gh ?_;rw[show m-OfNat.ofNat 1=p from by rw[u];rfl];refine cJ iS (.inl F) F rfl aD aq aq ?_;intro w2 u o b6;obtain⟨N,aj⟩ : ∃g,g=H.heap.size:=⟨_,F⟩;rw[<-aj]at u⊢;have b0:dZ 113 w2 N p 0 p (λ_=>0):=fe u;clear u;refine gh ?_;refine aY (λf B=>∃s,f 0=v0/\f 3=.slice (some ad) m X/\f 4=.int .i64 (aO k M)/\f 5=.int .i64 (aO (k+1) M)/\f 6=.slice (some ⟨N,0,none⟩) p p/\Ext H B/\ia B N s p p λi j=>bm (k+1) M (k+1+i) (k+1+j)) ?_ ?_
  ·refine gh ?_;refine aU (λq f B=>∃i s,q=p-i/\i<=p/\f 0=v0/\f 3=.slice (some ad) m X/\f 4=.int .i64 (aO k M)/\f 5=.int .i64 (aO (k+1) M)/\f 6=.slice (some ⟨N,0,none⟩) p p/\f 31=.int .i64 (p:Int)/\f 32=.int .i64 ((i:Nat):Int)/\Ext H B/\dZ 113 B N p i p s/\(∀t,t<i->fi B (s t) p (λj=>bm (k+1) M (k+1+t) (k+1+j))/\N<s t)/\(∀t t',t<i->t'<i->s t=s t'->t=t'))
    p ⟨0,λ_=>0,rfl,aE,rfl,rfl,rfl,rfl,rfl,rfl,rfl,o,b0,λt z=>absurd z aq,λt t' z=>absurd z aq⟩ ?_
   clear o b0 b6 w2;rintro q f w2 ⟨i,s,rfl,hi,E,l,D,L,J,V,U,o,hO,R,b1⟩;rw[ui E,ui l,ui D,ui L,ui J,ui V,ui U];clear E l D L J V U;by_cases b8:i<p
   ·have u:=hO.lt;obtain⟨bM,u1,Z,pn,O⟩:=T (i+1) aq;obtain rfl:=Option.some.inj Z;replace O:tH H u1 m (λj=>bm k M (k+(i+1)) (k+j)):=O;obtain⟨A1,c1,rfl,_,_,ae⟩:=O;obtain⟨a8,rfl,au,_⟩:=ae 0 aq;have bl:=aP o pn;refine gh ?_;refine cJ fS (.inl F) F rfl aD aq aq ?_;intro u u ak bC;have ax:=lM u;obtain⟨g,hg⟩ : ∃g,g=w2.heap.size:=⟨_,F⟩;rw[<-hg]at ax⊢;clear u;refine gh ?_;refine dI (aX F) (.inl F) F rfl (hO.Y ak) b8 ?_;intro w4 ⟨_,aj⟩ al bG bB;have aj:=aj F;have bj:Ext H w4:=al.aK (o.trans ak) λb I=>aq;have b7:fi w4 g p (λ_=>0):=bg.ch ax al aq;have u:∀t,t<i->fi w4 (s t) p (λj=>bm (k+1) M (k+1+t) (k+1+j))/\N<s t/\s t<g:=λt z=>by
     obtain⟨Y,h2⟩:=R t z;have:=bg.lt Y;exact⟨bg.ch (bg.Y Y ak) al aq,h2,aq⟩
    have bs:N<g:=aq;have bS:H.heap.size<g:=aq;clear al bG bB ax ak bC hO R o bl;refine gh ?_;refine aU (λq f B=>∃j,q=p-j/\j<=p/\f 0=v0/\f 3=.slice (some ad) m X/\f 4=.int .i64 (aO k M)/\f 5=.int .i64 (aO (k+1) M)/\f 6=.slice (some ⟨N,0,none⟩) p p/\f 31=.int .i64 (p:Int)/\f 32=.int .i64 (i:Int)/\f 7=.int .i64 (i:Int)/\f 8=.slice (some a8) m c1/\f 47=.int .i64 (p:Int)/\f 48=.int .i64 ((j:Nat):Int)/\Ext H B/\dZ 113 B N p (i+1) p (cC s i g)/\(∀t,t<i->fi B (s t) p λj=>bm (k+1) M (k+1+t) (k+1+j))/\fi B g p λb=>if b<j then bm (k+1) M (k+1+i) (k+1+b)else 0)
     p ⟨0,F,aE,F,F,F,F,F,F,F,F,F,F,F,bj,aj,λt z=>(u t z).1,b7.congr λb _=>aA⟩ ?_
    have a1:∀t,t<i->N<s t/\s t<g:=λt z=>(u t z).2;clear bj aj u b7 f;rintro q f u ⟨j,rfl,hj,E,l,D,L,J,V,U,aj,N,B,u,bc,aH,R,hr⟩;rw[ui E,ui l,ui D,ui L,ui J,ui V,ui U,ui aj,ui N,ui B,ui u];clear E l D L J V U aj N B u;by_cases u:j<p
    ·refine gh ?_;refine cP [(0,3),(1,3),(2,3),(3,0),(4,3),(5,3),(6,3),(7,3),(8,3),(9,3),(10,0),(11,3),(12,3),(13,3),(14,0),(15,3),(16,3),(17,0),(18,3),(19,3),(20,3),(21,0),(22,3),(23,3),(24,3),(25,3),(26,3),(27,2)] mixed az λw6 a7 _=>?_;have W:=bc.trans a7;have u:=(aH.Y a7).at (k:=i) aq b8;rw[show cC s i g i=g by simp[cC]]at u;obtain⟨u,Z,bA,_⟩:=ae (j+1) aq;obtain rfl:=Option.some.inj Z;obtain⟨u,Z,bx,_⟩:=ai (j+1) aq;obtain rfl:=Option.some.inj Z;have k1:=aP W au;have k2:=aP W bA;have k3:=aP W bx;have k4:=aP W b5;replace k1:w6.cell? (a8.add (0*1))=some (.int .i64 (bm k M (k+(i+1)) k)):=k1;replace k2:w6.cell? (a8.add ((j+1)*1))=some (.int .i64 (bm k M (k+(i+1)) (k+(j+1)))):=k2;replace k3:w6.cell? (an.add ((j+1)*1))=some (.int .i64 (bm k M k (k+(j+1)))):=k3;have N:=ar (k+(i+1)) (k+(j+1)) aq aq aq aq;have l2:=hz (k+(i+1)) aq aq;have B:=ar k (k+(j+1)) aq aq aq aq;have l4:=ay (k+1+i) (k+1+j) aq aq aq aq;have u:=b4 (k+(i+1)) (k+(j+1));have u:=Go.aW.fv k M (k+(i+1)) (k+(j+1)) aq;rw[Go.aW.db]at u;rw[show k+(i+1)=k+1+i by omega,show k+(j+1)=k+1+j by omega]at u k2 N;rw[show k+(i+1)=k+1+i by omega]at k1 l2;rw[show k+(j+1)=k+1+j by omega]at k3 B;have m1:=pY (a:=aO (k+1) M) (b:=bm k M (k+1+i) (k+1+j)) (A:=65536) (C:=25769803776) aq aq aq aq;have m2:=pY (a:=bm k M (k+1+i) k) (b:=bm k M k (k+1+j)) (A:=65536) (C:=25769803776) aq aq aq aq;refine gh ?_;refine fg (a:=aO (k+1) M) (b:=bm k M (k+1+i) (k+1+j)) F rfl aq aq ?_;refine gh ?_;refine dY fS F aq ?_;refine gh ?_;refine fg (a:=bm k M (k+1+i) k) (b:=bm k M k (k+1+j)) F rfl aq aq ?_;refine gh ?_;refine II (b:=aO k M) (q:=bm (k+1) M (k+1+i) (k+1+j)) F rfl aq u.symm aq aq ?_;refine gh ?_;have u:fi w6 g p _:=bg.Y hr a7;refine bZ (aX F) (.inl F) F rfl u (by rw[bf];omega) ?_;intro u N u B;have B:=fi.set N;refine gh ?_;refine⟨_,?_,j+1,F,aq,F,F,F,F,F,F,F,F,F,F,F,u.aK W λb I=>aq,(aH.Y a7).kp u aq,λt z=>?_,B.congr λb I=>?_⟩
     ·omega
     ·have:=a1 t z;exact bg.ch (bg.Y (R t z) a7) u aq
     ·simp only[ef];by_cases e:b=j
      ·subst e;rw[ab F,ab aq]
      ·rw[aa e];by_cases e2:b<j
       ·rw[ab e2,ab aq]
       ·rw[aa e2,aa aq]
    ·obtain rfl:j=p:=aq;refine gh ?_;refine⟨_,?_,i+1,cC s i g,F,aq,F,F,F,F,F,F,F,bc,aH,λt z=>?_,λt t' z u e=>?_⟩
     ·omega
     ·by_cases e:t=i
      ·subst e;simp only[cC,if_true];exact⟨hr.congr λb I=>by rw[ab I],bs⟩
      ·simp only[cC,aa e];exact⟨R t aq,(a1 t aq).1⟩
     ·simp only[cC]at e;split at e<;>split at e
      ·omega
      ·have:=a1 t' aq;omega
      ·have:=a1 t aq;omega
      ·exact b1 t t' aq aq e
   ·refine gh ?_;obtain rfl:i=p:=aq;exact⟨s,F,F,F,F,F,o,hO.full,λt z=>(R t z).1,λt z=>by have:=(R t z).2;omega,b1⟩
  clear o b0 b6 w2;rintro f w2 ⟨s,E,l,D,L,J,o,hZ⟩;rw[ui E,ui l,ui D,ui L,ui J];clear E l D L J;obtain⟨bM,u1,Z,pn,O⟩:=T 1 aq;obtain rfl:=Option.some.inj Z;replace O:tH H u1 m (λj=>bm k M (k+1) (k+j)):=O;obtain⟨A1,c1,rfl,_,_,ae⟩:=O;obtain⟨a8,rfl,au,_⟩:=ae 0 aq;have k1:=aP o pn;have k2:w2.cell? (a8.add (0*1))=some (.int .i64 (bm k M (k+1) k)):=aP o au;have k3:=hZ.at (i:=0) aq;have k4:=(hZ.row 0 aq).at (j:=0) aq;rw[Nat.add_zero,Go.aW.db]at k4;have l4:=ay (k+1) (k+1) aq aq aq aq;rw[Go.aW.db]at l4;have l2:=hz (k+1) aq aq;have m1:=pY (a:=aO k M) (b:=aO (k+1+1) M) (A:=65536) (C:=25769803776) aq aq aq aq;have m2:=pY (a:=bm k M (k+1) k) (b:=bm k M (k+1) k) (A:=65536) (C:=65536) aq aq aq aq;have e:=pY (a:=aO (k+1) M) (b:=aO (k+1) M) (A:=65536) (C:=65536) aq aq aq aq;have e3:3*aO (k+1) M*aO (k+1) M=3*(aO (k+1) M*aO (k+1) M):=Int.mul_assoc _ _ _;refine gh ?_;refine fh iS F (j:=1) F aq ?_;refine gh ?_;refine dY fS F aq ?_;refine gh ?_;refine aN ?_;refine gh ?_;refine dX fS F aq ?_;refine gh ?_;refine fg (a:=aO k M) (b:=aO (k+1+1) M) F rfl aq aq ?_;refine gh ?_;refine fg (a:=bm k M (k+1) k) (b:=bm k M (k+1) k) F rfl aq aq ?_;refine gh ?_;refine fg (a:=4) (b:=aO k M*aO (k+1+1) M+bm k M (k+1) k*bm k M (k+1) k) F rfl aq aq ?_;refine gh ?_;refine fg (a:=3) (b:=aO (k+1) M) F rfl aq aq ?_;refine gh ?_;refine fg (a:=3*aO (k+1) M) (b:=aO (k+1) M) F rfl aq aq ?_;by_cases hl:3*(aO (k+1) M*aO (k+1) M)<=4*(aO k M*aO (k+1+1) M+bm k M (k+1) k*bm k M (k+1) k);rotate_left
  ·refine gh ?_;refine bF (v:=.bool _) F rfl ⟨hE.trans o,false,F,(λh=>by cases h),λh=>?_⟩;exact absurd (h.2.2.I6 k aq) hl
  ·refine gh ?_;refine⟨_,?_,k+1,_,F,aq,F,F,F,hE.trans o,?_,bD hl⟩
   ·omega
   ·rw[show r-(k+1)=p by omega];refine hZ.read (λi j hi hj=>?_) aq aq;have:=ay (k+1+i) (k+1+j) aq aq aq aq;omega
 rintro f H ⟨k,vS,hk,l,hE,hS,G⟩;rw[ui l];clear l;subst hk;rw[show k+1-k=1 by omega]at hS;obtain⟨A,X,rfl,_,_,T⟩:=hS;obtain⟨ad,u0,rfl,b5,Q⟩:=T 0 aq;replace Q:tH H u0 1 (λj=>bm k M (k+0) (k+j)):=Q;obtain⟨A0,c0,rfl,bu,bt,ai⟩:=Q;obtain⟨an,rfl,a6,bK,bI⟩:=ai 0 aq;replace a6:H.cell? (an.add (0*1))=some (.int .i64 (aO (k+1) M)):=by rw[<-Go.aW.db];exact a6
 refine gh ?_;refine dY fS F aq ?_;by_cases Y:0<aO (k+1) M
 ·refine gh ?_;refine dY fS F aq ?_;refine gh ?_;refine bF (v:=.bool _) F rfl ⟨hE,_,F,?_⟩;rw[decide_eq_true_iff];exact⟨λh=>GR av G Y h,λh=>h.2.1⟩
 ·refine gh ?_;exact bF (v:=.bool _) F rfl ⟨hE,false,F,(λh=>by cases h),λh=>absurd (h.minor aD).1 Y⟩
end Go.Proofs.Qq
namespace Go.Proofs.Qq
section
open Go Go.cW Go.c7 Go.Proofs
open Go.aW (gr bm aO Sy PM po one)
theorem Hy{n N:Nat}{G T:Nat->Nat->Int}(h:Found n N G T)(b:1<=n)(c:n<=8)(d:aO n G<=10000):ru n (λ_=>n) (gr n T G):=by
 refine⟨nq ⟨dj.2 ⟨b,aq,λ_ _=>rfl⟩,c⟩ (λi j _ _=>congrFun (congrFun h.sym j) i) λq b=>h.pos (q+1) aq,by rw[h.aO];exact d,h.red⟩
theorem Hx{n N:Nat}{G T:Nat->Nat->Int}{w:World}{a:Nat}{c:Nat->Nat}(h:Found n N G T)(b:ia w a c n n (gr n T G))(c:n<=8):ke w (.slice (some ⟨a,0,none⟩) n n) n (λ_=>n) (gr n T G):=
 b.read (λi j b a=>by have:=h.small i j b a;omega) aq aq
open Classical in
noncomputable def Ja (r:Nat) (len:Nat->Nat) (G:Nat->Nat->Int) (d:Nat) (len2:Nat->Nat) (H:Nat->Nat->Int) (c:Nat) (b:Nat->Nat) (T:Nat->Nat->Int):Nat:=
 if dQ r len G=0 then
  if ru d len2 H then
   if d=r/\jt c b=true/\c=r then
    if(aO r T=1\/aO r T=-1)/\∀i j,i<r->j<r->gr r (λi j=>T j i) G i j=H i j then 0 else 10
   else 3
  else 6
 else dQ r len G
theorem s9(n:Nat)(T G:Nat->Nat->Int):mulM n (λi j=>T j i) (mulM n G T)=gr n (λi j=>T j i) G:=by
 rw[Go.aW.qW,ez,ez];rfl
theorem Cs{n N:Nat}{G T:Nat->Nat->Int}(a:n<=16)(f:∀i j,i<n->j<n->Bd N (G i j))(d:∀i j,i<n->j<n->Bd N (T i j)):∀i j,i<n->j<n->Bd (3*N+2) (gr n (λi j=>T j i) G i j):=by
 intro i j c b;rw[<-Af];have e:∀i j,i<n->j<n->Bd (N+N+1) (mulM n (λi j=>T j i) G i j):=λi j c b=>im (N:=N+N) aq λt a=>(d t i a c).mul (f t j a b);exact(im (N:=N+N+1+N) aq λt a=>(e i t c a).mul (d t j a b)).mono aq
theorem EK(K j I:Value)(r i m N:Nat)(len len2 f:Nat->Nat)(G H T:Nat->Nat->Int)(w:World)(ha:cB (EI N) w K r len G)(W:ke w j i len2 H)(ht:cB (EI N) w I m f T)(ae:2<=N)(hN:N<300000):
 aT Tryz.prog 19 #[K,j,I] w λv w'=>Ext w w'/\v=.int .i64 ((Ja r len G i len2 H m f T:Nat):Int):=by
 refine bo (n:=85) Tryz.func19 F rfl az aA ?_;obtain⟨Ah,ae,a1,ae,ae,_⟩:=id W;obtain⟨Aa,ae,a6,ae,ae,_⟩:=id ha;have P:=W;have B:=ha;have A:=ht;have d:Ext w w:=Ext.refl w;refine gh ?_;refine aN ?_;refine gh ?_;refine aJ (jb K r N len G w (B.Y d) aq aq) ?_;rintro _ K ⟨a,rfl⟩;replace d:=d.trans a;clear a;have W:=mf r len G;unfold Ja;by_cases L:dQ r len G=0;rotate_left
 ·rw[aa L];refine gh ?_;exact bF (v:=.int _ _) F rfl ⟨d,F⟩
 rw[ab L];obtain⟨W,h8,ae,ae⟩:=dF.1 L;obtain⟨q,l,M⟩:=dj.1 W;refine gh ?_;refine aN ?_;refine gh ?_;refine aJ (xC j i len2 H K (P.Y d)) ?_;rintro _ w2 ⟨j,b,rfl,o⟩;replace d:=d.trans j;cases b with
 |false=>
  rw[aa (λh=>by cases o.2 h)];refine gh ?_;exact bF (v:=.int _ _) F rfl ⟨d,F⟩
 |true=>
 have j:=o.1 F;rw[ab j];have C:=j.small;refine gh ?_;refine aJ (kh _ I m f T w2 (A.Y d)) ?_;rintro _ _ ⟨rfl,rfl⟩;obtain⟨c,j,j,j,h1⟩:=df m f;rw[j];clear j;subst a1 a6;by_cases E:i=r;rotate_left
 ·rw[aa λh=>E h.1];refine gh ?_;refine aN ?_;refine gh ?_;exact bF (v:=.int _ _) F rfl ⟨d,F⟩
 subst E;rcases h1 with⟨g,rfl,rfl,rfl⟩|⟨g,rfl,rfl,rfl⟩;rotate_left
 ·rw[aa (λh=>by have:=h.2.1;rw[mw,g]at this;cases this)];refine gh ?_;refine aN ?_;refine gh ?_;exact bF (v:=.int _ _) F rfl ⟨d,F⟩
 by_cases Z:c=i;rotate_left
 ·rw[aa λh=>Z h.2.2];refine gh ?_;refine aN ?_;refine gh ?_;exact bF (v:=.int _ _) F rfl ⟨d,F⟩
 by_cases D:f 0=i;rotate_left
 ·rw[aa (λh=>D (by have:=h.2.1;rw[mw,g]at this;have:c=f 0:=(by simpa using this);omega))];refine gh ?_;refine aN ?_;refine gh ?_;exact bF (v:=.int _ _) F rfl ⟨d,F⟩
 subst Z;have i:jt c f=true:=by rw[mw,g];simpa using D.symm
 rw[ab ⟨F,i,F⟩];obtain⟨_,_,p⟩:=dj.1 i;have m:=B.sq M;have g:=A.sq p;have bG:∀i j,i<c->j<c->Bd N (G i j):=λi j r K=>m.bd r K;have bT:∀i j,i<c->j<c->Bd N (T i j):=λi j r K=>g.bd r K;have m:=iL (show N<1048576 by omega) (Nat.le_refl 16);have m:1<=Nb N 16:=Nat.le_trans (show 1<=N by omega) (mX N (Nat.zero_le 16));have bD:=Ec (show 1<=N by omega) (Nat.le_refl c) l bT;have a1:kF c (λ_=>c)=true:=cD.2 ⟨⟨q,l,q,l⟩,λ_ _=>rfl⟩;refine gh ?_;refine aN ?_;refine gh ?_;refine aJ (xW (g.Y d) (show 1<=N by omega) (show N<1048576 by omega) q l) ?_;rintro _ w3 ⟨g,x,y,rfl,m⟩;rw[eJ]at m;replace d:=d.trans g;refine gh ?_;refine aS (.inl F) a_ ?_;intro g W a M;have E:=Bx.zero (N:=1) true W;obtain⟨gD,Z⟩ : ∃g,g=w3.heap.size:=⟨_,F⟩;rw[<-Z]at E⊢;have g:w.heap.size<=gD:=by have:=d.size;omega
 replace m:=m.Y a;replace d:=d.trans a;clear W M Z a;refine gh ?_;refine aL ag F rfl E (m.ev true bD) ?_;intro Z E W g M;replace m:=m.kp g;replace d:=W.aK d λb o=>aq;clear W g M;refine gh ?_;refine aN ?_;obtain⟨g,g,m,g⟩:=id E;obtain⟨W,M⟩:=bh m;refine gh ?_;refine gh ?_;refine aJ (z7 _ _ _ (Nb N 16) Z g.1 aq) ?_;rintro _ X ⟨a,rfl⟩;replace E:=E.Y a;replace d:=d.trans a;clear a;clear W M g;have g:∀a:Int,a=1\/a=-1->(clip (aO c T)=a↔aO c T=a):=λa ha=>by
  unfold clip fits;by_cases a:-9223372036854775808<=aO c T/\aO c T<9223372036854775808
  ·rw[decide_eq_true a,ab F]
  ·rw[decide_eq_false a,aa aw];omega
 have E:=g 1 (.inl F);have m:=g (-1) (.inr F);have z:(aO c T=1\/aO c T=-1)↔(clip (aO c T)=1\/clip (aO c T)=-1):=by rw[E,m]
 have a:=C.2.2.1;have U:kF c len2=true:=cD.2 ⟨⟨q,l,by rw[a 0 aq];exact q,by rw[a 0 aq];exact l⟩,λi r=>by rw[a i r,a 0 aq]⟩;have V:len2 0=c:=a 0 aq;have Y:oM c c (λ_=>c) (λ_=>c)=true:=by unfold oM;rw[a1];simp
 have bI:∀i j,i<c->j<c->Bd 2 (H i j):=λi j r K=>by
  have:=C.2.2.2 i j r K;exact Pg aq aq
 generalize clip (aO c T)=cl at z E m⊢;by_cases pn:cl=1
 ·have s:aO c T=1\/aO c T=-1:=z.2 aq;have Q:aO c T≠0:=by rcases s with e|e<;>rw[e]<;>decide
  have e0:DD c len G c f T=0:=wG L p Q;refine gh ?_;refine aJ (rE _ c len2 H X (P.Y d)) ?_;intro u w5 J;obtain⟨_,rfl,S,gI,a8,rfl,_,_,k⟩:=J.get U;rw[V]at k;clear J;replace d:=d.trans S;refine gh ?_;refine aJ (j6 _ I c c N len f G T w5 (B.Y d) (A.Y d) aq aq) ?_;rintro _ w6 ⟨t,⟨O,_⟩|⟨_,gP,a7,rfl,hP⟩⟩
  ·exact absurd e0 O
  rw[D,s9]at hP;replace d:=d.trans t;replace k:=k.Y t;refine gh ?_;rw[D];refine aN ?_;refine gh ?_;refine aJ (AA _ _ c c (3*N+2) (λ_=>c) (λ_=>c) _ H w6 (hP.rd (Cs l bG bT) aD aq aq) (k.rd bI aq aq aq) aq) ?_;rintro _ w7 ⟨R,b,rfl,o⟩;replace d:=d.trans R;cases b with
  |false=>
   rw[aa (λh=>by cases o.2 ⟨Y,h.2⟩)];refine gh ?_;exact bF (v:=.int _ _) F rfl ⟨d,F⟩
  |true=>
   rw[ab ⟨s,(o.1 F).2⟩];refine gh ?_;exact bF (v:=.int _ _) F rfl ⟨d,F⟩
 ·by_cases z_:cl=-1
  ·have s:aO c T=1\/aO c T=-1:=z.2 aq;have Q:aO c T≠0:=by rcases s with e|e<;>rw[e]<;>decide
   have e0:DD c len G c f T=0:=wG L p Q;refine gh ?_;refine aJ (rE _ c len2 H X (P.Y d)) ?_;intro u w5 J;obtain⟨_,rfl,S,gI,a8,rfl,_,_,k⟩:=J.get U;rw[V]at k;clear J;replace d:=d.trans S;refine gh ?_;refine aJ (j6 _ I c c N len f G T w5 (B.Y d) (A.Y d) aq aq) ?_;rintro _ w6 ⟨t,⟨O,_⟩|⟨_,gP,a7,rfl,hP⟩⟩
   ·exact absurd e0 O
   rw[D,s9]at hP;replace d:=d.trans t;replace k:=k.Y t;refine gh ?_;rw[D];refine aN ?_;refine gh ?_;refine aJ (AA _ _ c c (3*N+2) (λ_=>c) (λ_=>c) _ H w6 (hP.rd (Cs l bG bT) aD aq aq) (k.rd bI aq aq aq) aq) ?_;rintro _ w7 ⟨R,b,rfl,o⟩;replace d:=d.trans R;cases b with
   |false=>
    rw[aa (λh=>by cases o.2 ⟨Y,h.2⟩)];refine gh ?_;exact bF (v:=.int _ _) F rfl ⟨d,F⟩
   |true=>
    rw[ab ⟨s,(o.1 F).2⟩];refine gh ?_;exact bF (v:=.int _ _) F rfl ⟨d,F⟩
  ·rw[aa (λh=>by have:=z.1 h.1;omega)];refine gh ?_;exact bF (v:=.int _ _) F rfl ⟨d,F⟩
