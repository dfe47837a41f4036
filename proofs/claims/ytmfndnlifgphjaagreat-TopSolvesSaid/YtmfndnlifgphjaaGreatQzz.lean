import Derived.Test.YtmfndnlifgphjaaGreatQzy
set_option maxHeartbeats 64000000
open Go.Proofs.YtmfndnlifgphjaaGreat
namespace Go.Proofs.Qq
section
open Go Go.cU Go.cV Go.Proofs
open Go.bc (sm)
def tv(C U:Nat->Nat->Int)(j r k:Nat):Int:=sm k λt=>C t r*U t j
theorem FL{C U:Nat->Nat->Int}{j r N n:Nat}(b:∀t,t<n->Bd N (C t r))(a:∀t,t<n->Bd N (U t j)):∀k,k<=n->Bd (N+N+k) (tv C U j r k)
 |0,_=>Bd.zero _
 |k+1,h=>((FL b a k aq).add (((b k aq).mul (a k aq)).mono aq))
def mV(C U:Nat->Nat->Int)(n j r k:Nat):Nat->Nat->Int:=λa b=>if a<j\/a=j/\b<r then tv C U a b n else if a=j/\b=r then tv C U a b k else 0
theorem zI(M n m N:Nat)(v cp:Nat->Nat)(C U:Nat->Nat->Int)(g:Value)(w:World)(V:bO w M v cp n m false (λ_ _=>N) C)(hU:cO (EI N) w g n (λ_=>n) U)(v:1<=n)(v:n<=16)(v:1<=m)(v:m<=1048576)(v:N<1048576):
 aT Tryz.prog 88 #[.slice (some ⟨M,0,none⟩) n n,g] w λv p=>
  v=.tuple #[]/\Ch (λb=>b=M) w p/\Kp w p/\∃l,(∀t,t<n->w.heap.size<=l t)/\bO p M l (λ_=>m) n m true (λ_ _=>N+N+n) (λj r=>tv C U j r n):=by
 have hR:=V.read aq aq;obtain⟨g,cu,rfl,Ay,GI,IW⟩:=id hU;obtain⟨au,_,g,e,_,_⟩:=hU.at (show 0<n by omega);cases e;refine bF (n:=75) Tryz.func88 F rfl aw aA ?_;have bC:∀t r,t<n->r<m->Bd N (C t r):=λt r A hr=>hR.bd A hr;have bU:∀t j,t<n->j<n->Bd N (U t j):=λt j A S=>hU.bd A S;have bT:∀j r k,j<n->r<m->k<=n->Bd (N+N+n) (tv C U j r k):=λj r k S hr R=>(FL (λt A=>bC t r A hr) (λt A=>bU t j A S) k R).mono aq;have g:=V.lt;refine gp ?_;refine cF dF (.inl F) F rfl aD aq aq ?_;intro w2 v aj ad;obtain⟨K,aH⟩ : ∃g,g=w.heap.size:=⟨_,F⟩;rw[<-aH]at v⊢;have o:dZ w2 K n 0 m (λ_=>0) true (N+N+n) (mV C U n 0 0 0):=⟨iz v,λk R=>absurd R aq,λk g R=>absurd R aq⟩;clear v ad;refine gp ?_;refine aX (λf p=>∃l,f 0=.slice (some ⟨M,0,none⟩) n n/\f 4=.slice (some ⟨K,0,none⟩) n n/\Ext w p/\(∀i,i<n->w.heap.size<=l i)/\bO p K l (λ_=>m) n m true (λ_ _=>N+N+n) λj r=>tv C U j r n) ?_ ?_
 ·refine gp ?_;refine aU (λq f p=>∃j l,q=n-j/\j<=n/\f 0=.slice (some ⟨M,0,none⟩) n n/\f 1=.slice (some au) n cu/\f 4=.slice (some ⟨K,0,none⟩) n n/\f 13=.int .i64 (n:Int)/\f 14=.int .i64 ((j:Nat):Int)/\Ext w p/\dZ p K n j m l true (N+N+n) (mV C U n j 0 0))
   n ⟨0,λ_=>0,rfl,aE,rfl,rfl,rfl,rfl,rfl,aj,o⟩ ?_
  clear aj o;rintro q f w3 ⟨j,l,rfl,S,x,D,u,z,y,d,o⟩;rw[ui x,ui D,ui u,ui z,ui y];clear x D u z y;by_cases B:j<n;rotate_left
  ·obtain rfl:j=n:=aq;refine gp ?_;exact⟨l,F,F,d,λi T=>by have:=(o.2.1 i T).2;omega,(o.congr (λa b Z _=>by unfold mV;rw[ae (.inl Z)])).gm aq⟩
  have v:=(V.Y d).at B;refine gp ?_;refine cF eE (.inl F) F rfl aD aq aq ?_;intro w4 b0 g av;clear v;refine gp ?_;refine eY (aW F) (.inl F) F rfl (o.1.Y g) B ?_;intro w5 ⟨_,aH⟩ v ad bg;have hl:=o.lt;have hx:=d.size;have E:dZ w5 K n (j+1) m (cZ l j w3.heap.size) true (N+N+n) (mV C U n j 0 0):=
   (o.Y g).add (aH F) hl.2 (((ff true (N+N+n) b0).kp ad v aq).congr λq _=>⟨aD,by
    unfold mV tv sm;rw[aa aq];split<;>rfl⟩) hl.1 v ad
  have ay:=v.aK (d.trans g) λb Y=>aq;clear d o b0 g av aH v ad bg hl hx;generalize cZ l j w3.heap.size=al at E;have g:=E.1.at (show j<j+1 by omega) B;refine gp ?_;clear g;refine aU (λq f p=>∃r,q=m-r/\r<=m/\f 0=.slice (some ⟨M,0,none⟩) n n/\f 1=.slice (some au) n cu/\f 4=.slice (some ⟨K,0,none⟩) n n/\f 13=.int .i64 (n:Int)/\f 14=.int .i64 (j:Int)/\f 5=.int .i64 (j:Int)/\f 30=.int .i64 (m:Int)/\f 31=.int .i64 ((r:Nat):Int)/\Ext w p/\dZ p K n (j+1) m al true (N+N+n) (mV C U n j r 0))
   m ⟨0,F,aE,F,F,F,F,F,F,F,F,ay,E⟩ ?_
  clear ay E;rintro q f g ⟨r,rfl,hr,x,D,u,z,y,O,I,H,d,o⟩;rw[ui x,ui D,ui u,ui z,ui y,ui O,ui I,ui H];clear x D u z y O I H;by_cases L:r<m;rotate_left
  ·obtain rfl:r=m:=aq;refine gp ?_;refine⟨_,?_,j+1,al,F,B,F,F,F,F,F,d,o.congr λa b Z Y=>?_⟩
   ·omega
   ·unfold mV;by_cases h1:a<j\/a=j/\b<r
    ·rw[ae h1,ae aq]
    ·omega
  refine gp ?_;refine aU (λq f p=>∃k,q=n-k/\k<=n/\f 0=.slice (some ⟨M,0,none⟩) n n/\f 1=.slice (some au) n cu/\f 4=.slice (some ⟨K,0,none⟩) n n/\f 13=.int .i64 (n:Int)/\f 14=.int .i64 (j:Int)/\f 5=.int .i64 (j:Int)/\f 30=.int .i64 (m:Int)/\f 31=.int .i64 (r:Int)/\f 6=.int .i64 (r:Int)/\f 35=.int .i64 (n:Int)/\f 36=.int .i64 ((k:Nat):Int)/\Ext w p/\dZ p K n (j+1) m al true (N+N+n) (mV C U n j r k))
   n ⟨0,F,aE,F,F,F,F,F,F,F,F,F,F,F,d,o⟩ ?_
  clear d o;rintro q f X ⟨k,rfl,R,x,D,u,z,y,O,I,H,v,q,g,d,o⟩;rw[ui x,ui D,ui u,ui z,ui y,ui O,ui I,ui H,ui v,ui q,ui g];clear x D u z y O I H v q g;by_cases G:k<n;rotate_left
  ·obtain rfl:k=n:=aq;refine gp ?_;refine⟨_,?_,r+1,F,L,F,F,F,F,F,F,F,F,d,o.congr λa b Z Y=>?_⟩
   ·omega
   ·unfold mV;by_cases h1:a<j\/a=j/\b<r
    ·rw[ae h1,ae aq]
    ·rw[aa h1];by_cases g:a=j/\b=r
     ·rw[ae g,ae aq]
     ·rw[aa g,aa aq];by_cases g:a=j/\b=r+1
      ·rw[ae g];rfl
      ·rw[aa g]
  refine gp ?_;have ai:=V.at G;obtain⟨g,g,a7,a3,ct⟩:=(V.row k G).at L;replace ct:=ct.1;obtain⟨_,_,g,e,ab,an⟩:=hU.at G;cases e;obtain⟨g,g,_,_,rfl,_,_,_⟩:=an.at B;obtain⟨_,_,x2,y2,e,a6,a2,fg⟩:=an.at B;cases e;replace ct:=ct.Y d;replace fg:IV X N x2 y2 (U k j):=IV.Y fg d;have g:=d;have d:Ext w X:=d;have s:Ext X X:=Ext.refl _;refine gp ?_;refine iq [(0,3),(1,3),(2,3),(3,0),(4,3),(5,3),(6,0),(7,3),(8,3),(9,3),(10,0),(11,3),(12,3),(13,0)] [(14,[],[]),(15,[],[])] [(16,2)] mixed aw λb5 c _=>?_;replace ct:=ct.Y c;replace fg:=fg.Y c;replace s:=s.trans c;replace d:=d.trans c;clear c;replace ai:=aS d ai;replace ab:=aS d ab;replace a7:=aS d a7;replace a3:=aS d a3;replace a6:=aS d a6;replace a2:=aS d a2;refine gp ?_;refine gp ?_;refine dT [(14,[])] [fA 15 8 35 (.agg #[.bool false,.slice none 0 0])] [53,8] aw (λa Z f' p _ _=>by
   rcases List.mem_singleton.1 Z with rfl;exact b_ a_ F f' p) ?_
  have W:=s.size;have b1:=d.size;refine gp ?_;refine cT λg c=>?_;replace ct:=ct.Y c;replace fg:=fg.Y c;replace s:=s.trans c;replace d:=d.trans c;clear c;refine gp ?_;refine aM (i_ _ _ _ _ _ _ N g ct fg aq) ?_;rintro _ g ⟨c,g,g,rfl,A⟩;refine⟨c,?_⟩;replace ct:=ct.Y c;replace fg:=fg.Y c;replace s:=s.trans c;replace d:=d.trans c;clear c;refine gp ?_;refine fM λp c g ax b4=>?_;replace ct:=ct.Y c;replace fg:=fg.Y c;replace s:=s.trans c;replace A:=A.Y c;replace d:=d.trans c;clear c;obtain⟨J,Q⟩:=ax _ aG;have J:b5.heap.size<=g 8:=J;have P:Bx p (g 8) 1 true 0:=Bx.zero true Q;show Ro _ _ _ _ _ _ (bS _ 8 (.pointer (some ⟨g 8,0,none⟩))) _;generalize g 8=gT at*;have g:w.heap.size<=gT:=aq;have g:X.heap.size<=gT:=aq;clear W;clear ax b4 b1 Q J;have g:Bd (N+N+n) (C k r*U k j):=((bC k r G L).mul (bU k j G B)).mono aq;refine gp ?_;refine aL ag F rfl P (A.ev true g) ?_;intro g P p g q;replace ct:=ct.kp g;replace fg:=fg.kp g;replace s:=p.aK s λb Y=>aq;replace A:=A.kp g;replace d:=p.aK d λb Y=>aq;clear p g q;clear ai ab a7 a3 a6 a2;clear A ct fg;refine gp ?_;refine gp ?_;refine c8 [(0,3),(1,3),(2,3),(3,0),(4,3),(5,3),(6,3),(7,3),(8,0),(9,3),(10,3),(11,0),(12,0),(13,1),(14,3),(15,2)] mixed aw λq c _=>?_;replace s:=s.trans c;replace P:=P.Y c;replace d:=d.trans c;clear c;have g:=o.Y s;have I:=g.1.at (show j<j+1 by omega) B;have p:=(g.2.1 j aq).1;obtain⟨g,g,D,z,H⟩:=p.at L;obtain⟨g,g,g,p⟩:=id P;obtain⟨y,v⟩:=a9 g;have g:=p.1;have p:=H.1;refine gp ?_;refine gp ?_;refine aM (nG _ _ _ _ _ _ (N+N+n) q p g aq) ?_;rintro _ q ⟨c,q,q,rfl,q⟩;refine⟨c,?_⟩;replace s:=s.trans c;replace P:=P.Y c;replace p:=p.Y c;replace g:=g.Y c;replace d:=d.trans c;clear c;have E:=o.Y s;have c:=(E.2.1 j aq).1;clear I D z y v;refine gp ?_;have g:Bd (N+N+n) (mV C U n j r k j r+C k r*U k j):=by
   have e:mV C U n j r k j r+C k r*U k j=tv C U j r (k+1):=by
    unfold mV;rw[aa aq,ae ⟨F,F⟩];rfl
   rw[e];exact bT j r (k+1) B L G
  refine dW (.inl F) F rfl c L (q.ev true g) ?_;intro c p c g q;have q:=E.put (show j<j+1 by omega) aD p c g;have g:=(E.2.1 j aq).2;have g:=c.aK d λb Y=>aq;refine gp ?_;refine⟨_,?_,k+1,F,G,F,F,F,F,F,F,F,F,F,F,F,g,q.congr λa b _ _=>?_⟩
  ·omega
  ·simp only[dM];by_cases e:a=j/\b=r
   ·obtain⟨rfl,rfl⟩:=e;unfold mV;rw[ae ⟨F,F⟩,aa aq,ae ⟨F,F⟩,aa aq,ae ⟨F,F⟩];rfl
   ·rw[aa e];unfold mV;rw[aa e,aa e]
 clear aj o;rintro f w3 ⟨l,x,u,d,a,b⟩;rw[ui x,ui u];clear x u;have c:=V.Y d;have e:=b.lt;refine gp ?_;refine v9 (h1:=λi=>.slice (some ⟨l i,0,none⟩) m m) rfl rfl c.outer c.j7.jn (λj S=>⟨by rw[add_lit];exact b.at S,F⟩) ?_;intro w4 g e c av;have f:bO w4 M l (λ_=>m) n m true (λ_ _=>N+N+n) (λj r=>tv C U j r n):=⟨g,λi T=>(b.row i T).kp c e (by have:=a i T;omega),λi T=>by have:=a i T;omega,b.inj⟩;refine gp ?_;exact n6 F ⟨F,(d.mono λ_ _ h=>h.elim).trans e,(bN d).trans c,l,λt A=>by have:=a t A;omega,f⟩
end
section
open Go Go.cU Go.cV Go.Proofs
open Go.bc (sm aQ)
open Go.Hn (Hf)
theorem bO.HK{w:World}{a r c N:Nat}{b d:Nat->Nat}{cn:Bool}{M:Nat->Nat->Int}(h:bO w a b d r c cn (λ_ _=>N) M)(b:r<9223372036854775808):cO (EB N cn) w (.slice (some ⟨a,0,none⟩) r r) r (λ_=>c) M:=
 ⟨_,_,F,aD,b,λi a=>⟨_,_,rfl,by rw[add_lit];exact h.at a,by
  obtain⟨d,b,_⟩:=h.row i a;refine⟨_,_,F,d,b,λj d=>?_⟩;obtain⟨x,y,f,e,b⟩:=(h.row i a).at d;exact⟨_,x,y,F,by rw[add_lit];exact f,by rw[add_lit];exact e,b⟩⟩⟩
theorem _root_.Go.Hn.Hf.congr{n:Nat}{H a:Nat->Nat->Int}(h:Hf n H)(e:∀i j,i<n->j<n->H i j=a i j):Hf n a:=
 ⟨λi j a b c=>by rw[<-e i j a b];exact h.up i j a b c,λi a=>by rw[<-e i i a a];exact h.pos i a,λi j a b=>by rw[<-e i j a aq,<-e i i a a];exact h.red i j a b⟩
theorem E8{n:Nat}{W T X:Nat->Nat->Int}(b:1<=n)(h:aQ n W≠0)(l:∀r j,r<n->j<n->T r j=Go.bc.mul n W X r j){i j:Nat}(d:i<n)(g:j<n):mulM n (kD n W) T i j/aQ n W=X i j:=by
 obtain⟨m,rfl⟩ : ∃m,n=m+1:=⟨n-1,aq⟩;have o:mulM (m+1) (kD (m+1) W) T i j=aQ (m+1) W*X i j:=by
  rw[pL];have b:Go.bc.mul (m+1) (kD (m+1) W) T i j=Go.bc.mul (m+1) (Go.bc.fa m W) (Go.bc.mul (m+1) W X) i j:=Go.bc.aO λk a=>by
   rw[vp m W i k d a,l k j a g]
  rw[b,<-Go.bc.mul_assoc];have p:Go.bc.mul (m+1) (Go.bc.mul (m+1) (Go.bc.fa m W) W) X i j=sm (m+1) λk=>if k=i then aQ (m+1) W*X i j else 0:=Go.bc.aO λk a=>by
   rw[Go.bc.jf m W i k d a];by_cases e:i=k
   ·subst e;rw[ae F,ae F]
   ·rw[aa e,aa (Ne.symm e),Int.zero_mul]
  rw[p,Go.bc.cG (c:=i) d λk _ a=>aa a,ae rfl]
 rw[o];exact Int.mul_ediv_cancel_left _ h
def uV(d:Int)(A:Nat->Nat->Int)(i j:Nat):Nat->Nat->Int:=λa b=>if a<i\/a=i/\b<j then A a b/d else A a b
theorem Ea{e d:Value}{r q c N:Nat}{X Y:Nat->Nat->Int}{w:World}(g:cO (EI N) w e r (λ_=>q) X)(f:cO (EI N) w d q (λ_=>c) Y)(k:N<68719476736)(h1:1<=r)(s:r<=16)(p:1<=q)(o:q<=16)(n:1<=c)(m:c<=16):
 aT Tryz.prog 86 #[e,d] w λv j=>Ext w j/\∃a b,v=.tuple #[.slice (some ⟨a,0,none⟩) r r,.bool true]/\w.heap.size<=a/\(∀i,i<r->w.heap.size<=b i)/\jF j a b r c (mulM q X Y):=
 (yy e d r q N _ _ X Y w g f k).mono λ_ _ h=>by
  obtain⟨u,rfl,l,a,b,rfl,g,f,d⟩:=h.get (uF h1 s p o n m);exact⟨l,a,b,F,g,f,d⟩
theorem qQ(Y n m O N:Nat)(gs cp:Nat->Nat)(C:Nat->Nat->Int)(w:World)(hP:bO w Y gs cp n m false (λ_ _=>N) C)(U:aQ n C≠0)(an:Bd N (aQ n C))(z:1<=n)(V:n<=16)(a4:n<=m)(hm:m<=1048576)(k:O<=1048576)(ai:1<=N)(hN:N<=8):
 aT Tryz.prog 64 #[.agg #[.slice (some ⟨Y,0,none⟩) n n,.int .i64 (O:Int)]] w λv u=>
  v=.tuple #[]/\Ch (λb=>b=Y) w u/\Kp w u/\∃aj X,(∀t,t<n->w.heap.size<=aj t)/\bO u Y aj (λ_=>m) n m true (λ_ _=>200+200+n) (λj r=>tv C X j r n)/\Hf n (λr j=>tv C X j r n)/\(aQ n X=1\/aQ n X=-1):=by
 refine bF (n:=65) Tryz.func64 F rfl aw aA ?_;have y:∀i,i<n->gs i<w.heap.size:=λi s=>(hP.row i s).lt;have y:=hP.lt;have l:Ext w w:=Ext.refl w;refine gp ?_;refine aZ (v:=.agg _) (.inl F) F ?_;intro y B c E;have o:bh y w.heap.size 96 #[.slice (some ⟨Y,0,none⟩) n n,.int .i64 (O:Int)]:=B;obtain⟨K,H⟩ : ∃g,g=w.heap.size:=⟨_,F⟩;rw[<-H]at o⊢;have y:w.heap.size<=K:=by have:=l.size;omega
 replace l:=l.trans c;clear B E H c;refine gp ?_;refine gp ?_;refine b7 [(0,3),(1,0),(2,0),(3,1),(4,1),(5,3)] mixed aw λy c _=>?_;replace o:=o.Y c;replace l:=l.trans c;clear c;obtain⟨a0,a1⟩:=a9 o;refine gp ?_;have au:=hP.Y l;refine gp ?_;refine aM (oN Y n m O N gs cp C y au U z V a4 hm k ai hN) ?_;rintro _ ak ⟨c,y⟩;refine⟨c,?_⟩;replace o:=o.Y c;replace l:=l.trans c;clear c;refine gp ?_;have a4:=hP.Y l;refine gp ?_;refine aM (ni _ _ n m n N (λk=>k) C ak (a4.read aq aq) y (λk hk=>aq) z aq z aq hm aq) ?_;rintro _ ak ⟨c,gW,gw,rfl,bs,bg,hW⟩;refine⟨c,?_⟩;replace o:=o.Y c;replace y:=y.Y c;replace l:=l.trans c;clear c;clear au a4 a0 a1;clear y;have ay:=l.size;have y:Ext ak ak:=Ext.refl _;refine gp ?_;obtain⟨d,a4⟩ : ∃d,d=aQ n C:=⟨_,F⟩;have ed:aQ n (λk j=>C j k)=d:=by rw[a4];exact Go.bc.df n C
 have av:kU n (λk j=>C j k)=d:=by rw[jw];exact ed
 have bW:∀i j,i<n->j<n->Bd N (C j i):=λi j s D=>(hW.read aq aq).bd s D;rw[<-a4]at U an;refine gp ?_;refine aJ (yD (n:=n) (N:=N) (M:=λk j=>C j k) ((hW.Y y).read aq aq) ai aq z V) ?_;rintro _ a4 ⟨c,x0,x1,rfl,hd⟩;replace o:=o.Y c;replace y:=y.trans c;replace l:=l.trans c;clear c;rw[av]at hd;refine gp ?_;refine aR (.inl F) a_ ?_;intro au B c E;have p:=Bx.zero (N:=1) true B;obtain⟨Z,H⟩ : ∃g,g=a4.heap.size:=⟨_,F⟩;rw[<-H]at p⊢;have a4:w.heap.size<=Z:=by have:=l.size;omega
 have a4:ak.heap.size<=Z:=by have:=y.size;omega
 have ak:K<Z:=by have:=o.lt;omega
 replace o:=o.Y c;replace y:=y.trans c;replace hd:=hd.Y c;replace l:=l.trans c;clear B E H c;refine gp ?_;refine aL ag F rfl p (hd.ev true an) ?_;intro ak p G a2 E;replace o:=o.ch G aq;replace y:=G.aK y λb hb=>aq;replace hd:=hd.kp a2;replace l:=G.aK l λb hb=>aq;clear G a2 E;clear hd;refine gp ?_;have bA:∀i j,i<n->j<n->Bd 166 (kD n (λk j=>C j k) i j):=λi j s D=>(E_ V bW i j s D).mono (by
  have:(n-1)*(N+3)<=15*11:=Nat.mul_le_mul aq aq;omega)
 refine gp ?_;refine aJ (E9 _ n N (λk j=>C j k) ak ((hW.Y y).read aq aq) ai aq z V) ?_;rintro _ ak ⟨c,gV,gv,rfl,bt,bj,hV⟩;replace o:=o.Y c;replace y:=y.trans c;replace p:=p.Y c;replace l:=l.trans c;clear c;refine gp ?_;obtain⟨b1,b0,a6,a5⟩:=id p;obtain⟨ab,a7⟩:=a9 a6;refine gp ?_;refine gp ?_;refine aJ (pQ _ n N (λk j=>C j k) d _ _ ak ((hW.Y y).HK aq) a5 ed.symm U z V ai aq) ?_;rintro _ ai ⟨c,gT,gt,T,X,rfl,bx,bl,hT,au,an,ai⟩;replace o:=o.Y c;replace y:=y.trans c;replace p:=p.Y c;replace hV:=hV.Y c;replace l:=l.trans c;clear c;clear ab a7;have bT:∀i j,i<n->j<n->Bd N (T i j):=λi j s D=>(hT.read aq aq).bd s D;have eX:∀i j,i<n->j<n->mulM n (kD n λk j=>C j k) T i j/d=X i j:=λi j s D=>by
  rw[<-ed];exact E8 z (by rw[ed];exact U) ai s D
 have bU:∀i j,i<n->j<n->Bd 200 (mulM n (kD n λk j=>C j k) T i j):=λi j s D=>(sN V (λt ht=>bA i t s ht) λt ht=>bT t j ht D).mono aq;have bX:∀i j,i<n->j<n->Bd 200 (X i j):=λi j s D=>by rw[<-eX i j s D];exact(bU i j s D).ediv
 have b4:=l.size;have b5:=p.lt;have al:=o.lt;refine gp ?_;refine gp ?_;refine aJ (Ea (N:=200) (hV.rd bA aq aq aq) ((hT.congr (bn':=λ_ _=>200) λ_ _ _ _=>⟨aq,F⟩).read aq aq) aq z V z V z V) ?_;rintro _ ak ⟨c,L,W,rfl,bu,ak,hU⟩;replace o:=o.Y c;replace y:=y.trans c;replace p:=p.Y c;replace hV:=hV.Y c;replace hT:=hT.Y c;replace l:=l.trans c;clear c;refine gp ?_;have aH:w.heap.size<=L/\L≠Z/\L≠K/\∀i,i<n->w.heap.size<=W i/\W i≠Z/\W i≠K:=⟨aq,aq,aq,λi s=>by have:=ak i s;omega⟩;have x:=hU.wm true bU;obtain⟨A,eA⟩ : ∃A,A=mulM n (kD n λk j=>C j k) T:=⟨_,F⟩;rw[<-eA]at x eX;have bB:aQ n X=1\/aQ n X=-1:=an;have bC:Hf n (λr j=>tv C X j r n):=au.congr λi j s D=>ai i j s D;clear hU hV hT y hW au ai bT bU bA bW ak bu bl bx bj bt bg bs ay b4 b5 al ed av eA an a4;refine gp ?_;refine aX (λf u=>f 1=.pointer (some ⟨K,0,none⟩)/\f 7=.slice (some ⟨L,0,none⟩) n n/\Ext w u/\fk u L W n n true (λ_ _=>200) X/\bh u K 96 #[.slice (some ⟨Y,0,none⟩) n n,.int .i64 (O:Int)]) ?_ ?_
 ·refine gp ?_;refine aU (λq f u=>∃i,q=n-i/\i<=n/\f 1=.pointer (some ⟨K,0,none⟩)/\f 3=.pointer (some ⟨Z,0,none⟩)/\f 7=.slice (some ⟨L,0,none⟩) n n/\f 36=.slice (some ⟨L,0,none⟩) n n/\f 37=.int .i64 (n:Int)/\f 38=.int .i64 ((i:Nat):Int)/\Ext w u/\fk u L W n n true (λ_ _=>200) (uV d A i 0)/\Bx u Z N true d/\bh u K 96 #[.slice (some ⟨Y,0,none⟩) n n,.int .i64 (O:Int)])
   n ⟨0,F,aE,F,F,F,F,F,F,l,x.congr (λa b _ _=>⟨aD,by unfold uV;rw[aa aq]⟩),p,o⟩ ?_
  clear l x p o;rintro q f w1 ⟨i,rfl,s,J,a3,I,S,R,Q,l,x,p,o⟩;rw[ui J,ui a3,ui I,ui S,ui R,ui Q];clear J a3 I S R Q;by_cases P:i<n;rotate_left
  ·obtain rfl:i=n:=aq;refine gp ?_;refine⟨F,F,l,x.congr λa b ha hb=>⟨aD,?_⟩,o⟩;unfold uV;rw[ae (.inl ha)];exact eX a b ha hb
  have k:=x.at P;refine gp ?_;clear k;refine aU (λq f u=>∃j,q=n-j/\j<=n/\f 1=.pointer (some ⟨K,0,none⟩)/\f 3=.pointer (some ⟨Z,0,none⟩)/\f 7=.slice (some ⟨L,0,none⟩) n n/\f 36=.slice (some ⟨L,0,none⟩) n n/\f 37=.int .i64 (n:Int)/\f 38=.int .i64 (i:Int)/\f 10=.slice (some ⟨W i,0,none⟩) n n/\f 42=.slice (some ⟨W i,0,none⟩) n n/\f 43=.int .i64 (n:Int)/\f 44=.int .i64 ((j:Nat):Int)/\Ext w u/\fk u L W n n true (λ_ _=>200) (uV d A i j)/\Bx u Z N true d/\bh u K 96 #[.slice (some ⟨Y,0,none⟩) n n,.int .i64 (O:Int)])
   n ⟨0,F,aE,F,F,F,F,F,F,F,F,F,F,l,x,p,o⟩ ?_
  clear l x p o;rintro q f w1 ⟨j,rfl,D,J,a3,I,S,R,Q,s,r,q,k,l,x,p,o⟩;rw[ui J,ui a3,ui I,ui S,ui R,ui Q,ui s,ui r,ui q,ui k];clear J a3 I S R Q s r q k;by_cases ad:j<n;rotate_left
  ·obtain rfl:j=n:=aq;refine gp ?_;refine⟨_,?_,i+1,F,aq,F,F,F,F,F,F,l,x.congr (λa b ha hb=>⟨aD,by unfold uV;congr 1;exact propext aq⟩),p,o⟩;omega
  obtain⟨k,k,u,s,k⟩:=(x.row i P).at ad;have q:uV d A i j i j=A i j:=by unfold uV;rw[aa aq]
  rw[q]at k;have y:=l;have ax:=l.size;have d:=aH.2.2.2 i P;have d:=x.lt;have d:∀t,t<n->W t<w1.heap.size:=λt ht=>(x.row t ht).lt;have l:Ext w1 w1:=Ext.refl w1;refine gp ?_;refine gp ?_;refine aR (.inl F) a_ ?_;intro d B c E;have d:=Bx.zero (N:=1) true B;obtain⟨q,H⟩ : ∃g,g=w1.heap.size:=⟨_,F⟩;rw[<-H]at d⊢;have g:w1.heap.size<=q:=by have:=l.size;omega
  have g:Z<q:=by have:=p.lt;omega
  have g:K<q:=by have:=o.lt;omega
  replace p:=p.Y c;replace o:=o.Y c;replace k:=k.Y c;replace l:=l.trans c;clear B E H c;refine gp ?_;refine aL ag F rfl d (k) ?_;intro r d G a2 E;replace p:=p.kp a2 G ah;replace o:=o.ch G aq;replace k:=k.kp a2;replace l:=G.aK l λb hb=>aq;clear G a2 E;clear u s;refine gp ?_;obtain⟨g,g,g,q⟩:=id d;obtain⟨u,s⟩:=a9 g;obtain⟨b1,b0,a6,a5⟩:=id p;obtain⟨ab,a7⟩:=a9 a6;have g:=q.1;have q:=a5.1;refine gp ?_;refine gp ?_;refine aJ (dp _ _ _ _ _ _ 200 r g (q.mono aq) aq U) ?_;rintro _ r ⟨c,c0,c1,c2,r,rfl,r,A⟩;replace p:=p.Y c;replace o:=o.Y c;replace k:=k.Y c;replace d:=d.Y c;replace g:=g.Y c;replace q:=q.Y c;replace l:=l.trans c;clear c;clear u s ab a7;refine gp ?_;have g:=x.Y l;refine dW (.inl F) F rfl (g.row i P) ad (r.ev true (by rw[eX i j P ad];exact bX i j P ad)) ?_;intro r k c d q;have q:=g.put P k c d;have g:Ext w r:=c.aK (y.trans l) λb hb=>aq;have k:=p.kp d c aq;have d:=o.ch c (show K≠W i by omega);refine gp ?_;refine⟨_,?_,j+1,F,aq,F,F,F,F,F,F,F,F,F,F,g,q.congr λa b ha hb=>⟨?_,?_⟩,k,d⟩
  ·omega
  ·simp only[dM];split<;>exact Nat.le_refl _
  ·simp only[dM];unfold uV;by_cases e:a=i/\b=j
   ·obtain⟨rfl,rfl⟩:=e;rw[ae ⟨F,F⟩,ae aq]
   ·rw[aa e];by_cases c:a<i\/a=i/\b<j
    ·rw[ae c,ae aq]
    ·rw[aa c,aa aq]
 clear l x p o;rintro f w1 ⟨J,I,l,x,o⟩;rw[ui J,ui I];clear J I;obtain⟨a0,a1⟩:=a9 o;have ax:=l.size;have al:=o.lt;refine gp ?_;refine aJ (zI Y n m 200 gs cp C X _ w1 ((hP.Y l).congr (bn':=λ_ _=>200) (M':=C) λ_ _ _ _=>⟨aq,F⟩) (x.o.rd (N:=200) bX aq aq aq) z V aq hm aq) ?_;rintro _ a ⟨rfl,hC,hk,aj,a,b⟩;refine gp ?_;exact n6 F ⟨F,(l.mono λ_ _ h=>h.elim).trans hC,(bN l).trans hk,aj,X,λt ht=>by have:=a t ht;omega,b,bC,bB⟩
end
section
open Go Go.cU Go.cV Go.Proofs
open Go.bc (sm aQ mul)
open Go.Hn (Hf)
theorem Bk{n:Nat}{M X:Nat->Nat->Int}{j r:Nat}(a:r<n):tv (iW n M) X j r n=mul n M X r j:=
 Go.bc.aO λk _=>by unfold iW;rw[ae a]
theorem Bm{n:Nat}{M X:Nat->Nat->Int}{j r:Nat}(a:r<n):tv (iW n M) X j (n+r) n=X r j:=by
 unfold tv;rw[Go.bc.cG (c:=r) a (λk _ a=>by
  unfold iW;rw[aa aq,aa aq,Int.zero_mul])]
 unfold iW;rw[aa aq,ae aq,Int.one_mul]
def JV(w:World)(n:Nat)(M:Nat->Nat->Int)(v:Value)(w':World):Prop:=
 Ext w w'/\∃b d a c X,v=.tuple #[.slice (some ⟨b,0,none⟩) n n,.slice (some ⟨a,0,none⟩) n n,.bool true]/\w.heap.size<=b/\w.heap.size<=a/\(∀i,i<n->w.heap.size<=d i)/\(∀i,i<n->w.heap.size<=c i)/\
  bO w' b d (λ_=>n) n n true (λ_ _=>400+n) (mul n M X)/\bO w' a c (λ_=>n) n n true (λ_ _=>400+n) X/\Hf n (mul n M X)/\(aQ n X=1\/aQ n X=-1)
theorem pR(v:Value)(n N:Nat)(M:Nat->Nat->Int)(w:World)(h:cO (EI N) w v n (λ_=>n) M)(ad:aQ n M≠0)(b0:Bd N (aQ n M))(o:1<=n)(hn:n<=16)(a5:1<=N)(hN:N<=8):
 aT Tryz.prog 39 #[v] w (JV w n M):=by
 refine bF (n:=51) Tryz.func39 F rfl aw aA ?_;refine gp ?_;refine aJ (lP _ v n (λ_=>n) M w h) ?_;rintro _ _ ⟨rfl,rfl⟩;have g:l_ n (λ_=>n)=true:=cX.2 ⟨⟨o,hn,o,hn⟩,λ_ _=>rfl⟩;rw[iJ g];refine gp ?_;refine aP ?_;refine gp ?_;refine aJ (wW v n n N M w h o aq o aq a5) ?_;rintro _ z ⟨Y,gC,gs,cp,rfl,ay,ax,hP⟩;refine gp ?_;refine aR (.inl F) r6 ?_;intro g A W an;replace A:bh g z.heap.size 96 #[.slice none 0 0,.int .i64 0]:=A;obtain⟨S,a4⟩ : ∃g,g=z.heap.size:=⟨_,F⟩;rw[<-a4]at A⊢;refine gp ?_;refine aV jz (.inl F) F rfl rfl rfl A aA ?_;intro w3 H P al;replace H:bh w3 S 96 #[.slice (some ⟨gC,0,none⟩) n n,.int .i64 (n:Int)]:=H;have a3:=cK A (by
  intro j z R
  match j,R with
  |0,R=>cases R
  |1,R=>cases R) P
 have au:=hP.lt;have g:=Y.size;have R:=(hP.Y W).kp a3 P aq (λi p=>by have:=(hP.row i p).lt;omega);have z:=P.aK (Y.trans W) λb d=>aq;have aH:w.heap.size<=gC/\w.heap.size<=S/\S≠gC:=aq;clear A Y W an al P a3 hP au g a4;obtain⟨Q,I⟩:=a9 H;have g:aQ n (iW n M)=aQ n M:=by
  rw[<-Go.bc.df n M];exact Go.bc.aY λi j p hj=>by simp only[iW,Go.bc.tr];rw[ae hj]
 refine gp ?_;refine aJ (qQ gC n (n+n) n N gs cp (iW n M) w3 R (by rw[g];exact ad) (by rw[g];exact b0) o hn aq aq aq a5 hN) ?_;rintro _ B ⟨rfl,g,P,A,X,A,hW,b5,b1⟩;have a0:=H.ch g aH.2.2;have b4:=g.aK z λb d=>aq;have W:=a0.lt;have W:=hW.lt;clear H z g P R Q I A ax ay;obtain⟨Q,I⟩:=a9 a0;refine gp ?_;refine aX (λf g=>∃u t s r,f 8=.pointer (some ⟨S,0,none⟩)/\f 9=.slice u n t/\f 10=.slice s n r/\Ext B g/\kq g (.slice u n t) n (λk=>k)/\kq g (.slice s n r) n λk=>n+k) ?_ ?_
 ·refine gp ?_;refine aU (λq f g=>∃i a c u t s r,q=n+n-i/\i<=n+n/\a+c=i/\a<=n/\(c=0\/a=n)/\f 8=.pointer (some ⟨S,0,none⟩)/\f 9=.slice u a t/\f 10=.slice s c r/\f 26=.int .i64 ((n+n:Nat):Int)/\f 27=.int .i64 ((i:Nat):Int)/\Ext B g/\lJ 3 (.int .i64 0) g (.slice u a t) a (λk=>.int .i64 ((k:Nat):Int))/\lJ 3 (.int .i64 0) g (.slice s c r) c (λk=>.int .i64 ((n+k:Nat):Int))/\
   (∀b,some b=(Value.slice u a t).ownBlock->B.heap.size<=b/\some b≠(Value.slice s c r).ownBlock)/\∀b,some b=(Value.slice s c r).ownBlock->B.heap.size<=b)
   (n+n) ⟨0,0,0,none,0,none,0,F,aE,F,aE,.inl F,F,F,F,F,F,Ext.refl _,lJ.nil,lJ.nil,λb d=>(by cases d),λb d=>(by cases d)⟩ ?_
  rintro q f w5 ⟨i,a,c,u,t,s,r,rfl,p,g,g,g,D,C,x,q,g,l,L,O,y,T⟩;rw[ui D,ui C,ui x,ui q,ui g];clear D C x q g;by_cases g:i<n+n;rotate_left
  ·obtain rfl:i=n+n:=aq;obtain rfl:a=n:=aq;obtain rfl:c=a:=aq;refine gp ?_;exact⟨u,t,s,r,F,F,F,l,L.ints λ_ _=>rfl,O.ints λ_ _=>rfl⟩
  have g:=aS l I;clear Q I;by_cases g:i<n
  ·obtain rfl:c=0:=aq;obtain rfl:a=i:=aq;refine gp ?_;refine eM (v0:=.int .i64 (a:Int)) iP F (.inl F) F rfl ?_;intro w6 Z m ak;have U:=ir Z;refine gp ?_;refine pe iP F (.inl F) F rfl (L.Y m) U F aq ar (λ_ _ _=>aA) (λ_=>aA) ?_;intro v' w7 E av G K;obtain⟨a7,a6,rfl,_,_⟩:=E.slice;have V:Ext B w7:=G.aK (l.trans m) λb d=>(y b d).1;have aj:=(O.Y m).ch G λb d e=>(y b e).2 d;have J:∀b,some b=(Value.slice a7 (a+1) a6).ownBlock->B.heap.size<=b/\some b≠(Value.slice s 0 r).ownBlock:=λb d=>by
    rcases K with e|e
    ·rw[e]at d;exact y b d
    ·rw[e]at d;injection d with d;have:=l.size;have h2:=m.size;exact⟨aq,λh=>by have:=O.lt h;omega⟩
   refine gp ?_;refine⟨_,?_,a+1,a+1,0,a7,a6,s,r,F,aq,F,aq,.inl F,F,F,F,F,F,V,E.congr λk hk=>?_,aj,J,T⟩
   ·omega
   ·by_cases e:k=a
    ·rw[ae e,e]
    ·rw[aa e]
  ·obtain rfl:a=n:=aq;obtain rfl:i=a+c:=aq;refine gp ?_;refine eM (v0:=.int .i64 ((a+c:Nat):Int)) iP F (.inl F) F rfl ?_;intro w6 Z m ak;have U:=ir Z;refine gp ?_;refine pe iP F (.inl F) F rfl (O.Y m) U F aq ar (λ_ _ _=>aA) (λ_=>aA) ?_;intro v' w7 E av G K;obtain⟨a2,a1,rfl,_,_⟩:=E.slice;have V:Ext B w7:=G.aK (l.trans m) T;have ai:=(L.Y m).ch G λb d e=>(y b d).2 e;have J:∀b,some b=(Value.slice u a t).ownBlock->B.heap.size<=b/\some b≠(Value.slice a2 (c+1) a1).ownBlock:=λb d=>⟨(y b d).1,by
    rcases K with e|e
    ·rw[e];exact(y b d).2
    ·rw[e];intro h;injection h with h;have:=L.lt d;have h2:=m.size;omega⟩
   have ab:∀b,some b=(Value.slice a2 (c+1) a1).ownBlock->B.heap.size<=b:=λb d=>by
    rcases K with e|e
    ·rw[e]at d;exact T b d
    ·rw[e]at d;injection d with d;have:=l.size;have h2:=m.size;omega
   refine gp ?_;refine⟨_,?_,a+c+1,a,c+1,u,t,a2,a1,F,aq,F,aq,.inr F,F,F,F,F,F,V,ai,E.congr λk hk=>?_,J,ab⟩
   ·omega
   ·by_cases e:k=c
    ·rw[ae e,e]
    ·rw[aa e]
 rintro f w5 ⟨u,t,s,r,D,C,x,a,b,c⟩;rw[ui D,ui C,ui x];clear D C x;have l:Ext w w5:=b4.trans a;have e:Ext w5 w5:=Ext.refl _;have d:=a0.Y a;have f:=hW.Y a;refine gp ?_;refine gp ?_;refine b7 [(0,3),(1,0),(2,3),(4,3),(5,0),(6,3),(3,1),(7,1),(8,3),(9,3),(10,3)] mixed aw λg a _=>?_;replace b:=b.Y a;replace c:=c.Y a;replace e:=e.trans a;replace d:=d.Y a;replace l:=l.trans a;clear a;clear Q I;obtain⟨Q,I⟩:=a9 d;have m:=l.size;refine gp ?_;refine gp ?_;refine aM (ni _ _ n (n+n) n (200+200+n) (λk=>k) _ g ((f.Y e).read aq aq) b (λk hk=>aq) o aq o aq aq aq) ?_;rintro _ m ⟨a,r,gh,rfl,g,q,g⟩;refine⟨a,?_⟩;replace b:=b.Y a;replace c:=c.Y a;replace e:=e.trans a;replace d:=d.Y a;replace l:=l.trans a;clear a;have s:=l.size;refine gp ?_;refine gp ?_;refine aM (ni _ _ n (n+n) n (200+200+n) (λk=>n+k) _ m ((f.Y e).read aq aq) c (λk hk=>aq) o aq o aq aq aq) ?_;rintro _ f ⟨a,m,k,rfl,f,f,hU⟩;refine⟨a,?_⟩;replace b:=b.Y a;replace c:=c.Y a;replace e:=e.trans a;replace d:=d.Y a;replace g:=g.Y a;replace l:=l.trans a;clear a;clear Q I;refine gp ?_;have a:∀i j,i<n->j<n->tv (iW n M) X j i n=mul n M X i j:=λi j p _=>Bk p;exact su (v:=.slice _ _ _) (v':=.slice _ _ _) (v'':=.bool _) F rfl rfl rfl ⟨l,r,gh,m,k,X,F,aq,aq,λi p=>by have:=q i p;omega,λi p=>by have:=f i p;omega,
  g.congr λi j p hj=>⟨aq,a i j p hj⟩,hU.congr λi j p _=>⟨aq,Bm p⟩,b5.congr a,b1⟩
