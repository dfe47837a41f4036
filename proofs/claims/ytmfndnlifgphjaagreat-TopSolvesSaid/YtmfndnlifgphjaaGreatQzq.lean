import Derived.Test.YtmfndnlifgphjaaGreatQzp
set_option maxHeartbeats 64000000
open Go.Proofs.YtmfndnlifgphjaaGreat
namespace Go.Proofs.Qq
section
open Go Go.cU Go.cV Go.Proofs
theorem uA{P:Program}{n:Nat}{f:Fr}{w:World}{d:Func}{t u:Tmp}{T G:Nat}{b:Value->World->Prop}{x y v:Value}(j:d.results=#[.cell t T,.tmp u])(k:dL P T 2=true)(g:ev n f (.tmp t)=.pointer (some ⟨G,0,none⟩))(c:bh w G T #[x,y])(i:ev n f (.tmp u)=v)(h:b (.tuple #[.agg #[x,y],v]) w):
 bodyPost P d (xB b) .ret (act n f) w:=by
 refine bodyPost_ret (v:=.tuple #[.agg #[x,y],v]) ?_ F ⟨_,F,h⟩;have e:=congrFun (b9 n f) (.tmp t);have d:=congrFun (b9 n f) (.tmp u);simp only[Act.eval]at e d;have m:w.cell? ⟨G,0,none⟩=some x:=by rw[c.cell];rfl
 have l:w.cell? ((⟨G,0,none⟩ : Addr).add 1)=some y:=by rw[add_lit,c.cell];rfl
 have b:=cW (P:=P) k m l;simp only[Instr.loadAt,Instr.sureAddr,Sem.run_bind,Sem.run_pure,Result.andThen_ok]at b;have k:(act n f).tmps[t]?.getD undef=.pointer (some ⟨G,0,none⟩):=by rw[<-g,<-e];simp
 have c:(act n f).tmps[u]?.getD undef=v:=by rw[<-i,<-d];simp
 simp[results,j,k,c,asAddr,b]
def Jq(w:World)(ok:Bool)(z:Int)(v:Value)(w':World):Prop:=
 Ext w w'/\∃x y,v=.tuple #[.agg #[x,y],.bool ok]/\CV w' x y (if ok then z else 0)
def n9(r:Nat)(a:Nat->Nat):Bool:=l_ r a&&decide (r=a 0)
theorem oX{r:Nat}{a:Nat->Nat}:n9 r a=true↔1<=r/\r<=16/\∀i,i<r->a i=r:=by
 simp only[n9,Bool.and_eq_true,decide_eq_true_eq,cX];constructor
 ·rintro⟨⟨⟨d,c,b,a⟩,f⟩,e⟩;exact⟨d,c,λi a=>by rw[f i a,<-e]⟩
 ·rintro⟨d,c,b⟩;have e:=b 0 aq;exact⟨⟨⟨d,c,aq,aq⟩,λi a=>by rw[b i a,e]⟩,e.symm⟩
theorem cO.sq{E:World->Value->Value->Int->Prop}{w:World}{v:Value}{r c:Nat}{a:Nat->Nat}{M:Nat->Nat->Int}(h:cO E w v r a M)(f:∀i,i<r->a i=c):cO E w v r (λ_=>c) M:=by
 obtain⟨A,b,rfl,d,a,g⟩:=h;refine⟨A,b,F,d,a,λi b=>?_⟩;obtain⟨j,u,e,d,a⟩:=g i b;rw[f i b]at a;exact⟨j,u,e,d,a⟩
theorem GS(v:Value)(r N:Nat)(a:Nat->Nat)(M:Nat->Nat->Int)(w:World)(h:cO (EI N) w v r a M)(q:1<=N)(t:N<1048576):
 aT Tryz.prog 25 #[v] w (Jq w (n9 r a) (kU r M)):=by
 refine bF (n:=23) Tryz.func25 F rfl aw aA ?_;refine gg ?_;refine aR (.inl F) a_ ?_;intro g b d c;have l:Bx g w.heap.size 1 true 0:=Bx.zero true b;refine gg ?_;refine aJ (j3 _ v r a M g (h.Y d)) ?_;rintro _ _ ⟨rfl,rfl⟩;have b:¬n9 r a=true->∀e,Ext g e->∀x y,CV e x y 0->Jq w (n9 r a) (kU r M) (.tuple #[.agg #[x,y],.bool false]) e:=λm e b x y c=>by
  have:n9 r a=false:=by simpa using m
  rw[this];exact⟨d.trans b,x,y,F,c⟩
 by_cases c:l_ r a=true
 ·rw[iJ c];obtain⟨⟨p,o,i,f⟩,k⟩:=cX.1 c;by_cases j:r=a 0
  ·have f:n9 r a=true:=by simp[n9,c,j.symm]
   refine gg ?_;refine aP ?_;refine gg ?_;refine aJ (pX v r N M g ((h.Y d).sq (λi s=>by rw[k i s];exact j.symm)) p o q t) ?_;rintro _ e ⟨b,x,y,rfl,k⟩;refine gg ?_;have e:=l.Y b;obtain⟨i,i,p,s⟩:=e;refine aV aN (.inl F) F rfl k.db k.de p aA ?_;intro q t e o;have i:=cK p s.1.jn e;refine gg ?_;refine uA (v:=.bool _) F aN F t F ⟨e.aK (d.trans b) (λb m=>aq),x,y,by rw[f],?_⟩;rw[f];exact k.kp i
  ·have f:¬n9 r a=true:=by simp[n9,c,j]
   refine gg ?_;refine aP ?_;refine gg ?_;refine fp ij ?_;refine gg ?_;refine aL (N':=1) (.inl F) F rfl l ((CV.zero g).ev true (Bd.zero 1)) ?_;intro q j e i o;refine gg ?_;obtain⟨x,y,p,k⟩:=j;have:n9 r a=false:=by simpa using f
   refine uA (v:=.bool _) F aN F p F ⟨e.aK d (λb m=>aq),x,y,by rw[this],?_⟩;rw[this];exact k.2 F
 ·rw[fQ c];have f:n9 r a=false:=by simp at c;simp[n9,c]
  refine gg ?_;refine aP ?_;refine gg ?_;refine fp ij ?_;refine gg ?_;refine aL (N':=1) (.inl F) F rfl l ((CV.zero g).ev true (Bd.zero 1)) ?_;intro q j e i o;refine gg ?_;obtain⟨x,y,p,k⟩:=j;refine uA (v:=.bool _) F aN F p F ⟨e.aK d (λb m=>aq),x,y,by rw[f],?_⟩;rw[f];exact k.2 F
theorem cO.at{E:World->Value->Value->Int->Prop}{w:World}{v:Value}{r c i:Nat}{M:Nat->Nat->Int}(h:cO E w v r (λ_=>c) M)(g:i<r):
 ∃d b u,v=.slice (some d) r b/\w.cell? (d.add (i*1))=some u/\iN E w u c (M i):=by
 obtain⟨A,b,rfl,e,e,j⟩:=h;obtain⟨d,u,rfl,e,f⟩:=j i g;exact⟨d,b,u,F,e,f⟩
theorem iN.at{E:World->Value->Value->Int->Prop}{w:World}{v:Value}{c j:Nat}{g:Nat->Int}(h:iN E w v c g)(f:j<c):
 ∃a b x y,v=.slice (some a) c b/\w.cell? (a.add (j*2))=some x/\w.cell? ((a.add (j*2)).add 1)=some y/\E w x y (g j):=by
 obtain⟨A,b,rfl,d,d,k⟩:=h;obtain⟨a,x,y,rfl,e,d,i⟩:=k j f;exact⟨a,b,x,y,F,e,d,i⟩
theorem cO.bd{w:World}{v:Value}{r c N i j:Nat}{M:Nat->Nat->Int}(h:cO (EI N) w v r (λ_=>c) M)(d:i<r)(b:j<c):Bd N (M i j):=by
 obtain⟨_,_,u,_,_,a⟩:=h.at d;obtain⟨_,_,_,_,_,_,_,hv⟩:=a.at b;exact IV.bd hv
theorem Ec(i j g P O r c q N:Nat)(f d:Value)(X Y:Nat->Nat->Int)(w:World)(hI:bh w g 3 #[.int .i64 (q:Int)])(hA:bh w P 25 #[f])(M:bh w O 25 #[d])
 (S:cO (EI N) w f r (λ_=>q) X) (l:cO (EI N) w d q (λ_=>c) Y) (R:i<r) (Q:j<c) (d:q<=16) (d:N<68719476736):
 aT Tryz.prog 113 #[.int .i64 (i:Int),.int .i64 (j:Int),.pointer (some ⟨g,0,none⟩),.pointer (some ⟨P,0,none⟩),.pointer (some ⟨O,0,none⟩)] w (RI w (mulM q X Y i j)):=by
 refine bF (n:=34) Tryz.func113 F rfl aw aA ?_;refine gg ?_;refine aR (.inl F) a_ ?_;intro f J H d;have x:Bx f w.heap.size 1 true 0:=Bx.zero true J;refine gg ?_;refine fp ij ?_;refine gg ?_;refine aR (.inl F) a_ ?_;intro A I y a3;have G:Bx A f.heap.size 1 true 0:=Bx.zero true I;refine gg ?_;refine aL (N':=N+N+1) (.inl F) F rfl G ((CV.zero A).ev true (Bd.zero _)) ?_;intro z v d E a0;obtain⟨W,K⟩ : ∃g,g=w.heap.size:=⟨_,F⟩;obtain⟨V,m⟩ : ∃g,g=f.heap.size:=⟨_,F⟩;rw[<-m]at v d⊢;rw[<-K]at x⊢;have g:=(x.Y y).kp E d aq;have a:Ext w z:=d.aK (H.trans y) λb l=>aq;have a4:=ir (hI.Y a);refine gg ?_;refine aP ?_;refine gg ?_;refine aU (λm f K=>∃k,m=q-k/\k<=q/\f 0=.int .i64 (i:Int)/\f 1=.int .i64 (j:Int)/\f 3=.pointer (some ⟨P,0,none⟩)/\f 4=.pointer (some ⟨O,0,none⟩)/\f 7=.pointer (some ⟨W,0,none⟩)/\f 8=.pointer (some ⟨V,0,none⟩)/\f 11=.int .i64 (q:Int)/\f 12=.int .i64 ((k:Nat):Int)/\
  Ext w K/\Bx K W 1 true 0/\Bx K V (N+N+1) true (fN k λt=>X i t*Y t j)) q ⟨0,rfl,aE,rfl,rfl,rfl,rfl,rfl,rfl,rfl,rfl,a,g,v⟩ ?_
 clear a4 a g E d v a0 G I y a3 x J A z;rintro m f A ⟨k,rfl,d,A,y,x,v,m,g,f,d,U,T,L⟩;rw[ui A,ui y,ui x,ui v,ui m,ui g,ui f,ui d];clear A y x v m g f d;by_cases C:k<q
 ·refine gg ?_;refine c8 [(0,0),(1,0),(2,3),(3,3),(4,0),(5,3),(6,3),(7,0),(8,0),(9,3),(10,3),(11,0),(12,3),(13,3),(14,0),(15,1),(16,1),(17,2)] mixed aw λz a _=>?_;have e:=U.trans a;obtain⟨sx,sy,u,s⟩:=L.Y a;obtain⟨s1,s2⟩:=a9 u;have d:=ir (hA.Y e);have d:=ir (M.Y e);obtain⟨d,d,ua,rfl,d,p⟩:=(S.Y e).at R;obtain⟨d,d,ub,rfl,d,o⟩:=(l.Y e).at C;obtain⟨d,d,d,d,rfl,d,d,B⟩:=p.at C;obtain⟨d,d,d,d,rfl,d,d,f⟩:=o.at Q;refine gg ?_;refine aM (pK _ _ _ _ _ _ N z B f aq) ?_;rintro _ m ⟨d,g,g,rfl,g⟩;refine⟨d,?_⟩;have v:Bd (N+N) (X i k*Y k j):=(IV.bd B).mul (IV.bd f);refine gg ?_;refine aM (xu _ _ _ _ _ _ (N+N+1) m (s.Y d).1 (g.iv (v.mono aq)) aq) ?_;rintro _ f ⟨f,g,b2,rfl,m⟩;refine⟨f,?_⟩;have g:Bd (N+N+1) (fN (k+1) λt=>X i t*Y t j):=mX aq λt v=>?_
  ·refine gg ?_;refine aL (.inl F) F rfl (L.Y (a.trans (d.trans f))) (m.ev true g) ?_;intro w6 g h D Z;have m:=H.size;refine gg ?_;refine⟨_,?_,k+1,F,aq,F,F,F,F,F,F,F,F,h.aK (e.trans (d.trans f)) λb l=>aq,(T.Y (a.trans (d.trans f))).kp D h aq,g⟩;omega
  ·obtain⟨_,_,ua,e1,_,p⟩:=S.at R;obtain⟨_,_,ub,e2,_,o⟩:=l.at (show t<q by omega);obtain⟨_,_,_,_,_,_,_,h1⟩:=p.at (show t<q by omega);obtain⟨_,_,_,_,_,_,_,h2⟩:=o.at Q;exact(IV.bd h1).mul (IV.bd h2)
 ·have:k=q:=aq;subst this;obtain⟨sx,sy,u,s⟩:=L;obtain⟨s1,s2⟩:=a9 u;refine gg ?_;refine aL (.inl F) F rfl T s ?_;intro w6 a h D Z;refine gg ?_;obtain⟨x,y,M,d⟩:=a;exact dO F aN F M ⟨h.aK U λb l=>aq,x,y,F,d.2 F⟩
def kP(d c:Nat)(a b:Nat->Nat):Bool:=l_ d a&&l_ c b&&decide (a 0=c)
theorem yy(r q:Value)(e f N:Nat)(a c:Nat->Nat)(X Y:Nat->Nat->Int)(w:World)(I:cO (EI N) w r e a X)(t:cO (EI N) w q f c Y)(Q:N<68719476736):
 aT Tryz.prog 86 #[r,q] w (tj w (kP e f a c) e (c 0) (mulM (a 0) X Y)):=by
 obtain⟨b,b,h,_⟩:=id I;obtain⟨b,b,g,_⟩:=id t;refine bF (n:=39) Tryz.func86 F rfl aw aA ?_;refine gg ?_;refine aZ (v:=r) (.inl F) F ?_;intro C d D b;refine gg ?_;refine aZ (v:=q) (.inl F) F ?_;intro B b s j;have E:bh C w.heap.size 25 #[r]:=by rw[h]at d⊢;exact d
 have P:bh B C.heap.size 25 #[q]:=by rw[g]at b⊢;exact b
 have b:=ir (E.Y s);refine gg ?_;refine aJ (j3 _ r e a X B (I.Y (D.trans s))) ?_;rintro _ _ ⟨rfl,rfl⟩;obtain⟨l,j,d,b,S⟩ : ∃(l j:Nat) (d:Bool),ku e a=.tuple #[.int .i64 (l:Int),.int .i64 (j:Int),.bool d]/\((l_ e a=true/\d=true/\l=e/\j=a 0)\/(¬l_ e a=true/\d=false/\j=0)):=by
  by_cases h:l_ e a=true
  ·exact⟨_,_,_,iJ h,.inl ⟨h,F,F,F⟩⟩
  ·exact⟨_,_,_,fQ h,.inr ⟨h,F,F⟩⟩
 rw[b];refine gg ?_;refine aR (.inl F) FG ?_;intro z g x b;refine gg ?_;refine cg (aW F) (.inl F) F rfl g ar ?_;intro p M b W;have W:Kp z p:=cK g (λi z=>by match i with|0=>simp[Value.cells]|i+1=>simp[Value.cells]) b;have u:bh p B.heap.size 3 #[.int .i64 (j:Int)]:=M;obtain⟨V,z⟩ : ∃g,g=B.heap.size:=⟨_,F⟩;rw[<-z]at u b⊢;have O:bh p w.heap.size 25 #[r]:=((E.Y s).Y x).ch b aq;have A:bh p C.heap.size 25 #[q]:=(P.Y x).ch b aq;have k:Ext w p:=b.aK ((D.trans s).trans x) λb t=>aq;have b:=ir A;have b:=ir u;refine gg ?_;refine aJ (j3 _ q f c Y p (t.Y k)) ?_;rintro _ _ ⟨rfl,rfl⟩;obtain⟨J,b,b,b,R⟩ : ∃(l j:Nat) (d:Bool),ku f c=.tuple #[.int .i64 (l:Int),.int .i64 (j:Int),.bool d]/\((l_ f c=true/\d=true/\l=f/\j=c 0)\/(¬l_ f c=true/\d=false/\j=0)):=by
  by_cases h:l_ f c=true
  ·exact⟨_,_,_,iJ h,.inl ⟨h,F,F,F⟩⟩
  ·exact⟨_,_,_,fQ h,.inr ⟨h,F,F⟩⟩
 rw[b];have y:¬kP e f a c=true->tj w (kP e f a c) e (c 0) (mulM (a 0) X Y) (.tuple #[.slice none 0 0,.bool false]) p:=λt=>by unfold tj;rw[aa t];exact⟨k,F⟩
 rcases S with⟨o,rfl,rfl,rfl⟩|⟨o,rfl,rfl⟩
 ·rcases R with⟨m,rfl,rfl,rfl⟩|⟨m,rfl,rfl⟩
  ·by_cases G:a 0=J
   ·have K:kP l J a c=true:=by simp[kP,o,m,G]
    obtain⟨⟨d,b,g,f⟩,e⟩:=cX.1 o;obtain⟨⟨f,b,h,g⟩,d⟩:=cX.1 m;refine gg ?_;refine aP ?_;refine gg ?_;refine kl ?_;refine gg ?_;refine aJ (lT l (c 0) _ _ (mulM (a 0) X Y) p aq aq (λi j H g f b=>Ec i j V w.heap.size C.heap.size l (c 0) (a 0) N r q X Y f (u.Y b) (O.Y b) (A.Y b) ((I.Y (k.trans b)).sq e) (by rw[G];exact(t.Y (k.trans b)).sq d) H g aq Q)) ?_;rintro v a ⟨L,U,T,rfl,a,a,b⟩;refine gg ?_;refine fK (v:=.slice _ _ _) (v':=.bool _) F rfl rfl ?_;unfold tj;rw[ae K];have:=k.size;exact⟨_,F,k.trans L,U,T,F,aq,λi H=>by have:=a i H;omega,b⟩
   ·refine gg ?_;refine aP ?_;refine gg ?_;exact fK (v:=.slice _ _ _) (v':=.bool _) F rfl rfl (y (by simp[kP,G]))
  ·refine gg ?_;refine aP ?_;refine gg ?_;exact fK (v:=.slice _ _ _) (v':=.bool _) F rfl rfl (y (by simp[kP,m]))
 ·refine gg ?_;refine aP ?_;refine gg ?_;exact fK (v:=.slice _ _ _) (v':=.bool _) F rfl rfl (y (by simp[kP,o]))
theorem uH(i j e r c N:Nat)(b:Value)(X:Nat->Nat->Int)(w:World)(o:bh w e 25 #[b])
 (l:cO (EI N) w b r (λ_=>c) X) (k:i<r) (h:j<c) (m:N<1099511627776):
 aT Tryz.prog 126 #[.int .i64 (i:Int),.int .i64 (j:Int),.pointer (some ⟨e,0,none⟩)] w (RI w (- X i j)):=by
 refine bF (n:=14) Tryz.func126 F rfl aw aA ?_;refine gg ?_;refine aR (.inl F) a_ ?_;intro d b a e;have g:Bx d w.heap.size 1 true 0:=Bx.zero true b;have b:=ir (o.Y a);obtain⟨b,b,b,rfl,b,f⟩:=(l.Y a).at k;obtain⟨b,b,b,b,rfl,b,b,b⟩:=f.at h;refine gg ?_;refine aJ (wY _ _ _ N d b m) ?_;rintro _ d ⟨d,e,e,rfl,e⟩;refine gg ?_;refine aL (.inl F) F rfl (g.Y d) (e.ev true (N:=N) (IV.bd b).neg) ?_;intro b b e f f;refine gg ?_;obtain⟨x,y,g,f⟩:=b;exact dO F aN F g ⟨e.aK (a.trans d) λb a=>aq,x,y,F,f.2 F⟩
theorem wX(d:Value)(r c N:Nat)(X:Nat->Nat->Int)(w:World)(k:cO (EI N) w d r (λ_=>c) X)(f:1<=r)(p:r<1073741824)(q:c<1073741824)(y:N<1099511627776):
 aT Tryz.prog 124 #[d] w (RM w r c λi j=>- X i j):=by
 obtain⟨f,f,o,_⟩:=id k;refine bF (n:=11) Tryz.func124 F rfl aw aA ?_;refine gg ?_;refine aZ (v:=d) (.inl F) F ?_;intro t f s u;have g:bh t w.heap.size 25 #[d]:=by rw[o]at f⊢;exact f
 refine gg ?_;refine b7 [(0,0),(1,3),(2,0),(3,3),(4,0),(5,3),(6,3),(7,1),(8,3)] mixed aw λm b _=>?_;have a:=s.trans b;have d:=ir (g.Y b);obtain⟨B,d,u,rfl,x,C,l,rfl,d⟩:=(k.Y a).at (show 0<r by omega);have d:m.cell? (B.add (((0:Nat):Nat)*1))=some (.slice C c l):=x;refine gg ?_;refine kl ?_;refine gg ?_;refine aM (lT r c _ _ (λi j=>- X i j) m p q λi j h l f d=>uH i j w.heap.size r c N _ X f ((g.Y b).Y d) (k.Y (a.trans d)) h l y) ?_;rintro v b ⟨e,A,z,rfl,b,b,d⟩;refine⟨e,?_⟩;refine gg ?_;have:=a.size;exact cI (v:=.slice _ _ _) F rfl ⟨a.trans e,A,z,F,aq,λi h=>by have:=b i h;omega,d⟩
def nF(n:Nat)(M:Nat->Nat->Int)(k:Nat)(P:Nat->Nat->Int):Nat->Nat->Int:=
 λi j=>if i=j then mulM n M P i j+(fN n λt=>mulM n M P t t)/(-(k:Int))else mulM n M P i j
def lC(n:Nat)(M:Nat->Nat->Int):Nat->Nat->Nat->Int
 |0=>qN 1
 |k+1=>nF n M (k+1) (lC n M k)
def kD(n:Nat)(M:Nat->Nat->Int):Nat->Nat->Int:=λi j=>if n%2=0 then-lC n M (n-1) i j else lC n M (n-1) i j
theorem sN{n N N' i j:Nat}{X Y:Nat->Nat->Int}(a:n<=16)(c:∀t,t<n->Bd N (X i t))(b:∀t,t<n->Bd N' (Y t j)):Bd (N+N'+1) (mulM n X Y i j):=
 mX aq λt a=>(c t a).mul (b t a)
theorem xt{n N N' k:Nat}{M P:Nat->Nat->Int}(a:n<=16)(e:∀i j,i<n->j<n->Bd N (M i j))(d:∀i j,i<n->j<n->Bd N' (P i j)):∀i j,i<n->j<n->Bd (N+N'+3) (nF n M k P i j):=by
 intro i j c b;have h:∀i j,i<n->j<n->Bd (N+N'+1) (mulM n M P i j):=λi j c b=>sN a (λt a=>e i t c a) λt a=>d t j a b;unfold nF;split
 ·have d:Bd (N+N'+1+1) (fN n λt=>mulM n M P t t):=mX aq λt a=>h t t a a;exact((h i j c b).mono aq).add d.ediv
 ·exact(h i j c b).mono aq
theorem tc{n N:Nat}{M:Nat->Nat->Int}(b:n<=16)(e:∀i j,i<n->j<n->Bd N (M i j)):∀k i j,i<n->j<n->Bd (1+k*(N+3)) (lC n M k i j):=by
 intro k;induction k with
 |zero=>
  intro i j _ _;rw[Nat.zero_mul,Nat.add_zero];unfold lC qN Bd;split<;>decide
 |succ k a=>
  intro i j d c;have:=xt (k:=k+1) b e a i j d c;rw[Nat.succ_mul];exact this.mono aq
theorem n_{r c:Nat}(h1:1<=r)(d:r<=16)(b:1<=c)(a:c<=16):l_ r (λ_=>c)=true:=cX.2 ⟨⟨h1,d,b,a⟩,λ_ _=>rfl⟩
theorem vo(v:Value)(n N:Nat)(M:Nat->Nat->Int)(w:World)(h:cO (EI N) w v n (λ_=>n) M)(hn:1<=n)(g:n<=16)(u:1<=N)(u:N<1048576):
 aT Tryz.prog 112 #[v] w (RM w n n (kD n M)):=by
 obtain⟨A,au,rfl,_⟩:=id h;have bB:=tc (N:=N) (M:=M) g λi j l S=>h.bd l S;refine bF (n:=78) Tryz.func112 F rfl aw aA ?_;refine gg ?_;refine aJ (fb 1 w aq aq) ?_;rintro _ X ⟨al,x,y,rfl,ai⟩;refine gg ?_;refine aJ (zu n 1 x y 1 X (ai.iv ar) aq aq ai.db) ?_;rintro _ H ⟨d,K,L,rfl,hg,O,T⟩;refine gg ?_;have ad:=al.size;refine aX (λf s=>∃K L,f 3=.int .i64 (n:Int)/\f 4=.slice (some ⟨K,0,none⟩) n n/\Ext w s/\w.heap.size<=K/\(∀i,i<n->w.heap.size<=L i)/\jF s K L n n (lC n M (n-1))) ?_ ?_
 ·refine gg ?_;refine aU (λm f s=>∃k K L,m=n-k/\1<=k/\k<=n/\f 0=.slice A n au/\f 3=.int .i64 (n:Int)/\f 4=.slice (some ⟨K,0,none⟩) n n/\f 5=.int .i64 ((k:Nat):Int)/\
   Ext w s/\w.heap.size<=K/\(∀i,i<n->w.heap.size<=L i)/\jF s K L n n (lC n M (k-1)))
   (n-1) ⟨1,K,L,F,aD,hn,F,F,F,F,al.trans d,aq,λi l=>by have:=O i l;omega,T⟩ ?_
  clear T O hg d al ai H ad L K;rintro m f X ⟨k,K,L,rfl,u,u,G,r,q,E,D,hg,O,T⟩;rw[ui G,ui r,ui q,ui E];clear G r q E;refine aP ?_;by_cases u:k<n
  ·have c5:(k-1)*(N+3)<=15*1048579:=Nat.mul_le_mul aq aq;obtain⟨c,u⟩ : ∃c,c=N+1+(k-1)*(N+3):=⟨_,F⟩;obtain⟨P,hP⟩ : ∃P,P=lC n M (k-1):=⟨_,F⟩;have bu:∀i j,i<n->j<n->Bd c (P i j):=λi j l S=>by rw[hP];exact(bB (k-1) i j l S).mono aq
   have bM:∀i j,i<n->j<n->Bd c (M i j):=λi j l S=>(h.bd l S).mono aq;rw[<-hP]at T;have u:kP n n (λ_=>n) (λ_=>n)=true:=by simp[kP,n_ hn g hn g]
   refine gg ?_;refine aJ (yy _ _ n n c (λ_=>n) (λ_=>n) M P X ((h.Y D).mono aq) (T.read (λi j l S=>bu i j l S) aq aq) aq) ?_;intro v H hv;unfold tj at hv;rw[ae u]at hv;obtain⟨u,rfl,d,C,J,rfl,bx,a0,W⟩:=hv;clear T hg O L;have ad:=D.size;have an:=D.trans d;have b5:∀i j,i<n->j<n->Bd (c+c+1) (mulM n M P i j):=λi j l S=>sN g (λt ht=>bM i t l ht) λt ht=>bu t j ht S;obtain⟨Q,hQ⟩ : ∃Q,Q=mulM n M P:=⟨_,F⟩;rw[<-hQ]at W b5;refine gg ?_;refine fp ij ?_;refine gg ?_;refine aR (.inl F) a_ ?_;intro w3 bM o c3;have P:Bx w3 H.heap.size 1 false 0:=Bx.zero false bM;obtain⟨u,bu⟩ : ∃g,g=H.heap.size:=⟨_,F⟩;rw[<-bu]at P⊢;refine gg ?_;refine aL (N':=c+c+1+1) (.inl F) F rfl P ((CV.zero w3).ev false (Bd.zero _)) ?_;intro w4 a5 I U ay;have bt:∀i,i<n->J i<u:=λi l=>by have:=(W.row i l).lt;omega
   have g:C<u:=by have:=W.outer.lt;omega
   have p:=W.wm true b5;have a4:=(p.Y o).kp U I aq (λi l=>by have:=bt i l;omega);have R:Ext w w4:=I.aK (an.trans o) (λb hb=>by have:=an.size;omega);have bW:w.heap.size<=C:=aq;have bj:∀i,i<n->w.heap.size<=J i:=λi l=>by have:=a0 i l;omega
   have g:w.heap.size<=u:=by have:=an.size;omega
   clear U I ay P bM o c3 p W bu bx a0 an d ad D X H w3;refine gg ?_;refine aX (λf s=>f 0=.slice A n au/\f 3=.int .i64 (n:Int)/\f 4=.slice (some ⟨C,0,none⟩) n n/\f 5=.int .i64 (k:Int)/\f 6=.pointer (some ⟨u,0,none⟩)/\
    Ext w s/\fk s C J n n true (λ_ _=>c+c+1) Q/\Bx s u (c+c+1+1) false (fN n λt=>Q t t)) ?_ ?_
   ·refine gg ?_;refine aU (λm f s=>∃i,m=n-i/\i<=n/\f 0=.slice A n au/\f 3=.int .i64 (n:Int)/\f 4=.slice (some ⟨C,0,none⟩) n n/\f 5=.int .i64 (k:Int)/\f 6=.pointer (some ⟨u,0,none⟩)/\f 29=.int .i64 (n:Int)/\f 30=.int .i64 ((i:Nat):Int)/\
     Ext w s/\fk s C J n n true (λ_ _=>c+c+1) Q/\Bx s u (c+c+1+1) false (fN i λt=>Q t t))
     n ⟨0,F,aE,F,F,F,F,F,F,F,R,a4,a5⟩ ?_
    clear R a4 a5 w4;rintro m f X ⟨i,rfl,l,G,r,q,E,a2,u,g,D,hW,hT⟩;rw[ui G,ui r,ui q,ui E,ui a2,ui u,ui g];clear G r q E a2 u g;by_cases z:i<n
    ·refine gg ?_;refine c8 [(0,0),(1,3),(2,3),(3,3),(4,0),(5,3),(6,3),(7,0),(8,1),(9,2)] mixed aw λH d _=>?_;have p:=hW.Y d;have hx:=p.at z;obtain⟨x1,y1,bY,bX,ct⟩:=(p.row i z).at z;obtain⟨tx,ty,Z,V⟩:=hT.Y d;obtain⟨ax,av⟩:=a9 Z;refine gg ?_;refine aM (xu _ _ _ _ _ _ (c+c+1+1) H V.1 (ct.mono aq).1 aq) ?_;rintro _ w3 ⟨o,a1,b1,rfl,a3⟩;refine⟨o,?_⟩;refine gg ?_;refine aL (.inl F) F rfl (hT.Y (d.trans o)) (a3.ev false (mX (n:=i+1) aq λt ht=>b5 t t aq aq)) ?_;intro w4 a5 I U ay;refine gg ?_;refine⟨_,?_,i+1,F,aq,F,F,F,F,F,F,F,I.aK (D.trans (d.trans o)) (λb hb=>aq),(p.Y o).kp U I aq (λi l=>by have:=bt i l;omega),a5⟩;omega
    ·refine gg ?_;have:i=n:=aq;subst this;exact⟨F,F,F,F,F,D,hW,hT⟩
   clear R a4 a5 w4;rintro f X ⟨G,r,q,E,a2,D,hW,hT⟩;rw[ui G,ui r,ui q,ui E,ui a2];clear G r q E a2;refine iq [(0,0),(1,3),(2,3)] [(3,[],[]),(9,[],[]),(10,[],[]),(4,[(5,3),(6,3),(7,3),(8,3)],[3])] [(11,2),(12,2),(13,3)] mixed aw λH d _=>?_;obtain⟨tx,ty,Z,V⟩:=hT.Y d;obtain⟨ax,av⟩:=a9 Z;refine gg ?_;refine C0 F aq aq ?_;refine gg ?_;refine dT [(3,[]),(4,[(5,3),(6,3),(7,3),(8,3)])] [fA 9 8 35 (.agg #[.bool false,.slice none 0 0]),fA 10 9 35 (.agg #[.bool false,.slice none 0 0])] [47,48,43,49,50,51,8,9] aw (λa ha f' s _ _=>by
    rcases List.mem_cons.1 ha with rfl|ha
    ·exact b_ a_ F f' s
    ·rcases List.mem_singleton.1 ha with rfl;exact b_ a_ F f' s) ?_
   refine cT λw3 o=>?_;refine gg ?_;refine aM (fb (0-(k:Int)) w3 aq aq) ?_;rintro _ w4 ⟨R,a1,b1,rfl,a3⟩;refine⟨R,?_⟩;refine gg ?_;refine cT λg ak=>?_;have mP:Bd 2 (0-(k:Int)):=CD aq aq;refine gg ?_;refine aM (kb _ _ _ _ _ _ (c+c+1+1) g (V.Y (o.trans (R.trans ak))).1 ((a3.Y ak).iv (mP.mono aq)) aq aq) ?_;rintro _ g ⟨bg,g,g,rx,g,rfl,hq,hr⟩;refine⟨bg,?_⟩;refine gg ?_;refine fM λg aj Y b4 bl=>?_;obtain⟨a7,bK⟩:=b4 _ aG;obtain⟨a6,bI⟩:=b4 _ (List.mem_cons_of_mem _ aG);have b0:Y 8≠Y 9:=bl _ _ aG (List.mem_cons_of_mem _ aG) (show(8:Nat)≠9 by decide);have bD:Bx g (Y 8) 1 false 0:=Bx.zero false bK;have bC:Bx g (Y 9) 1 false 0:=Bx.zero false bI;have a7:H.heap.size<=Y 8:=a7;have a6:H.heap.size<=Y 9:=a6;have ab:Ext H g:=o.trans (R.trans (ak.trans (bg.trans aj)));show Ro _ _ _ _ _ _ (bS (bS _ 9 (.pointer (some ⟨Y 9,0,none⟩))) 8 (.pointer (some ⟨Y 8,0,none⟩))) _;generalize Y 8=g8 at*;generalize Y 9=g at*;clear bK bI b4 bl;have aH:Bd (c+c+1+1) ((fN n λt=>Q t t)/(0-(k:Int))):=V.bd.ediv;have g:Bd (c+c+1+1) ((fN n λt=>Q t t)%(0-(k:Int))):=by
    have u:=Int.emod_nonneg (fN n λt=>Q t t) (show(0-(k:Int))≠0 by omega);have u:=Int.emod_lt (fN n λt=>Q t t) (show(0-(k:Int))≠0 by omega);refine Bd.mono (N:=1) ?_ aq;unfold Bd;have:B^1=4294967296:=ar;omega
   refine gg ?_;refine aL (.inl F) F rfl bD ((hq.Y aj).ev false aH) ?_;intro u bl a5 Y bI;refine gg ?_;refine aL (.inl F) F rfl (bC.kp Y a5 b0.symm) (((hr.Y aj).kp Y).ev false g) ?_;intro w9 bM a2 an bu;have p:=hW.Y d;have P:∀i,i<n->J i<H.heap.size:=λi l=>(p.row i l).lt;have bK:=p.lt;have g:=bl.kp an a2 b0;have b4:=((p.Y ab).kp Y a5 aq (λi l=>by have:=P i l;omega)).kp an a2 aq (λi l=>by have:=P i l;omega);have u:=D.trans d;have bt:=u.size;have b5:Ext w w9:=a2.aK (a5.aK (u.trans ab) λb hb=>aq) λb hb=>aq;have c4:∀i,i<n->J i<g8:=λi l=>by have:=P i l;omega
   have c3:C<g8:=aq;obtain⟨cf,bA⟩ : ∃cf,cf=(fN n λt=>Q t t)/(0-(k:Int)):=⟨_,F⟩;rw[<-bA]at g aH;clear u bM an a2 bu Y a5 bI bl bD bC a7 a6 ab b0 aj bg ak R o hq hr Z V ax av hW hT D p P bK bt;refine gg ?_;refine aU (λm f s=>∃i,m=n-i/\i<=n/\f 0=.slice A n au/\f 3=.int .i64 (n:Int)/\f 4=.slice (some ⟨C,0,none⟩) n n/\f 5=.int .i64 (k:Int)/\f 8=.pointer (some ⟨g8,0,none⟩)/\f 52=.int .i64 (n:Int)/\f 53=.int .i64 ((i:Nat):Int)/\
    Ext w s/\fk s C J n n true (λa b=>if a=b/\a<i then c+c+1+1+1 else c+c+1) (λa b=>if a=b/\a<i then Q a b+cf else Q a b)/\Bx s g8 (c+c+1+1) false cf)
    n ⟨0,F,aE,F,F,F,F,F,F,F,b5,b4.congr λa b _ _=>⟨aA,aA⟩,g⟩ ?_
   clear b5 b4 g w9;rintro m f X ⟨i,rfl,l,G,r,q,E,s,m,g,D,hW,hT⟩;rw[ui G,ui r,ui q,ui E,ui s,ui m,ui g];clear G r q E s m g;by_cases z:i<n
   ·refine gg ?_;refine c8 [(0,3),(1,3),(2,3),(3,0),(4,3),(5,3),(6,3),(7,3),(8,0),(9,3),(10,3),(11,0),(12,0),(13,1),(14,3),(15,2)] mixed aw λH d _=>?_;have p:=hW.Y d;have hx:=p.at z;obtain⟨x1,y1,bY,bX,ct⟩:=(p.row i z).at z;simp only at ct;rw[aa aq,aa aq]at ct;obtain⟨tx,ty,Z,V⟩:=hT.Y d;obtain⟨ax,av⟩:=a9 Z;refine gg ?_;refine aM (xu _ _ _ _ _ _ (c+c+1+1) H (ct.mono aq).1 V.1 aq) ?_;rintro _ w3 ⟨o,a1,b1,rfl,a3⟩;refine⟨o,?_⟩;refine gg ?_;refine dW (.inl F) F rfl ((p.Y o).row i z) z (a3.ev true (N:=c+c+1+1+1) ((ct.bd.mono aq).add aH)) ?_;intro w4 g I U ay;have a4:=(p.Y o).put z g I U;have g:=bj i z;have g:=c4 i z;refine gg ?_;refine⟨_,?_,i+1,F,aq,F,F,F,F,F,F,F,I.aK (D.trans (d.trans o)) λb hb=>aq,a4.congr λa b ha hb=>⟨?_,?_⟩,(hT.Y (d.trans o)).kp U I aq⟩
    ·omega
    ·simp only[dM];by_cases e:a=i/\b=i
     ·rw[ae e,ae aq];exact Nat.le_refl _
     ·rw[aa e];by_cases e2:a=b/\a<i
      ·rw[ae e2,ae aq];exact Nat.le_refl _
      ·rw[aa e2,aa aq];exact Nat.le_refl _
    ·simp only[dM];by_cases e:a=i/\b=i
     ·obtain⟨rfl,rfl⟩:=e;rw[ae ⟨F,F⟩,ae aq]
     ·rw[aa e];by_cases e2:a=b/\a<i
      ·rw[ae e2,ae aq]
      ·rw[aa e2,aa aq]
   ·refine gg ?_;refine⟨_,?_,k+1,C,J,F,aq,aq,F,F,F,F,D,bW,bj,?_⟩
    ·omega
    ·refine(hW.congr (bn':=λ_ _=>c+c+1+1+1) (M':=lC n M (k+1-1)) (λa b ha hb=>⟨by split<;>omega,?_⟩)).o;obtain⟨k,rfl⟩ : ∃c,k=c+1:=⟨k-1,aq⟩;simp only[Nat.add_sub_cancel]at hP⊢;rw[lC,nF,<-hP,<-hQ];by_cases e:a=b
     ·rw[ae ⟨e,aq⟩,ae e,bA,Int.zero_sub]
     ·rw[aa λh=>e h.1,aa e]
  ·refine gg ?_;have:k=n:=aq;subst this;exact⟨K,L,F,F,D,hg,O,T⟩
 clear T O hg d al ai X H ad L K;rintro f X ⟨K,L,r,q,D,hg,O,T⟩;rw[ui r,ui q];clear r q;refine aP ?_;by_cases a:n%2=0
 ·refine gg ?_;refine jg F ar ?_;refine gg ?_;have c5:(n-1)*(N+3)<=15*1048579:=Nat.mul_le_mul aq aq;refine aJ (wX _ n n (1+(n-1)*(N+3)) _ X (T.read (λi j l S=>bB (n-1) i j l S) aq aq) hn aq aq aq) ?_;rintro _ H ⟨d,C,J,rfl,bx,a0,W⟩;refine gg ?_;have:=D.size;refine cI (v:=.slice _ _ _) F rfl ⟨D.trans d,C,J,F,aq,λi l=>by have:=a0 i l;omega,?_⟩;have e:(λi j=>- lC n M (n-1) i j)=kD n M:=by funext i j;rw[kD,ae a]
  rw[<-e];exact W
 ·refine gg ?_;refine jg F ar ?_;refine gg ?_;refine cI (v:=.slice _ _ _) F rfl ⟨D,K,L,F,hg,O,?_⟩;have e:lC n M (n-1)=kD n M:=by funext i j;rw[kD,aa a]
  rw[<-e];exact T
theorem Cg{n N:Nat}:∀(m k:Nat) (M:Nat->Nat->Int) (b:Bool) (a:Int),(∀i j,Bd (Nb N k) (M i j))->Bd (Nb N k) a->Bd (Nb N (k+m)) (iL n m k M b a):=by
 intro m;induction m with
 |zero=>intro k M b a d c;unfold iL;split<;>first|exact c.neg|exact c
 |succ m e=>
  intro k M b a d c;unfold iL;split
  ·exact Bd.zero _
  ·have c:∀i j,Bd (Nb N k) (swp k (cR n k M) M i j):=λi j=>by
    simp only[swp];split
    ·exact d _ _
    ·split<;>exact d _ _
   have d:=e (k+1) (elim k a (swp k (cR n k M) M)) (b != decide (cR n k M≠k)) (swp k (cR n k M) M k k) (λi j=>Ey c) ((c k k).mono (iI N k));rw[show k+(m+1)=k+1+m by omega];exact d
def cut(n:Nat)(M:Nat->Nat->Int):Nat->Nat->Int:=λi j=>if i<n/\j<n then M i j else 0
theorem uQ{n k:Nat}{M M':Nat->Nat->Int}(c:k<n)(h:∀i j,i<n->j<n->M i j=M' i j):∀a p,fJ n k M a p=fJ n k M' a p:=by
 intro a;induction a with
 |zero=>intro p;rfl
 |succ a b=>
  intro p;simp only[fJ];by_cases a:p<n
  ·rw[h p k a c,b]
  ·rw[aa λe=>a e.1,aa λe=>a e.1]
theorem BM{n k:Nat}{M:Nat->Nat->Int}:∀a p,p<=n->p<=fJ n k M a p/\fJ n k M a p<=n:=by
 intro a;induction a with
 |zero=>intro p b;exact⟨aD,b⟩
 |succ a c=>
  intro p b;simp only[fJ];split
  ·rename_i h;have:=c (p+1) aq;omega
  ·omega
theorem uZ{n:Nat}:∀(m k:Nat) (M a:Nat->Nat->Int) (c:Bool) (b:Int),k+m=n->(∀i j,i<n->j<n->M i j=a i j)->iL n m k M c b=iL n m k a c b:=by
 intro m;induction m with
 |zero=>intro k M a c b _ _;rfl
 |succ m l=>
  intro k M a c b q h;have o:cR n k M=cR n k a:=uQ aq h _ _;have g:cR n k a<=n:=(BM (n:=n) (k:=k) (M:=a) (n-k) k aq).2;simp only[iL,o];split
  ·rfl
  ·rename_i p;have g:cR n k a<n:=aq;have e:∀i j,i<n->j<n->swp k (cR n k a) M i j=swp k (cR n k a) a i j:=λi j f d=>by
    simp only[swp];split
    ·exact h _ _ g d
    ·split
     ·exact h _ _ aq d
     ·exact h _ _ f d
   rw[e k k aq aq];refine l (k+1) _ _ _ _ aq λi j f d=>?_;simp only[elim];rw[e k k aq aq,e i j f d,e i k f aq,e k j aq d]
theorem xj{n:Nat}{M M':Nat->Nat->Int}(h:∀i j,i<n->j<n->M i j=M' i j):kU n M=kU n M':=uZ n 0 M M' false 1 (by omega) h
theorem s4{n N:Nat}{M:Nat->Nat->Int}(d:1<=N)(h:∀i j,i<n->j<n->Bd N (M i j)):Bd (Nb N n) (kU n M):=by
 have e:kU n M=kU n (cut n M):=xj λi j c b=>by simp[cut,c,b]
 rw[e];have:=Cg (n:=n) (N:=N) n 0 (cut n M) false 1 (λi j=>by
  unfold cut;split
  ·rename_i a;exact h i j a.1 a.2
  ·exact Bd.zero _) (Bd.mono (N:=1) (show(1:Int).natAbs<B^1 by decide) d)
 rwa[Nat.zero_add]at this
end
end Go.Proofs.Qq

namespace Go.Proofs.Qq
section
open Go Go.cU Go.cV Go.Proofs
def J1(w:World)(v:Value)(w':World):Prop:=Ext w w'/\v=.bool true
theorem iX(r:Nat)(a:Nat->Nat):∃(s c:Nat) (ok:Bool),ku r a=.tuple #[.int .i64 (s:Int),.int .i64 (c:Int),.bool ok]/\((l_ r a=true/\ok=true/\s=r/\c=a 0)\/(l_ r a=false/\ok=false/\s=0/\c=0)):=by
 by_cases h:l_ r a=true
 ·exact⟨_,_,_,iJ h,.inl ⟨h,F,F,F⟩⟩
 ·exact⟨_,_,_,fQ h,.inr ⟨by simpa using h,F,F,F⟩⟩
theorem sn{w w':World}{ok:Bool}{r c:Nat}{M:Nat->Nat->Int}(h:ok=false)(a:Ext w w'):tj w ok r c M (.tuple #[.slice none 0 0,.bool false]) w':=by
 unfold tj;rw[aa (by rw[h];decide)];exact⟨a,F⟩
theorem A4{w a w':World}{ok:Bool}{r c:Nat}{M:Nat->Nat->Int}{v:Value}(h:ok=true)(b:Ext w a)(e:RM a r c M v w'):tj w ok r c M (.tuple #[v,.bool true]) w':=by
 unfold tj;rw[ae h];obtain⟨d,j,i,rfl,a,g,f⟩:=e;have:=b.size;exact⟨_,F,b.trans d,j,i,F,aq,λi a=>by have:=g i a;omega,f⟩
theorem qH(i j e r c N:Nat)(b:Value)(X:Nat->Nat->Int)(w:World)(o:bh w e 25 #[b])
 (l:cO (EI N) w b r (λ_=>c) X) (k:i<c) (h:j<r) (m:N<1099511627776):
 aT Tryz.prog 100 #[.int .i64 (i:Int),.int .i64 (j:Int),.pointer (some ⟨e,0,none⟩)] w (RI w (X j i)):=by
 refine bF (n:=14) Tryz.func100 F rfl aw aA ?_;refine gg ?_;refine aR (.inl F) a_ ?_;intro d b a e;have g:Bx d w.heap.size 1 true 0:=Bx.zero true b;have b:=ir (o.Y a);obtain⟨b,b,b,rfl,b,f⟩:=(l.Y a).at h;obtain⟨b,b,b,b,rfl,b,b,b⟩:=f.at k;refine gg ?_;refine aJ (kx _ _ _ N d b m) ?_;rintro _ d ⟨d,e,e,rfl,e⟩;refine gg ?_;refine aL (.inl F) F rfl (g.Y d) (e.ev true (N:=N) (IV.bd b)) ?_;intro b b e f f;refine gg ?_;obtain⟨x,y,g,f⟩:=b;exact dO F aN F g ⟨e.aK (a.trans d) λb a=>aq,x,y,F,f.2 F⟩
theorem r7(d:Value)(r N:Nat)(a:Nat->Nat)(X:Nat->Nat->Int)(w:World)(h:cO (EI N) w d r a X)(p:N<1099511627776):
 aT Tryz.prog 76 #[d] w (tj w (l_ r a) (a 0) r λi j=>X j i):=by
 obtain⟨e,e,k,_⟩:=id h;refine bF (n:=19) Tryz.func76 F rfl aw aA ?_;refine gg ?_;refine aZ (v:=d) (.inl F) F ?_;intro g e c m;have f:bh g w.heap.size 25 #[d]:=by rw[k]at e⊢;exact e
 have e:=ir f;refine gg ?_;refine aJ (j3 _ d r a X g (h.Y c)) ?_;rintro _ _ ⟨rfl,rfl⟩;obtain⟨l,e,e,k,e⟩:=iX r a;rw[k];rcases e with⟨b,rfl,rfl,rfl⟩|⟨b,rfl,rfl,rfl⟩
 ·obtain⟨⟨m,e,q,o⟩,k⟩:=cX.1 b;refine gg ?_;refine aP ?_;refine gg ?_;refine kl ?_;refine gg ?_;refine aJ (lT (a 0) l _ _ (λi j=>X j i) g aq aq λi j o m g e=>qH i j w.heap.size l (a 0) N d X g (f.Y e) ((h.Y (c.trans e)).sq k) o m p) ?_;rintro v a a;have d:=a;obtain⟨_,e,gs,rfl,_⟩:=d;refine gg ?_;exact fK (v:=.slice _ _ _) (v':=.bool _) F rfl rfl (A4 b c a)
 ·refine gg ?_;refine aP ?_;refine gg ?_;exact fK (v:=.slice _ _ _) (v':=.bool _) F rfl rfl (sn b c)
def Sm(r:Nat)(a:Nat->Nat)(L:Nat->Nat->Nat):Prop:=r<=600/\∀i,i<r->a i<=600/\∀j,j<a i->L i j<=600
theorem Sm.e{w:World}{v:Value}{r:Nat}{a:Nat->Nat}{M:Nat->Nat->Int}{L:Nat->Nat->Nat}(h:Sm r a L)(b:Hs w v r a M L):cO (EI 600) w v r a M:=b.e λi b j a=>(h.2 i b).2 j a
theorem lP(E:World->Value->Value->Int->Prop)(v:Value)(r:Nat)(a:Nat->Nat)(M:Nat->Nat->Int)(w:World)(h:cO E w v r a M):
 aT Tryz.prog 48 #[v] w λv' b=>w=b/\v'=ku r a:=by
 refine bF (n:=10) Tryz.func48 F rfl aw aA ?_;refine gg ?_;refine aJ (j3 E v r a M w h) ?_;rintro _ _ ⟨rfl,rfl⟩;obtain⟨b,b,b,b,_⟩:=iX r a;rw[b];refine gg ?_;exact su (v:=.int _ _) (v':=.int _ _) (v'':=.bool _) F rfl rfl rfl ⟨F,F⟩
end
end Go.Proofs.Qq


