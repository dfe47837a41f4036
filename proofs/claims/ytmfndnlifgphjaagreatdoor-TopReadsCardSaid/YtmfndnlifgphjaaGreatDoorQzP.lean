import Derived.Test.YtmfndnlifgphjaaGreatDoorQzO
set_option maxHeartbeats 64000000
open Go.Proofs.YtmfndnlifgphjaaGreatDoor
namespace Go.Proofs.Qq
section
open Go Go.cW Go.c7 Go.Proofs
theorem y9(x y:Value)(z:Int)(N:Nat)(w:World)(h:EV w N true x y z)(G:N<17592186044416):
 aT Tryz.prog 185 #[.agg #[x,y]] w λv g=>Ext w g/\∃a b,v=.agg #[a,b]/\EV g N true a b (z.natAbs:Int):=by
 refine bo (n:=9) Tryz.func185 F rfl az aA ?_;have O:Bd N z:=h.1.bd;have d:Ext w w:=Ext.refl w;refine gp ?_;refine bO (v:=.agg _) (.inl F) F ?_;intro t a c l;have B:bg t w.heap.size 44 #[x,y]:=a;obtain⟨H,s⟩ : ∃g,g=w.heap.size:=⟨_,F⟩;rw[<-s]at B⊢;have J:w.heap.size<=H:=by have:=d.size;omega
 replace h:=h.Y c;replace d:=d.trans c;clear a l s c;have f:Bx t H N true z:=⟨x,y,B,h⟩;clear B h;refine gp ?_;refine aS (.inl F) a_ ?_;intro E a c l;have i:=Bx.zero (N:=1) true a;obtain⟨B,s⟩ : ∃g,g=t.heap.size:=⟨_,F⟩;rw[<-s]at i⊢;have g:w.heap.size<=B:=by have:=d.size;omega
 have g:H<B:=by have:=f.lt;omega
 replace f:=f.Y c;replace d:=d.trans c;clear a l s c;refine gp ?_;refine aN ?_;obtain⟨D,C,p,o⟩:=id f;obtain⟨r,q⟩:=bh p;have k:=o.1;by_cases a:z<0
 ·have s:z.sign<0:=by rw[Int.sign_eq_neg_one_of_neg a];decide
  refine gp ?_;refine aJ (dw _ _ _ N E k G) ?_;rintro _ a ⟨c,rfl⟩;replace f:=f.Y c;replace i:=i.Y c;replace k:=k.Y c;replace d:=d.trans c;clear c;clear r q;obtain⟨D,C,p,o⟩:=id f;obtain⟨r,q⟩:=bh p;have g:=o.1;refine gp ?_;refine gp ?_;refine aJ (j8 _ _ _ N a g G) ?_;rintro _ a ⟨c,a0,a,rfl,a⟩;replace f:=f.Y c;replace i:=i.Y c;replace k:=k.Y c;replace d:=d.trans c;clear c;clear r q;refine gp ?_;refine aL ag F rfl i (a.ev true O.neg) ?_;intro g i m j l;replace f:=f.kp j m ah;replace k:=k.kp j;replace a:=a.kp j;replace d:=m.aK d λb M=>aq;clear m j l;refine gp ?_;obtain⟨L,K,A,u⟩:=i;refine eZ F aQ F A ⟨d,_,_,F,?_⟩;have e:(z.natAbs:Int)=-z:=aq;rw[e];exact u
 ·have s:¬z.sign<0:=by
   rcases Int.lt_or_le 0 z with I|I
   ·rw[Int.sign_eq_one_of_pos I];decide
   ·have:z=0:=aq;rw[this];decide
  refine gp ?_;refine aJ (dw _ _ _ N E k G) ?_;rintro _ a ⟨c,rfl⟩;replace f:=f.Y c;replace i:=i.Y c;replace k:=k.Y c;replace d:=d.trans c;clear c;clear r q;obtain⟨D,C,p,o⟩:=id f;obtain⟨r,q⟩:=bh p;have a:=o;refine gp ?_;refine gp ?_;refine aL ag F rfl i (a) ?_;intro a i m j l;replace f:=f.kp j m ah;replace k:=k.kp j;replace d:=m.aK d λb M=>aq;clear m j l;refine gp ?_;obtain⟨L,K,A,u⟩:=i;refine eZ F aQ F A ⟨d,_,_,F,?_⟩;have e:(z.natAbs:Int)=z:=aq;rw[e];exact u
def KN(M:Nat->Nat->Int)(i j k:Nat)(f:Int):Nat->Nat->Int:=λa b=>if a=i/\b<k then M i b+f*M j b else M a b
theorem KM(M:Nat->Nat->Int)(i j n:Nat)(f:Int){a b:Nat}(c:b<n):KN M i j n f a b=if a=i then M i b+f*M j b else M a b:=by
 unfold KN;by_cases e:a=i
 ·rw[ab ⟨e,c⟩,ab e]
 ·rw[aa λh=>e h.1,aa e]
theorem mm(I r n i j N K:Nat)(d Q:Nat->Nat)(M:Nat->Nat->Int)(z:Int)(O L:Value)(w:World)(o:cF w I d Q r n true (λ_ _=>N) M)(H:i<r)(S:j<r)(T:i≠j)(q:IV w K O L z)(_hr:r<=1048576)(x:n<=1048576)(V:K+N<17592186044416)
 (D:∀k,k<n->Bd N (M i k+z*M j k)):
 aT Tryz.prog 161 #[.slice (some ⟨I,0,none⟩) r r,.int .i64 (i:Int),.int .i64 (j:Int),.agg #[O,L]] w λv t=>
  v=.tuple #[]/\Ch (λb=>b=d i) w t/\Kp w t/\cF t I d Q r n true (λ_ _=>N) (λa b=>if a=i then M i b+z*M j b else M a b):=by
 refine bo (n:=38) Tryz.func161 F rfl az aA ?_;have W:Bd K z:=q.bd;have X:∀a b,a<r->b<n->Bd N (M a b):=λa b P D=>by
  obtain⟨x,y,_,_,A⟩:=(o.row a P).at D;exact A.1.bd
 have U:∀a,a<r->d a<w.heap.size:=λa P=>(o.row a P).lt;have x:=o.lt;have l:Ext w w:=Ext.refl w;refine gp ?_;refine bO (v:=.agg _) (.inl F) F ?_;intro f p c s;have J:bg f w.heap.size 44 #[O,L]:=p;obtain⟨G,C⟩ : ∃g,g=w.heap.size:=⟨_,F⟩;rw[<-C]at J⊢;have x:w.heap.size<=G:=by have:=l.size;omega
 replace q:=q.Y c;replace l:=l.trans c;clear p s C c;have m:Bx f G K false z:=⟨O,L,J,q,λh=>by cases h⟩;clear J q;refine gp ?_;replace o:=o.Y l;have E:Ch (λb=>b=d i) w f:=l.mono λ_ _ h=>h.elim;have x:Kp w f:=bJ l;have f:=o.at S;have q:=U i H;clear l;refine gp ?_;clear f;refine aU (λq f t=>∃k,q=n-k/\k<=n/\f 0=.slice (some ⟨I,0,none⟩) r r/\f 1=.int .i64 (i:Int)/\f 7=.pointer (some ⟨G,0,none⟩)/\f 13=.slice (some ⟨d j,0,none⟩) n (Q j)/\f 14=.int .i64 (n:Int)/\f 15=.int .i64 ((k:Nat):Int)/\Ch (λb=>b=d i) w t/\Kp w t/\cF t I d Q r n true (λ_ _=>N) (KN M i j k z)/\Bx t G K false z)
  n ⟨0,F,aE,F,F,F,F,F,F,E,x,o.congr (λa b _ _=>⟨aD,by unfold KN;rw[aa aq]⟩),m⟩ ?_
 clear E x o m;rintro q f u ⟨k,rfl,f,I,y,x,t,q,f,E,R,o,m⟩;rw[ui I,ui y,ui x,ui t,ui q,ui f];clear I y x t q f;by_cases B:k<n;rotate_left
 ·obtain rfl:k=n:=aq;refine gp ?_;exact lP F ⟨F,E,R,o.congr λa b _ f=>⟨aD,KM M i j k z f⟩⟩
 have f:=E.size;have f:∀t,t<r->d t<u.heap.size:=λt f=>(o.row t f).lt;have O:G≠d i:=aq;have l:Ext u u:=Ext.refl u;have d:Ext u u:=Ext.refl _;obtain⟨f,f,x,t,A⟩:=(o.row j S).at B;have f:KN M i j k z j k=M j k:=by unfold KN;rw[aa (λh=>T h.1.symm)]
 rw[f]at A;refine gp ?_;refine gp ?_;refine aS (.inl F) a_ ?_;intro f p c s;have q:=Bx.zero (N:=1) true p;obtain⟨r,C⟩ : ∃g,g=u.heap.size:=⟨_,F⟩;rw[<-C]at q⊢;have f:u.heap.size<=r:=by have:=l.size;omega
 have f:u.heap.size<=r:=by have:=d.size;omega
 have f:G<r:=by have:=m.lt;omega
 replace m:=m.Y c;replace d:=d.trans c;replace A:=A.Y c;replace l:=l.trans c;clear p s C c;refine gp ?_;refine aL ag F rfl q (A) ?_;intro f q f g s;replace m:=m.kp g f ah;replace d:=f.aK d λb D=>aq;replace A:=A.kp g;replace l:=f.aK l λb D=>aq;clear f g s;clear x t A;refine gp ?_;refine gp ?_;refine cP [(0,3),(1,3),(2,3),(3,0),(4,3),(5,3),(6,3),(7,3),(8,0),(9,3),(10,3),(11,0),(12,0),(13,0),(14,1),(15,1),(16,3),(17,2)] mixed az λG c _=>?_;replace m:=m.Y c;replace d:=d.trans c;replace q:=q.Y c;replace l:=l.trans c;clear c;have L:=(o.Y d).at H;obtain⟨p,p,J,I,cQ⟩:=((o.Y d).row i H).at B;have p:KN M i j k z i k=M i k:=by unfold KN;rw[aa (λh=>Nat.lt_irrefl _ h.2)]
 rw[p]at cQ;replace cQ:=cQ.1;obtain⟨p,p,p,y⟩:=id q;obtain⟨C,A⟩:=bh p;obtain⟨p,p,p,t⟩:=id m;obtain⟨x,u⟩:=bh p;have r:=y.1;have p:=t.1;refine gp ?_;refine gp ?_;refine aM (kT _ _ _ _ _ _ (K+N) G (p.mono aq) (r.mono aq) V) ?_;rintro _ y ⟨c,a0,t,rfl,t⟩;refine⟨c,?_⟩;replace m:=m.Y c;replace d:=d.trans c;replace q:=q.Y c;replace r:=r.Y c;replace p:=p.Y c;replace cQ:=cQ.Y c;replace l:=l.trans c;clear c;have G:Bd (K+N) (z*M j k):=W.mul (X j k S B);refine gp ?_;refine gp ?_;refine aM (qv _ _ _ _ _ _ (K+N) y (cQ.mono aq) (t.iv G) aq) ?_;rintro _ y ⟨c,a2,a3,rfl,y⟩;refine⟨c,?_⟩;replace m:=m.Y c;replace d:=d.trans c;replace q:=q.Y c;replace r:=r.Y c;replace p:=p.Y c;replace cQ:=cQ.Y c;replace t:=t.Y c;replace l:=l.trans c;clear c;clear L J I C A x u;have c:=o.Y d;refine gp ?_;refine fr (.inl F) F rfl (c.row i H) B (y.ev true (D k B)) ?_;intro d o f g s;have d:=c.put H o f g;have o:=(E.join (l.mono (M':=λ_=>False) λ_ _ h=>h.elim) λ_ _ h=>h.elim).join f λb D e=>e;have c:=R.trans ((bJ l).trans g);have h:=m.kp g f O;refine gp ?_;refine⟨_,?_,k+1,F,aq,F,F,F,F,F,F,o,c,d.congr λa b P D=>⟨?_,?_⟩,h⟩
 ·omega
 ·simp only[cV];split<;>exact Nat.le_refl _
 ·simp only[cV];unfold KN;by_cases e:a=i/\b=k
  ·obtain⟨rfl,rfl⟩:=e;rw[ab ⟨F,F⟩,ab aq]
  ·rw[aa e];by_cases c:a=i/\b<k
   ·rw[ab c,ab aq]
   ·rw[aa c,aa aq]
def KT(M:Nat->Nat->Int)(i j k:Nat)(f:Int):Nat->Nat->Int:=λa b=>if b=i/\a<k then M a i+f*M a j else M a b
theorem KS(M:Nat->Nat->Int)(i j r:Nat)(f:Int){a b:Nat}(c:a<r):KT M i j r f a b=if b=i then M a i+f*M a j else M a b:=by
 unfold KT;by_cases e:b=i
 ·rw[ab ⟨e,c⟩,ab e]
 ·rw[aa λh=>e h.1,aa e]
theorem oF(D r n i j N K:Nat)(s O:Nat->Nat)(M:Nat->Nat->Int)(z:Int)(I H:Value)(w:World)(m:cF w D s O r n true (λ_ _=>N) M)(Q:i<n)(P:j<n)(g:i≠j)(q:IV w K I H z)(g:r<=1048576)(_hn:n<=1048576)(S:K+N<17592186044416)
 (C:∀k,k<r->Bd N (M k i+z*M k j)):
 aT Tryz.prog 186 #[.slice (some ⟨D,0,none⟩) r r,.int .i64 (i:Int),.int .i64 (j:Int),.agg #[I,H]] w λv p=>
  v=.tuple #[]/\Ch (λb=>∃t,t<r/\b=s t) w p/\Kp w p/\cF p D s O r n true (λ_ _=>N) (λa b=>if b=i then M a i+z*M a j else M a b):=by
 refine bo (n:=31) Tryz.func186 F rfl az aA ?_;have T:Bd K z:=q.bd;have U:∀a b,a<r->b<n->Bd N (M a b):=λa b u C=>by
  obtain⟨x,y,_,_,g⟩:=(m.row a u).at C;exact g.1.bd
 have R:∀a,a<r->s a<w.heap.size:=λa u=>(m.row a u).lt;have g:=m.lt;have d:Ext w w:=Ext.refl w;refine gp ?_;refine bO (v:=.agg _) (.inl F) F ?_;intro f x c J;have G:bg f w.heap.size 44 #[I,H]:=x;obtain⟨E,y⟩ : ∃g,g=w.heap.size:=⟨_,F⟩;rw[<-y]at G⊢;have g:w.heap.size<=E:=by have:=d.size;omega
 replace q:=q.Y c;replace d:=d.trans c;clear x J y c;have o:Bx f E K false z:=⟨I,H,G,q,λh=>by cases h⟩;clear G q;refine gp ?_;replace m:=m.Y d;have A:Ch (λb=>∃t,t<r/\b=s t) w f:=d.mono λ_ _ h=>h.elim;have g:Kp w f:=bJ d;clear d;refine gp ?_;refine aU (λq f p=>∃k,q=r-k/\k<=r/\f 1=.int .i64 (i:Int)/\f 2=.int .i64 (j:Int)/\f 7=.pointer (some ⟨E,0,none⟩)/\f 10=.slice (some ⟨D,0,none⟩) r r/\f 11=.int .i64 (r:Int)/\f 12=.int .i64 ((k:Nat):Int)/\Ch (λb=>∃t,t<r/\b=s t) w p/\Kp w p/\cF p D s O r n true (λ_ _=>N) (KT M i j k z)/\Bx p E K false z)
  r ⟨0,F,aE,F,F,F,F,F,F,A,g,m.congr (λa b _ _=>⟨aD,by unfold KT;rw[aa aq]⟩),o⟩ ?_
 clear A g m o;rintro q f B ⟨k,rfl,f,x,t,q,p,g,f,A,L,m,o⟩;rw[ui x,ui t,ui q,ui p,ui g,ui f];clear x t q p g f;by_cases l:k<r;rotate_left
 ·obtain rfl:k=r:=aq;refine gp ?_;exact lP F ⟨F,A,L,m.congr λa b u _=>⟨aD,KS M i j k z u⟩⟩
 have f:=A.size;have f:=R k l;have G:E≠s k:=aq;have d:Ext B B:=Ext.refl B;have f:Ext B B:=Ext.refl _;have g:=m.at l;refine gp ?_;clear g;refine gp ?_;refine cP [(0,3),(1,3),(2,3),(3,3),(4,3),(5,0),(6,0),(7,3),(8,3),(9,3),(10,0),(11,1),(12,1),(13,3),(14,2)] mixed az λt c _=>?_;replace o:=o.Y c;replace f:=f.trans c;replace d:=d.trans c;clear c;obtain⟨g,g,D,y,g⟩:=((m.Y f).row k l).at Q;obtain⟨p,p,B,x,cQ⟩:=((m.Y f).row k l).at P;have q:KT M i j k z k i=M k i:=by unfold KT;rw[aa (λh=>Nat.lt_irrefl _ h.2)]
 have p:KT M i j k z k j=M k j:=by unfold KT;rw[aa (λh=>Nat.lt_irrefl _ h.2)]
 rw[q]at g;rw[p]at cQ;replace g:=g.1;replace cQ:=cQ.1;obtain⟨p,p,p,q⟩:=id o;obtain⟨s,r⟩:=bh p;have p:=q.1;refine gp ?_;refine gp ?_;refine aM (kT _ _ _ _ _ _ (K+N) t (p.mono aq) (cQ.mono aq) S) ?_;rintro _ t ⟨c,a0,q,rfl,q⟩;refine⟨c,?_⟩;replace o:=o.Y c;replace f:=f.trans c;replace g:=g.Y c;replace cQ:=cQ.Y c;replace p:=p.Y c;replace d:=d.trans c;clear c;have E:Bd (K+N) (z*M k j):=T.mul (U k j l P);refine gp ?_;refine gp ?_;refine aM (qv _ _ _ _ _ _ (K+N) t (g.mono aq) (q.iv E) aq) ?_;rintro _ t ⟨c,a2,a3,rfl,t⟩;refine⟨c,?_⟩;replace o:=o.Y c;replace f:=f.trans c;replace g:=g.Y c;replace cQ:=cQ.Y c;replace p:=p.Y c;replace q:=q.Y c;replace d:=d.trans c;clear c;clear D y B x s r;have g:=m.Y f;refine gp ?_;refine fr (.inl F) F rfl (g.row k l) Q (t.ev true (C k l)) ?_;intro c p f c J;have m:=g.put l p f c;have p:=(A.join (d.mono (M':=λ_=>False) λ_ _ h=>h.elim) λ_ _ h=>h.elim).join f λb C e=>⟨k,l,e⟩;have g:=L.trans ((bJ d).trans c);have d:=o.kp c f G;refine gp ?_;refine⟨_,?_,k+1,F,aq,F,F,F,F,F,F,p,g,m.congr λa b u C=>⟨?_,?_⟩,d⟩
 ·omega
 ·simp only[cV];split<;>exact Nat.le_refl _
 ·simp only[cV];unfold KT;by_cases e:a=k/\b=i
  ·obtain⟨rfl,rfl⟩:=e;rw[ab ⟨F,F⟩,ab aq]
  ·rw[aa e];by_cases c:b=i/\a<k
   ·rw[ab c,ab aq]
   ·rw[aa c,aa aq]
def Mv(M:Nat->Nat->Int)(i k:Nat):Nat->Nat->Int:=λa b=>if a=i/\b<k then -M i b else M a b
theorem JY(M:Nat->Nat->Int)(i n:Nat){a b:Nat}(c:b<n):Mv M i n a b=if a=i then -M i b else M a b:=by
 unfold Mv;by_cases e:a=i
 ·rw[ab ⟨e,c⟩,ab e]
 ·rw[aa λh=>e h.1,aa e]
theorem oE(g r n i N:Nat)(d o:Nat->Nat)(M:Nat->Nat->Int)(w:World)(j:cF w g d o r n true (λ_ _=>N) M)(p:i<r)(_hr:r<=1048576)(c:n<=1048576)(C:N<17592186044416):
 aT Tryz.prog 162 #[.slice (some ⟨g,0,none⟩) r r,.int .i64 (i:Int)] w λv c=>
  v=.tuple #[]/\Ch (λb=>b=d i) w c/\Kp w c/\cF c g d o r n true (λ_ _=>N) (λa b=>if a=i then -M i b else M a b):=by
 refine bo (n:=25) Tryz.func162 F rfl az aA ?_;have D:∀a b,a<r->b<n->Bd N (M a b):=λa b u s=>by
  obtain⟨x,y,_,_,l⟩:=(j.row a u).at s;exact l.1.bd
 have f:∀a,a<r->d a<w.heap.size:=λa u=>(j.row a u).lt;have q:=f i p;have f:=j.at p;refine gp ?_;clear f;refine aU (λq f c=>∃k,q=n-k/\k<=n/\f 0=.slice (some ⟨g,0,none⟩) r r/\f 1=.int .i64 (i:Int)/\f 9=.slice (some ⟨d i,0,none⟩) n (o i)/\f 10=.int .i64 (n:Int)/\f 11=.int .i64 ((k:Nat):Int)/\Ch (λb=>b=d i) w c/\Kp w c/\cF c g d o r n true (λ_ _=>N) (Mv M i k))
  n ⟨0,F,aE,F,F,F,F,F,(Ext.refl w).mono (λ_ _ h=>h.elim),bJ (Ext.refl w),j.congr (λa b _ _=>⟨aD,by unfold Mv;rw[aa aq]⟩)⟩ ?_
 clear j;rintro q f m ⟨k,rfl,c,o,g,f,d,c,A,z,j⟩;rw[ui o,ui g,ui f,ui d,ui c];clear o g f d c;by_cases t:k<n;rotate_left
 ·obtain rfl:k=n:=aq;refine gp ?_;exact lP F ⟨F,A,z,j.congr λa b _ c=>⟨aD,JY M i k c⟩⟩
 have c:=A.size;have f:Ext m m:=Ext.refl m;have d:Ext m m:=Ext.refl _;obtain⟨c,c,B,y,l⟩:=(j.row i p).at t;have c:Mv M i k i k=M i k:=by unfold Mv;rw[aa (λh=>Nat.lt_irrefl _ h.2)]
 rw[c]at l;refine gp ?_;refine gp ?_;refine aS (.inl F) a_ ?_;intro c r c q;have o:=Bx.zero (N:=1) true r;obtain⟨x,v⟩ : ∃g,g=m.heap.size:=⟨_,F⟩;rw[<-v]at o⊢;have g:m.heap.size<=x:=by have:=f.size;omega
 have g:m.heap.size<=x:=by have:=d.size;omega
 replace d:=d.trans c;replace l:=l.Y c;replace f:=f.trans c;clear r q v c;refine gp ?_;refine aL ag F rfl o (l) ?_;intro g o g m q;replace d:=g.aK d λb s=>aq;replace l:=l.kp m;replace f:=g.aK f λb s=>aq;clear g m q;clear B y l;refine gp ?_;refine gp ?_;refine cP [(0,3),(1,3),(2,3),(3,0),(4,3),(5,0),(6,1),(7,3),(8,2)] mixed az λy c _=>?_;replace d:=d.trans c;replace o:=o.Y c;replace f:=f.trans c;clear c;have B:=(j.Y d).at p;obtain⟨l,l,l,r⟩:=id o;obtain⟨x,v⟩:=bh l;have l:=r.1;refine gp ?_;refine gp ?_;refine aM (j8 _ _ _ N y l C) ?_;rintro _ r ⟨c,a0,r,rfl,hm⟩;refine⟨c,?_⟩;replace d:=d.trans c;replace o:=o.Y c;replace l:=l.Y c;replace f:=f.trans c;clear c;clear B x v;have c:=j.Y d;refine gp ?_;refine fr (.inl F) F rfl (c.row i p) t (hm.ev true (D i k p t).neg) ?_;intro d j g m q;have d:=c.put p j g m;have j:=(A.join (f.mono (M':=λ_=>False) λ_ _ h=>h.elim) λ_ _ h=>h.elim).join g λb s e=>e;have c:=z.trans ((bJ f).trans m);refine gp ?_;refine⟨_,?_,k+1,F,aq,F,F,F,F,F,j,c,d.congr λa b u s=>⟨?_,?_⟩⟩
 ·omega
 ·simp only[cV];split<;>exact Nat.le_refl _
 ·simp only[cV];unfold Mv;by_cases e:a=i/\b=k
  ·obtain⟨rfl,rfl⟩:=e;rw[ab ⟨F,F⟩,ab aq]
  ·rw[aa e];by_cases c:a=i/\b<k
   ·rw[ab c,ab aq]
   ·rw[aa c,aa aq]
theorem n8:gz Tryz.prog 25=true:=by kernel_rfl
theorem HN:cI Tryz.prog 157 0 0:=by
 unfold cI;intro a w;simp[Instr.fieldAt,run_underlying Tryz.underlying157,Instr.sureAddr,fieldPlace,cK n8]
theorem HM:cI Tryz.prog 157 1 1:=by
 unfold cI;intro a w;simp[Instr.fieldAt,run_underlying Tryz.underlying157,Instr.sureAddr,fieldPlace,cK n8]
theorem HL:cI Tryz.prog 157 2 2:=by
 unfold cI;intro a w;simp[Instr.fieldAt,run_underlying Tryz.underlying157,Instr.sureAddr,fieldPlace,cK n8]
theorem ge{G G':Prop}(h:G')(t:Gw G'->G:=by intro hgg;(repeat (first|refine ta ?_|(refine mT ?_;(first|refine dP eO rfl rfl (by omega) ?_|refine fh eO rfl rfl (by omega) ?_|refine jC eO rfl ?_|refine ku (by decide) (aX F) F (by assumption) ?_|refine l9 (by decide) aQ F (by assumption) (by assumption) ?_|refine aV HN rfl ?_|refine aV HM rfl ?_|refine aV HL rfl ?_))));exact hgg.out):G:=t ⟨h⟩
structure El(B:Nat)(w:World)(gE gD gU gV n ND NU NV:Nat)(D U V:Nat->Nat->Int)(ds us vs cd cu cv:Nat->Nat):Prop where
 box:bg w gE 157 #[.slice (some ⟨gD,0,none⟩) n n,.slice (some ⟨gU,0,none⟩) n n,.slice (some ⟨gV,0,none⟩) n n]
 d:cF w gD ds cd n n true (λ_ _=>ND) D
 u:cF w gU us cu n n true (λ_ _=>NU) U
 v:cF w gV vs cv n n true (λ_ _=>NV) V
 oo:gD≠gU/\gD≠gV/\gU≠gV
 rr:∀i j,i<n->j<n->ds i≠us j/\ds i≠vs j/\us i≠vs j
 own:B<=gE/\B<=gD/\B<=gU/\B<=gV/\∀t,t<n->B<=ds t/\B<=us t/\B<=vs t
section
variable {B gE gD gU gV n ND NU NV:Nat}{w w':World}{D U V:Nat->Nat->Int}{ds us vs cd cu cv:Nat->Nat}
theorem cF.ro{w:World}{j a r c g l:Nat}{b k d e:Nat->Nat}{cn f:Bool}{bn bn':Nat->Nat->Nat}{M M':Nat->Nat->Int}(h:cF w j b k r c cn bn M)(h':cF w a d e g l f bn' M'){i:Nat}(d:i<r):b i≠a:=by
 obtain⟨_,_,_,a,_⟩:=h.row i d;exact a.kS h'.outer aw
theorem El.Y(h:El B w gE gD gU gV n ND NU NV D U V ds us vs cd cu cv)(a:Ext w w'):El B w' gE gD gU gV n ND NU NV D U V ds us vs cd cu cv:=
 ⟨h.box.Y a,h.d.Y a,h.u.Y a,h.v.Y a,h.oo,h.rr,h.own⟩
theorem El.lt(h:El B w gE gD gU gV n ND NU NV D U V ds us vs cd cu cv):gE<w.heap.size/\gD<w.heap.size/\gU<w.heap.size/\gV<w.heap.size/\∀t,t<n->ds t<w.heap.size/\us t<w.heap.size/\vs t<w.heap.size:=
 ⟨h.box.lt,h.d.lt,h.u.lt,h.v.lt,λt a=>⟨(h.d.row t a).lt,(h.u.row t a).lt,(h.v.row t a).lt⟩⟩
theorem El.E1{r:Nat->Prop}{u:Nat->Nat->Int}{f g:Nat->Nat}{k:Nat}(h:El B w gE gD gU gV n ND NU NV D U V ds us vs cd cu cv)(q:Kp w w')(m:Ch r w w')(d:∀b,r b->b=gD\/∃t,t<n/\b=ds t)(y:cF w' gD f g n n true (λ_ _=>k) u)(p:∀t,t<n->∃s,s<n/\f t=ds s):El B w' gE gD gU gV n k NU NV u U V f us vs g cu cv:=by
 obtain⟨k,g,f,b,o⟩:=h.own;have x:gE≠gD:=h.box.kS h.d.outer aw;have v:∀t,t<n->gE≠ds t:=λt a=>by obtain⟨_,_,_,r,_⟩:=h.d.row t a;exact h.box.kS r aw
 refine⟨h.box.ch m λe=>?_,y,h.u.kp q m (λe=>?_) λi c e=>?_,h.v.kp q m (λe=>?_) λi c e=>?_,h.oo,λi j c l=>?_,k,g,f,b,λt a=>?_⟩
 ·rcases d _ e with e|⟨t,a,e⟩
  ·exact x e
  ·exact v t a e
 ·rcases d _ e with e|⟨t,a,e⟩
  ·exact h.oo.1 e.symm
  ·exact h.d.ro h.u a e.symm
 ·rcases d _ e with e|⟨t,a,e⟩
  ·exact h.u.ro h.d c e
  ·exact(h.rr t i a c).1 e.symm
 ·rcases d _ e with e|⟨t,a,e⟩
  ·exact h.oo.2.1 e.symm
  ·exact h.d.ro h.v a e.symm
 ·rcases d _ e with e|⟨t,a,e⟩
  ·exact h.v.ro h.d c e
  ·exact(h.rr t i a c).2.1 e.symm
 ·obtain⟨s,b,d⟩:=p i c;rw[d];exact⟨(h.rr s j b l).1,(h.rr s j b l).2.1,(h.rr i j c l).2.2⟩
 ·obtain⟨s,b,d⟩:=p t a;rw[d];exact⟨(o s b).1,(o t a).2⟩
theorem El.Js{u:Nat->Prop}{r:Nat->Nat->Int}{f g:Nat->Nat}{k:Nat}(h:El B w gE gD gU gV n ND NU NV D U V ds us vs cd cu cv)(q:Kp w w')(p:Ch u w w')(d:∀b,u b->b=gU\/∃t,t<n/\b=us t)(u:cF w' gU f g n n true (λ_ _=>k) r)(m:∀t,t<n->∃s,s<n/\f t=us s):El B w' gE gD gU gV n ND k NV D r V ds f vs cd g cv:=by
 obtain⟨k,g,f,b,l⟩:=h.own;have x:gE≠gU:=h.box.kS h.u.outer aw;have v:∀t,t<n->gE≠us t:=λt a=>by obtain⟨_,_,_,r,_⟩:=h.u.row t a;exact h.box.kS r aw
 refine⟨h.box.ch p λe=>?_,h.d.kp q p (λe=>?_) λi c e=>?_,u,h.v.kp q p (λe=>?_) λi c e=>?_,h.oo,λi j c o=>?_,k,g,f,b,λt a=>?_⟩
 ·rcases d _ e with e|⟨t,a,e⟩
  ·exact x e
  ·exact v t a e
 ·rcases d _ e with e|⟨t,a,e⟩
  ·exact h.oo.1 e
  ·exact h.u.ro h.d a e.symm
 ·rcases d _ e with e|⟨t,a,e⟩
  ·exact h.d.ro h.u c e
  ·exact(h.rr i t c a).1 e
 ·rcases d _ e with e|⟨t,a,e⟩
  ·exact h.oo.2.2 e.symm
  ·exact h.u.ro h.v a e.symm
 ·rcases d _ e with e|⟨t,a,e⟩
  ·exact h.v.ro h.u c e
  ·exact(h.rr t i a c).2.2 e.symm
 ·obtain⟨s,d,b⟩:=m i c;obtain⟨g,f,e⟩:=m j o;rw[b,e];exact⟨(h.rr i g c f).1,(h.rr i j c o).2.1,(h.rr s j d o).2.2⟩
 ·obtain⟨s,d,b⟩:=m t a;rw[b];exact⟨(l t a).1,(l s d).2.1,(l t a).2.2⟩
theorem El.NT{u:Nat->Prop}{r:Nat->Nat->Int}{f g:Nat->Nat}{k:Nat}(h:El B w gE gD gU gV n ND NU NV D U V ds us vs cd cu cv)(p:Kp w w')(m:Ch u w w')(d:∀b,u b->b=gV\/∃t,t<n/\b=vs t)(u:cF w' gV f g n n true (λ_ _=>k) r)(o:∀t,t<n->∃s,s<n/\f t=vs s):El B w' gE gD gU gV n ND NU k D U r ds us f cd cu g:=by
 obtain⟨k,g,f,b,l⟩:=h.own;have x:gE≠gV:=h.box.kS h.v.outer aw;have v:∀t,t<n->gE≠vs t:=λt a=>by obtain⟨_,_,_,r,_⟩:=h.v.row t a;exact h.box.kS r aw
 refine⟨h.box.ch m λe=>?_,h.d.kp p m (λe=>?_) λi c e=>?_,h.u.kp p m (λe=>?_) λi c e=>?_,u,h.oo,λi j c q=>?_,k,g,f,b,λt a=>?_⟩
 ·rcases d _ e with e|⟨t,a,e⟩
  ·exact x e
  ·exact v t a e
 ·rcases d _ e with e|⟨t,a,e⟩
  ·exact h.oo.2.1 e
  ·exact h.v.ro h.d a e.symm
 ·rcases d _ e with e|⟨t,a,e⟩
  ·exact h.d.ro h.v c e
  ·exact(h.rr i t c a).2.1 e
 ·rcases d _ e with e|⟨t,a,e⟩
  ·exact h.oo.2.2 e
  ·exact h.v.ro h.u a e.symm
 ·rcases d _ e with e|⟨t,a,e⟩
  ·exact h.u.ro h.v c e
  ·exact(h.rr i t c a).2.2 e
 ·obtain⟨e,b,d⟩:=o j q;rw[d];exact⟨(h.rr i j c q).1,(h.rr i e c b).2.1,(h.rr i e c b).2.2⟩
 ·obtain⟨s,c,b⟩:=o t a;rw[b];exact⟨(l t a).1,(l t a).2.1,(l s c).2.2⟩
end
end
section
open Go Go.cW Go.c7 Go.Proofs
open Go.Sm (uM)
theorem El.c0{B a b f e n ND NU NV:Nat}{w:World}{D U V:Nat->Nat->Int}{g d c m l k:Nat->Nat}(h:El B w a b f e n ND NU NV D U V g d c m l k):w.cell? ⟨a,0,none⟩=some (.slice (some ⟨b,0,none⟩) n n):=by rw[h.box.cell];rfl
theorem El.c1{B b f a e n ND NU NV:Nat}{w:World}{D U V:Nat->Nat->Int}{g d c m l k:Nat->Nat}(h:El B w b f a e n ND NU NV D U V g d c m l k):w.cell? ⟨b,1,none⟩=some (.slice (some ⟨a,0,none⟩) n n):=by rw[h.box.cell];rfl
theorem El.c2{B b f e a n ND NU NV:Nat}{w:World}{D U V:Nat->Nat->Int}{g d c m l k:Nat->Nat}(h:El B w b f e a n ND NU NV D U V g d c m l k):w.cell? ⟨b,2,none⟩=some (.slice (some ⟨a,0,none⟩) n n):=by rw[h.box.cell];rfl
def Lp(n t i j a b:Nat):Prop:=t<=a/\a<n/\t<=b/\b<n/\(a<i\/a=i/\b<j)
def BG(n t:Nat)(D:Nat->Nat->Int)(i j p q:Nat)(ok:Bool):Prop:=
 (ok=false/\p=0/\q=0/\∀a b,Lp n t i j a b->D a b=0)\/
 (ok=true/\t<=p/\p<n/\t<=q/\q<n/\(p<i\/p=i/\q<j)/\D p q≠0/\(∀a b,Lp n t i j a b->D a b≠0->(D p q).natAbs<=(D a b).natAbs)/\∀a b,Lp n t i j a b->(a<p\/a=p/\b<q)->D a b≠0->(D p q).natAbs<(D a b).natAbs)
section
variable {n t i j p q:Nat}{D:Nat->Nat->Int}{ok:Bool}
theorem BG.start:BG n t D t t 0 0 false:=.inl ⟨F,F,F,λa b h=>by obtain⟨a,a,a,a,a⟩:=h;omega⟩
theorem BG.row(h:BG n t D i n p q ok):BG n t D (i+1) t p q ok:=by
 have e:∀a b,Lp n t (i+1) t a b->Lp n t i n a b:=λa b h=>by obtain⟨k,g,f,d,l⟩:=h;exact⟨k,g,f,d,aq⟩
 rcases h with⟨k,g,f,d⟩|⟨k,g,f,d,l,c,r,o,m⟩
 ·exact .inl ⟨k,g,f,λa b c=>d a b (e a b c)⟩
 ·exact .inr ⟨k,g,f,d,l,aq,r,λa b c=>o a b (e a b c),λa b c=>m a b (e a b c)⟩
theorem nU{a b:Nat}(h:Lp n t i (j+1) a b):Lp n t i j a b\/(a=i/\b=j):=by
 obtain⟨g,f,d,c,e⟩:=h;by_cases e:a=i/\b=j
 ·exact .inr e
 ·exact .inl ⟨g,f,d,c,aq⟩
theorem BG.dT(h:BG n t D i j p q ok)(c:D i j=0\/ok=true/\(D p q).natAbs<=(D i j).natAbs):BG n t D i (j+1) p q ok:=by
 rcases h with⟨f,l,k,g⟩|⟨f,l,k,g,u,h,s,r,o⟩
 ·refine .inl ⟨f,l,k,λa b d=>?_⟩;rcases nU d with d|⟨rfl,rfl⟩
  ·exact g a b d
  ·rcases c with c|⟨c,_⟩
   ·exact c
   ·rw[f]at c;cases c
 ·refine .inr ⟨f,l,k,g,u,aq,s,λa b d e=>?_,λa b d m e=>?_⟩
  ·rcases nU d with d|⟨rfl,rfl⟩
   ·exact r a b d e
   ·rcases c with c|⟨_,c⟩
    ·exact absurd c e
    ·exact c
  ·rcases nU d with d|⟨rfl,rfl⟩
   ·exact o a b d m e
   ·omega
theorem BG.take(h:BG n t D i j p q ok)(r:t<=i)(m:i<n)(o:t<=j)(l:j<n)(v:D i j≠0)(e:ok=false\/(D i j).natAbs<(D p q).natAbs):BG n t D i (j+1) i j true:=by
 have f:∀a b,Lp n t i j a b->D a b≠0->(D i j).natAbs<(D a b).natAbs:=λa b c d=>by
  rcases h with⟨k,u,h,g⟩|⟨k,u,h,g,h,h,h,s,h⟩
  ·exact absurd (g a b c) d
  ·rcases e with e|e
   ·rw[k]at e;cases e
   ·exact Nat.lt_of_lt_of_le e (s a b c d)
 refine .inr ⟨F,r,m,o,l,aq,v,λa b c d=>?_,λa b c e d=>?_⟩
 ·rcases nU c with c|⟨rfl,rfl⟩
  ·exact Nat.le_of_lt (f a b c d)
  ·exact Nat.le_refl _
 ·rcases nU c with c|⟨rfl,rfl⟩
  ·exact f a b c d
  ·omega
theorem BG.done(h:BG n t D n t p q ok)(o:∃i j,t<=i/\i<n/\t<=j/\j<n/\D i j≠0):ok=true/\uM n t D p q:=by
 have e:∀a b,t<=a->a<n->t<=b->b<n->Lp n t n t a b:=λa b m d l c=>⟨m,d,l,c,.inl d⟩;rcases h with⟨m,d,l,c⟩|⟨m,d,l,c,v,f,u,s,r⟩
 ·obtain⟨i,j,k,h,g,f,w⟩:=o;exact absurd (c i j (e i j k h g f)) w
 ·exact⟨m,d,l,c,v,u,λa b k h g f=>s a b (e a b k h g f),λa b k h g f=>r a b (e a b k h g f)⟩
end
theorem qm{a b:Int}:e_ a b<0↔a<b:=by
 unfold e_;split
 ·simp_all
 ·split<;>simp_all<;>omega
theorem EW(B I gD gU gV n ND NU NV t:Nat)(D U V:Nat->Nat->Int)(ds Y X cd cu cv:Nat->Nat)(w:World)(h:El B w I gD gU gV n ND NU NV D U V ds Y X cd cu cv)(Q:t<=n)(V:n<=16)(z:ND<17592186044416)(S:∃i j,t<=i/\i<n/\t<=j/\j<n/\D i j≠0):
 aT Tryz.prog 156 #[.pointer (some ⟨I,0,none⟩),.int .i64 (t:Int)] w λv x=>Ext w x/\∃p q,v=.tuple #[.int .i64 ((p:Nat):Int),.int .i64 ((q:Nat):Int),.bool true]/\uM n t D p q:=by
 refine bo (n:=77) Tryz.func156 F rfl az aA ?_;refine ge ?_;refine aY (λf x=>∃p q,f 4=.int .i64 ((p:Nat):Int)/\f 5=.int .i64 ((q:Nat):Int)/\f 6=.bool (true)/\Ext w x/\uM n t D p q) ?_ ?_
 ·refine ge ?_;refine aU (λm f x=>∃i p q ok,m=n-i/\t<=i/\i<=n/\f 0=.pointer (some ⟨I,0,none⟩)/\f 1=.int .i64 (t:Int)/\f 4=.int .i64 ((p:Nat):Int)/\f 5=.int .i64 ((q:Nat):Int)/\f 6=.bool (ok)/\f 7=.int .i64 ((i:Nat):Int)/\Ext w x/\BG n t D i t p q ok)
   (n-t) ⟨t,0,0,false,F,Nat.le_refl t,Q,F,F,F,F,F,F,Ext.refl _,BG.start⟩ ?_
  rintro m f N ⟨i,p,q,ok,rfl,K,V,u,s,k,g,d,r,b,l⟩;rw[ui u,ui s,ui k,ui g,ui d,ui r];clear u s k g d r;refine aN ?_;have C:=aP b h.c0;by_cases o:i<n;rotate_left
  ·obtain rfl:i=n:=aq;obtain⟨rfl,O⟩:=l.done S;refine ge ?_;exact⟨p,q,F,F,F,b,O⟩
  refine ge ?_;clear C;refine aU (λm f x=>∃j p q ok,m=n-j/\t<=j/\j<=n/\f 0=.pointer (some ⟨I,0,none⟩)/\f 1=.int .i64 (t:Int)/\f 4=.int .i64 ((p:Nat):Int)/\f 5=.int .i64 ((q:Nat):Int)/\f 6=.bool (ok)/\f 7=.int .i64 (i:Int)/\f 8=.int .i64 ((j:Nat):Int)/\Ext w x/\BG n t D i j p q ok)
   (n-t) ⟨t,p,q,ok,F,Nat.le_refl t,Q,F,F,F,F,F,F,F,b,l⟩ ?_
  clear b l p q ok;rintro m f N ⟨j,p,q,ok,rfl,J,m,u,s,k,g,d,r,m,b,l⟩;rw[ui u,ui s,ui k,ui g,ui d,ui r,ui m];clear u s k g d r m;refine aN ?_;have C:=aP b h.c0;have H:=(h.d.Y b).at o;by_cases y:j<n;rotate_left
  ·obtain rfl:j=n:=aq;refine ge ?_;refine⟨_,?_,i+1,p,q,ok,F,aq,aq,F,F,F,F,F,F,b,l.row⟩;omega
  obtain⟨W,T,G,E,c⟩:=((h.d.Y b).row i o).at y;refine ge ?_;refine aN ?_;refine ge ?_;refine aJ (dw _ _ _ ND N c.1 z) ?_;rintro _ P ⟨m,rfl⟩;by_cases A:D i j=0
  ·have r:(D i j).sign=0:=by rw[A];rfl
   refine ge ?_;refine⟨_,?_,j+1,p,q,ok,F,aq,aq,F,F,F,F,F,F,F,b.trans m,l.dT (.inl A)⟩;omega
  have r:¬(D i j).sign=0:=λe=>A (Int.sign_eq_zero_iff_zero.1 e);have M:=b.trans m;clear b m C H G E c;refine ge ?_;cases ok
  ·have b:Ext w P:=M;refine ge ?_;refine b_ [(0,3),(1,3),(2,3),(3,3),(4,3),(5,3),(6,0),(7,3),(8,3),(9,0),(10,3),(11,3),(12,0),(14,3),(15,3),(16,3),(17,0),(18,3),(19,3),(20,0),(21,3),(22,3),(23,0),(13,1),(24,1),(25,1),(26,3),(27,3)] mixed az λm a _=>?_;replace b:=b.trans a;clear a;refine ge ?_;refine⟨_,?_,j+1,i,j,true,F,aq,aq,F,F,F,F,F,F,F,b,l.take K o J y A (.inl F)⟩;omega
  ·obtain⟨m,L,m,R⟩ : t<=p/\p<n/\t<=q/\q<n:=by
    rcases l with⟨h1,_⟩|⟨_,h2,h3,h4,Z,_⟩
    ·cases h1
    ·exact⟨h2,h3,h4,Z⟩
   have b:Ext w P:=M;refine ge ?_;refine b_ [(0,3),(1,3),(2,3),(3,3),(4,3),(5,3),(6,0),(7,3),(8,3),(9,0),(10,3),(11,3),(12,0),(14,3),(15,3),(16,3),(17,0),(18,3),(19,3),(20,0),(21,3),(22,3),(23,0),(13,1),(24,1),(25,1),(26,3),(27,3)] mixed az λm a _=>?_;replace b:=b.trans a;clear a;have C:=aP b h.c0;have H:=(h.d.Y b).at o;have x:=(h.d.Y b).at L;obtain⟨W,T,G,E,c⟩:=((h.d.Y b).row i o).at y;obtain⟨r,r,u,s,cQ⟩:=((h.d.Y b).row p L).at R;refine ge ?_;refine ge ?_;refine aM (y9 _ _ _ ND m c z) ?_;rintro _ m ⟨a,a0,h,rfl,h⟩;refine⟨a,?_⟩;replace c:=c.Y a;replace cQ:=cQ.Y a;replace b:=b.trans a;clear a;refine ge ?_;refine ge ?_;refine aM (y9 _ _ _ ND m cQ z) ?_;rintro _ r ⟨a,m,m,rfl,m⟩;refine⟨a,?_⟩;replace c:=c.Y a;replace cQ:=cQ.Y a;replace h:=h.Y a;replace b:=b.trans a;clear a;refine ge ?_;refine ge ?_;refine aM (Eg _ _ _ _ _ _ ND r h.1 m.1 z) ?_;rintro _ r ⟨a,rfl⟩;refine⟨a,?_⟩;replace c:=c.Y a;replace cQ:=cQ.Y a;replace h:=h.Y a;replace m:=m.Y a;replace b:=b.trans a;clear a;clear C H x G E u s;by_cases a:(D i j).natAbs<(D p q).natAbs
   ·have c:e_ (((D i j).natAbs:Nat):Int) (((D p q).natAbs:Nat):Int)<0:=qm.2 aq;refine ge ?_;refine⟨_,?_,j+1,i,j,true,F,aq,aq,F,F,F,F,F,F,F,b,l.take K o J y A (.inr a)⟩;omega
   ·have c:¬e_ (((D i j).natAbs:Nat):Int) (((D p q).natAbs:Nat):Int)<0:=λe=>a (by have:=qm.1 e;omega);refine ge ?_;refine⟨_,?_,j+1,p,q,true,F,aq,aq,F,F,F,F,F,F,F,b,l.dT (.inr ⟨F,aq⟩)⟩;omega
 rintro f N ⟨p,q,k,g,d,b,O⟩;rw[ui k,ui g,ui d];clear k g d;refine ge ?_;exact jG (v:=.int _ _) (v':=.int _ _) (v'':=.bool _) F rfl rfl rfl ⟨b,p,q,F,O⟩
end
section
open Go Go.cW Go.c7 Go.Proofs
open Go.Sm (sx)
theorem DA{m i j:Nat}(d e:Nat->Nat):cg (cg (λa=>Value.slice (some ⟨d a,0,none⟩) m (e a)) (0+i*1) (.slice (some ⟨d j,0,none⟩) m (e j))) (0+j*1) (.slice (some ⟨d i,0,none⟩) m (e i))=λa=>Value.slice (some ⟨swp i j d a,0,none⟩) m (swp i j e a):=by
 funext a;rw[Nat.zero_add,Nat.zero_add,Nat.mul_one,Nat.mul_one];simp only[swp];by_cases c:a=i
 ·rw[ab c,ab c];by_cases b:a=j
  ·subst b;subst c;rw[ct]
  ·rw[b9 _ _ b,c,ct]
 ·rw[aa c,aa c];by_cases b:a=j
  ·subst b;rw[ct,ab F,ab F]
  ·rw[b9 _ _ b,b9 _ _ c,aa b,aa b]
theorem wI{α:Type}(k p:Nat)(M:Nat->α)(i:Nat):swp k p M i=M (sx k p i):=by
 simp only[swp,sx];split
 ·rfl
 ·split<;>rfl
theorem Gv{n k p:Nat}(a:Nat->Nat)(d:k<n)(c:p<n):∀t,t<n->∃s,s<n/\swp k p a t=a s:=λt b=>⟨sx k p t,Go.Sm.lF d c b,wI k p a t⟩
def uw(M:Nat->Nat->Int)(t q k:Nat):Nat->Nat->Int:=λa b=>if a<k then M a (sx t q b)else M a b
theorem y6(M:Nat->Nat->Int)(t q k:Nat):cV (cV (uw M t q k) k t (M k q)) k q (M k t)=uw M t q (k+1):=by
 funext a b;simp only[cV,uw];by_cases d:a=k
 ·subst d;unfold sx;rw[aa (Nat.lt_irrefl _),ab (Nat.lt_succ_self _)];by_cases e:b=t
  ·subst e;rw[ab F];by_cases c:b=q
   ·subst c;rw[ab ⟨F,F⟩]
   ·rw[aa λh=>c h.2,ab ⟨rfl,rfl⟩]
  ·rw[aa e];by_cases c:b=q
   ·rw[ab ⟨F,c⟩,ab c]
   ·rw[aa λh=>c h.2,aa λh=>e h.2,aa c]
 ·rw[aa λh=>d h.1,aa λh=>d h.1];by_cases h:a<k
  ·rw[ab h,ab (show a<k+1 by omega)]
  ·rw[aa h,aa (show¬a<k+1 by omega)]
theorem wQ(B M gD gU gV n ND NU NV t p q:Nat)(D U V:Nat->Nat->Int)(ds us vs cd cu cv:Nat->Nat)(w:World)(h:El B w M gD gU gV n ND NU NV D U V ds us vs cd cu cv)(i:n<=16)(u:t<n)(hp:p<n)(hq:q<n)(_hND:ND<17592186044416)(_hNV:NV<17592186044416):
 aT Tryz.prog 157 #[.pointer (some ⟨M,0,none⟩),.int .i64 (t:Int),.int .i64 (p:Int),.int .i64 (q:Int)] w λv s=>
  v=.tuple #[]/\Ch (λb=>B<=b) w s/\Kp w s/\∃b6 v b8 b7,El B s M gD gU gV n ND NU NV (Go.Sm.swp D t p q) (λi j=>U (sx t p i) j) (λi j=>V i (sx t q j)) b6 v vs b8 b7 cv:=by
 refine bo (n:=112) Tryz.func157 F rfl az aA ?_;obtain⟨i,i,i,i,i⟩:=h.own;have g:Ext w w:=Ext.refl w;refine ge ?_;refine ge ?_;refine b_ [(0,3),(1,3),(2,3),(3,0),(4,3),(5,3),(6,3),(7,3),(8,0),(9,3),(10,3),(11,3),(12,3),(13,0),(14,3),(15,3),(16,0),(17,3),(18,3),(19,3),(20,0),(21,3),(22,3),(23,0),(24,3),(25,2),(26,3),(27,2)] mixed az λi o _=>?_;replace g:=g.trans o;clear o;have c:=h.Y g;have f0:=c.c0;have a6:=c.d.at u;have a1:=c.d.at hp;have T:=c.d.outer;refine ge ?_;refine cZ (aX F) (.inl F) F rfl T (by rw[bf];omega) ?_;intro i j v b6;rw[cT]at j;refine ge ?_;refine cZ (aX F) (.inl F) F rfl j (by rw[bf];omega) ?_;intro R i G a8;rw[cT,DA]at i;have r:=v.trans G;have x:=c8 T c.d.lT.lh r;have h3:=c.E1 x r (λb e=>.inl e) (c.d.swap u hp r x i) (Gv ds u hp);have au:Ch (λb=>B<=b) w R:=(g.mono λ_ _ h=>h.elim).trans (r.mono λb _ e=>aq);have ar:Kp w R:=(bJ g).trans x;clear f0 a6 a1 T j v b6 i G a8 r x c g;refine ge ?_;have g:Ext R R:=Ext.refl R;refine ge ?_;refine b_ [(0,3),(1,3),(2,3),(3,0),(4,3),(5,3),(6,3),(7,3),(8,0),(9,3),(10,3),(11,3),(12,3),(13,0),(14,3),(15,3),(16,0),(17,3),(18,3),(19,3),(20,0),(21,3),(22,3),(23,0),(24,3),(25,2),(26,3),(27,2)] mixed az λi o _=>?_;replace g:=g.trans o;clear o;have c:=h3.Y g;have f1:=c.c1;have a6:=c.u.at u;have a1:=c.u.at hp;have T:=c.u.outer;refine ge ?_;refine cZ (aX F) (.inl F) F rfl T (by rw[bf];omega) ?_;intro w4 an E a7;rw[cT]at an;refine ge ?_;refine cZ (aX F) (.inl F) F rfl an (by rw[bf];omega) ?_;intro i al av b5;rw[cT,DA]at al;have r:=E.trans av;have x:=c8 T c.u.lT.lh r;have l:=c.Js x r (λb e=>.inl e) (c.u.swap u hp r x al) (Gv us u hp);have z:Ch (λb=>B<=b) w i:=au.trans ((g.mono λ_ _ h=>h.elim).trans (r.mono λb _ e=>aq));have y:Kp w i:=ar.trans ((bJ g).trans x);obtain⟨H,ay⟩ : ∃H,H=swp t p D:=⟨_,F⟩;obtain⟨U1,ax⟩ : ∃U1,U1=swp t p U:=⟨_,F⟩;rw[<-ay,<-ax]at l;generalize swp t p ds=X at l;generalize swp t p us=W at l;generalize swp t p cd=Z at l;generalize swp t p cu=Y at l;clear f1 a6 a1 T an E a7 al av b5 r x c h3 g au ar;refine ge ?_;refine aY (λf s=>f 0=.pointer (some ⟨M,0,none⟩)/\f 1=.int .i64 (t:Int)/\f 3=.int .i64 (q:Int)/\Ch (λb=>B<=b) w s/\Kp w s/\El B s M gD gU gV n ND NU NV (λa b=>H a (sx t q b)) U1 V X W vs Z Y cv) ?_ ?_
 ·have f0:=l.c0;refine ge ?_;clear f0;refine aU (λm f s=>∃k,m=n-k/\k<=n/\f 0=.pointer (some ⟨M,0,none⟩)/\f 1=.int .i64 (t:Int)/\f 3=.int .i64 (q:Int)/\f 67=.slice (some ⟨gD,0,none⟩) n n/\f 68=.int .i64 (n:Int)/\f 69=.int .i64 ((k:Nat):Int)/\Ch (λb=>B<=b) w s/\Kp w s/\El B s M gD gU gV n ND NU NV (uw H t q k) U1 V X W vs Z Y cv)
   n ⟨0,F,aE,F,F,F,F,F,F,z,y,⟨l.box,l.d.congr (λa b _ _=>⟨aD,by unfold uw;rw[aa aq]⟩),l.u,l.v,l.oo,l.rr,l.own⟩⟩ ?_
  clear z y l;rintro m f S ⟨k,rfl,hk,P,C,A,r,j,i,hC,hK,c⟩;rw[ui P,ui C,ui A,ui r,ui j,ui i];clear P C A r j i;by_cases d:k<n;rotate_left
  ·obtain rfl:k=n:=aq;refine ge ?_;exact⟨F,F,F,hC,hK,⟨c.box,c.d.congr (λa b ha _=>⟨aD,by unfold uw;rw[ab ha]⟩),c.u,c.v,c.oo,c.rr,c.own⟩⟩
  have ae:=c.d.at d;refine ge ?_;clear ae;have g:Ext S S:=Ext.refl S;refine ge ?_;refine cP [(0,3),(1,3),(2,3),(3,3),(4,3),(5,3),(6,3),(7,0),(8,3),(9,3),(10,3),(11,0),(12,3),(13,2),(14,3),(15,2)] mixed az λi o _=>?_;replace g:=g.trans o;clear o;have I:=c.Y g;obtain⟨x0,y0,b4,b0,N⟩:=(I.d.row k d).at hq;obtain⟨x1,y1,b1,aH,cQ⟩:=(I.d.row k d).at u;have e0:uw H t q k k q=H k q:=by unfold uw;rw[aa (Nat.lt_irrefl _)]
  have e1:uw H t q k k t=H k t:=by unfold uw;rw[aa (Nat.lt_irrefl _)]
  rw[e0]at N;rw[e1]at cQ;refine ge ?_;refine fr (.inl F) F rfl (I.d.row k d) u N ?_;intro R ak G J a8;have Q:=(I.d.put d ak G J).congr (bn':=λ_ _=>ND) (M':=cV (uw H t q k) k t (H k q)) (λa b _ _=>⟨by simp only[cV];split<;>exact Nat.le_refl _,F⟩);refine ge ?_;refine fr (.inl F) F rfl (Q.row k d) hq (cQ.kp J) ?_;intro w4 aj E O a7;have ai:=(Q.put d aj E O).congr (bn':=λ_ _=>ND) (M':=uw H t q (k+1)) (λa b _ _=>⟨by simp only[cV];split<;>exact Nat.le_refl _,by rw[<-y6]⟩);have L:=G.trans E;have K:=J.trans O;have h4:=I.E1 K L (λb e=>.inr ⟨k,d,e⟩) ai λt u=>⟨t,u,rfl⟩;have hb:=(c.own.2.2.2.2 k d).1;refine ge ?_;refine⟨_,?_,k+1,F,aq,F,F,F,F,F,F,hC.trans ((g.mono λ_ _ h=>h.elim).trans (L.mono λb _ e=>aq)),hK.trans ((bJ g).trans K),h4⟩;omega
 clear z y l;rintro f i ⟨P,C,A,z,y,l⟩;rw[ui P,ui C,ui A];clear P C A;have i:=l.c2;refine ge ?_;clear i;refine aU (λm f s=>∃k,m=n-k/\k<=n/\f 1=.int .i64 (t:Int)/\f 3=.int .i64 (q:Int)/\f 91=.slice (some ⟨gV,0,none⟩) n n/\f 92=.int .i64 (n:Int)/\f 93=.int .i64 ((k:Nat):Int)/\Ch (λb=>B<=b) w s/\Kp w s/\El B s M gD gU gV n ND NU NV (λa b=>H a (sx t q b)) U1 (uw V t q k) X W vs Z Y cv)
  n ⟨0,F,aE,F,F,F,F,F,z,y,⟨l.box,l.d,l.u,l.v.congr (λa b _ _=>⟨aD,by unfold uw;rw[aa aq]⟩),l.oo,l.rr,l.own⟩⟩ ?_
 clear z y l;rintro m f S ⟨k,rfl,hk,C,A,j,i,f,hC,hK,c⟩;rw[ui C,ui A,ui j,ui i,ui f];clear C A j i f;by_cases d:k<n;rotate_left
 ·obtain rfl:k=n:=aq;refine ge ?_;refine lP F ⟨F,hC,hK,X,W,Z,Y,⟨c.box,c.d.congr (λa b _ _=>⟨aD,?_⟩),c.u.congr (λa b _ _=>⟨aD,?_⟩),c.v.congr (λa b ha _=>⟨aD,by unfold uw;rw[ab ha]⟩),c.oo,c.rr,c.own⟩⟩
  ·rw[ay,wI];rfl
  ·rw[ax,wI]
 have ae:=c.v.at d;refine ge ?_;clear ae;have g:Ext S S:=Ext.refl S;refine ge ?_;refine cP [(0,3),(1,3),(2,3),(3,3),(4,3),(5,3),(6,3),(7,0),(8,3),(9,3),(10,3),(11,0),(12,3),(13,2),(14,3),(15,2)] mixed az λf o _=>?_;replace g:=g.trans o;clear o;have I:=c.Y g;obtain⟨x0,y0,b4,b0,N⟩:=(I.v.row k d).at hq;obtain⟨x1,y1,b1,aH,cQ⟩:=(I.v.row k d).at u;have e0:uw V t q k k q=V k q:=by unfold uw;rw[aa (Nat.lt_irrefl _)]
 have e1:uw V t q k k t=V k t:=by unfold uw;rw[aa (Nat.lt_irrefl _)]
 rw[e0]at N;rw[e1]at cQ;refine ge ?_;refine fr (.inl F) F rfl (I.v.row k d) u N ?_;intro R ak G J a8;have Q:=(I.v.put d ak G J).congr (bn':=λ_ _=>NV) (M':=cV (uw V t q k) k t (V k q)) (λa b _ _=>⟨by simp only[cV];split<;>exact Nat.le_refl _,F⟩);refine ge ?_;refine fr (.inl F) F rfl (Q.row k d) hq (cQ.kp J) ?_;intro w4 aj E O a7;have ai:=(Q.put d aj E O).congr (bn':=λ_ _=>NV) (M':=uw V t q (k+1)) (λa b _ _=>⟨by simp only[cV];split<;>exact Nat.le_refl _,by rw[<-y6]⟩);have L:=G.trans E;have K:=J.trans O;have h4:=I.NT K L (λb e=>.inr ⟨k,d,e⟩) ai λt u=>⟨t,u,rfl⟩;have hb:=(c.own.2.2.2.2 k d).2.2;refine ge ?_;refine⟨_,?_,k+1,F,aq,F,F,F,F,F,hC.trans ((g.mono λ_ _ h=>h.elim).trans (L.mono λb _ e=>aq)),hK.trans ((bJ g).trans K),h4⟩;omega
