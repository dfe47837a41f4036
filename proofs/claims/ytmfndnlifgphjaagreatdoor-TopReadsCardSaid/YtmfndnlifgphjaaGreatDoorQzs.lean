import Derived.Test.YtmfndnlifgphjaaGreatDoorQzq
import Derived.Test.YtmfndnlifgphjaaGreatDoorQzr
set_option maxHeartbeats 64000000
open Go.Proofs.YtmfndnlifgphjaaGreatDoor
namespace Go.Proofs.Qq
section
open Go.aW
theorem sA(n:Nat)(f:Nat->Int):gn n f=sm n f:=by
 induction n with
 |zero=>rfl
 |succ n a=>simp only[gn,sm];rw[a]
theorem ez(n:Nat)(X Y:Nat->Nat->Int):mulM n X Y=mul n X Y:=by
 funext i j;simp only[mulM,mul,sA]
theorem mul_congr{n i j:Nat}{A C E:Mt}(h:∀k,k<n->C k j=E k j):mul n A C i j=mul n A E i j:=aR λk a=>by rw[h k a]
theorem Kv(n:Nat)(A:Mt):aO n (λa b=>- A a b)=jl n*aO n A:=by
 induction n generalizing A with
 |zero=>rfl
 |succ n c=>
  simp only[aO];rw[<-dL];refine aR λj _=>?_;rw[show minor (λa b=>- A a b) 0 j=(λa b=>- minor A 0 j a b)from rfl,c,lK n];grind
theorem KO(n:Nat)(A:Mt)(i j:Nat):fY n (λa b=>- A a b) i j=jl n*fY n A i j:=by
 simp only[fY,uK];rw[show minor (λa b=>- A a b) j i=(λa b=>- minor A j i a b)from rfl,Kv];grind
theorem Iw(n:Nat)(M:Mt)(i j:Nat)(f:i<n+1)(d:j<n+1):ni (n+1) M i j=fY n M i j:=by
 obtain⟨P,c,b,p,o,m⟩:=Kh n M;have g:∀k,k<=n->∀i j,i<n+1->j<n+1->nV (n+1) M k i j=P k i j:=by
  intro k;induction k with
  |zero=>
   intro _ i j f d;rw[b i j f d];simp only[nV,uB,one]
  |succ k a=>
   intro b i j f d;have h:=a aq;have e:∀a b,a<n+1->b<n+1->mulM (n+1) M (nV (n+1) M k) a b=mul (n+1) M (P k) a b:=λa b a l=>by
    rw[ez];exact mul_congr λt a=>h t b a l
   have b:(gn (n+1) λt=>mulM (n+1) M (nV (n+1) M k) t t)=-((k+1:Nat):Int)*c (k+1):=by
    have:=o k aq;rw[sA,aR λt a=>e t t a a];grind
   rw[p k i j aq f d];simp only[nV,qu];rw[b,e i j f d,Int.mul_ediv_cancel_left _ aq];simp only[one];split<;>omega
 have a:=m i j f d;rw[KO]at a;simp only[ni,show n+1-1=n by omega];rw[g n aD i j f d,a];unfold jl;split<;>split<;>omega
end
section
open Go Go.cW Go.c7 Go.Proofs
def Pc(w:World)(r c:Nat)(M:Nat->Nat->Int)(v:Value)(w':World):Prop:=
 Ext w w'/\∃b d,v=.tuple #[.slice (some ⟨b,0,none⟩) r r,.bool true]/\iF w' b d r c M
theorem oq.OT{w w':World}{ok:Bool}{r c:Nat}{M:Nat->Nat->Int}{v:Value}(h:oq w ok r c M v w')(a:ok=true):Pc w r c M v w':=by
 obtain⟨u,rfl,d,f,e,rfl,_,_,b⟩:=h.get a;exact⟨d,f,e,F,b⟩
theorem qS{n:Nat}(h1:1<=n)(a:n<=16):jt n (λ_=>n)=true:=dj.2 ⟨h1,a,λ_ _=>rfl⟩
theorem nE{r q c:Nat}(h1:1<=r)(f:r<=16)(b:1<=q)(a:q<=16)(e:1<=c)(d:c<=16):iQ r q (λ_=>q) (λ_=>c)=true:=by
 unfold iQ;rw[n_ h1 f b a,n_ b a e d];simp
theorem DW{b a:Value}{r q c N:Nat}{X Y:Nat->Nat->Int}{w:World}(e:cB (EI N) w b r (λ_=>q) X)(d:cB (EI N) w a q (λ_=>c) Y)(f:N<68719476736)(h1:1<=r)(l:r<=16)(k:1<=q)(j:q<=16)(i:1<=c)(g:c<=16):
 aT Tryz.prog 45 #[b,a] w (Pc w r c (mulM q X Y)):=
 (xz b a r q N _ _ X Y w e d f).mono λ_ _ h=>h.OT (nE h1 l k j i g)
theorem ur{a:Value}{r c N:Nat}{X:Nat->Nat->Int}{w:World}(b:cB (EI N) w a r (λ_=>c) X)(d:N<1099511627776)(h1:1<=r)(g:r<=16)(f:1<=c)(e:c<=16):
 aT Tryz.prog 36 #[a] w (Pc w c r λi j=>X j i):=
 (mh a r N _ X w b d).mono λ_ _ h=>h.OT (n_ h1 g f e)
theorem xW{v:Value}{n N:Nat}{M:Nat->Nat->Int}{w:World}(h:cB (EI N) w v n (λ_=>n) M)(b:1<=N)(c:N<1048576)(h1:1<=n)(d:n<=16):
 aT Tryz.prog 47 #[v] w (λu a=>Ext w a/\∃x y,u=.tuple #[.agg #[x,y],.bool true]/\CV a x y (gj n M)):=
 (MT v n N _ M w h b c).mono λ_ _ ⟨b,x,y,e,a⟩=>by
  rw[qS h1 d]at e a;exact⟨b,x,y,e,a⟩
theorem iF.congr{w:World}{b:Nat}{a:Nat->Nat}{r c:Nat}{M M':Nat->Nat->Int}(h:iF w b a r c M)(e:∀i j,i<r->j<c->M i j=M' i j):iF w b a r c M':=
 ⟨h.outer,λi a=>(h.row i a).congr λj b=>e i j a b,h.ne,h.inj⟩
theorem iF.rd{w:World}{a:Nat}{b:Nat->Nat}{r c N' N:Nat}{M:Nat->Nat->Int}(h:iF w a b r c M)(g:∀i j,i<r->j<c->Bd N' (M i j))(f:N'<=N)(b:r<9223372036854775808)(e:c<9223372036854775808):cB (EI N) w (.slice (some ⟨a,0,none⟩) r r) r (λ_=>c) M:=
 h.read (λi j d a=>(g i j d a).mono f) b e
theorem Ck(n:Nat)(X Y Z:Nat->Nat->Int)(i j:Nat):mulM n (mulM n X Y) Z i j=mulM n X (mulM n Y Z) i j:=by
 rw[ez,ez,ez,ez];exact Go.aW.mul_assoc n n X Y Z i j
def NR(r:Nat)(len:Nat->Nat):Value:=.tuple #[.int .i64 (((if jt r len then r else 0:Nat)):Int),.bool (jt r len)]
theorem n5(r:Nat)(len:Nat->Nat):∃(s:Nat),NR r len=.tuple #[.int .i64 (s:Int),.bool (jt r len)]/\s=if jt r len then r else 0:=⟨_,F,F⟩
theorem mw{r:Nat}{len:Nat->Nat}:jt r len=(kF r len&&decide (r=len 0)):=F
theorem mo(E:World->Value->Value->Int->Prop)(v:Value)(r:Nat)(len:Nat->Nat)(M:Nat->Nat->Int)(w:World)(h:cB E w v r len M):
 aT Tryz.prog 95 #[v] w λu c=>Ext w c/\u=NR r len:=by
 refine bo (n:=21) Tryz.func95 F rfl az aA ?_;refine gg ?_;refine aJ (qQ E v r len M w h) ?_;rintro _ c ⟨a,rfl⟩;obtain⟨s,c,ok,e,c⟩:=df r len;rw[e];rcases c with⟨b,rfl,rfl,rfl⟩|⟨b,rfl,rfl,rfl⟩
 ·refine gg ?_;refine aN ?_;by_cases c:s=len 0
  ·refine gg ?_;refine cU F rfl rfl ⟨a,?_⟩;unfold NR;rw[mw,b,decide_eq_true c];rfl
  ·refine gg ?_;refine cU F rfl rfl ⟨a,?_⟩;unfold NR;rw[mw,b,decide_eq_false c];rfl
 ·refine gg ?_;refine aN ?_;refine gg ?_;refine cU F rfl rfl ⟨a,?_⟩;unfold NR;rw[mw,b];rfl
theorem GU(v:Value)(r N:Nat)(len:Nat->Nat)(M:Nat->Nat->Int)(w:World)(h:cB (EI N) w v r len M)(j:1<=N)(A:N<1048576):
 aT Tryz.prog 92 #[v] w (Pd w (jt r len) (gj r M)):=by
 refine bo (n:=16) Tryz.func92 F rfl az aA ?_;refine gg ?_;refine aS (.inl F) a_ ?_;intro e d a p;have c:Bx e w.heap.size 1 true 0:=Bx.zero true d;clear d;obtain⟨d,d⟩ : ∃g,g=w.heap.size:=⟨_,F⟩;rw[<-d]at c⊢;refine gg ?_;refine aN ?_;refine gg ?_;refine aJ (mo (EI N) v r len M e (h.Y a)) ?_;rintro _ i ⟨d,rfl⟩;replace c:=c.Y d;replace a:=a.trans d;clear p d;obtain⟨s,e,_⟩:=n5 r len;rw[e];cases q:jt r len with
 |false=>
  refine gg ?_;refine dR fm ?_;refine gg ?_;refine aL (N':=1) (.inl F) F rfl c ((CV.zero i).ev true (Bd.zero 1)) ?_;intro u f k t o;refine gg ?_;obtain⟨x,y,m,l⟩:=f;exact mY F aQ F m F ⟨k.aK a λb z=>aq,x,y,F,l.2 F⟩
 |true=>
  have d:=dj.1 q;refine gg ?_;refine aJ (pT v r N M i ((h.sq d.2.2).Y a) aq j A) ?_;rintro _ e ⟨e,x,y,rfl,g⟩;have p:=ie (n:=r) (M:=M) j λi j j i=>(h.sq d.2.2).bd j i;refine gg ?_;refine aL (.inl F) F rfl (c.Y e) (g.ev true p) ?_;intro u f k t o;refine gg ?_;obtain⟨x,y,m,l⟩:=f;exact mY F aQ F m F ⟨k.aK (a.trans e) λb z=>aq,x,y,F,l.2 F⟩
theorem x6(v:Value)(r N:Nat)(len:Nat->Nat)(M:Nat->Nat->Int)(w:World)(h:cB (EI N) w v r len M)(g:1<=N)(i:N<1048576):
 aT Tryz.prog 182 #[v] w (oq w (jt r len) r r (ni r M)):=by
 refine bo (n:=22) Tryz.func182 F rfl az aA ?_;refine gg ?_;refine aJ (jr (EI N) v r len M w h) ?_;rintro _ f ⟨b,rfl⟩;have a:Ext w f:=by rw[<-b];exact Ext.refl _
 obtain⟨s,c,ok,e,b⟩:=df r len;rw[e];rcases b with⟨d,rfl,rfl,rfl⟩|⟨d,rfl,rfl,rfl⟩
 ·refine gg ?_;refine aN ?_;by_cases e:s=len 0
  ·have c:jt s len=true:=by rw[mw,d,decide_eq_true e];rfl
   have b:=dj.1 c;refine gg ?_;refine aJ (AZ v s N M f ((h.sq b.2.2).Y a) b.1 b.2.1 g i) ?_;intro u b b;refine gg ?_;exact cU F rfl rfl (wW c a b)
  ·refine gg ?_;exact cU F rfl rfl (jQ (by rw[mw,d,decide_eq_false e];rfl) a)
 ·refine gg ?_;refine aN ?_;refine gg ?_;exact cU F rfl rfl (jQ (by rw[mw,d];rfl) a)
def qL(a:Int)(M:Nat->Nat->Int):Nat->Nat->Int:=λi j=>a*M i j
theorem E2(x y v:Value)(a:Int)(r c N:Nat)(M:Nat->Nat->Int)(w:World)(T:IV w N x y a)(h:cB (EI N) w v r (λ_=>c) M)(U:r<=1048576)(J:1<=c)(V:c<=1048576)(A:N<68719476736):
 aT Tryz.prog 41 #[.agg #[x,y],v] w (RG w r c (N+N) (qL a M)):=by
 obtain⟨A,A,rfl,_⟩:=id h;refine bo (n:=41) Tryz.func41 F rfl az aA ?_;refine gg ?_;refine bO (v:=.agg _) (.inl F) F ?_;intro R Q E A;have L:Bx R w.heap.size N false a:=⟨x,y,Q,T.Y E,λe=>by cases e⟩;obtain⟨G,A⟩ : ∃g,g=w.heap.size:=⟨_,F⟩;rw[<-A]at L⊢;clear Q;refine gg ?_;refine aJ (sP _ r c N M R (h.Y E) U J V aq) ?_;rintro _ C ⟨A,z,gs,cp,rfl,R,Q,I,d⟩;have K:=L.Y A;have l:=E.trans A;have T:G<z:=aq;clear L A E R Q;replace d:cF C z gs cp r c true (λ_ _=>N+N) M:=d.congr λ_ _ _ _=>⟨aq,F⟩;have P:∀i j,i<r->j<c->Bd N (M i j):=λi j O S=>h.bd O S;refine gg ?_;refine aY (λf t=>f 5=.slice (some ⟨z,0,none⟩) r r/\Ext w t/\cF t z gs cp r c true (λ_ _=>N+N) (qL a M)) ?_ ?_
 ·refine gg ?_;refine aU (λm f t=>∃i,m=r-i/\i<=r/\f 2=.pointer (some ⟨G,0,none⟩)/\f 5=.slice (some ⟨z,0,none⟩) r r/\f 11=.int .i64 (r:Int)/\f 12=.int .i64 ((i:Nat):Int)/\Ext w t/\Bx t G N false a/\cF t z gs cp r c true (λ_ _=>N+N) λp q=>if p<i then qL a M p q else M p q)
   r ⟨0,F,aE,F,F,F,F,l,K,d.congr λ_ _ _ _=>⟨aD,by rw[aa aq]⟩⟩ ?_
  clear K l d C;rintro m f C ⟨i,rfl,O,B,k,s,o,l,D,d⟩;rw[ui B,ui k,ui s,ui o];clear B k s o;by_cases b:i<r
  ·have H:=d.at b;obtain⟨E,h⟩ : ∃g,g=gs i:=⟨_,F⟩;obtain⟨L,A⟩ : ∃g,g=cp i:=⟨_,F⟩;rw[<-h,<-A]at H;refine gg ?_;refine aU (λm f t=>∃j,m=c-j/\j<=c/\f 2=.pointer (some ⟨G,0,none⟩)/\f 5=.slice (some ⟨z,0,none⟩) r r/\f 11=.int .i64 (r:Int)/\f 12=.int .i64 (i:Int)/\f 6=.int .i64 (i:Int)/\f 18=.slice (some ⟨E,0,none⟩) c L/\f 19=.int .i64 (c:Int)/\f 20=.int .i64 ((j:Nat):Int)/\Ext w t/\Bx t G N false a/\cF t z gs cp r c true (λ_ _=>N+N) λp q=>if p<i\/p=i/\q<j then qL a M p q else M p q)
    c ⟨0,F,aE,F,F,F,F,F,F,F,F,l,D,d.congr λp q _ _=>⟨aD,?_⟩⟩ ?_
   ·by_cases u:p<i
    ·rw[ab u,ab (.inl u)]
    ·rw[aa u,aa aq]
   clear l D d H C;rintro m f C ⟨j,rfl,S,B,k,s,o,r,m,h,g,l,D,d⟩;rw[ui B,ui k,ui s,ui o,ui r,ui m,ui h,ui g];clear B k s o r m h g;by_cases h:j<c
   ·refine gg ?_;refine cP [(0,3),(1,3),(2,3),(3,0),(4,3),(5,0),(6,3),(7,3),(8,3),(9,0),(10,3),(11,3),(12,0),(13,1),(14,3),(15,2)] mixed az λs o _=>?_;have m:=d.Y o;have H:=m.at b;obtain⟨A,t,g,g,cQ⟩:=(m.row i b).at h;obtain⟨g,g,g,r⟩:=D.Y o;obtain⟨B,B⟩:=bh g;simp only at cQ;rw[aa aq]at cQ;have g:IV s N A t (M i j):=(cQ.2 F).iv (P i j b h);refine gg ?_;refine aM (r4 _ _ _ _ _ _ N s r.1 g aq) ?_;rintro _ g ⟨g,s,s,rfl,J⟩;refine⟨g,?_⟩;refine gg ?_;refine fr (.inl F) F rfl ((m.Y g).row i b) h (J.ev true (r.bd.mul (P i j b h))) ?_;intro h t h r s;have s:=(m.Y g).put b t h r;have m:=I i b;have b:=D.lt;refine gg ?_;refine⟨_,?_,j+1,F,aq,F,F,F,F,F,F,F,F,h.aK (l.trans (o.trans g)) λb b=>aq,(D.Y (o.trans g)).kp r h aq,s.congr λp q _ _=>⟨?_,?_⟩⟩
    ·omega
    ·simp only[cV];split<;>omega
    ·simp only[cV];by_cases e:p=i/\q=j
     ·obtain⟨rfl,rfl⟩:=e;rw[ab ⟨F,F⟩,ab aq];rfl
     ·rw[aa e];by_cases u:p<i\/p=i/\q<j
      ·rw[ab u,ab aq]
      ·rw[aa u,aa aq]
   ·refine gg ?_;refine⟨_,?_,i+1,F,aq,F,F,F,F,l,D,d.congr λp q _ _=>⟨aD,?_⟩⟩
    ·omega
    ·by_cases u:p<i+1
     ·rw[ab aq,ab u]
     ·rw[aa aq,aa u]
  ·refine gg ?_;refine⟨F,l,d.congr λp q _ _=>⟨aD,by rw[ab aq]⟩⟩
 clear K l d C;rintro f C ⟨k,l,d⟩;rw[ui k];clear k;refine gg ?_;exact bF F rfl ⟨l,z,gs,cp,F,aq,λi O=>by have:=I i O;omega,I,d⟩
theorem cF.sN{w:World}{a r c N:Nat}{b d:Nat->Nat}{M:Nat->Nat->Int}(h:cF w a b d r c true (λ_ _=>N) M)(b:r<9223372036854775808):cB (EC N) w (.slice (some ⟨a,0,none⟩) r r) r (λ_=>c) M:=
 ⟨_,_,F,aD,b,λi a=>⟨_,_,rfl,by rw[add_lit];exact h.at a,by
  obtain⟨d,b,_⟩:=h.row i a;refine⟨_,_,F,d,b,λj d=>?_⟩;obtain⟨x,y,f,e,b⟩:=(h.row i a).at d;exact⟨_,x,y,F,by rw[add_lit];exact f,by rw[add_lit];exact e,b.2 F,b.bd⟩⟩⟩
theorem pS{b a:Value}{r q c N:Nat}{X Y:Nat->Nat->Int}{w:World}(e:cB (EI N) w b r (λ_=>q) X)(d:cB (EI N) w a q (λ_=>c) Y)(f:N<34359738368)(h1:1<=r)(l:r<=16)(k:1<=q)(j:q<=16)(i:1<=c)(g:c<=16):
 aT Tryz.prog 63 #[b,a] w (RM w r c (mulM q X Y)):=
 (zm b a r q N _ _ X Y w e d f).mono λ_ _ h=>h.get (nE h1 l k j i g)
theorem KR{n N:Nat}{M:Nat->Nat->Int}(a:n<=16)(d:∀i j,i<n->j<n->Bd N (M i j)):∀i j,i<n->j<n->Bd (1+(n-1)*(N+3)) (ni n M i j):=λi j c b=>by
 unfold ni;split
 ·exact(x7 a d _ i j c b).neg
 ·exact x7 a d _ i j c b
theorem mW(N k:Nat)(c:k<=16):Nb N k<=Nb N 16:=by
 have a:∀d k,Nb N k<=Nb N (k+d):=λd=>by
  induction d with
  |zero=>intro k;exact Nat.le_refl _
  |succ d b=>intro k;exact Nat.le_trans (b k) (jF N (k+d))
 have:=a (16-k) k;rwa[show k+(16-k)=16 by omega]at this
theorem yT{n j:Nat}(h:j<n):jH n (j:Int)=n-1:=by unfold jH;rw[ab (by omega)]
theorem uP(j k:Nat):jn (j:Int) k=Go.aW.skip j k:=by
 unfold jn Go.aW.skip;by_cases h:k<j
 ·rw[ab h,aa aq]
 ·rw[aa h,ab aq]
def iG(n:Nat)(M:Nat->Nat->Int):Nat->Nat->Int:=λi j=>
 if(i+j)%2=1 then-gj (n-1) (λa b=>M (jn (j:Int) a) (jn (i:Int) b))else gj (n-1) λa b=>M (jn (j:Int) a) (jn (i:Int) b)
theorem E6(n:Nat)(M:Nat->Nat->Int)(i j:Nat):iG (n+1) M i j=Go.aW.fY n M i j:=by
 unfold iG Go.aW.fY Go.aW.uK Go.aW.minor Go.aW.jl;rw[Nat.add_sub_cancel,eJ,show(λa b=>M (jn (j:Int) a) (jn (i:Int) b))=λa b=>M (Go.aW.skip j a) (Go.aW.skip i b) by funext a b;rw[uP,uP]];by_cases h:(i+j)%2=1
 ·rw[ab h,aa aq];omega
 ·rw[aa h,ab aq];omega
theorem zv{n N:Nat}{M:Nat->Nat->Int}(a:n<=16)(d:1<=N)(e:∀i j,i<n->j<n->Bd N (M i j))(i j:Nat)(a:i<n)(a:j<n):Bd (Nb N 16) (iG n M i j):=by
 have c:Bd (Nb N (n-1)) (gj (n-1) (λa b=>M (jn (j:Int) a) (jn (i:Int) b))):=ie d λa b a a=>e _ _ (by unfold jn;split<;>omega) (by unfold jn;split<;>omega);have c:=c.mono (mW N (n-1) aq);unfold iG;split
 ·exact c.neg
 ·exact c
theorem xg(v:Value)(r N:Nat)(len:Nat->Nat)(M:Nat->Nat->Int)(w:World)(h:cB (EI N) w v r len M)(D:1<=N)(K:N<1048576):
 aT Tryz.prog 40 #[v] w (oq w (jt r len) r r (iG r M)):=by
 refine bo (n:=56) Tryz.func40 F rfl az aA ?_;refine gg ?_;refine aJ (mo (EI N) v r len M w h) ?_;rintro _ J ⟨g,rfl⟩;obtain⟨s,e,H⟩:=n5 r len;rw[e];cases C:jt r len with
 |false=>
  refine gg ?_;refine aN ?_;refine gg ?_;exact cU F rfl rfl (jQ F g)
 |true=>
  have B:=dj.1 C;rw[C,ab F]at H;subst H;have G:=h.sq B.2.2;obtain⟨A,Q,rfl,_⟩:=id G;refine gg ?_;refine aN ?_;refine gg ?_;refine aJ (rW s s J aq aq) ?_;rintro _ h ⟨P,x,gs,rfl,r,W,hO⟩;have S:∀i j,i<s->j<s->Bd (Nb N 16) (iG s M i j):=λi j E k=>zv B.2.1 D (λi j E k=>G.bd E k) i j E k;have c:eM h x gs s s true (λ_ _=>Nb N 16) (λ_ _=>0):=hO.wm true λ_ _ _ _=>Bd.zero _;have I:=(g.trans P);have h:=g.size;have g:=iL (N:=N) K (Nat.le_refl 16);refine gg ?_;refine aY (λf u=>f 6=.slice (some ⟨x,0,none⟩) s s/\Ext w u/\eM u x gs s s true (λ_ _=>Nb N 16) (iG s M)) ?_ ?_
  ·refine gg ?_;refine aU (λm f u=>∃i,m=s-i/\i<=s/\f 0=.slice A s Q/\f 4=.int .i64 (s:Int)/\f 6=.slice (some ⟨x,0,none⟩) s s/\f 21=.int .i64 (s:Int)/\f 22=.int .i64 ((i:Nat):Int)/\Ext w u/\eM u x gs s s true (λ_ _=>Nb N 16) λa b=>if a<i then iG s M a b else 0)
    s ⟨0,F,aE,F,F,F,F,F,I,c.congr λ_ _ _ _=>⟨aD,by rw[aa aq]⟩⟩ ?_
   clear c hO I P;rintro m f V ⟨i,rfl,E,t,q,d,o,l,p,c⟩;rw[ui t,ui q,ui d,ui o,ui l];clear t q d o l;by_cases y:i<s
   ·refine gg ?_;refine aU (λm f u=>∃j,m=s-j/\j<=s/\f 0=.slice A s Q/\f 4=.int .i64 (s:Int)/\f 6=.slice (some ⟨x,0,none⟩) s s/\f 21=.int .i64 (s:Int)/\f 22=.int .i64 (i:Int)/\f 7=.int .i64 (i:Int)/\f 26=.int .i64 (s:Int)/\f 27=.int .i64 ((j:Nat):Int)/\Ext w u/\eM u x gs s s true (λ_ _=>Nb N 16) λa b=>if a<i\/a=i/\b<j then iG s M a b else 0)
     s ⟨0,F,aE,F,F,F,F,F,F,F,F,p,c.congr λa b _ _=>⟨aD,?_⟩⟩ ?_
    ·by_cases z:a<i
     ·rw[ab z,ab (.inl z)]
     ·rw[aa z,aa aq]
    clear p c V;rintro m f V ⟨j,rfl,k,t,q,d,o,l,B,m,h,p,c⟩;rw[ui t,ui q,ui d,ui o,ui l,ui B,ui m,ui h];clear t q d o l B m h;by_cases J:j<s
    ·refine gg ?_;refine aJ (rl s (j:Int) V aq) ?_;rintro R g ⟨H,k⟩;refine gg ?_;refine aJ (rl s (i:Int) g aq) ?_;rintro O L ⟨C,g⟩;rw[yT J]at k;rw[yT y]at g;have r:=H.trans C;refine gg ?_;refine aJ (sJ _ R O s s (s-1) (s-1) N _ _ M L (G.Y (p.trans r)) (k.Y C) g (λk H=>by unfold jn;split<;>omega) (λk H=>by unfold jn;split<;>omega) aq aq) ?_;rintro C g ⟨O,G⟩;refine gg ?_;refine aJ (pT C (s-1) N _ g G aq D K) ?_;rintro _ U ⟨L,g,g,rfl,R⟩;have Y:Bd (Nb N 16) (gj (s-1) λa b=>M (jn (j:Int) a) (jn (i:Int) b)):=by
      have:=S i j y J;unfold iG at this;split at this
      ·have:=this.neg;rwa[Int.neg_neg]at this
      ·exact this
     refine gg ?_;have K:=c.Y (r.trans (O.trans L));have a8:=(p.trans (r.trans (O.trans L))).size;refine aS (.inl F) a_ ?_;intro g S D a6;have C:Bx g U.heap.size 1 true 0:=Bx.zero true S;obtain⟨G,X⟩ : ∃g,g=U.heap.size:=⟨_,F⟩;rw[<-X]at C⊢;refine gg ?_;refine aL (.inl F) F rfl C ((R.Y D).ev true Y) ?_;intro w8 g R a7 a1;have Z:Ext U w8:=R.aK D λb hb=>aq;have T:U.heap.size<=G:=aq;clear C S D a6 a1 R a7 X;have C:=r.trans (O.trans (L.trans Z));replace c:=c.Y C;replace p:=p.trans C;have L:w.heap.size<=G/\x≠G/\∀k,k<s->gs k≠G:=⟨aq,by have:=K.lt;omega,λk H=>by have:=(K.row k H).lt;omega⟩;refine gg ?_;refine aY (λf u=>f 0=.slice A s Q/\f 4=.int .i64 (s:Int)/\f 6=.slice (some ⟨x,0,none⟩) s s/\f 21=.int .i64 (s:Int)/\f 22=.int .i64 (i:Int)/\f 7=.int .i64 (i:Int)/\f 26=.int .i64 (s:Int)/\f 27=.int .i64 (j:Int)/\f 8=.int .i64 (j:Int)/\f 9=.pointer (some ⟨G,0,none⟩)/\Ext w u/\eM u x gs s s true (λ_ _=>Nb N 16) (λa b=>if a<i\/a=i/\b<j then iG s M a b else 0)/\Bx u G (Nb N 16) true (iG s M i j)) ?_ ?_
     ·refine aN ?_;refine gg ?_;refine jB F aw ?_;by_cases D:(i+j)%2=1
      ·obtain⟨bx,S,u,r⟩:=id g;obtain⟨p1,X⟩:=bh u;refine gg ?_;refine aJ (wV _ _ _ _ w8 r.1 aq) ?_;rintro _ U ⟨A,nx,ny,rfl,o6⟩;refine gg ?_;refine aL (.inl F) F rfl (g.Y A) (o6.ev true Y.neg) ?_;intro R Q G O Y;refine gg ?_;refine⟨F,F,F,F,F,F,F,F,F,F,G.aK (p.trans A) λb hb=>aq,(c.Y A).kp O G (λe=>L.2.1 e) λk H e=>L.2.2 k H e,?_⟩;have:iG s M i j=- gj (s-1) λa b=>M (jn (j:Int) a) (jn (i:Int) b):=by unfold iG;rw[ab D]
       rw[this];exact Q
      ·refine gg ?_;refine⟨F,F,F,F,F,F,F,F,F,F,p,c,?_⟩;have:iG s M i j=gj (s-1) λa b=>M (jn (j:Int) a) (jn (i:Int) b):=by unfold iG;rw[aa D]
       rw[this];exact g
     clear g p c C Z K a8 T;rintro f U ⟨t,q,d,o,l,B,m,h,s,k,p,c,g⟩;rw[ui t,ui q,ui d,ui o,ui l,ui B,ui m,ui h,ui s,ui k];clear t q d o l B m h s k;refine gg ?_;refine cP [(0,3),(1,3),(2,3),(3,0),(4,3),(5,0),(6,3),(7,2)] mixed az λR h _=>?_;replace c:=c.Y h;replace g:=g.Y h;obtain⟨bx,S,u,r⟩:=g;obtain⟨p1,X⟩:=bh u;have g:=c.at y;refine gg ?_;refine c_ (.inl F) F rfl (c.row i y) J r ?_;intro g m g k l;have l:=c.put y m g k;have k:=W i y;refine gg ?_;refine⟨_,?_,j+1,F,aq,F,F,F,F,F,F,F,F,g.aK (p.trans h) λb hb=>aq,l.congr λa b _ _=>⟨?_,?_⟩⟩
     ·omega
     ·simp only[cV];split<;>omega
     ·simp only[cV];by_cases e:a=i/\b=j
      ·obtain⟨rfl,rfl⟩:=e;rw[ab ⟨F,F⟩,ab aq]
      ·rw[aa e];by_cases z:a<i\/a=i/\b<j
       ·rw[ab z,ab aq]
       ·rw[aa z,aa aq]
    ·refine gg ?_;refine⟨_,?_,i+1,F,aq,F,F,F,F,F,p,c.congr λa b _ _=>⟨aD,?_⟩⟩
     ·omega
     ·by_cases z:a<i+1
      ·rw[ab aq,ab z]
      ·rw[aa aq,aa z]
   ·refine gg ?_;exact⟨F,p,c.congr λa b _ _=>⟨aD,by rw[ab aq]⟩⟩
  clear c hO I P;rintro f V ⟨d,p,c⟩;rw[ui d];clear d;refine gg ?_;exact cU F rfl rfl (wW F (Ext.refl _) ⟨p,x,gs,F,aq,λi E=>by have:=W i E;omega,c.o⟩)
theorem xv{r:Nat}{len:Nat->Nat}{M:Nat->Nat->Int}:NB r len M=(jt r len&&decide (gj r M=1\/gj r M=-1)):=F
theorem sG(v:Value)(r N:Nat)(len:Nat->Nat)(M:Nat->Nat->Int)(w:World)(h:cB (EI N) w v r len M)(e:1<=N)(c:N<1048576):
 aT Tryz.prog 39 #[v] w λu b=>Ext w b/\u=.bool (NB r len M):=by
 refine bo (n:=18) Tryz.func39 F rfl az aA ?_;refine gg ?_;refine aJ (GU v r N len M w h e c) ?_;rintro _ k ⟨m,x,y,rfl,f⟩;have o:Bd (Nb N 16) (if jt r len then gj r M else 0):=by
  cases a:jt r len
  ·exact Bd.zero _
  ·have b:=dj.1 a;exact(ie (n:=r) (M:=M) e λi j g d=>(h.sq b.2.2).bd g d).mono (mW N r b.2.1)
 have b:=iL (N:=N) c (Nat.le_refl 16);refine gg ?_;refine aS (.inl F) a_ ?_;intro b h d j;have c:Bx b k.heap.size 1 true 0:=Bx.zero true h;obtain⟨s,i⟩ : ∃g,g=k.heap.size:=⟨_,F⟩;rw[<-i]at c⊢;refine gg ?_;refine aL (.inl F) F rfl c ((f.Y d).ev true o) ?_;intro p q f o g;have l:Ext k p:=f.aK d λb b=>aq;have b:k.heap.size<=s:=aq;clear c h d j g f o i;cases a:jt r len with
 |false=>
  refine gg ?_;refine bF (v:=.bool _) F rfl ⟨m.trans l,?_⟩;rw[xv,a];rfl
 |true=>
  rw[a,ab F]at q;obtain⟨b,b,c,b⟩:=id q;obtain⟨d,d⟩:=bh c;refine gg ?_;refine aJ (JE _ _ _ _ p b.1 aq) ?_;rintro _ c ⟨h,d,d,rfl,f⟩;refine gg ?_;refine aJ (kl 1 c aq aq) ?_;rintro _ i ⟨c,sx,sy,rfl,d⟩;have g:1<=Nb N 16:=Nat.le_trans e (mW N 0 aw);refine gg ?_;refine aJ (sQ _ _ _ _ _ _ (Nb N 16) i ((f.Y c).iv (by have:=b.bd;unfold Bd at this;rwa[Int.natAbs_natCast])) (d.iv (Bd.mono (N:=1) (show(1:Int).natAbs<B^1 by decide) g)) aq) ?_;rintro _ b ⟨b,rfl⟩;refine gg ?_;refine bF (v:=.bool _) F rfl ⟨m.trans (l.trans (h.trans (c.trans b))),?_⟩;rw[xv,a,Bool.true_and];congr 1;show decide (e_ ((gj r M).natAbs:Int) 1=0)=_;unfold e_;by_cases a:gj r M=1\/gj r M=-1
  ·rw[decide_eq_true a,decide_eq_true];rw[aa aq,aa aq]
  ·rw[decide_eq_false a,decide_eq_false];split
   ·decide
   ·split
    ·decide
    ·omega
def OH(w:World)(ok:Bool)(r c N:Nat)(M:Nat->Nat->Int)(v:Value)(w':World):Prop:=
 if ok then ∃u,v=.tuple #[u,.bool true]/\RG w r c N M u w' else Ext w w'/\v=.tuple #[.slice none 0 0,.bool false]
theorem RG.trans{w a w':World}{r c N:Nat}{M:Nat->Nat->Int}{v:Value}(h:RG a r c N M v w')(b:Ext w a):RG w r c N M v w':=by
 obtain⟨a,j,i,k,e,d,g,f,d⟩:=h;have:=b.size;exact⟨b.trans a,j,i,k,e,aq,λi a=>by have:=g i a;omega,f,d⟩
theorem zq(v:Value)(r N:Nat)(len:Nat->Nat)(M:Nat->Nat->Int)(w:World)(h:cB (EI N) w v r len M)(b:1<=N)(f:N<1048576):
 aT Tryz.prog 9 #[v] w (OH w (NB r len M) r r (Nb N 16+Nb N 16) (qL (gj r M) (iG r M))):=by
 refine bo (n:=18) Tryz.func9 F rfl az aA ?_;refine gg ?_;refine aN ?_;refine gg ?_;refine aJ (sG v r N len M w h b f) ?_;rintro _ t ⟨c,rfl⟩;cases i:NB r len M with
 |false=>
  refine gg ?_;refine cU F rfl rfl ?_;unfold OH;rw[aa aw];exact⟨c,F⟩
 |true=>
  have d:jt r len=true:=by rw[xv,Bool.and_eq_true]at i;exact i.1
  have a:=dj.1 d;have p:=h.sq a.2.2;have k:∀i j,i<r->j<r->Bd N (M i j):=λi j j i=>p.bd j i;have q:=zv a.2.1 b k;have o:=(ie (n:=r) (M:=M) b k).mono (mW N r a.2.1);have i:=iL (N:=N) f (Nat.le_refl 16);have g:r<9223372036854775808:=aq;refine gg ?_;refine aJ (xg v r N len M t (h.Y c) b f) ?_;intro u s e;obtain⟨m,h,h,rfl,h⟩:=e.OT d;refine gg ?_;refine aJ (pT v r N M s (p.Y (c.trans m)) a.2.1 b f) ?_;rintro _ d ⟨l,b,b,rfl,b⟩;refine gg ?_;refine aJ (E2 _ _ _ _ r r (Nb N 16) _ d (b.iv o) ((h.Y l).rd q aD g g) aq a.1 aq aq) ?_;intro u a e;obtain⟨a,a,a,a,rfl,z_⟩:=id e;refine gg ?_;refine cU F rfl rfl ?_;unfold OH;rw[ab F];exact⟨_,F,e.trans (c.trans (m.trans l))⟩
theorem wN(a:Bool)(m:Nat):(sg a m).sign=if m=0 then 0 else if a then -1 else 1:=by
 by_cases h:m=0
 ·subst h;rw[ab F];cases a<;>rfl
 ·rw[aa h];cases a
  ·rw[eY];exact Int.sign_eq_one_of_pos aq
  ·rw[fb];exact Int.sign_eq_neg_one_of_neg aq
theorem H7(a b:Nat):e_ (a:Int) (b:Int)=fl a b:=by
 unfold e_ fl;by_cases c:a<b
 ·rw[ab aq,ab c]
 ·rw[aa aq,aa c];by_cases c:b<a
  ·rw[ab aq,ab c]
  ·rw[aa aq,aa c]
theorem H6(a b:Nat):e_ (-(a:Int)) (-(b:Int))=- fl a b:=by
 unfold e_ fl;by_cases c:a<b
 ·rw[aa aq,ab aq,ab c];rfl
 ·rw[aa c];by_cases c:b<a
  ·rw[ab aq,ab c]
  ·rw[aa aq,aa aq,aa c];rfl
theorem FJ{c d:Bool}{a b:Nat}(h:(sg c a).sign=(sg d b).sign):(sg c a).sign*fl a b=e_ (sg c a) (sg d b):=by
 rw[wN,wN]at h;rw[wN];by_cases f:a=0
 ·by_cases e:b=0
  ·subst f e;cases c<;>cases d<;>decide
  ·rw[ab f,aa e]at h;cases d<;>simp at h
 ·rw[aa f]at h⊢;by_cases e:b=0
  ·rw[ab e]at h;cases c<;>simp at h
  ·rw[aa e]at h;cases c<;>cases d<;>simp at h
   ·rw[eY,eY,H7,aa aw,Int.one_mul]
   ·rw[fb,fb,H6,ab F,Int.neg_mul,Int.one_mul]
theorem Eh{a b:Int}(h:a.sign<b.sign):e_ a b=-1:=by
 unfold e_;rcases Int.lt_trichotomy a 0 with d|d|d<;>rcases Int.lt_trichotomy b 0 with c|c|c
 ·rw[Int.sign_eq_neg_one_of_neg d,Int.sign_eq_neg_one_of_neg c]at h;omega
 ·rw[ab aq]
 ·rw[ab aq]
 ·subst d;rw[Int.sign_eq_neg_one_of_neg c]at h;simp at h
 ·subst d c;simp at h
 ·rw[ab aq]
 ·rw[Int.sign_eq_one_of_pos d,Int.sign_eq_neg_one_of_neg c]at h;omega
 ·subst c;rw[Int.sign_eq_one_of_pos d]at h;simp at h
 ·rw[Int.sign_eq_one_of_pos d,Int.sign_eq_one_of_pos c]at h;omega
theorem FI(a b:Int):e_ a b=- e_ b a:=by
 unfold e_;by_cases d:a<b
 ·rw[ab d,aa aq,ab d]
 ·rw[aa d];by_cases c:b<a
  ·rw[ab c,ab c];rfl
  ·rw[aa c,aa c,aa d];rfl
theorem og(a b:Int):e_ a b=0↔a=b:=by
 unfold e_;split
 ·omega
 ·split<;>omega
theorem Eg(j h i g:Value)(f a:Int)(N:Nat)(w:World)(h1:IV w N j h f)(m:IV w N i g a)(o:N<17592186044416):
 aT Tryz.prog 32 #[.agg #[j,h],.agg #[i,g]] w λv g=>Ext w g/\v=.int .i64 (e_ f a):=by
 have q:=h1;have p:=m;obtain⟨d,B,b,z,rfl,rfl,u,s,l,a,rfl⟩:=h1;obtain⟨e,A,c,y,rfl,rfl,t,r,k,a,rfl⟩:=m;refine bo (n:=28) Tryz.func32 F rfl az aA ?_;refine gg ?_;refine bO (v:=.agg _) (.inl F) F ?_;intro x g i a;refine gg ?_;refine bO (v:=.agg _) (.inl F) F ?_;intro m f a h;have h:=i.trans a;have j:bg m w.heap.size 44 #[.bool d,.slice B b.length z]:=g.Y a;have i:bg m x.heap.size 44 #[.bool e,.slice A c.length y]:=f;clear g f;refine gg ?_;refine b_ [(0,0),(2,0),(1,1),(3,1),(4,3),(5,3)] mixed az λf a _=>?_;obtain⟨A,z⟩:=bh (j.Y a);obtain⟨y,x⟩:=bh (i.Y a);refine gg ?_;refine aM (dw _ _ _ N f (q.Y (h.trans a)) o) ?_;rintro _ f ⟨g,rfl⟩;refine⟨g,?_⟩;refine gg ?_;refine aM (dw _ _ _ N f (p.Y (h.trans (a.trans g))) o) ?_;rintro _ f ⟨m,rfl⟩;refine⟨m,?_⟩;have f:=a.trans (g.trans m);have g:=h.trans f;clear A z y x;by_cases a:(sg d (val b)).sign<(sg e (val c)).sign
 ·refine gg ?_;exact bF F rfl ⟨g,by rw[Eh a];rfl⟩
 by_cases a:(sg e (val c)).sign<(sg d (val b)).sign
 ·refine gg ?_;exact bF F rfl ⟨g,by rw[FI,Eh a];rfl⟩
 have o:(sg d (val b)).sign=(sg e (val c)).sign:=aq;refine gg ?_;refine b_ [(0,3),(1,3),(2,0),(4,3),(5,0),(3,1),(6,1),(7,1),(8,3),(9,3)] mixed az λm h _=>?_;have a:=fG (j.Y (f.trans h));have a:=fG (i.Y (f.trans h));have a:=g.trans h;refine gg ?_;refine aM (dA _ _ _ _ m (l.Y a) F u s) ?_;rintro _ _ ⟨rfl,m1,i,rfl,g,cQ⟩;refine⟨Ext.refl _,?_⟩;refine gg ?_;refine aM (dA _ _ _ _ m (k.Y a) F t r) ?_;rintro _ _ ⟨rfl,m2,h,rfl,f,fc⟩;refine⟨Ext.refl _,?_⟩;refine gg ?_;refine aM (lp _ _ _ _ _ _ (b.take m1) (c.take m2) m ((l.Y a).take m1) ((k.Y a).take m2) (List.length_take_of_le i) (List.length_take_of_le h) aq aq g f) ?_;rintro _ f ⟨f,rfl⟩;refine⟨f,?_⟩;rw[cQ,fc];have g:(sg d (val b)).sign*fl (val b) (val c)=e_ (sg d (val b)) (sg e (val c)):=FJ o;have h:-1<=e_ (sg d (val b)) (sg e (val c))/\e_ (sg d (val b)) (sg e (val c))<=1:=by
  unfold e_;split
  ·omega
  ·split<;>omega
 refine gg ?_;refine fg F rfl (by rw[g];omega) (by rw[g];omega) ?_;refine gg ?_;exact bF (v:=.int .i64 _) F rfl ⟨a.trans f,by rw[g]⟩
theorem o8(f d e c:Value)(b a:Int)(N:Nat)(w:World)(h1:IV w N f d b)(h:IV w N e c a)(g:N<1099511627776):
 aT Tryz.prog 32 #[.agg #[f,d],.agg #[e,c]] w λv g=>Ext w g/\v=.int .i64 (e_ b a):=Eg f d e c b a N w h1 h aq
def OF(b c:Nat)(a len2:Nat->Nat)(X Y:Nat->Nat->Int):Prop:=oM b c a len2=true/\∀i j,i<b->j<a 0->X i j=Y i j
def Nw(w:World)(p:Prop)(v:Value)(w':World):Prop:=Ext w w'/\∃b:Bool,v=.bool b/\(b=true↔p)
theorem AA(va vb:Value)(D y N:Nat)(d len2:Nat->Nat)(X Y:Nat->Nat->Int)(w:World)(z:cB (EI N) w va D d X)(o:cB (EI N) w vb y len2 Y)(hN:N<1099511627776):
 aT Tryz.prog 56 #[va,vb] w (Nw w (OF D y d len2 X Y)):=by
 refine bo (n:=69) Tryz.func56 F rfl az aA ?_;refine gg ?_;refine aJ (jr _ _ D d X w z) ?_;rintro _ _ ⟨rfl,rfl⟩;obtain⟨g,c1,b4,P,h1⟩:=df D d;rw[P];refine gg ?_;refine aJ (jr _ _ y len2 Y w o) ?_;rintro _ _ ⟨rfl,rfl⟩;obtain⟨s2,c2,b4,e2,h2⟩:=df y len2;rw[e2];have u:oM D y d len2=false->Nw w (OF D y d len2 X Y) (.bool false) w:=λh=>⟨Ext.refl _,false,rfl,by unfold OF;rw[h];simp⟩;rcases h1 with⟨q,rfl,rfl,rfl⟩|⟨q,rfl,rfl,rfl⟩;rotate_left
 ·refine gg ?_;refine aN ?_;refine gg ?_;exact bF (v:=.bool _) F rfl (u (by unfold oM;rw[q];rfl))
 rcases h2 with⟨p,rfl,rfl,rfl⟩|⟨p,rfl,rfl,rfl⟩;rotate_left
 ·refine gg ?_;refine aN ?_;refine gg ?_;exact bF (v:=.bool _) F rfl (u (by unfold oM;rw[p,Bool.and_false];rfl))
 by_cases Z:g=s2;rotate_left
 ·refine gg ?_;refine aN ?_;refine gg ?_;exact bF (v:=.bool _) F rfl (u (by unfold oM;rw[decide_eq_false Z,Bool.and_false,Bool.false_and]))
 by_cases hc:d 0=len2 0;rotate_left
 ·refine gg ?_;refine aN ?_;refine gg ?_;exact bF (v:=.bool _) F rfl (u (by unfold oM;rw[decide_eq_false hc,Bool.and_false]))
 have aj:oM g s2 d len2=true:=by unfold oM;rw[q,p,decide_eq_true Z,decide_eq_true hc];rfl
 obtain⟨⟨D,y,b5,b4⟩,S⟩:=cD.1 q;obtain⟨_,R⟩:=cD.1 p;obtain⟨A,W,rfl,_⟩:=id z;refine gg ?_;refine aN ?_;refine gg ?_;clear P e2 u q p;obtain⟨c,p⟩ : ∃c,c=d 0:=⟨_,F⟩;have b0:=z.sq (c:=c) (λi E=>by rw[S i E,p]);have aH:=o.sq (c:=c) (λi E=>by rw[R i E,<-hc,p]);subst Z;obtain⟨d,d,e,d,d,a8⟩:=b0;injection e with P _ e3;subst P e3;obtain⟨A',M,rfl,d,d,Q⟩:=aH;clear z o;refine aY (λf G=>Ext w G/\∀i j,i<g->j<c->X i j=Y i j) ?_ ?_
 ·refine gg ?_;refine aU (λm f G=>∃i,m=g-i/\i<=g/\f 1=.slice A' g M/\f 43=.slice A g W/\f 44=.int .i64 (g:Int)/\f 45=.int .i64 ((i:Nat):Int)/\Ext w G/\∀a b,a<i->b<c->X a b=Y a b)
   g ⟨0,F,aE,F,F,F,F,Ext.refl _,λa b z=>absurd z aq⟩ ?_
  rintro m f C ⟨i,rfl,E,x,t,s,r,k,B⟩;rw[ui x,ui t,ui s,ui r];clear x t s r;by_cases I:i<g
  ·obtain⟨ad,u,rfl,hx,ax⟩:=a8 i I;obtain⟨Ai,ak,rfl,d,d,ay⟩:=id ax;obtain⟨b1,d,rfl,au,a7⟩:=Q i I;obtain⟨d,d,rfl,d,d,ai⟩:=id a7;have d:=aP k hx;refine gg ?_;refine aU (λm f G=>∃j,m=c-j/\j<=c/\f 1=.slice (some b1) g M/\f 43=.slice (some ad) g W/\f 44=.int .i64 (g:Int)/\f 45=.int .i64 (i:Int)/\f 11=.int .i64 (i:Int)/\f 50=.slice Ai c ak/\f 51=.int .i64 (c:Int)/\f 52=.int .i64 ((j:Nat):Int)/\Ext w G/\∀b,b<j->X i b=Y i b)
    c ⟨0,F,aE,F,F,F,F,F,F,F,F,k,λb o=>absurd o aq⟩ ?_
   clear k d C;rintro m f C ⟨j,rfl,hj,x,t,s,r,p,m,g,d,k,T⟩;rw[ui x,ui t,ui s,ui r,ui p,ui m,ui g,ui d];clear x t s r p m g d;by_cases U:j<c
   ·obtain⟨d,x,y,rfl,ar,an,hv⟩:=ay j U;obtain⟨d,x',y',rfl,a6,a1,H⟩:=ai j U;have p:=aP k ar;have m:=aP k an;refine gg ?_;refine aS (.inl F) a_ ?_;intro d V L av;have J:Bx d C.heap.size N false 0:=Bx.zero false V;obtain⟨d,d⟩ : ∃g,g=C.heap.size:=⟨_,F⟩;rw[<-d]at J⊢;clear p m;refine gg ?_;refine aL (.inl F) F rfl J (N':=N) (z':=X i j) ⟨IV.Y hv (k.trans L),λe=>by cases e⟩ ?_;intro q s g p m;have d:Ext C q:=g.aK L λb o=>aq;replace k:=k.trans d;obtain⟨q,q,r,q⟩:=s;clear J V L av g p m d;refine gg ?_;refine b_ [(0,0),(1,3),(2,3),(3,3),(4,0),(5,3),(6,3),(7,0),(8,1),(9,3)] mixed az λg d _=>?_;have l:=k.trans d;have m:=aP l au;have m:=aP l a6;have m:=aP l a1;have H:IV g N x' y' (Y i j):=IV.Y H l;obtain⟨m,m⟩:=bh (r.Y d);refine gg ?_;refine aM (o8 _ _ _ _ _ _ N g (q.1.Y d) H hN) ?_;rintro _ d ⟨K,rfl⟩;refine⟨K,?_⟩;by_cases O:X i j=Y i j
    ·have al:e_ (X i j) (Y i j)=0:=(og _ _).2 O;refine gg ?_;refine⟨_,?_,j+1,F,aq,F,F,F,F,F,F,F,F,l.trans K,λb o=>?_⟩
     ·omega
     ·by_cases e:b=j
      ·subst e;exact O
      ·exact T b aq
    ·have al:¬e_ (X i j) (Y i j)=0:=λe=>O ((og _ _).1 e);refine gg ?_;refine bF (v:=.bool _) F rfl ⟨l.trans K,false,F,?_⟩;unfold OF;refine⟨λh=>(by cases h),λh=>absurd (h.2 i j I aq) O⟩
   ·refine gg ?_;refine⟨_,?_,i+1,F,aq,F,F,F,F,k,λa b z o=>?_⟩
    ·omega
    ·by_cases e:a=i
     ·subst e;exact T b aq
     ·exact B a b aq o
  ·refine gg ?_;exact⟨k,λa b z o=>B a b aq o⟩
 rintro f C ⟨k,a⟩;refine gg ?_;exact bF (v:=.bool _) F rfl ⟨k,true,F,⟨λ_=>⟨aj,λi j E hj=>a i j E aq⟩,λ_=>rfl⟩⟩
end
end Go.Proofs.Qq

