import Derived.Test.YtmfndnlifgphjaaGreatDoorQzt
set_option maxHeartbeats 64000000
open Go.Proofs.YtmfndnlifgphjaaGreatDoor
namespace Go.Proofs.Qq
section
open Go Go.cW Go.c7 Go.Proofs
def zT(M:Nat->Nat->Int):Nat->Int:=λk=>Go.aW.aO (k+1) M
theorem Fv(k:Nat)(M:Nat->Nat->Int):gj (k+1) (λi j=>M (nK k k i) (nK k k j))=zT M k:=by
 rw[eJ];refine Go.aW.bk λi j a b=>?_;have e:∀i,i<k+1->nK k k i=i:=λi a=>by unfold nK;split<;>omega
 rw[e i a,e j b]
def PF(w:World)(ok:Bool)(n N:Nat)(M:Nat->Nat->Int)(v:Value)(w':World):Prop:=
 Ext w w'/\((ok=false/\v=.tuple #[.slice none 0 0,.bool false])\/(ok=true/\∃u,v=.tuple #[u,.bool true]/\dD w' u n true (Nb N 16) (zT M)))
theorem MD{n N k:Nat}{M:Nat->Nat->Int}(a:1<=N)(b:k<n)(b:n<=16)(h:∀i j,i<n->j<n->Bd N (M i j)):Bd (Nb N 16) (zT M k):=by
 unfold zT;rw[<-eJ];exact(ie a λi j a a=>h i j aq aq).mono (mW N _ aq)
theorem zp(G:Value)(r N:Nat)(len:Nat->Nat)(M:Nat->Nat->Int)(w:World)(T:cB (EI N) w G r len M)(C:1<=N)(hN:N<1048576):
 aT Tryz.prog 188 #[G] w (PF w (jt r len) r N M):=by
 refine bo (n:=33) Tryz.func188 F rfl az aA ?_;refine gg ?_;refine aJ (mo _ G r len M w T) ?_;rintro _ Q ⟨p,rfl⟩;obtain⟨n,U,H⟩:=n5 r len;rw[U];by_cases g:jt r len=true;rotate_left
 ·have J:jt r len=false:=by simpa using g
  rw[J];refine gg ?_;refine aN ?_;refine gg ?_;exact cU (v:=.slice _ _ _) (v':=.bool _) F rfl rfl ⟨p,.inl ⟨F,F⟩⟩
 rw[g,ab F]at H;obtain rfl:r=n:=H.symm;obtain⟨ak,X,K⟩:=dj.1 g;rw[g];have I:=(T.sq K).Y p;have a1:∀i j,i<r->j<r->Bd N (M i j):=λi j hi R=>I.bd hi R;obtain⟨Aa,O,V,_⟩:=id I;subst V;clear U H;refine gg ?_;refine aN ?_;refine gg ?_;refine aY (λf l=>∃v,f 6=v/\Ext w l/\dD l v r true (Nb N 16) (zT M)) ?_ ?_
 ·refine gg ?_;refine aU (λm f l=>∃k v,m=r-k/\k<=r/\f 0=.slice Aa r O/\f 4=.int .i64 (r:Int)/\f 6=v/\f 7=.int .i64 ((k:Nat):Int)/\Ext Q l/\dD l v k true (Nb N 16) (zT M)/\∀b,some b=v.ownBlock->Q.heap.size<=b)
   r ⟨0,.slice none 0 0,F,aE,F,F,F,F,Ext.refl _,dD.nil,λb c=>by cases c⟩ ?_
  rintro m f P ⟨k,v,rfl,hk,A,z,a,u,h,t,s⟩;rw[ui A,ui z,ui a,ui u];clear A z a u;refine aN ?_;by_cases Y:k<r
  ·refine gg ?_;refine aJ (As k k P aq aq) ?_;rintro v1 w3 ⟨E,cQ⟩;refine gg ?_;refine aJ (As k k w3 aq aq) ?_;rintro v2 w4 ⟨o,fc⟩;have S:∀j,j<k+1->nK k k j<r:=λj R=>by unfold nK;split<;>omega
   have L:=h.trans (E.trans o);refine gg ?_;refine aJ (sJ _ v1 v2 r r (k+1) (k+1) N _ _ M w4 (I.Y L) (cQ.Y o) fc S S aq aq) ?_;rintro v3 w5 ⟨a8,hS⟩;refine gg ?_;refine aJ (pT v3 (k+1) N _ w5 hS aq C hN) ?_;rintro _ w6 ⟨a7,x,y,rfl,B⟩;rw[Fv]at B;have Z:=MD C Y X a1;refine gg ?_;refine pe (.inl F) F ?_;intro w7 ai D aj;obtain⟨p1,p2⟩:=bh ai;have d:=E.trans (o.trans (a8.trans (a7.trans D)));refine gg ?_;refine yJ (.inl F) F rfl (t.Y d) p1 p2 ((B.Y D).ev true Z) aq ?_;intro v' w8 a6 al ae W;have hs:=(h.trans d).size;refine gg ?_;refine⟨_,?_,k+1,v',F,aq,F,F,F,F,ae.aK (h.trans d) s,a6.congr λq _=>?_,λb c=>?_⟩
   ·omega
   ·split
    ·rename_i e;rw[e]
    ·rfl
   ·rcases W with e|e
    ·rw[e]at c;exact s b c
    ·rw[e]at c;injection c with c;omega
  ·refine gg ?_;obtain rfl:k=r:=aq;exact⟨v,F,p.trans h,t⟩
 rintro f P ⟨v,a,h,t⟩;rw[ui a];clear a;refine gg ?_;exact cU (v:=v) (v':=.bool _) F rfl rfl ⟨h,.inr ⟨F,v,F,t⟩⟩
def Mq(r:Nat)(len:Nat->Nat)(M:Nat->Nat->Int):Prop:=jt r len=true/\(∀i j,i<r->j<i->M i j=M j i)/\∀q,q<r->0<zT M q
theorem xe(c:Value)(r N:Nat)(len:Nat->Nat)(M:Nat->Nat->Int)(w:World)(g:cB (EI N) w c r len M)(d:1<=N)(m:N<1048576):
 aT Tryz.prog 164 #[c] w (Nw w (Mq r len M)):=by
 refine bo (n:=29) Tryz.func164 F rfl az aA ?_;refine gg ?_;refine aJ (zp c r N len M w g d m) ?_;rintro _ I ⟨a,⟨i,rfl⟩|⟨i,u,rfl,y⟩⟩
 ·refine gg ?_;refine aN ?_;refine gg ?_;exact bF (v:=.bool _) F rfl ⟨a,false,F,⟨λh=>(by cases h),λh=>by have:=h.1;rw[i]at this;cases this⟩⟩
 obtain⟨D,d,d⟩:=dj.1 i;have O:=(g.sq d).Y a;obtain⟨Q,P,J⟩:=y.slice;subst J;refine gg ?_;refine aN ?_;refine gg ?_;refine aJ (zl c r N M I O D aq) ?_;rintro _ H ⟨j,b,rfl,A⟩;cases b with
 |false=>
  refine gg ?_;exact bF (v:=.bool _) F rfl ⟨a.trans j,false,F,⟨λh=>(by cases h),λh=>by have:=A.2 h.2.1;cases this⟩⟩
 |true=>
  have B:=A.1 F;have x:=(y.Y j).Jy;have c:=iL m (Nat.le_refl 16);refine gg ?_;refine aY (λf c=>Ext w c/\∀q,q<r->0<zT M q) ?_ ?_
  ·refine gg ?_;refine aU (λm f c=>∃k,m=r-k/\k<=r/\f 19=.slice Q r P/\f 20=.int .i64 (r:Int)/\f 21=.int .i64 ((k:Nat):Int)/\Ext H c/\∀q,q<k->0<zT M q)
    r ⟨0,F,aE,F,F,F,Ext.refl _,λq h=>absurd h aq⟩ ?_
   rintro m f l ⟨k,rfl,c,g,d,c,o,p⟩;rw[ui g,ui d,ui c];clear g d c;by_cases t:k<r
   ·obtain⟨c,c,c,_,_,C⟩:=x;injection c with G _ E;subst G E;obtain⟨c,x,y,rfl,g,d,c,D⟩:=C k t;have m:=aP o g;have g:=aP o d;refine gg ?_;have x:=c.Y o;refine aS (.inl F) a_ ?_;intro g m d y;have c:Bx g l.heap.size 1 true 0:=Bx.zero true m;obtain⟨H,r⟩ : ∃g,g=l.heap.size:=⟨_,F⟩;rw[<-r]at c⊢;refine gg ?_;refine aL (.inl F) F rfl c ((x.Y d).ev true D) ?_;intro D E g C x;have G:Ext l D:=g.aK d λb A=>aq;have b:l.heap.size<=H:=aq;clear c m d y x g C r;obtain⟨b,b,c,b⟩:=id E;obtain⟨d,d⟩:=bh c;refine gg ?_;refine aJ (lL _ _ _ _ D b.1 aq) ?_;rintro _ b ⟨b,rfl⟩;have s:=o.trans (G.trans b);by_cases z:0<zT M k
    ·have K:¬(zT M k).sign<=0:=by rw[Int.sign_eq_one_of_pos z];decide
     refine gg ?_;refine⟨_,?_,k+1,F,aq,F,F,F,s,λq L=>?_⟩
     ·omega
     ·by_cases e:q=k
      ·subst e;exact z
      ·exact p q aq
    ·have K:(zT M k).sign<=0:=by
      rcases Int.lt_or_eq_of_le (show zT M k<=0 by omega)with h|h
      ·rw[Int.sign_eq_neg_one_of_neg h];decide
      ·rw[h];decide
     refine gg ?_;exact bF (v:=.bool _) F rfl ⟨a.trans (j.trans s),false,F,⟨λh=>(by cases h),λh=>absurd (h.2.2 k t) z⟩⟩
   ·refine gg ?_;exact⟨a.trans (j.trans o),λq L=>p q aq⟩
  rintro f l ⟨b,a⟩;refine gg ?_;exact bF (v:=.bool _) F rfl ⟨b,true,F,⟨λ_=>⟨i,B,a⟩,λ_=>rfl⟩⟩
end
section
open Go Go.cW Go.c7 Go.Proofs
open Go.aW (k9)
theorem DF{M:Nat->Nat->Int}{k:Nat}(h:∀q,q<k->zT M q≠0):k9 M k 0 0=zT M k:=by
 have:=(Go.aW.GA M k λq a a=>by
  have:=h (q-1) aq;unfold zT at this;rwa[show q-1+1=q by omega]at this).1 0 0
 rw[this,Nat.add_zero,Go.aW.db];rfl
theorem G5{M:Nat->Nat->Int}(n:Nat):(∀q,q<n->0<k9 M q 0 0)↔∀q,q<n->0<zT M q:=by
 induction n with
 |zero=>exact⟨λ_ q a=>absurd a aq,λ_ q a=>absurd a aq⟩
 |succ n d=>
  constructor
  ·intro h;have b:=d.1 λq a=>h q aq;have e:=DF (M:=M) (k:=n) λq a=>by have:=b q a;omega
   intro q a;by_cases c:q=n
   ·rw[c,<-e];exact h n aq
   ·exact b q aq
  ·intro h;have b:=d.2 λq a=>h q aq;have e:=DF (M:=M) (k:=n) λq a=>by have:=h q aq;omega
   intro q a;by_cases c:q=n
   ·rw[c,e];exact h n aq
   ·exact b q aq
theorem vv{r:Nat}{len:Nat->Nat}{M:Nat->Nat->Int}:Ha r len M↔Mq r len M:=by
 unfold Ha Mq;rw[G5]
open Classical in
noncomputable def dQ (r:Nat) (len:Nat->Nat) (M:Nat->Nat->Int):Nat:=
 if jt r len=true/\r<=8 then
  if ∀i j,i<r->j<i->M i j=M j i then
   if ∀q,q<r->0<Go.aW.aO (q+1) M then 0 else 5
  else 4
 else 3
theorem dF{r:Nat}{len:Nat->Nat}{M:Nat->Nat->Int}:dQ r len M=0↔jt r len=true/\r<=8/\(∀i j,i<r->j<i->M i j=M j i)/\∀q,q<r->0<Go.aW.aO (q+1) M:=by
 unfold dQ;constructor
 ·intro h;by_cases a:jt r len=true/\r<=8
  ·rw[ab a]at h;by_cases b:∀i j,i<r->j<i->M i j=M j i
   ·rw[ab b]at h;by_cases c:∀q,q<r->0<Go.aW.aO (q+1) M
    ·exact⟨a.1,a.2,b,c⟩
    ·rw[aa c]at h;omega
   ·rw[aa b]at h;omega
  ·rw[aa a]at h;omega
 ·rintro⟨a,b,c,d⟩;rw[ab ⟨a,b⟩,ab c,ab d]
theorem sh{r:Nat}{len:Nat->Nat}{M:Nat->Nat->Int}(h:¬(jt r len=true/\r<=8)):dQ r len M=3:=by
 unfold dQ;rw[aa h]
theorem Gn{r:Nat}{len:Nat->Nat}{M:Nat->Nat->Int}(h:jt r len=true/\r<=8)(a:¬∀i j,i<r->j<i->M i j=M j i):dQ r len M=4:=by
 unfold dQ;rw[ab h,aa a]
theorem BJ{r:Nat}{len:Nat->Nat}{M:Nat->Nat->Int}(h:jt r len=true/\r<=8)(b:∀i j,i<r->j<i->M i j=M j i)(a:¬∀q,q<r->0<Go.aW.aO (q+1) M):dQ r len M=5:=by
 unfold dQ;rw[ab h,ab b,aa a]
theorem nq{r:Nat}{len:Nat->Nat}{M:Nat->Nat->Int}(h:jt r len=true/\r<=8)(b:∀i j,i<r->j<i->M i j=M j i)(a:∀q,q<r->0<Go.aW.aO (q+1) M):dQ r len M=0:=by
 unfold dQ;rw[ab h,ab b,ab a]
theorem mf(r:Nat)(len:Nat->Nat)(M:Nat->Nat->Int):dQ r len M<=5:=by
 unfold dQ;split
 ·split
  ·split<;>omega
  ·omega
 ·omega
def Ox(w:World)(r:Nat)(len:Nat->Nat)(M:Nat->Nat->Int)(v:Value)(w':World):Prop:=Ext w w'/\v=.int .i64 ((dQ r len M:Nat):Int)
theorem wS(f:Value)(r N:Nat)(len:Nat->Nat)(M:Nat->Nat->Int)(w:World)(l:cB (EI N) w f r len M)(o:1<=N)(t:N<1048576):
 aT Tryz.prog 122 #[f] w (Ox w r len M):=by
 refine bo (n:=25) Tryz.func122 F rfl az aA ?_;refine gg ?_;refine aJ (mo _ f r len M w l) ?_;rintro _ q ⟨c,rfl⟩;obtain⟨s,i,m⟩:=n5 r len;rw[i];by_cases a:jt r len=true;rotate_left
 ·have i:jt r len=false:=by simpa using a
  rw[i];refine gg ?_;refine bF (v:=.int _ _) F rfl ⟨c,?_⟩;rw[sh (by rw[i];simp)]
 rw[ab a]at m;subst m;obtain⟨m,i,i⟩:=dj.1 a;rw[a];by_cases j:s<=8;rotate_left
 ·refine gg ?_;refine bF (v:=.int _ _) F rfl ⟨c,?_⟩;rw[sh λh=>j h.2]
 have r:=l.sq i;refine gg ?_;refine aJ (zl f s N M q (r.Y c) m aq) ?_;rintro _ p ⟨e,b,rfl,g⟩;cases b
 ·refine gg ?_;refine bF (v:=.int _ _) F rfl ⟨c.trans e,?_⟩;rw[Gn ⟨a,j⟩ (λh=>by cases g.2 h)]
 have d:=g.1 F;refine gg ?_;refine aJ (xe f s N len M p (l.Y (c.trans e)) o t) ?_;rintro _ f ⟨k,b,rfl,g⟩;cases b
 ·refine gg ?_;refine bF (v:=.int _ _) F rfl ⟨c.trans (e.trans k),?_⟩;rw[BJ ⟨a,j⟩ d (λh=>by cases g.2 ⟨a,d,h⟩)]
 refine gg ?_;refine bF (v:=.int _ _) F rfl ⟨c.trans (e.trans k),?_⟩;rw[nq ⟨a,j⟩ d (g.1 F).2.2]
theorem jb(L:Value)(r N:Nat)(len:Nat->Nat)(M:Nat->Nat->Int)(w:World)(P:cB (EI N) w L r len M)(a1:1<=N)(hN:N<1048576):
 aT Tryz.prog 23 #[L] w (Ox w r len M):=by
 refine bo (n:=54) Tryz.func23 F rfl az aA ?_;refine gg ?_;refine aJ (kh _ L r len M w P) ?_;rintro _ _ ⟨rfl,rfl⟩;obtain⟨I,c1,L,K,L⟩:=df r len;rw[K];clear K;rcases L with⟨q,rfl,rfl,rfl⟩|⟨q,rfl,rfl,rfl⟩;rotate_left
 ·refine gg ?_;refine aN ?_;refine gg ?_;refine bF (v:=.int _ _) F rfl ⟨Ext.refl _,?_⟩;rw[sh (λh=>by rw[n9,q]at h;cases h.1)]
 by_cases r:I=len 0;rotate_left
 ·refine gg ?_;refine aN ?_;refine gg ?_;refine bF (v:=.int _ _) F rfl ⟨Ext.refl _,?_⟩;rw[sh (λh=>by rw[n9,q]at h;exact r (by simpa using h.1))]
 have k:jt I len=true:=by rw[n9,q];simpa using r
 obtain⟨r,r,R⟩:=dj.1 k;by_cases J:I<=8;rotate_left
 ·refine gg ?_;refine aN ?_;refine gg ?_;refine bF (v:=.int _ _) F rfl ⟨Ext.refl _,?_⟩;rw[sh λh=>J h.2]
 refine gg ?_;refine aN ?_;refine gg ?_;clear q;obtain⟨n,rfl⟩ : ∃n,n=I:=⟨_,F⟩;have hM:=P.sq R;obtain⟨q,y,rfl,_,_,t⟩:=id hM;obtain⟨Q,_,rfl,_⟩:=t 0 aq;refine aY (λf C=>f 0=.slice (some Q) n y/\f 3=.int .i64 (n:Int)/\Ext w C/\∀a b,a<n->b<a->M a b=M b a) ?_ ?_
 ·refine gg ?_;refine aU (λm f C=>∃i,m=n-i/\i<=n/\f 0=.slice (some Q) n y/\f 3=.int .i64 (n:Int)/\f 25=.int .i64 (n:Int)/\f 26=.int .i64 ((i:Nat):Int)/\Ext w C/\∀a b,a<i->b<a->M a b=M b a)
   n ⟨0,F,aE,F,F,F,F,Ext.refl _,λa b h=>absurd h aq⟩ ?_
  rintro m f T ⟨i,rfl,q,g,d,o,l,B,H⟩;rw[ui g,ui d,ui o,ui l];clear g d o l;by_cases D:i<n
  ·refine gg ?_;refine aU (λm f C=>∃j,m=i-j/\j<=i/\f 0=.slice (some Q) n y/\f 3=.int .i64 (n:Int)/\f 25=.int .i64 (n:Int)/\f 26=.int .i64 (i:Int)/\f 6=.int .i64 (i:Int)/\f 29=.int .i64 (i:Int)/\f 30=.int .i64 ((j:Nat):Int)/\Ext w C/\∀b,b<j->M i b=M b i)
    i ⟨0,F,aE,F,F,F,F,F,F,F,B,λb h=>absurd h aq⟩ ?_
   clear B;rintro m f m ⟨j,rfl,m,g,d,o,l,r,q,m,B,A⟩;rw[ui g,ui d,ui o,ui l,ui r,ui q,ui m];clear g d o l r q m;by_cases W:j<i
   ·refine gg ?_;refine b_ [(0,3),(1,3),(2,3),(3,0),(4,3),(5,3),(6,0),(7,3),(8,3),(9,3),(10,0),(11,3),(12,3),(13,0),(14,1),(15,3)] mixed az λS z _=>?_;obtain⟨l,u1,K,pn,x⟩:=t i D;obtain rfl:=Option.some.inj K;have x:gY (EI N) w u1 n (M i):=x;obtain⟨l,c1,rfl,_,_,Y⟩:=x;obtain⟨l,l,l,rfl,V,U,cQ⟩:=Y j aq;obtain⟨l,u2,e2,z_,u⟩:=t j aq;obtain rfl:=Option.some.inj e2;have u:gY (EI N) w u2 n (M j):=u;obtain⟨l,l,rfl,_,_,X⟩:=u;obtain⟨l,l,l,rfl,m,l,fc⟩:=X i D;have c:=B.trans z;have o:=aP c pn;have o:=aP c z_;have o:=aP c V;have o:=aP c U;have o:=aP c m;have m:=aP c l;refine gg ?_;refine aM (o8 _ _ _ _ _ _ N S (IV.Y cQ c) (IV.Y fc c) aq) ?_;rintro _ l ⟨E,rfl⟩;refine⟨E,?_⟩;by_cases O:M i j=M j i
    ·have hs:e_ (M i j) (M j i)=0:=by rw[O];simp[e_]
     refine gg ?_;refine⟨_,?_,j+1,F,aq,F,F,F,F,F,F,F,c.trans E,λb p=>?_⟩
     ·omega
     ·by_cases e:b=j
      ·subst e;exact O
      ·exact A b aq
    ·have hs:¬e_ (M i j) (M j i)=0:=by
      unfold e_;split
      ·decide
      ·split<;>omega
     refine gg ?_;refine bF (v:=.int _ _) F rfl ⟨c.trans E,?_⟩;rw[Gn ⟨k,J⟩ λh=>O (h i j D W)]
   ·refine gg ?_;refine⟨_,?_,i+1,F,aq,F,F,F,F,B,λa b Z p=>?_⟩
    ·omega
    ·by_cases e:a=i
     ·subst e;exact A b aq
     ·exact H a b aq p
  ·refine gg ?_;exact⟨F,F,B,λa b Z p=>H a b aq p⟩
 rintro f T ⟨g,d,G,s⟩;rw[ui g,ui d];clear g d;refine aN ?_;refine gg ?_;refine aJ (rJ _ n N len M T (P.Y G) a1 hN) ?_;rintro _ S ⟨z,b,rfl,p⟩;rw[vv]at p;cases b
 ·refine gg ?_;refine bF (v:=.int _ _) F rfl ⟨G.trans z,?_⟩;rw[BJ ⟨k,J⟩ s (λh=>by cases p.2 ⟨k,s,h⟩)]
 refine gg ?_;refine bF (v:=.int _ _) F rfl ⟨G.trans z,?_⟩;rw[nq ⟨k,J⟩ s (p.1 F).2.2]
end
end Go.Proofs.Qq
namespace Go.aW
theorem uniq(k:Nat)(P:Mt)(u:Nat->Int)(f:aO k P≠0)(h:∀r,r<k->(sm k λc=>P r c*u c)=0):∀c,c<k->u c=0:=by
 intro c a;cases k with
 |zero=>omega
 |succ m=>
  have d:mul (m+1) (mul (m+1) (fY m P) P) (λq _=>u q) c 0=aO (m+1) P*u c:=by
   simp only[mul];rw[dc (c:=c) a λq b e=>?_]
   ·have:=mM m P c c a a;rw[ab F]at this;simp only[mul]at this;rw[this]
   ·have:=mM m P c q a b;rw[aa (Ne.symm e)]at this;simp only[mul]at this;rw[this,Int.zero_mul]
  rw[mul_assoc]at d;have a:mul (m+1) (fY m P) (mul (m+1) P λq _=>u q) c 0=0:=by
   simp only[mul];exact fK λq b=>by rw[h q b,Int.mul_zero]
  rw[a]at d;rcases Int.mul_eq_zero.1 d.symm with h|h
  ·exact absurd h f
  ·exact h
def sw(k p i:Nat):Nat:=if i=k then p else if i=p then k else i
theorem jq(k p:Nat)(A:Mt)(i:Nat):ov k p A i=A (sw k p i):=by
 unfold ov sw;split
 ·rfl
 ·split<;>rfl
theorem lG{n k p i:Nat}(b:k<n)(a:p<n)(c:i<n):sw k p i<n:=by unfold sw;split;exact a;split;exact b;exact c
theorem sv{k p i:Nat}(a:k<=p)(a:i<k):sw k p i=i:=by unfold sw;rw[aa (by omega),aa (by omega)]
theorem NQ{k p i:Nat}(a:k<=p)(b:k<=i):k<=sw k p i:=by unfold sw;split;exact a;split;exact Nat.le_refl _;exact b
theorem su(k p i:Nat):sw k p (sw k p i)=i:=by
 unfold sw;by_cases b:i=k
 ·rw[ab b];by_cases a:p=k
  ·rw[ab a];omega
  ·rw[aa a,ab F];exact b.symm
 ·rw[aa b];by_cases a:i=p
  ·rw[ab a,ab F];exact a.symm
  ·rw[aa a,aa b,aa a]
def PR(n:Nat)(P M:Mt)(s:Int):Prop:=(s=1\/s=-1)/\∀T:(Nat->Int)->Nat->Int,aO n (λr=>T (P r))=s*aO n (λr=>T (M r))
theorem PR.aO{n:Nat}{P M:Mt}{s:Int}(h:PR n P M s):Go.aW.aO n P=s*Go.aW.aO n M:=h.2 λr=>r
end Go.aW
namespace Go.Proofs.Qq
section
open Go Go.cW Go.c7 Go.Proofs
theorem uS{l:List Nat}{k:Nat}(d:dz l)(h:val l<B^k):l.length<=k:=by
 rcases Nat.lt_or_ge k l.length with c|c
 ·exfalso;have b:l≠[]:=by rintro rfl;simp at c
  have a:=kQ b d;have b:B^k<=B^(l.length-1):=Nat.pow_le_pow_right aw aq;omega
 ·exact c
theorem qJ{l:List Nat}(c:dz l)(h:0<l.length):0<val l:=by
 have b:l≠[]:=by rintro rfl;simp at h
 have a:=kQ b c;have b:0<B^(l.length-1):=Nat.pow_pos aw;omega
theorem Fp(v1 V:Value)(P O N:Nat)(w:World)(h1:jX w v1 P)(T:jX w V O)(E:P<B^N)(y:O<B^N)(W:N<1099511627776):
 aT Tryz.prog 111 #[v1,V] w λv d=>Ext w d/\jX d v (Nat.gcd P O):=by
 obtain⟨o,b,l,rfl,L,K,c,s,rfl⟩:=h1;obtain⟨h,a,g,rfl,D,C,e,p,rfl⟩:=T;refine bo (n:=42) Tryz.func111 F rfl az aA ?_;obtain⟨G,k⟩ : ∃G,G=Nat.gcd (val b) (val a):=⟨_,F⟩;rw[<-k];refine gg ?_;refine aY (λf d=>∃o b l h a g,f 0=.slice o b.length l/\f 1=.slice h a.length g/\Ext w d/\fM d o b/\fM d h a/\b.length<=2/\a.length<=2/\G=Nat.gcd (val b) (val a)) ?_ ?_
 ·refine gg ?_;refine aU (λm f d=>∃o b l h a g,m=val a/\f 0=.slice o b.length l/\f 1=.slice h a.length g/\Ext w d/\fM d o b/\fM d h a/\dz b/\dz a/\val b<B^N/\val a<B^N/\b.length<=l/\a.length<=g/\l<9223372036854775808/\g<9223372036854775808/\G=Nat.gcd (val b) (val a))
   (val a) ⟨o,b,l,h,a,g,F,F,F,Ext.refl _,c,e,s,p,E,y,L,D,K,C,k⟩ ?_
  clear k c e s p E y L D K C o b l h a g;rintro m f z ⟨o,b,l,h,a,g,rfl,j,i,u,c,e,s,p,E,y,L,D,K,C,k⟩;rw[ui j,ui i];clear j i;have I:=uS s E;have H:=uS p y;refine aY (λf d=>f 0=.slice o b.length l/\f 1=.slice h a.length g/\d=z/\(2<b.length\/2<a.length)) ?_ ?_
  ·refine aN ?_;by_cases h1:2<b.length
   ·refine gg ?_;exact⟨F,F,F,.inl h1⟩
   ·by_cases T:2<a.length
    ·refine gg ?_;exact⟨F,F,F,.inr T⟩
    ·refine gg ?_;exact⟨o,b,l,h,a,g,F,F,u,c,e,aq,aq,k⟩
  rintro f z ⟨j,i,rfl,E⟩;rw[ui j,ui i];clear j i;by_cases U:a.length=0
  ·refine gg ?_;refine aN ?_;refine aN ?_;refine gg ?_;refine aJ (l8 _ _ _ _ z c F aq c.lS) ?_;rintro v M ⟨t,S⟩;refine gg ?_;refine bF (v:=v) F rfl ⟨u.trans t,?_⟩;rw[k,List.eq_nil_of_length_eq_zero U];simp only[val,Nat.gcd_zero_right];exact mz c.fD s F S
  ·have E:=qJ p aq;refine gg ?_;refine aN ?_;refine aN ?_;refine gg ?_;refine aJ (vJ _ _ _ _ _ _ b a z c e F rfl aq aq s p E) ?_;rintro _ M ⟨q,r,rfl,t,s,V,K,c3,rfl,P,O,T,L,s⟩;have J:=Nat.mod_lt (val b) E;refine gg ?_;refine⟨val K,by rw[s];exact J,h,a,g,V,K,c3,F,F,F,u.trans t,e.Y t,T,p,L,y,aq,D,P,C,O,?_⟩;rw[k,s,Nat.gcd_comm (val b),Nat.gcd_rec,Nat.gcd_comm]
 rintro f z ⟨o,b,l,h,a,g,j,i,u,c,e,I,H,k⟩;rw[ui j,ui i];clear j i;refine gg ?_;refine aJ (mc _ _ _ b z c F I) ?_;rintro _ _ ⟨rfl,rfl⟩;refine gg ?_;refine aJ (mc _ _ _ a z e F H) ?_;rintro _ _ ⟨rfl,rfl⟩;have R:=rY c.fD I;have Q:=rY e.fD H;refine gg ?_;refine aY (λf d=>Ext w d/\f 7=.int .u64 (G:Int)/\G<18446744073709551616) ?_ ?_
 ·refine gg ?_;refine aU (λm f d=>∃x y,m=y/\f 7=.int .u64 ((x:Nat):Int)/\f 8=.int .u64 ((y:Nat):Int)/\Ext w d/\x<18446744073709551616/\y<18446744073709551616/\G=Nat.gcd x y)
   (val a) ⟨val b,val a,F,F,F,u,R,Q,k⟩ ?_
  clear u;rintro m f M ⟨x,y,rfl,A,a,u,R,Q,k⟩;rw[ui A,ui a];clear A a;refine aN ?_;by_cases U:m=0
  ·obtain rfl:G=x:=by rw[k,U,Nat.gcd_zero_right]
   refine gg ?_;exact⟨u,F,R⟩
  ·refine gg ?_;refine cP [(0,3),(1,3),(2,3),(3,3),(4,3),(5,3)] mixed az λc a _=>?_;refine gg ?_;refine kJ F rfl aq ?_;have J:=Nat.mod_lt x (show 0<m by omega);refine gg ?_;refine⟨x%m,J,m,x%m,F,F,F,u.trans a,Q,aq,?_⟩;rw[k,Nat.gcd_comm x,Nat.gcd_rec,Nat.gcd_comm]
 rintro f M ⟨t,A,b⟩;rw[ui A];refine gg ?_;refine aJ (ix G M b) ?_;rintro v c ⟨a,S⟩;refine gg ?_;exact bF (v:=v) F rfl ⟨t.trans a,S⟩
theorem MI(D B C A:Value)(c a:Int)(N:Nat)(w:World)(h1:IV w N D B c)(E:IV w N C A a)(I:N<1099511627776):
 aT Tryz.prog 48 #[.agg #[D,B],.agg #[C,A]] w (RI w ((Int.gcd c a:Nat):Int)):=by
 have z:=h1.bd;have y:=E.bd;obtain⟨r,a,g,a,rfl,rfl,k,i,m,a,rfl⟩:=h1;obtain⟨q,a,f,a,rfl,rfl,j,d,l,a,rfl⟩:=E;refine bo (n:=13) Tryz.func48 F rfl az aA ?_;refine gg ?_;refine bO (v:=.agg _) (.inl F) F ?_;intro a C o a;refine gg ?_;refine bO (v:=.agg _) (.inl F) F ?_;intro a B e a;refine gg ?_;refine aS (.inl F) a_ ?_;intro a A c a;refine gg ?_;refine b_ [(0,3),(1,0),(3,3),(4,0),(2,1),(5,1),(6,1),(7,1),(8,2)] mixed az λp a _=>?_;have h:=A.Y a;have A:=fG (C.Y ((e.trans c).trans a));have A:=fG (B.Y (c.trans a));have b:=((o.trans e).trans c).trans a;refine gg ?_;refine aM (dA _ _ _ _ p (m.Y b) F k i) ?_;rintro _ _ ⟨rfl,m1,H,rfl,x,t⟩;refine⟨Ext.refl _,?_⟩;refine gg ?_;refine aM (dA _ _ _ _ p (l.Y b) F j d) ?_;rintro _ _ ⟨rfl,m2,G,rfl,u,s⟩;refine⟨Ext.refl _,?_⟩;have K:(sg r (val g)).natAbs=val g:=by cases r<;>simp[sg]
 have J:(sg q (val f)).natAbs=val f:=by cases q<;>simp[sg]
 refine gg ?_;refine aM (Fp _ _ (val g) (val f) N p (iA (m.Y b) H k i x t F) (iA (l.Y b) G j d u s F) (by unfold Bd at z;omega) (by unfold Bd at y;omega) I) ?_;rintro v a ⟨d,c⟩;refine⟨d,?_⟩;refine gg ?_;refine aM (fa false v _ a c) ?_;rintro _ a ⟨a,c,c,rfl,c⟩;refine⟨a,?_⟩;refine gg ?_;refine aZ aQ (.inl F) F rfl c.ep c.eN (h.Y (d.trans a)) aw ?_;intro l k i j;refine gg ?_;have j:Ext w l:=i.aK ((b.trans d).trans a) (λb b=>by have:=o.size;have:=e.size;omega);have e:sg false (Nat.gcd (val g) (val f))=((Int.gcd (sg r (val g)) (sg q (val f)):Nat):Int):=by
  unfold Int.gcd;rw[K,J];rfl
 rw[e]at c;exact eZ F aQ F k ⟨j,_,_,F,c.dT (h.Y (d.trans a)) dn i⟩
section
variable {P:Program}{n:Nat}{S:World->World->Prop}{k:Nat}{K:Fr->World->Prop}{f:Fr}{w:World}{d ty t t2:Nat}{x y:Operand}{pos:String}{aft:Array Edge}{gd:Option (Nat×Bool)}
theorem oH(b:eP P t 4=true){p:Addr}{v0 v1 a v3:Value}(g:w.cell? p=some v0)(h1:w.cell? (p.add 1)=some v1)(e:w.cell? (p.add 2)=some a)(c:w.cell? (p.add 3)=some v3):(Instr.loadAt t (.pointer (some p))).run P w=.ok (.agg #[v0,v1,a,v3]) w:=by
 simp[Instr.loadAt,Instr.sureAddr,loadVar,iN b,eu b,loadCells,loadCellsFrom,load,Sem.run,g,h1,e,c,add_zero]
theorem q_(i:k≠3)(e:eP P t 4=true){p:Addr}{v0 v1 a v3:Value}(b:ev n f x=.pointer (some p))(l:w.cell? p=some v0)(h1:w.cell? (p.add 1)=some v1)(j:w.cell? (p.add 2)=some a)(g:w.cell? (p.add 3)=some v3)(h:K (cg f d (.agg #[v0,v1,a,v3])) w):
 R1 P n (λ_ _=>False) k ⟨some d,.load t x,ty,pos,aft,gd⟩ K f w:=by
 refine iD i (v:=.agg #[v0,v1,a,v3]) (λa c=>?_) h;obtain rfl:=c.resolve_left id;simp only[execOp,b,Sem.run_bind,oH e l h1 j g,Result.andThen_ok,Sem.run_pure]
theorem jh(b:k≠3)(m:eP P t 4=true){p:Addr}{v0 v1 c v3:Value}(l:ev n f x=.pointer (some p))(j:w.cell? p=some v0)(h1:w.cell? (p.add 1)=some v1)(i:w.cell? (p.add 2)=some c)(g:w.cell? (p.add 3)=some v3)(h:K (cg f d (.agg #[v0,v1,c,v3])) w):
 R1 P n Ext k ⟨some d,.load t x,ty,pos,aft,gd⟩ K f w:=by
 refine iD b (v:=.agg #[v0,v1,c,v3]) (λb a=>?_) h;have e:b.cell? p=some v0/\b.cell? (p.add 1)=some v1/\b.cell? (p.add 2)=some c/\b.cell? (p.add 3)=some v3:=by
  rcases a with a|rfl
  ·exact⟨aP a j,aP a h1,aP a i,aP a g⟩
  ·exact⟨j,h1,i,g⟩
 simp only[execOp,l,Sem.run_bind,oH m e.1 e.2.1 e.2.2.1 e.2.2.2,Result.andThen_ok,Sem.run_pure]
theorem sH(s:eP P t 4=true){g i:Nat}{T:TypeId}{cs:Array Value}{v0 v1 a v3:Value}(r:v0.oneCell'=true)(q:v1.oneCell'=true)(p:a.oneCell'=true)(o:v3.oneCell'=true)(h:bg w g T cs)(b:i+3<cs.size):
 (Instr.storeAt t (.pointer (some ⟨g,i,none⟩)) (.agg #[v0,v1,a,v3])).run P w=.ok () ((((w.setCell ⟨g,i,none⟩ v0).setCell ⟨g,i+1,none⟩ v1).setCell ⟨g,i+2,none⟩ a).setCell ⟨g,i+3,none⟩ v3):=by
 have u:w.cell? ⟨g,i,none⟩=some cs[i]:=by rw[h.cell];simp
 have c:=h.set i v0;have m:(w.setCell ⟨g,i,none⟩ v0).cell? ⟨g,i+1,none⟩=some cs[i+1]:=by rw[c.cell];simp[show i+1<cs.size by omega]
 have b:=c.set (i+1) v1;have l:((w.setCell ⟨g,i,none⟩ v0).setCell ⟨g,i+1,none⟩ v1).cell? ⟨g,i+2,none⟩=some cs[i+2]:=by rw[b.cell];simp[show i+2<cs.size by omega]
 have e:=b.set (i+2) a;have j:(((w.setCell ⟨g,i,none⟩ v0).setCell ⟨g,i+1,none⟩ v1).setCell ⟨g,i+2,none⟩ a).cell? ⟨g,i+3,none⟩=some cs[i+3]:=by rw[e.cell];simp[show i+3<cs.size by omega]
 simp[Instr.storeAt,Instr.sureAddr,storeVar,eu s,Value.cells,storeCells,ir r u (h.frozen i),add_zero,add_lit,ir q m (c.frozen (i+1)),ir p l (b.frozen (i+2)),ir o j (e.frozen (i+3))]
theorem FU(r:eP P t 4=true){g i:Nat}{T:TypeId}{cs:Array Value}{v0 v1 a v3:Value}(u:k=2\/k=1/\∀w',Ch (λb=>b=g) w w'->S w w')(q:ev n f x=.pointer (some ⟨g,i,none⟩))(p:ev n f y=.agg #[v0,v1,a,v3])(o:v0.oneCell'=true)(m:v1.oneCell'=true)(l:a.oneCell'=true)(j:v3.oneCell'=true)(e:bg w g T cs)(s:i+3<cs.size)
 (h:∀w',bg w' g T ((((cs.setIfInBounds i v0).setIfInBounds (i+1) v1).setIfInBounds (i+2) a).setIfInBounds (i+3) v3)->Ch (λb=>b=g) w w'->w'.heap.size=w.heap.size->K f w'):
 R1 P n S k ⟨none,.store t x y,ty,pos,aft,gd⟩ K f w:=by
 have c:Ch (λb=>b=g) w ((((w.setCell ⟨g,i,none⟩ v0).setCell ⟨g,i+1,none⟩ v1).setCell ⟨g,i+2,none⟩ a).setCell ⟨g,i+3,none⟩ v3):=(((fF w ⟨g,i,none⟩ v0).trans (fF _ ⟨g,i+1,none⟩ v1)).trans (fF _ ⟨g,i+2,none⟩ a)).trans (fF _ ⟨g,i+3,none⟩ v3);refine qB (w':=(((w.setCell ⟨g,i,none⟩ v0).setCell ⟨g,i+1,none⟩ v1).setCell ⟨g,i+2,none⟩ a).setCell ⟨g,i+3,none⟩ v3) (u.imp id λh=>⟨h.1,h.2 _ c⟩) rfl ?_ (h _ ((((e.set i v0).set (i+1) v1).set (i+2) a).set (i+3) v3) c (by simp only[size_setCell]));simp only[execOp,q,p,Sem.run_bind,sH r o m l j e s,Result.andThen_ok,Sem.run_pure]
end
theorem Bd.O2{N:Nat}{z:Int}(h:Bd N z):Bd N (-z):=by unfold Bd at *;rw[Int.natAbs_neg];exact h
end
section
open Go Go.cW Go.c7 Go.Proofs
open Go.aW (sw ov jq su lG)
section
variable {w w':World}{gO gE r c N:Nat}{ps:Nat->Nat}{cn:Bool}{M:Nat->Nat->Int}
theorem ij.swap{k p:Nat}(h:ij w gO gE ps r c cn N M)(g:k<r)(f:p<r)(o:Ch (λb=>b=gO) w w')(n:Kp w w')
 (b:bg w' gO 49 (arr r (cg (cg (λi=>.slice (some ⟨gE,0+ps i*c*2,none⟩) c c) k (.slice (some ⟨gE,0+ps p*c*2,none⟩) c c)) p (.slice (some ⟨gE,0+ps k*c*2,none⟩) c c)))):
 ij w' gO gE (λi=>ps (sw k p i)) r c cn N (ov k p M):=by
 refine⟨?_,?_,h.ne,λi d=>h.lt _ (lG g f d),λi j d l e=>?_⟩
 ·rw[dO (h':=λi=>.slice (some ⟨gE,0+ps (sw k p i)*c*2,none⟩) c c)]at b
  ·exact b
  ·intro i _;unfold sw;by_cases m:i=p
   ·subst m;rw[ct];by_cases a:i=k
    ·rw[ab a,a]
    ·rw[aa a,ab F]
   ·rw[b9 _ _ m];by_cases a:i=k
    ·subst a;rw[ct,ab F]
    ·rw[b9 _ _ a,aa a,aa m]
 ·obtain⟨aI,b,a⟩:=h.flat;refine⟨aI,b.kp n o h.ne,λi j d l=>?_⟩;rw[jq];exact a _ j (lG g f d) l
 ·have:=h.inj _ _ (lG g f d) (lG g f l) e;rw[<-su k p i,this,su]
end
end
section
open Go Go.cW Go.c7 Go.Proofs
open Go.aW (sw ov jq su lG PR)
section
variable {w w':World}{gO gE r c N i j:Nat}{ps:Nat->Nat}{cn:Bool}{M:Nat->Nat->Int}{z:Int}
theorem ij.put{aI:Nat->Int}(h:ij w gO gE ps r c cn N M)(o:i<r)(m:j<c)(p:∀i j,i<r->j<c->aI (ps i*c+j)=M i j)(a:di w' gE (r*c) cn (λ_=>N) (ef aI (ps i*c+j) z))(e:Ch (λb=>b=gE) w w'):ij w' gO gE ps r c cn N (cV M i j z):=by
 refine⟨h.outer.ch e h.ne.symm,⟨_,a,λa b l g=>?_⟩,h.ne,h.lt,h.inj⟩;simp only[ef,cV];by_cases e:ps a*c+b=ps i*c+j
 ·obtain⟨s,q⟩:=D4 g m e;rw[ab e,ab ⟨h.inj a i l o s,q⟩]
 ·rw[aa e,aa λq=>e (by rw[q.1,q.2])];exact p a b l g
end
section
variable {n:Nat}{S:World->World->Prop}{k:Nat}{K:Fr->World->Prop}{f:Fr}{w:World}{d ty t t2:Nat}{x y:Operand}{pos:String}{aft:Array Edge}{gd:Option (Nat×Bool)}
theorem FT{gO gE r c N i j:Nat}{ps:Nat->Nat}{cn:Bool}{M:Nat->Nat->Int}{z:Int}{a b:Value}(u:k=2\/k=1/\∀w',Ch (λb=>b=gE) w w'->S w w')(p:ev n f x=.pointer (some ⟨gE,0+ps i*c*2+j*2,none⟩))(m:ev n f y=.agg #[a,b])(e:ij w gO gE ps r c cn N M)(l:i<r)(g:j<c)(q:EV w N cn a b z)
 (h:∀w',ij w' gO gE ps r c cn N (cV M i j z)->Ch (λb=>b=gE) w w'->Kp w w'->w'.heap.size=w.heap.size->K f w'):
 R1 Tryz.prog n S k ⟨none,.store 44 x y,ty,pos,aft,gd⟩ K f w:=by
 obtain⟨aI,s,o⟩:=id e.flat;refine ot u p m s (Cr (e.lt i l) g) q ?_;intro w' q m s p;exact h w' (e.put l g o q m) m s p
end
end
end Go.Proofs.Qq
namespace Go.aW
theorem H4{m k:Nat}{Q:Mt}{j:Nat}(a:aO k Q≠0)(h:∀i,k<=i->i<m->bm k Q i j=0):∃y:Nat->Int,∀i,i<m->aO k Q*Q i j=sm k λt=>Q i t*y t:=by
 have b:aO k (tr Q)≠0:=by rw[cY];exact a
 obtain⟨x,a⟩:=solve k (tr Q) (tr Q j);have d:=tA b a;refine⟨λt=>- x t,λi c=>?_⟩;have e:aO k (tr Q)*tr Q j i+(sm k λr=>x r*tr Q r i)=0:=by
  by_cases b:i<k
  ·exact a i b
  ·rw[<-d i,qp];exact h i aq c
 rw[cY]at e;have a:(sm k λt=>Q i t*- x t)=- sm k λr=>x r*tr Q r i:=by
  rw[show-(sm k λr=>x r*tr Q r i)=(-1)*sm k λr=>x r*tr Q r i by omega,<-dL];exact aR λt _=>by simp only[tr];grind
 rw[a];have a:tr Q j i=Q i j:=F;rw[a]at e;omega
def Bw(m n:Nat)(A:Mt)(r:Nat):Prop:=∃d:Int,d≠0/\∃U V:Mt,∀i j,i<m->j<n->d*A i j=sm r λt=>U i t*V t j
def Hi(m n:Nat)(A:Mt)(r:Nat):Prop:=∃I J:Nat->Nat,(∀t,t<r->I t<m/\J t<n)/\aO r (λa b=>A (I a) (J b))≠0
def Rk(m n:Nat)(A:Mt)(r:Nat):Prop:=Hi m n A r/\Bw m n A r
theorem L9{r s:Nat}{f:Nat->Int}(h:r<=s):(sm s λt=>if t<r then f t else 0)=sm r f:=by
 induction s with
 |zero=>
  have:r=0:=aq;subst this;rfl
 |succ s a=>
  by_cases e:r=s+1
  ·subst e;exact aR λt b=>ab b
  ·simp only[sm];rw[a aq,aa aq];omega
theorem AH:∀(n:Nat) (A:Mt) (d:Int),aO n (λi j=>d*A i j)=d^n*aO n A
 |0,_,_=>by simp[aO]
 |n+1,A,d=>by
  simp only[aO];rw[<-dL];refine aR λj _=>?_;have:minor (λi j=>d*A i j) 0 j=λi c=>d*minor A 0 j i c:=F;rw[this,AH n];rw[Int.pow_succ];grind
theorem Bw.le{m n r s:Nat}{A:Mt}(h:Bw m n A r)(a:Hi m n A s):s<=r:=by
 obtain⟨d,f,U,V,h⟩:=h;obtain⟨I,J,c,b⟩:=a;by_cases e:s<=r
 ·exact e
 exfalso;apply b;have e:aO s (λa b=>d*A (I a) (J b))=aO s (mul s (λa t=>if t<r then U (I a) t else 0) λt b=>V t (J b)):=by
  refine bk λa b i g=>?_;rw[h (I a) (J b) (c a i).1 (c b g).2];simp only[mul];rw[<-L9 (s:=s) aq];exact aR λt _=>by split<;>simp
 have g:aO s (λa t=>if t<r then U (I a) t else 0)=0:=by
  rw[<-cY];have:=(eF s).zero (tr λa t=>if t<r then U (I a) t else 0) (s-1) (λ_=>0) aq λ_ _=>rfl;refine Eq.trans (bk λi j c c=>?_) this;simp only[cj,tr];by_cases c:i=s-1
  ·rw[ab c,aa aq]
  ·rw[aa c]
 rw[iU,g,Int.zero_mul,AH s (λa b=>A (I a) (J b)) d]at e;rcases Int.mul_eq_zero.1 e with h|h
 ·exact absurd h (Int.pow_ne_zero f)
 ·exact h
theorem Rk.unique{m n r s:Nat}{A:Mt}(h:Rk m n A r)(h':Rk m n A s):r=s:=Nat.le_antisymm (h'.2.le h.1) (h.2.le h'.1)
theorem Hi.tr{m n r:Nat}{A:Mt}(h:Hi m n A r):Hi n m (tr A) r:=by
 obtain⟨I,J,c,b⟩:=h;refine⟨J,I,λt a=>⟨(c t a).2,(c t a).1⟩,?_⟩;rw[<-cY]at b;exact b
theorem Bw.tr{m n r:Nat}{A:Mt}(h:Bw m n A r):Bw n m (tr A) r:=by
 obtain⟨d,a,U,V,h⟩:=h;refine⟨d,a,λj t=>V t j,λt i=>U i t,λj i a b=>?_⟩;rw[show Go.aW.tr A j i=A i j from F,h i j b a];exact aR λt _=>Int.mul_comm _ _
theorem Rk.tr{m n r:Nat}{A:Mt}(h:Rk m n A r):Rk n m (tr A) r:=⟨h.1.tr,h.2.tr⟩
theorem Bw.mul{m n q r:Nat}{A C:Mt}(h:Bw m n A r):Bw m q (Go.aW.mul n A C) r:=by
 obtain⟨d,a,U,V,h⟩:=h;refine⟨d,a,U,Go.aW.mul n V C,λi j b a=>?_⟩;show d*Go.aW.mul n A C i j=Go.aW.mul r U (Go.aW.mul n V C) i j;rw[<-mul_assoc];simp only[Go.aW.mul];rw[<-dL];exact aR λt a=>by rw[<-Int.mul_assoc,h i t b a]
theorem Bw.FH(m n:Nat)(A:Mt):Bw m n A n:=⟨1,by decide,A,one,λi j _ a=>by
 rw[Int.one_mul];exact(mul_one n A i j a).symm⟩
theorem Bw.rows(m n:Nat)(A:Mt):Bw m n A m:=(Bw.FH n m (Go.aW.tr A)).tr
theorem Hg{m n r:Nat}{A U:Mt}:(∀j,j<n->∃d:Int,d≠0/\∃y:Nat->Int,∀i,i<m->d*A i j=sm r λt=>U i t*y t)->Bw m n A r:=by
 intro h;suffices H:∀q,q<=n->∃d:Int,d≠0/\∃V:Mt,∀i j,i<m->j<q->d*A i j=sm r λt=>U i t*V t j by
  obtain⟨d,b,V,c⟩:=H n aD;exact⟨d,b,U,V,c⟩
 intro q;induction q with
 |zero=>exact λ_=>⟨1,aw,λ_ _=>0,λi j _ o=>aq⟩
 |succ q k=>
  intro f;obtain⟨d,b,V,c⟩:=k aq;obtain⟨e,f,y,l⟩:=h q aq;refine⟨d*e,Int.mul_ne_zero b f,λt j=>if j=q then d*y t else e*V t j,λi j g o=>?_⟩;by_cases a:j=q
  ·subst a;rw[Int.mul_assoc,l i g,<-dL];exact aR λt _=>by simp only[if_true];grind
  ·rw[show d*e*A i j=e*(d*A i j) by grind,c i j g aq,<-dL];exact aR λt _=>by simp only[aa a];grind
def qP(P:Mt)(cs:Nat->Nat)(k j:Nat):Mt:=λr t=>P r (if t<k then cs t else if t=k then j else t-(k+1))
def AV(k:Nat)(P:Mt)(cs:Nat->Nat)(i j:Nat):Int:=aO (k+1) λr t=>P (if r<k then r else i) (if t<k then cs t else j)
def HV(k:Nat)(P:Mt)(cs:Nat->Nat):Int:=aO k λr t=>P r (cs t)
theorem pN(k j:Nat)(P:Mt)(cs:Nat->Nat):aO k (qP P cs k j)=HV k P cs:=bk λr t _ a=>by simp only[qP];rw[ab a]
theorem wR(k j i:Nat)(P:Mt)(cs:Nat->Nat):bm k (qP P cs k j) i k=AV k P cs i j:=by
 unfold bm AV;refine bk λr t _ a=>?_;simp only[qP];by_cases h:t<k
 ·rw[ab h,ab h,ab h]
 ·rw[aa h,aa h,aa (Nat.lt_irrefl k),ab F]
theorem zc(k j i c:Nat)(P:Mt)(cs:Nat->Nat):bm k (qP P cs k j) i (k+1+c)=AV k P cs i c:=by
 unfold bm AV;refine bk λr t _ a=>?_;simp only[qP];by_cases h:t<k
 ·rw[ab h,ab h,ab h]
 ·rw[aa h,aa h,aa (show¬k+1+c<k by omega),aa (show¬k+1+c=k by omega),show k+1+c-(k+1)=c by omega]
theorem GL(k j i c:Nat)(P:Mt)(cs:Nat->Nat):bm (k+1) (qP P cs k j) i (k+1+c)=AV (k+1) P (λt=>if t=k then j else cs t) i c:=by
 unfold bm AV;refine bk λr t _ b=>?_;simp only[qP];by_cases h:t<k
 ·rw[ab (show t<k+1 by omega),ab h,ab (show t<k+1 by omega),aa (show¬t=k by omega)]
 ·by_cases a:t=k
  ·subst a;rw[ab (show t<t+1 by omega),aa (Nat.lt_irrefl t),ab F,ab (show t<t+1 by omega),ab F]
  ·rw[aa (show¬t<k+1 by omega),aa (show¬k+1+c<k by omega),aa (show¬k+1+c=k by omega),aa (show¬t<k+1 by omega),show k+1+c-(k+1)=c by omega]
theorem Ir(k:Nat)(P:Mt)(cs:Nat->Nat)(i j c:Nat)(a:HV k P cs≠0):
 HV k P cs*AV (k+1) P (λt=>if t=k then j else cs t) i c=AV k P cs k j*AV k P cs i c-AV k P cs i j*AV k P cs k c:=by
 have h:=fv k (qP P cs k j) i (k+1+c) (by rw[pN];exact a);rw[pN,GL,wR,wR,zc,zc]at h;exact h
theorem HU(k:Nat)(P:Mt)(cs:Nat->Nat)(j:Nat):HV (k+1) P (λt=>if t=k then j else cs t)=AV k P cs k j:=by
 unfold HV AV;refine bk λr t a a=>?_;have a:(if r<k then r else k)=r:=by split<;>omega
 rw[a];show P r (if t=k then j else cs t)=_;by_cases h:t<k
 ·rw[aa (show¬t=k by omega),ab h]
 ·rw[ab (show t=k by omega),aa h]
theorem KA{m k:Nat}{P:Mt}{cs:Nat->Nat}{j:Nat}(b:HV k P cs≠0)(h:∀i,k<=i->i<m->AV k P cs i j=0):∃y:Nat->Int,∀i,i<m->HV k P cs*P i j=sm k λt=>P i (cs t)*y t:=by
 obtain⟨y,a⟩:=H4 (m:=m) (k:=k) (Q:=qP P cs k j) (j:=k) (by rw[pN];exact b) (λi c b=>by rw[wR];exact h i c b);refine⟨y,λi b=>?_⟩;have e:=a i b;rw[pN]at e;rw[show qP P cs k j i k=P i j by simp only[qP];rw[aa (Nat.lt_irrefl k),ab trivial]]at e;rw[e];exact aR λt a=>by simp only[qP];rw[ab a]
structure RI(m n j k:Nat)(A W:Mt)(l:Int)(p cs:Nat->Nat):Prop where
 BD:∀i c,k<=i->i<m->j<=c->c<n->W i c=AV k (λr=>A (p r)) cs i c
 eq:l=HV k (λr=>A (p r)) cs
 ne:l≠0
 km:k<=m
 kj:k<=j
 lt:∀i,i<m->p i<m
 oz:∀i,i<m->∃r,r<m/\p r=i
 cl:∀t,t<k->cs t<n
 rel:∀c,c<j->∃d:Int,d≠0/\∃y:Nat->Int,∀i,i<m->d*A (p i) c=sm k λt=>A (p i) (cs t)*y t
theorem RI.start(m n:Nat)(A:Mt):RI m n 0 0 A A 1 id id where
 BD:=λi c _ _ _ _=>by simp[AV,aO,sm,jl]
 eq:=F
 ne:=aw
 km:=Nat.zero_le _
 kj:=Nat.zero_le _
 lt:=λ_ h=>h
 oz:=λi h=>⟨i,h,rfl⟩
 cl:=λ_ h=>absurd h (Nat.not_lt_zero _)
 rel:=λ_ h=>absurd h (Nat.not_lt_zero _)
theorem RI.none{m n j k:Nat}{A W:Mt}{l:Int}{p cs:Nat->Nat}(h:RI m n j k A W l p cs)(g:j<n)(f:∀i,k<=i->i<m->W i j=0):RI m n (j+1) k A W l p cs where
 BD:=λi c b a d d=>h.BD i c b a aq d
 eq:=h.eq
 ne:=h.ne
 km:=h.km
 kj:=Nat.le_succ_of_le h.kj
 lt:=h.lt
 oz:=h.oz
 cl:=h.cl
 rel:=λc d=>by
  by_cases e:c<j
  ·exact h.rel c e
  ·have:c=j:=aq;subst this;have d:HV k (λr=>A (p r)) cs≠0:=by rw[<-h.eq];exact h.ne
   obtain⟨y,e⟩:=KA (m:=m) (j:=c) d (λi b a=>by rw[<-h.BD i c b a aD g];exact f i b a);exact⟨_,d,y,e⟩
theorem RI.swap{m n j k q:Nat}{A W:Mt}{l:Int}{p cs:Nat->Nat}(h:RI m n j k A W l p cs)(a:k<=q)(f:q<m):RI m n j k A (ov k q W) l (λr=>p (sw k q r)) cs where
 BD:=λi c g e d b=>by
  rw[jq,h.BD (sw k q i) c (NQ a g) (lG aq f e) d b];unfold AV;refine bk λr t b d=>?_;by_cases e:r<k
  ·rw[ab e,ab e];show A (p r) _=A (p (sw k q r)) _;rw[sv a e]
  ·rw[aa e,aa e]
 eq:=by
  rw[h.eq];unfold HV;refine bk λr t b d=>?_;show A (p r) _=A (p (sw k q r)) _;rw[sv a b]
 ne:=h.ne
 km:=h.km
 kj:=h.kj
 lt:=λi a=>h.lt _ (lG aq f a)
 oz:=λi a=>by
  obtain⟨r,b,e⟩:=h.oz i a;exact⟨sw k q r,lG aq f b,by rw[su];exact e⟩
 cl:=h.cl
 rel:=λc g=>by
  obtain⟨d,e,y,b⟩:=h.rel c g;exact⟨d,e,y,λi a=>b _ (lG aq f a)⟩
theorem RI.step{m n j k:Nat}{A W W':Mt}{l:Int}{p cs:Nat->Nat}(h:RI m n j k A W l p cs)(b:j<n)(a:k<m)(q:W k j≠0)
 (s:∀i c,k<i->i<m->j<c->c<n->W' i c=(W k j*W i c-W i j*W k c)/l):
 RI m n (j+1) (k+1) A W' (W k j) p (λt=>if t=k then j else cs t) where
 BD:=λi c u f d e=>by
  have d:HV k (λr=>A (p r)) cs≠0:=by rw[<-h.eq];exact h.ne
  rw[s i c u f aq e,h.BD k j aD a aD b,h.BD i c aq f aq e,h.BD i j aq f aD b,h.BD k c aD a aq e,h.eq];rw[<-Ir k _ cs i j c d,Int.mul_ediv_cancel_left _ d]
 eq:=by rw[HU,h.BD k j aD a aD b]
 ne:=q
 km:=a
 kj:=Nat.succ_le_succ h.kj
 lt:=h.lt
 oz:=h.oz
 cl:=λt g=>by
  show(if t=k then j else cs t)<n;split
  ·exact b
  ·exact h.cl t aq
 rel:=λc a=>by
  by_cases e:c<j
  ·obtain⟨d,b,y,a⟩:=h.rel c e;refine⟨d,b,λt=>if t=k then 0 else y t,λi o=>?_⟩;rw[a i o];simp only[sm];rw[ab trivial,ab trivial,Int.mul_zero,Int.add_zero];exact aR λt g=>by rw[aa aq,aa aq]
  ·have:c=j:=aq;subst this;refine⟨1,aw,λt=>if t=k then 1 else 0,λi o=>?_⟩;simp only[sm];rw[ab trivial,ab trivial,Int.mul_one,Int.one_mul];rw[fK λt g=>by rw[aa (show¬t=k by omega),aa (show¬t=k by omega),Int.mul_zero]];omega
theorem RI.done{m n k:Nat}{A W:Mt}{l:Int}{p cs:Nat->Nat}(h:RI m n n k A W l p cs):Rk m n A k:=by
 constructor
 ·refine⟨p,cs,λt a=>⟨h.lt t (by have:=h.km;omega),h.cl t a⟩,?_⟩;have:=h.ne;rw[h.eq]at this;exact this
 ·refine Hg (U:=λi t=>A i (cs t)) λj b=>?_;obtain⟨d,c,y,a⟩:=h.rel j b;refine⟨d,c,y,λi c=>?_⟩;obtain⟨r,b,e⟩:=h.oz i c;have:=a r b;rw[e]at this;exact this
structure RF(m n k:Nat)(A W:Mt)(l:Int)(p cs:Nat->Nat):Prop where
 BD:∀i c,k<=i->i<m->k<=c->c<n->W i c=bm k (λr t=>A (p r) (cs t)) i c
 eq:l=aO k (λr t=>A (p r) (cs t))
 ne:l≠0
 km:k<=m
 kn:k<=n
 lt:∀i,i<m->p i<m
 oz:∀i,i<m->∃r,r<m/\p r=i
 cl:∀t,t<n->cs t<n
 Od:∀t,t<n->∃r,r<n/\cs r=t
theorem RF.done{m n k:Nat}{A W:Mt}{l:Int}{p cs:Nat->Nat}(h:RF m n k A W l p cs)(u:∀i c,k<=i->i<m->k<=c->c<n->W i c=0):Rk m n A k:=by
 have a:aO k (λr t=>A (p r) (cs t))≠0:=by rw[<-h.eq];exact h.ne
 constructor
 ·exact⟨p,cs,λt b=>⟨h.lt t (by have:=h.km;omega),h.cl t (by have:=h.kn;omega)⟩,a⟩
 ·refine Hg (U:=λi t=>A i (cs t)) λj d=>?_;obtain⟨c,g,v⟩:=h.Od j d;have s:∃d:Int,d≠0/\∃y:Nat->Int,∀i,i<m->d*A (p i) (cs c)=sm k λt=>A (p i) (cs t)*y t:=by
   by_cases e:c<k
   ·refine⟨1,aw,λt=>if t=c then 1 else 0,λi f=>?_⟩;rw[dc (c:=c) e λt b b=>by simp only[aa b,Int.mul_zero]];simp only[if_true];omega
   ·obtain⟨y,b⟩:=H4 (m:=m) (j:=c) a (λi q o=>by rw[<-h.BD i c q o aq g];exact u i c q o aq g);exact⟨_,a,y,b⟩
  obtain⟨d,a,y,b⟩:=s;refine⟨d,a,y,λi f=>?_⟩;obtain⟨r,a,e⟩:=h.oz i f;have:=b r a;rw[e,v]at this;exact this
