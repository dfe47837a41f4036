import Derived.Test.YtmfndnlifgphjaaGreatQzl
set_option maxHeartbeats 64000000
open Go.Proofs.YtmfndnlifgphjaaGreat
namespace Go.Proofs.Qq
section
open Go Go.cU Go.cV Go.Proofs
theorem mW{α:Type}(k:Nat)(M:Nat->α):swp k k M=M:=by
 funext i;simp only[swp];split
 ·rename_i h;rw[h]
 ·rfl
theorem fk.swap{w w':World}{d r c k p:Nat}{a:Nat->Nat}{cn:Bool}{b:Nat}{M:Nat->Nat->Int}(h:fk w d a r c cn (λ_ _=>b) M)(g:k<r)(e:p<r)(n:Ch (λb=>b=d) w w')(m:Kp w w')
 (l:eO 27 w' d r r c (swp k p a)):fk w' d (swp k p a) r c cn (λ_ _=>b) (swp k p M):=by
 have f:∀i,i<r->∃j,j<r/\swp k p a i=a j/\swp k p M i=M j/\j=swp k p id i:=λi d=>by
  simp only[swp];split
  ·exact⟨p,e,F,F,F⟩
  ·split
   ·exact⟨k,g,F,F,F⟩
   ·exact⟨i,d,F,F,F⟩
 refine⟨l.full,λi d=>?_,λi d=>?_,λi j d g e=>?_⟩
 ·obtain⟨j,g,l,a,_⟩:=f i d;rw[l,a];exact(h.row j g).kp m n (h.ne j g)
 ·obtain⟨j,g,l,a,_⟩:=f i d;rw[l];exact h.ne j g
 ·obtain⟨a,m,l,_,e3⟩:=f i d;obtain⟨b,d,i,_,f3⟩:=f j g;rw[l,i]at e;have:=h.inj a b m d e;subst this;rw[e3]at f3;simp only[swp,id]at f3;split at f3<;>split at f3<;>(try split at f3)<;>(try split at f3)<;>omega
theorem pX(v:Value)(n N:Nat)(M:Nat->Nat->Int)(w:World)(h:cO (EI N) w v n (λ_=>n) M)(u:1<=n)(cb:n<=16)(cv:1<=N)(hN:N<1048576):
 aT Tryz.prog 53 #[v] w (RI w (kU n M)):=by
 obtain⟨A,cy,rfl,u,u,c6⟩:=h;refine bF (n:=149) Tryz.func53 F rfl aw aA ?_;refine gg ?_;refine aR (.inl F) a_ ?_;intro O c5 bW u;have u:Bx O w.heap.size 1 true 0:=Bx.zero true c5;clear c5;refine gg ?_;refine cF fU (.inl F) F rfl aD aq aq ?_;intro w2 bl c bx;obtain⟨T,c5⟩ : ∃g,g=w.heap.size:=⟨_,F⟩;obtain⟨L,ck⟩ : ∃g,g=O.heap.size:=⟨_,F⟩;rw[<-c5]at u⊢;rw[<-ck]at bl⊢;have c5:T<L:=aq;have bD:eO 27 w2 L n 0 n (λ_=>0):=iz bl;have bC:=u.Y c;have G:=bW.trans c;clear bl u bW c;refine gg ?_;refine aX (λf d=>∃z,f 2=.pointer (some ⟨T,0,none⟩)/\f 3=.int .i64 (n:Int)/\f 4=.slice (some ⟨L,0,none⟩) n n/\Ext w d/\Bx d T 1 true 0/\fk d L z n n false (λ_ _=>N) M/\∀k,k<n->L<z k) ?_ ?_
 ·refine gg ?_;refine aU (λm f d=>∃i z,m=n-i/\i<=n/\f 2=.pointer (some ⟨T,0,none⟩)/\f 3=.int .i64 (n:Int)/\f 4=.slice (some ⟨L,0,none⟩) n n/\f 19=.slice A n cy/\f 20=.int .i64 (n:Int)/\f 21=.int .i64 ((i:Nat):Int)/\
   Ext w d/\Bx d T 1 true 0/\eO 27 d L n i n z/\(∀k,k<i->dk d (z k) n false (λ_=>N) (M k)/\L<z k)/\(∀k k',k<i->k'<i->z k=z k'->k=k'))
   n ⟨0,λ_=>0,rfl,aE,rfl,rfl,rfl,rfl,rfl,rfl,G,bC,bD,λk Q=>absurd Q aq,λk k' Q=>absurd Q aq⟩ ?_
  clear bD G bC bx;rintro m f O ⟨i,z,rfl,hi,l,t,s,bW,A,u,G,K,hO,a7,bM⟩;rw[ui l,ui t,ui s,ui bW,ui A,ui u];clear l t s bW A u;by_cases P:i<n
  ·obtain⟨u,u,rfl,hx,c3⟩:=c6 i P;obtain⟨u,u,rfl,u⟩:=id c3;have av:=aS G hx;refine gg ?_;refine cF eE (.inl F) F rfl aD aq aq ?_;intro w2 bl c bx;have u:=ff false 0 bl;obtain⟨g,A⟩ : ∃g,g=O.heap.size:=⟨_,F⟩;rw[<-A]at u⊢;have A:=hO.lt;refine gg ?_;refine eY (aW F) (.inl F) F rfl (hO.Y c) P ?_;intro w3 ⟨_,aH⟩ a5 ax ab;have aH:=aH F;have bY:=aH.at (k:=i) aq P;rw[show cZ z i g i=g by simp[cZ]]at bY;have A:=u.kp ax a5 aq;have o:Ext w w3:=a5.aK (G.trans c) λb hb=>aq;refine gg ?_;refine v8 F rfl A (c3.Y o) aq ?_;intro w4 bX J V b5;have Y:Ext w w4:=J.aK o λb hb=>aq;refine gg ?_;refine⟨_,?_,i+1,cZ z i g,F,aq,F,F,F,F,F,F,Y,((K.Y c).kp ax a5 aq).kp V J aq,aH.kp J aq,λk Q=>?_,λk k' Q u e=>?_⟩
   ·omega
   ·by_cases e:k=i
    ·subst e;simp only[cZ,if_true];exact⟨bX,aq⟩
    ·simp only[cZ,aa e];obtain⟨H,h2⟩:=a7 k aq;have:=H.lt;exact⟨((H.Y c).kp ax a5 aq).kp V J aq,h2⟩
   ·have u:∀k,k<i->z k<O.heap.size:=λk Q=>(a7 k Q).1.lt;simp only[cZ]at e;split at e<;>split at e
    ·omega
    ·have:=u k' aq;omega
    ·have:=u k aq;omega
    ·exact bM k k' aq aq e
  ·refine gg ?_;have:i=n:=aq;subst this;exact⟨z,F,F,F,G,K,⟨hO.full,λk Q=>(a7 k Q).1,λk Q=>by have:=(a7 k Q).2;omega,bM⟩,λk Q=>(a7 k Q).2⟩
 clear bD G bC bx;rintro f O ⟨z,l,t,s,G,K,R,W⟩;rw[ui l,ui t,ui s];clear l t s;refine gg ?_;refine aJ (fb 1 O aq aq) ?_;rintro _ w2 ⟨c,x,y,rfl,ay⟩;refine gg ?_;refine aR (.inl F) a_ ?_;intro w3 bj o ab;have A:Bx w3 w2.heap.size 1 false 0:=Bx.zero false bj;obtain⟨U,a7⟩ : ∃g,g=w2.heap.size:=⟨_,F⟩;rw[<-a7]at A⊢;refine gg ?_;refine aL (.inl F) F rfl A ((ay.Y o).ev false (N:=N) (Bd.mono (N:=1) (show(1:Int).natAbs<B^1 by decide) cv)) ?_;intro w4 al J V b5;have X:=R.Y c;have u:∀k,k<n->z k<U:=λk Q=>by have:=(X.row k Q).lt;omega
 have bl:L<U:=by have:=X.lt;omega
 have aj:=(X.Y o).kp V J aq (λk Q=>by have:=u k Q;omega);have ak:=((K.Y c).Y o).kp V J aq;have Y:Ext w w4:=J.aK (G.trans (c.trans o)) λb hb=>aq;have bt:∀k,k<n->L<z k/\z k<U:=λk Q=>⟨W k Q,u k Q⟩;clear u W R X K c o ay bj A J V b5 ab a7 G O w2 w3;refine gg ?_;refine aX (λf d=>∃I C,f 2=.pointer (some ⟨T,0,none⟩)/\f 7=.bool I/\f 8=.pointer (some ⟨U,0,none⟩)/\Ext w d/\Bx d T 1 true 0/\Bx d U (Nb N n) false C/\(if I then -C else C)=kU n M) ?_ ?_
 ·refine gg ?_;refine aU (λm f d=>∃k z Mk I C,m=n-k/\k<=n/\f 2=.pointer (some ⟨T,0,none⟩)/\f 3=.int .i64 (n:Int)/\f 4=.slice (some ⟨L,0,none⟩) n n/\f 7=.bool I/\f 8=.pointer (some ⟨U,0,none⟩)/\f 39=.int .i64 (n:Int)/\f 40=.int .i64 ((k:Nat):Int)/\
   Ext w d/\Bx d T 1 true 0/\Bx d U (Nb N k) false C/\C≠0/\fk d L z n n false (λ_ _=>Nb N k) Mk/\(∀i,i<n->L<z i/\z i<U)/\iL n (n-k) k Mk I C=kU n M)
   n ⟨0,z,M,false,1,F,aE,F,F,F,F,F,F,F,Y,ak,al,ar,aj,bt,F⟩ ?_
  clear Y ak al aj bt w4 z;rintro m f O ⟨k,z,Mk,I,C,rfl,Q,l,t,s,E,D,r,q,G,K,Z,cc,R,W,a6⟩;rw[ui l,ui t,ui s,ui E,ui D,ui r,ui q];clear l t s E D r q;have u:Nb N k<68719476736:=kM hN aq;by_cases P:k<n
  ·refine gg ?_;refine aX (λf d=>∃p,k<=p/\p<=n/\f 2=.pointer (some ⟨T,0,none⟩)/\f 3=.int .i64 (n:Int)/\f 4=.slice (some ⟨L,0,none⟩) n n/\f 7=.bool I/\f 8=.pointer (some ⟨U,0,none⟩)/\f 9=.int .i64 (k:Int)/\f 10=.int .i64 ((p:Nat):Int)/\f 39=.int .i64 (n:Int)/\f 40=.int .i64 (k:Int)/\Ext O d/\p=cR n k Mk/\(p<n->Mk p k≠0)) ?_ ?_
   ·refine gg ?_;refine aU (λm f d=>∃p,m=n-p/\k<=p/\p<=n/\f 2=.pointer (some ⟨T,0,none⟩)/\f 3=.int .i64 (n:Int)/\f 4=.slice (some ⟨L,0,none⟩) n n/\f 7=.bool I/\f 8=.pointer (some ⟨U,0,none⟩)/\f 9=.int .i64 (k:Int)/\f 10=.int .i64 ((p:Nat):Int)/\f 39=.int .i64 (n:Int)/\f 40=.int .i64 (k:Int)/\Ext O d/\fJ n k Mk (n-p) p=cR n k Mk)
     (n-k) ⟨k,F,aD,Q,F,F,F,F,F,F,F,F,F,Ext.refl _,F⟩ ?_
    rintro m f w2 ⟨p,rfl,a7,jv,l,t,s,E,D,S,A,r,q,c,hp⟩;rw[ui l,ui t,ui s,ui E,ui D,ui S,ui A,ui r,ui q];clear l t s E D S A r q;by_cases u:p<n
    ·have hx:=(R.Y c).at u;obtain⟨x,y,av,b4,hv⟩:=((R.Y c).row p u).at P;refine aP ?_;refine gg ?_;refine aJ (mZ _ _ _ _ w2 hv.1 aq) ?_;rintro _ w3 ⟨o,rfl⟩;by_cases Q:Mk p k=0
     ·have hs:(Mk p k).sign=0:=by rw[Q];rfl
      refine gg ?_;refine⟨_,?_,p+1,F,aq,aq,F,F,F,F,F,F,F,F,F,c.trans o,?_⟩
      ·omega
      ·rw[<-pS ⟨u,Q⟩];exact hp
     ·have hs:¬(Mk p k).sign=0:=λe=>Q (Int.sign_eq_zero_iff_zero.1 e);refine gg ?_;refine⟨p,a7,jv,F,F,F,F,F,F,F,F,F,c.trans o,?_,λ_=>Q⟩;rw[<-hp,kA λh=>Q h.2]
    ·refine aP ?_;refine gg ?_;refine⟨p,a7,jv,F,F,F,F,F,F,F,F,F,c,?_,λh=>absurd h u⟩;rw[<-hp,kA λh=>u h.1]
   rintro f w2 ⟨p,a7,jv,l,t,s,E,D,S,A,r,q,c,hp,bX⟩;rw[ui l,ui t,ui s,ui E,ui D,ui S,ui A,ui r,ui q];clear l t s E D S A r q;have a4:=a6;rw[show n-k=(n-(k+1))+1 by omega,iL,<-hp]at a4;refine aP ?_;by_cases A:p=n
   ·rw[ae A]at a4;refine gg ?_;refine fp ij ?_;refine gg ?_;refine aL (N':=1) (.inl F) F rfl (K.Y c) ((CV.zero w2).ev true (Bd.zero 1)) ?_;intro w3 bg a5 ax ab;refine gg ?_;obtain⟨x,y,hB,hv⟩:=bg;refine dO F aN F hB ⟨a5.aK (G.trans c) λb hb=>aq,x,y,F,?_⟩;rw[<-a4];exact hv.2 F
   rw[aa A]at a4;have u:p<n:=aq;have bW:=G.trans c;have bD:=K.Y c;have bM:=Z.Y c;have bC:=R.Y c;clear K Z R G c a6 O;refine gg ?_;refine aX (λf d=>∃A,f 2=.pointer (some ⟨T,0,none⟩)/\f 3=.int .i64 (n:Int)/\f 4=.slice (some ⟨L,0,none⟩) n n/\f 7=.bool (I != decide (p≠k))/\f 8=.pointer (some ⟨U,0,none⟩)/\f 9=.int .i64 (k:Int)/\f 39=.int .i64 (n:Int)/\f 40=.int .i64 (k:Int)/\
    Ext w d/\Bx d T 1 true 0/\Bx d U (Nb N k) false C/\fk d L A n n false (λ_ _=>Nb N k) (swp k p Mk)/\(∀i,i<n->L<A i/\A i<U)) ?_ ?_
   ·refine aP ?_;by_cases bl:p=k
    ·refine gg ?_;refine⟨z,F,F,F,?_,F,F,F,F,bW,bD,bM,?_,W⟩
     ·show Value.bool I=_;simp[bl]
     ·rw[bl,mW];exact bC
    ·refine gg ?_;refine b7 [(0,3),(1,3),(2,3),(3,3),(4,3),(5,3),(6,3),(7,0),(8,3),(9,3),(10,3),(11,0),(12,3),(13,2),(14,3),(15,2)] mixed aw λw3 o _=>?_;have a7:=bC.Y o;have A:=a7.at u;have A:=a7.at P;have aH:=wT a7.outer;refine gg ?_;refine eY (aW F) (.inl F) F rfl aH P ?_;intro w4 ⟨A,_⟩ J V b5;refine gg ?_;refine eY (aW F) (.inl F) F rfl A u ?_;intro w5 ⟨aH,_⟩ Q c3 A;have A:=J.trans Q;have Q:=V.trans c3;have e:cZ (cZ z k (z p)) p (z k)=swp k p z:=by
      funext i;simp only[cZ,swp];by_cases H:i=p
      ·rw[ae H];by_cases h2:i=k
       ·omega
       ·rw[aa h2,ae H]
      ·rw[aa H];by_cases h2:i=k
       ·rw[ae h2,ae h2]
       ·rw[aa h2,aa h2,aa H]
     rw[e]at aH;have c3:=a7.swap P u A Q aH;refine gg ?_;refine⟨swp k p z,F,F,F,?_,F,F,F,F,A.aK (bW.trans o) λb hb=>aq,(bD.Y o).kp Q A aq,(bM.Y o).kp Q A aq,c3,λi hi=>?_⟩
     ·show Value.bool (!I)=_;simp[bl]
     ·simp only[swp];split
      ·exact W p u
      ·split
       ·exact W k P
       ·exact W i hi
   clear bC bM bD bW W w2 z;rintro f O ⟨z,l,t,s,E,D,S,r,q,G,K,Z,R,W⟩;rw[ui l,ui t,ui s,ui E,ui D,ui S,ui r,ui q];clear l t s E D S r q;obtain⟨Ms,A⟩ : ∃Ms,Ms=swp k p Mk:=⟨_,F⟩;rw[<-A]at R a4;have c9:Ms k k≠0:=by rw[A];simp only[swp,if_true];exact bX u
   have hx:=R.at P;obtain⟨x,y,av,b4,hv⟩:=(R.row k P).at P;refine gg ?_;refine aR (.inl F) a_ ?_;intro w3 bj o ab;have u:Bx w3 O.heap.size 1 false 0:=Bx.zero false bj;obtain⟨gP,A⟩ : ∃g,g=O.heap.size:=⟨_,F⟩;rw[<-A]at u⊢;refine gg ?_;refine aL (.inl F) F rfl u (hv.Y o) ?_;intro w4 bI J V b5;have g:U<gP:=by have:=Z.lt;omega
   have Y:Ext w w4:=J.aK (G.trans o) (λb hb=>by have:=G.size;omega);have ak:=(K.Y o).kp V J aq;have al:=(Z.Y o).kp V J aq;have aj:=(R.Y o).kp V J aq (λi hi=>by have:=W i hi;omega);have g:w.heap.size<=T:=aq;clear u bj hx av b4 hv K Z R G o J V b5 ab A O w3;refine gg ?_;refine aX (λf d=>f 2=.pointer (some ⟨T,0,none⟩)/\f 3=.int .i64 (n:Int)/\f 4=.slice (some ⟨L,0,none⟩) n n/\f 7=.bool (I != decide (p≠k))/\f 8=.pointer (some ⟨U,0,none⟩)/\f 11=.pointer (some ⟨gP,0,none⟩)/\f 39=.int .i64 (n:Int)/\f 40=.int .i64 (k:Int)/\
    Ext w d/\Bx d T 1 true 0/\Bx d U (Nb N k) false C/\Bx d gP (Nb N k) false (Ms k k)/\fk d L z n n false (λ_ _=>Nb N (k+1)) (elim k C Ms)) ?_ ?_
   ·refine gg ?_;refine aU (λm f d=>∃i,m=n-i/\k<i/\i<=n/\f 2=.pointer (some ⟨T,0,none⟩)/\f 3=.int .i64 (n:Int)/\f 4=.slice (some ⟨L,0,none⟩) n n/\f 7=.bool (I != decide (p≠k))/\f 8=.pointer (some ⟨U,0,none⟩)/\f 9=.int .i64 (k:Int)/\f 11=.pointer (some ⟨gP,0,none⟩)/\f 12=.int .i64 ((i:Nat):Int)/\f 39=.int .i64 (n:Int)/\f 40=.int .i64 (k:Int)/\
     Ext w d/\Bx d T 1 true 0/\Bx d U (Nb N k) false C/\Bx d gP (Nb N k) false (Ms k k)/\fk d L z n n false (λa b=>if k<a/\k<b/\a<i then Nb N (k+1)else Nb N k) λa b=>if k<a/\k<b/\a<i then elim k C Ms a b else Ms a b)
     (n-(k+1)) ⟨k+1,F,aq,aq,F,F,F,F,F,F,F,F,F,F,Y,ak,al,bI,aj.congr (λa b ha hb=>⟨by rw[aa aq];exact Nat.le_refl _,by rw[aa aq]⟩)⟩ ?_
    clear Y ak al bI aj w4;rintro m f O ⟨i,rfl,cf,g,l,t,s,E,D,S,a0,an,r,q,G,K,Z,hP,R⟩;rw[ui l,ui t,ui s,ui E,ui D,ui S,ui a0,ui an,ui r,ui q];clear l t s E D S a0 an r q;refine aP ?_;by_cases ai:i<n
    ·refine gg ?_;refine aU (λm f d=>∃j,m=n-j/\k<j/\j<=n/\f 2=.pointer (some ⟨T,0,none⟩)/\f 3=.int .i64 (n:Int)/\f 4=.slice (some ⟨L,0,none⟩) n n/\f 7=.bool (I != decide (p≠k))/\f 8=.pointer (some ⟨U,0,none⟩)/\f 9=.int .i64 (k:Int)/\f 11=.pointer (some ⟨gP,0,none⟩)/\f 12=.int .i64 (i:Int)/\f 13=.int .i64 ((j:Nat):Int)/\f 39=.int .i64 (n:Int)/\f 40=.int .i64 (k:Int)/\
      Ext w d/\Bx d T 1 true 0/\Bx d U (Nb N k) false C/\Bx d gP (Nb N k) false (Ms k k)/\fk d L z n n false (λa b=>if k<a/\k<b/\(a<i\/a=i/\b<j)then Nb N (k+1)else Nb N k) λa b=>if k<a/\k<b/\(a<i\/a=i/\b<j)then elim k C Ms a b else Ms a b)
      (n-(k+1)) ⟨k+1,F,aq,aq,F,F,F,F,F,F,F,F,F,F,F,G,K,Z,hP,R.congr λa b ha hb=>⟨?_,?_⟩⟩ ?_
     ·by_cases H:k<a/\k<b/\a<i
      ·rw[ae H,ae aq];exact Nat.le_refl _
      ·rw[aa H,aa aq];exact Nat.le_refl _
     ·by_cases H:k<a/\k<b/\a<i
      ·rw[ae H,ae aq]
      ·rw[aa H,aa aq]
     clear G K Z hP R O;rintro m f O ⟨j,rfl,cd,g,l,t,s,E,D,S,a0,an,g,r,q,G,K,Z,hP,R⟩;rw[ui l,ui t,ui s,ui E,ui D,ui S,ui a0,ui an,ui g,ui r,ui q];clear l t s E D S a0 an g r q;refine aP ?_;by_cases bB:j<n
     ·refine gg ?_;refine iq [(0,0),(1,3),(2,3),(3,3),(4,0),(5,3),(6,3),(7,0),(9,3),(10,3),(11,3),(12,0),(13,3),(14,3),(15,0),(16,3),(17,3),(18,3),(19,0),(20,3),(21,3),(22,0)] [(8,[],[]),(25,[],[]),(23,[],[8]),(24,[],[8,23])] [(26,2)] mixed aw λw2 c _=>?_;have X:=R.Y c;have ca:=X.at ai;have g:=X.at P;obtain⟨g,g,FZ,bA⟩:=hP.Y c;obtain⟨g,g⟩:=a9 FZ;obtain⟨g,g,av,g,ct⟩:=(X.row i ai).at bB;obtain⟨g,g,b4,g,fg⟩:=(X.row i ai).at P;obtain⟨g,g,bY,g,bu⟩:=(X.row k P).at bB;simp only at ct fg bu;rw[aa aq,aa aq]at ct fg bu;refine gg ?_;refine dT [(8,[]),(23,[]),(24,[])] [fA 25 14 35 (.agg #[.bool false,.slice none 0 0])] [112,127,128,14] aw (λa ha f' d _ _=>by
       rcases List.mem_singleton.1 ha with rfl;exact b_ a_ F f' d) ?_
      refine cT λw3 o=>?_;refine gg ?_;refine aM (pK _ _ _ _ _ _ (Nb N k) w3 (bA.Y o).1 (ct.Y o).1 aq) ?_;rintro _ w4 ⟨Y,d,d,rfl,L⟩;refine⟨Y,?_⟩;refine gg ?_;refine cT λw5 u=>?_;have d:=(o.trans Y).trans u;refine gg ?_;refine aM (pK _ _ _ _ _ _ (Nb N k) w5 (fg.Y d).1 (bu.Y d).1 aq) ?_;rintro _ g ⟨m,g,b2,rfl,A⟩;refine⟨m,?_⟩;refine gg ?_;refine cT λP g=>?_;have J:=(bA.bd).mul ct.bd;have o:=(fg.bd).mul bu.bd;refine gg ?_;refine aM (AO _ _ _ _ _ _ (Nb N k+Nb N k) P ((L.Y ((u.trans m).trans g)).iv J) ((A.Y g).iv o) aq) ?_;rintro _ u ⟨A,u,b3,rfl,cq⟩;refine⟨A,?_⟩;have m3:=J.sub o;have o:Nb N k+Nb N k+1=Nb N (k+1):=by simp only[Nb];omega
      rw[o]at m3;refine gg ?_;refine fM λJ c4 o L _=>?_;obtain⟨u,P⟩:=L _ aG;have cx:Bx J (o 14) 1 false 0:=Bx.zero false P;have u:w2.heap.size<=o 14:=u;have au:Ext w2 J:=d.trans (m.trans (g.trans (A.trans c4)));show Ro _ _ _ _ _ _ (bS _ 14 (.pointer (some ⟨o 14,0,none⟩))) _;generalize o 14=gM at*;refine gg ?_;refine aL (.inl F) F rfl cx ((cq.Y c4).ev false m3) ?_;intro u J d g m;have m:=G.trans c;have o:=m.size;have o:=(hP.Y c).lt;have o:=(X.Y au).kp g d (by have:=X.lt;omega) (λa ha=>by have:=(X.row a ha).lt;omega);have P:=(K.Y (c.trans au)).kp g d aq;have A:=(Z.Y (c.trans au)).kp g d aq;have Q:=(hP.Y (c.trans au)).kp g d aq;have S:Ext w u:=d.aK (m.trans au) λb hb=>aq;refine gg ?_;refine c8 [(0,3),(1,3),(2,3),(3,0),(4,3),(5,0),(6,0),(7,1),(8,3),(9,3),(10,3),(11,3),(12,3),(13,2)] mixed aw λd g _=>?_;have u:=o.Y g;have ca:=u.at ai;obtain⟨m,m,o,m⟩:=J.Y g;obtain⟨J,J⟩:=a9 o;obtain⟨o,o,bK,b0⟩:=A.Y g;obtain⟨o,o⟩:=a9 bK;have o:Nb N (k+1)<68719476736:=kM hN aq;refine gg ?_;refine aM (kb _ _ _ _ _ _ (Nb N (k+1)) d m.1 (b0.mono (iI N k)).1 aq cc) ?_;rintro _ d ⟨d,m,m,rx,m,rfl,hq,m⟩;refine⟨d,?_⟩;refine gg ?_;refine dW (.inl F) F rfl ((u.Y d).row i ai) bB (hq.ev false (N:=Nb N (k+1)) m3.ediv) ?_;intro m L m o J;have J:=(u.Y d).put ai L m o;have u:=W i ai;refine gg ?_;refine⟨_,?_,j+1,F,aq,aq,F,F,F,F,F,F,F,F,F,F,F,m.aK (S.trans (g.trans d)) λb hb=>aq,(P.Y (g.trans d)).kp o m aq,(A.Y (g.trans d)).kp o m aq,(Q.Y (g.trans d)).kp o m aq,J.congr λa b ha hb=>⟨?_,?_⟩⟩
      ·omega
      ·simp only[dM];by_cases e:a=i/\b=j
       ·rw[ae e,ae aq];exact Nat.le_refl _
       ·rw[aa e];by_cases H:k<a/\k<b/\(a<i\/a=i/\b<j)
        ·rw[ae H,ae aq];exact Nat.le_refl _
        ·rw[aa H,aa aq];exact Nat.le_refl _
      ·simp only[dM];by_cases e:a=i/\b=j
       ·obtain⟨rfl,rfl⟩:=e;rw[ae ⟨F,F⟩,ae aq,elim,ae ⟨cf,cd⟩]
       ·rw[aa e];by_cases H:k<a/\k<b/\(a<i\/a=i/\b<j)
        ·rw[ae H,ae aq]
        ·rw[aa H,aa aq]
     ·refine gg ?_;refine⟨_,?_,i+1,F,aq,aq,F,F,F,F,F,F,F,F,F,F,G,K,Z,hP,R.congr λa b ha hb=>⟨?_,?_⟩⟩
      ·omega
      ·by_cases H:k<a/\k<b/\a<i+1
       ·rw[ae aq,ae H];exact Nat.le_refl _
       ·rw[aa aq,aa H];exact Nat.le_refl _
      ·by_cases H:k<a/\k<b/\a<i+1
       ·rw[ae aq,ae H]
       ·rw[aa aq,aa H]
    ·refine gg ?_;refine⟨F,F,F,F,F,F,F,F,G,K,Z,hP,R.congr λa b ha hb=>⟨?_,?_⟩⟩
     ·have:=iI N k;split<;>omega
     ·by_cases H:k<a/\k<b/\a<i
      ·rw[ae H]
      ·rw[aa H,elim,aa aq]
   ·clear Y ak al bI aj w4;rintro f O ⟨l,t,s,E,D,a0,r,q,G,K,Z,hP,R⟩;rw[ui l,ui t,ui s,ui E,ui D,ui a0,ui r,ui q];clear l t s E D a0 r q;obtain⟨x,y,FZ,bA⟩:=hP;obtain⟨av,b4⟩:=a9 FZ;refine gg ?_;refine aL (.inl F) F rfl Z (bA.mono (iI N k)) ?_;intro w2 e a d bx;refine gg ?_;refine⟨_,?_,k+1,z,elim k C Ms,I != decide (p≠k),Ms k k,F,aq,F,F,F,F,F,F,F,a.aK G (λb hb=>aq),K.kp d a aq,e,c9,R.kp d a aq (λi hi=>by have:=W i hi;omega),W,a4⟩;omega
  ·refine gg ?_;have:k=n:=aq;subst this;rw[Nat.sub_self,iL]at a6;exact⟨I,C,F,F,F,G,K,Z,a6⟩
 clear Y ak al aj bt w4 z;rintro f O ⟨I,C,l,E,D,G,K,Z,a6⟩;rw[ui l,ui E,ui D];clear l E D;have a:Nb N n<68719476736:=kM hN cb;obtain⟨x,y,bK,b0⟩:=Z;obtain⟨av,b4⟩:=a9 bK;refine aP ?_;cases I with
 |true=>
  refine gg ?_;refine aJ (wY _ _ _ _ O b0.1 aq) ?_;rintro _ w2 ⟨c,x',y',rfl,ay⟩;refine gg ?_;refine aL (N':=Nb N n) (.inl F) F rfl (K.Y c) (ay.ev true b0.bd.neg) ?_;intro w3 bg a5 ax ab;refine gg ?_;obtain⟨x,y,hB,hv⟩:=bg;refine dO F aN F hB ⟨a5.aK (G.trans c) λb hb=>aq,x,y,F,?_⟩;rw[<-a6];exact hv.2 F
 |false=>
  refine gg ?_;refine aJ (kx _ _ _ _ O b0.1 aq) ?_;rintro _ w2 ⟨c,x',y',rfl,ay⟩;refine gg ?_;refine aL (N':=Nb N n) (.inl F) F rfl (K.Y c) (ay.ev true b0.bd) ?_;intro w3 bg a5 ax ab;refine gg ?_;obtain⟨x,y,hB,hv⟩:=bg;refine dO F aN F hB ⟨a5.aK (G.trans c) λb hb=>aq,x,y,F,?_⟩;rw[<-a6];exact hv.2 F
def f_(w:World)(g c cp:Nat)(cn:Bool)(bn:Nat->Nat)(M:Nat->Int):Prop:=
 c<=cp/\cp<9223372036854775808/\∃h,bh w g 35 (arr (cp*2) h)/\jL (arr (cp*2) h)/\∀j,j<c->EV w (bn j) cn (h (j*2)) (h (j*2+1)) (M j)
section
variable {w w':World}{g c cp:Nat}{cn:Bool}{bn bn':Nat->Nat}{M M':Nat->Int}
theorem f_.lt(h:f_ w g c cp cn bn M):g<w.heap.size:=by obtain⟨_,_,_,a,_⟩:=h;exact a.lt
theorem f_.kp{a:Nat->Prop}(h:f_ w g c cp cn bn M)(e:Kp w w')(l:Ch a w w')(b:¬a g):f_ w' g c cp cn bn M:=by
 obtain⟨o,m,h,a,j,i⟩:=h;exact⟨o,m,h,a.ch l b,j,λj a=>(i j a).kp e⟩
theorem f_.Y(h:f_ w g c cp cn bn M)(a:Ext w w'):f_ w' g c cp cn bn M:=h.kp (bN a) a id
theorem f_.congr(h:f_ w g c cp cn bn M)(e:∀j,j<c->bn j<=bn' j/\M j=M' j):f_ w g c cp cn bn' M':=by
 obtain⟨m,l,h,a,i,b⟩:=h;exact⟨m,l,h,a,i,λj a=>by rw[<-(e j a).2];exact(b j a).mono (e j a).1⟩
theorem f_.at{j:Nat}(h:f_ w g c cp cn bn M)(b:j<c):
 ∃x y,w.cell? ⟨g,0+j*2,none⟩=some x/\w.cell? ((⟨g,0+j*2,none⟩ : Addr).add 1)=some y/\EV w (bn j) cn x y (M j):=by
 obtain⟨a,a,h,a,e,e⟩:=h;refine⟨_,_,?_,?_,e j b⟩
 ·rw[a.cell,b8 aq,Nat.zero_add]
 ·rw[add_lit,a.cell,b8 aq,Nat.zero_add]
theorem dk.rg{m:Nat}(h:dk w g cp cn bn M)(b:m<=cp)(i:cp<9223372036854775808):f_ w g m cp cn bn M:=by
 obtain⟨e,j,a⟩:=h;exact⟨b,i,e,j,js a,λj b=>a j aq⟩
end
section
variable {n:Nat}{S:World->World->Prop}{k:Nat}{K:Fr->World->Prop}{f:Fr}{w:World}
 {d ty t t2:Nat} {x y:Operand} {pos:String} {aft:Array Edge} {gd:Option (Nat×Bool)}
theorem eJ{g c cp j N:Nat}{cn:Bool}{bn:Nat->Nat}{M:Nat->Int}{z:Int}{a b:Value}(O:k=2\/k=1/\∀w',Ch (λb=>b=g) w w'->S w w')(A:ev n f x=.pointer (some ⟨g,0+j*2,none⟩))(l:ev n f y=.agg #[a,b])(G:f_ w g c cp cn bn M)(B:j<c)(o:EV w N cn a b z)
 (h:∀w',f_ w' g c cp cn (cZ bn j N) (fR M j z)->Ch (λb=>b=g) w w'->Kp w w'->w'.heap.size=w.heap.size->K f w'):
 R1 Tryz.prog n S k ⟨none,.store 35 x y,ty,pos,aft,gd⟩ K f w:=by
 obtain⟨L,J,B,B,v,I⟩:=G;refine aV aN O A l o.1.db o.1.de B (by rw[bk];omega) ?_;intro w' l A G;have s:=cK B v.jn A;refine h w' ⟨L,J,_,by rw[cC,cC]at l;exact l,?_,λq H=>?_⟩ A s G
 ·obtain⟨l,A,l,l,Q,P,_⟩:=o.1;intro i E D m;by_cases u:i<cp*2
  ·rw[b8 u,Nat.zero_add]at m;have m:=Option.some.inj m;by_cases e:i=j*2+1
   ·subst e;rw[bG,P]at m;cases m
   ·rw[bw _ _ e]at m;by_cases C:i=j*2
    ·subst C;rw[bG,Q]at m;cases m
    ·rw[bw _ _ C]at m;exact v i E D (by rw[b8 u,m])
  ·rw[Array.getElem?_eq_none (by rw[bk];omega)]at m;cases m
 by_cases p:q=j
 ·subst p;rw[Nat.zero_add,bw _ _ (show q*2≠q*2+1 by omega),bG,bG];simp only[fR,cZ,if_true];exact o.kp s
 ·rw[Nat.zero_add,bw _ _ aq,bw _ _ aq,bw _ _ aq,bw _ _ aq];simp only[fR,cZ,aa p];exact(I q H).kp s
end
structure bO(w:World)(gO:Nat)(gs cp:Nat->Nat)(r c:Nat)(cn:Bool)(bn:Nat->Nat->Nat)(M:Nat->Nat->Int):Prop where
 outer:bh w gO 27 (arr r λi=>.slice (some ⟨gs i,0,none⟩) c (cp i))
 row:∀i,i<r->f_ w (gs i) c (cp i) cn (bn i) (M i)
 ne:∀i,i<r->gs i≠gO
 inj:∀i j,i<r->j<r->gs i=gs j->i=j
section
variable {w w':World}{gO r c:Nat}{gs cp:Nat->Nat}{cn:Bool}{bn bn':Nat->Nat->Nat}{M M':Nat->Nat->Int}
theorem bO.kp{a:Nat->Prop}(h:bO w gO gs cp r c cn bn M)(l:Kp w w')(b:Ch a w w')(j:¬a gO)(e:∀i,i<r->¬a (gs i)):bO w' gO gs cp r c cn bn M:=
 ⟨h.outer.ch b j,λi a=>(h.row i a).kp l b (e i a),h.ne,h.inj⟩
theorem bO.Y(h:bO w gO gs cp r c cn bn M)(a:Ext w w'):bO w' gO gs cp r c cn bn M:=h.kp (bN a) a id (λ_ _=>id)
theorem bO.congr(h:bO w gO gs cp r c cn bn M)(e:∀i j,i<r->j<c->bn i j<=bn' i j/\M i j=M' i j):bO w gO gs cp r c cn bn' M':=
 ⟨h.outer,λi a=>(h.row i a).congr λj b=>e i j a b,h.ne,h.inj⟩
theorem bO.at(h:bO w gO gs cp r c cn bn M){i:Nat}(a:i<r):w.cell? ⟨gO,0+i*1,none⟩=some (.slice (some ⟨gs i,0,none⟩) c (cp i)):=by
 rw[h.outer.cell,b8 aq,Nat.zero_add,Nat.mul_one]
theorem bO.lt(h:bO w gO gs cp r c cn bn M):gO<w.heap.size:=h.outer.lt
theorem bO.j7(_:bO w gO gs cp r c cn bn M):jL (arr r λi=>Value.slice (some ⟨gs i,0,none⟩) c (cp i)):=dJ λ_ _=>⟨_,_,_,rfl⟩
theorem bO.put{i j N:Nat}{z:Int}(h:bO w gO gs cp r c cn bn M)(l:i<r)(p:f_ w' (gs i) c (cp i) cn (cZ (bn i) j N) (fR (M i) j z))(o:Ch (λb=>b=gs i) w w')(q:Kp w w'):
 bO w' gO gs cp r c cn (dM bn i j N) (dM M i j z):=by
 refine⟨h.outer.ch o (Ne.symm (h.ne i l)),λa m=>?_,h.ne,h.inj⟩;by_cases e:a=i
 ·subst e;rw[m7,m7];exact p
 ·rw[m8 _ _ _ e,m8 _ _ _ e];exact(h.row a m).kp q o λb=>e (h.inj a i m l b)
theorem bO.swap{k p b:Nat}(h:bO w gO gs cp r c cn (λ_ _=>b) M)(o:k<r)(e:p<r)(u:Ch (λb=>b=gO) w w')(a:Kp w w')
 (q:bh w' gO 27 (arr r λi=>.slice (some ⟨swp k p gs i,0,none⟩) c (swp k p cp i))):bO w' gO (swp k p gs) (swp k p cp) r c cn (λ_ _=>b) (swp k p M):=by
 have m:∀i,i<r->∃j,j<r/\swp k p gs i=gs j/\swp k p cp i=cp j/\swp k p M i=M j/\j=swp k p id i:=λi l=>by
  simp only[swp];split
  ·exact⟨p,e,F,F,F,F⟩
  ·split
   ·exact⟨k,o,F,F,F,F⟩
   ·exact⟨i,l,F,F,F,F⟩
 refine⟨q,λi l=>?_,λi l=>?_,λi j l o e=>?_⟩
 ·obtain⟨j,o,q,v,s,_⟩:=m i l;rw[q,v,s];exact(h.row j o).kp a u (h.ne j o)
 ·obtain⟨j,o,q,_⟩:=m i l;rw[q];exact h.ne j o
 ·obtain⟨a,u,q,_,_,s⟩:=m i l;obtain⟨b,i,l,_,_,f3⟩:=m j o;rw[q,l]at e;have:=h.inj a b u i e;subst this;rw[s]at f3;simp only[swp,id]at f3;split at f3<;>split at f3<;>(try split at f3)<;>(try split at f3)<;>omega
theorem bO.read{N:Nat}(h:bO w gO gs cp r c cn (λ_ _=>N) M)(a:r<9223372036854775808)(_hc:c<9223372036854775808):cO (EI N) w (.slice (some ⟨gO,0,none⟩) r r) r (λ_=>c) M:=
 ⟨_,_,F,aD,a,λi a=>⟨_,_,rfl,by rw[add_lit];exact h.at a,by
  obtain⟨e,b,_⟩:=h.row i a;refine⟨_,_,F,e,b,λj e=>?_⟩;obtain⟨x,y,l,j,b⟩:=(h.row i a).at e;exact⟨_,x,y,F,by rw[add_lit];exact l,by rw[add_lit];exact j,b.1⟩⟩⟩
end
theorem eu(l:List Nat)(k:Nat):val (l.take (k+1))=val (l.take k)+B^k*l.getD k 0:=by
 by_cases h:k<l.length
 ·exact a8 l k h
 ·rw[cM _ _ aq,cM _ _ aq];simp[List.getD,h]
theorem jW(l:List Nat)(x:Nat):val (l++[x])=val l+B^l.length*x:=by rw[kt];simp[val]
theorem BA{l:List Nat}(h:fm l){x:Nat}(c:x<4294967296):fm (l++[x]):=by
 intro y b;rcases List.mem_append.1 b with a|a
 ·exact h y a
 ·simp at a;rw[a];exact c
def tU(w:World)(base:Nat)(v:Value)(l:List Nat):Prop:=fm l/\w.ownsRow base 90 1 v l.length (l.map λx=>Value.int .u32 ((x:Nat):Int))
theorem tU.nil(w:World)(base:Nat):tU w base (.slice none 0 0) []:=⟨(λ_ h=>by cases h),World.ownsRow_nil _ _ _ _⟩
theorem tU.Y{w w':World}{base:Nat}{v:Value}{l:List Nat}(h:tU w base v l)(e:Ext w w'):tU w' base v l:=by
 refine⟨h.1,h.2.1,?_⟩;rcases h.2.2 with c|⟨g,b,a,o,m,j,i⟩
 ·exact .inl c
 ·have c:bh w g 90 a:=j;exact .inr ⟨g,b,a,o,m,c.Y e,i⟩
theorem tU.qd{w:World}{base:Nat}{v:Value}{l:List Nat}(h:tU w base v l){b:Nat}(a:some b=v.ownBlock):base<=b:=by
 rcases h.2.2 with⟨rfl,_⟩|⟨g,cap,cur,rfl,h2,_⟩
 ·simp[Value.ownBlock]at a
 ·simp[Value.ownBlock]at a;omega
def FB(w:World)(v:Value)(N m:Nat):Prop:=∃A l c,v=.slice A l.length c/\l.length<=c/\c<9223372036854775808/\eP w A l/\l.length<=N/\val l=m
theorem tU.GD{w:World}{base N:Nat}{v:Value}{l:List Nat}(h:tU w base v l)(a:l.length<=N):FB w v N (val l):=by
 rcases sJ h.2 with⟨rfl,rfl⟩|⟨g,c,rfl,_,h1,h2,h3⟩
 ·exact⟨none,[],0,F,aD,aq,eP.nil _ _,aA,F⟩
 ·exact⟨_,l,c,F,h1,aq,h3.GB h.1,a,F⟩
section
variable {n:Nat}{S:World->World->Prop}{k:Nat}{K:Fr->World->Prop}{f:Fr}{w:World}
 {d ty t t2:Nat} {x y:Operand} {pos:String} {aft:Array Edge} {gd:Option (Nat×Bool)}
theorem lZ{base g a:Nat}{v:Value}{l:List Nat}(u:k=2)(s:ev n f x=v)(i:tU w base v l)(r:ev n f y=.slice (some ⟨g,0,none⟩) 1 1)(z:bh w g 90 #[.int .u32 (a:Int)])(A:a<4294967296)
 (b:l.length<4398046511104) (p:base<=w.heap.size)
 (h:∀o e,tU e base o (l++[a])->Ch (λb=>some b=v.ownBlock) w e->K (bS f d o) e):
 R1 Tryz.prog n S k ⟨some d,.call { callee:=.builtin .append,args:=#[x,y],argTypes:=#[33,33] },ty,pos,aft,gd⟩ K f w:=by
 refine oq (base:=base) (m0:=l.length) (m:=1) (news:=[.int .u32 (a:Int)]) (v:=v) di F ar (.inl u) s i.2 r F (λj u c=>?_) (λu q=>by simp at q;subst q;rfl) aq aq p ?_
 ·match j,c with
  |0,c=>simp at c;subst c;exact⟨_,F,by rw[add_lit,z.cell];rfl⟩
  |j+1,c=>simp at c
 ·intro o e b c _;refine h o e ⟨BA i.1 A,?_⟩ c;rw[List.length_append,List.map_append];exact b
end
theorem DN(W L:Option Addr)(O m Q P:Nat)(g a:List Nat)(w:World)(h1:eP w W g)(V:eP w L a)(a2:g.length=O)(a1:a.length=m)(a5:O<1099511627776)(a5:m<1099511627776):
 aT Tryz.prog 79 #[.slice W O Q,.slice L m P] w λv p=>Ext w p/\FB p v (O+m+1) (val g+val a):=by
 subst a2 a1;refine bF (n:=54) Tryz.func79 F rfl aw aA ?_;refine gg ?_;refine aX (λf p=>∃v l c,f 5=v/\f 6=.int .u64 ((c:Nat):Int)/\Ext w p/\tU p w.heap.size v l/\l.length<=g.length+a.length/\c<=1/\val l+c*B^l.length=val g+val a) ?_ ?_
 ·refine gg ?_;refine aU (λm f p=>∃i v l c,m=g.length+a.length-i/\f 0=.slice W g.length Q/\f 1=.slice L a.length P/\f 5=v/\f 6=.int .u64 ((c:Nat):Int)/\f 7=.int .i64 ((i:Nat):Int)/\Ext w p/\tU p w.heap.size v l/\l.length=i/\i<=g.length+a.length/\c<=1/\
   val l+c*B^i=val (g.take i)+val (a.take i)) (g.length+a.length) ⟨0,_,[],0,F,F,F,F,F,F,Ext.refl _,tU.nil _ _,F,aq,aq,by simp[val]⟩ ?_
  rintro m f U ⟨i,v,l,c,rfl,s,r,o,h,q,z,A,H,m,Z,G⟩;rw[ui s,ui r,ui o,ui h,ui q];clear s r o h q;refine aP ?_;have m:=h1.e_.getD i;have m:=V.e_.getD i;by_cases m:i<g.length\/i<a.length
  ·by_cases a3:i<g.length
   ·obtain⟨ad,rfl,m⟩:=(h1.Y z).at (j:=i) aq;have hx:=m i aq;refine gg ?_;refine aX (λf p=>U=p/\f 0=.slice (some ad) g.length Q/\f 1=.slice L a.length P/\f 5=v/\f 6=.int .u64 ((c+g.getD i 0:Nat):Int)/\f 7=.int .i64 (i:Int)) ?_ ?_
    ·refine aP ?_;refine gg ?_;exact⟨F,F,F,F,F,F⟩
    rintro f p ⟨rfl,s,r,o,h,q⟩;rw[ui s,ui r,ui o,ui h,ui q];clear s r o h q hx;refine aX (λf p=>U=p/\f 0=.slice (some ad) g.length Q/\f 1=.slice L a.length P/\f 5=v/\f 6=.int .u64 ((c+g.getD i 0+a.getD i 0:Nat):Int)/\f 7=.int .i64 (i:Int)) ?_ ?_
    ·refine aP ?_;by_cases T:i<a.length
     ·obtain⟨a4,rfl,M⟩:=(V.Y z).at (j:=i) aq;have hy:=M i aq;refine gg ?_;exact⟨F,F,F,F,F,F⟩
     ·have:a.getD i 0=0:=by simp[List.getD,T]
      refine gg ?_;exact⟨F,F,F,F,by rw[this];rfl,F⟩
    rintro f p ⟨rfl,s,r,o,h,q⟩;rw[ui s,ui r,ui o,ui h,ui q];clear s r o h q;refine gg ?_;refine eM di F (.inl F) F rfl ?_;intro Y E u R;refine gg ?_;refine lZ F rfl (A.Y u) F E (Nat.mod_lt _ ar) aq (by have:=z.size;omega) ?_;intro I X C D;refine gg ?_;refine⟨_,?_,i+1,I,_,_,F,F,F,F,F,F,D.aK (z.trans u) (λb J=>A.qd J),C,by simp[H],aq,?_,?_⟩
    ·omega
    ·omega
    ·have e:=lE (B^i) (val l) c _ (g.getD i 0) (a.getD i 0) G;rw[jW,H,eu g,eu a,Nat.pow_succ,Nat.add_assoc c];refine e.trans ?_;omega
   ·have T:i<a.length:=aq;have a0:g.getD i 0=0:=by simp[List.getD,a3]
    obtain⟨a4,rfl,M⟩:=(V.Y z).at (j:=i) aq;have hy:=M i aq;refine gg ?_;refine aP ?_;refine aP ?_;refine gg ?_;refine aP ?_;refine aP ?_;refine gg ?_;refine eM di F (.inl F) F rfl ?_;intro Y E u R;refine gg ?_;refine lZ F rfl (A.Y u) F E (Nat.mod_lt _ ar) aq (by have:=z.size;omega) ?_;intro I X C D;refine gg ?_;refine⟨_,?_,i+1,I,_,_,F,F,F,F,F,F,D.aK (z.trans u) (λb J=>A.qd J),C,by simp[H],aq,?_,?_⟩
    ·omega
    ·omega
    ·have e:=lY (B^i) (val l) c _ (a.getD i 0) G;rw[jW,H,eu g,eu a,Nat.pow_succ,a0,Nat.mul_zero,Nat.add_zero];refine e.trans ?_;omega
  ·refine gg ?_;rw[cM g i aq,cM a i aq]at G;exact⟨v,l,c,F,F,z,A,aq,Z,by rw[H];exact G⟩
 ·rintro f U ⟨v,l,c,o,h,z,A,H,Z,G⟩;rw[ui o,ui h];clear o h;refine gg ?_;refine eM di F (.inl F) F rfl ?_;intro Y E u R;refine gg ?_;refine lZ F rfl (A.Y u) F E (Nat.mod_lt _ ar) aq (by have:=z.size;omega) ?_;intro I X C D;refine gg ?_;refine cI (v:=I) F rfl ⟨D.aK (z.trans u) λb J=>A.qd J,?_⟩;have:=C.GD (N:=g.length+a.length+1) (by simp;omega);rw[jW,Nat.mod_eq_of_lt aq,Nat.mul_comm,G]at this;exact this
