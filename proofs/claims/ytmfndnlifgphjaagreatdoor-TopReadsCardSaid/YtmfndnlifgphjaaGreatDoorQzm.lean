import Derived.Test.YtmfndnlifgphjaaGreatDoorQzl
set_option maxHeartbeats 64000000
open Go.Proofs.YtmfndnlifgphjaaGreatDoor
namespace Go.Proofs.Qq
section
open Go Go.cW Go.c7 Go.Proofs
theorem pF{α:Type}(k:Nat)(M:Nat->α):swp k k M=M:=by
 funext i;simp only[swp];split
 ·rename_i h;rw[h]
 ·rfl
theorem eM.swap{w w':World}{d r c k p:Nat}{a:Nat->Nat}{cn:Bool}{b:Nat}{M:Nat->Nat->Int}(h:eM w d a r c cn (λ_ _=>b) M)(g:k<r)(e:p<r)(n:Ch (λb=>b=d) w w')(m:Kp w w')
 (l:dZ 49 w' d r r c (swp k p a)):eM w' d (swp k p a) r c cn (λ_ _=>b) (swp k p M):=by
 have f:∀i,i<r->∃j,j<r/\swp k p a i=a j/\swp k p M i=M j/\j=swp k p id i:=λi d=>by
  simp only[swp];split
  ·exact⟨p,e,F,F,F⟩
  ·split
   ·exact⟨k,g,F,F,F⟩
   ·exact⟨i,d,F,F,F⟩
 refine⟨l.full,λi d=>?_,λi d=>?_,λi j d g e=>?_⟩
 ·obtain⟨j,g,l,a,_⟩:=f i d;rw[l,a];exact(h.row j g).kp m n (h.ne j g)
 ·obtain⟨j,g,l,a,_⟩:=f i d;rw[l];exact h.ne j g
 ·obtain⟨a,m,l,_,o⟩:=f i d;obtain⟨b,d,i,_,f3⟩:=f j g;rw[l,i]at e;have:=h.inj a b m d e;subst this;rw[o]at f3;simp only[swp,id]at f3;split at f3<;>split at f3<;>(try split at f3)<;>(try split at f3)<;>omega
theorem tl(v:Value)(n N:Nat)(M:Nat->Nat->Int)(w:World)(h:cB (EI N) w v n (λ_=>n) M)(u:1<=n)(c6:n<=16)(cf:1<=N)(hN:N<1048576):
 aT Tryz.prog 110 #[v] w (RI w (gj n M)):=by
 obtain⟨A,cq,rfl,u,u,bY⟩:=h;refine bo (n:=149) Tryz.func110 F rfl az aA ?_;refine gg ?_;refine aS (.inl F) a_ ?_;intro O bX bI u;have u:Bx O w.heap.size 1 true 0:=Bx.zero true bX;clear bX;refine gg ?_;refine cJ fL (.inl F) F rfl aD aq aq ?_;intro w2 bc c bt;obtain⟨T,bX⟩ : ∃g,g=w.heap.size:=⟨_,F⟩;obtain⟨L,cc⟩ : ∃g,g=O.heap.size:=⟨_,F⟩;rw[<-bX]at u⊢;rw[<-cc]at bc⊢;have bX:T<L:=aq;have bC:dZ 49 w2 L n 0 n (λ_=>0):=fe bc;have bA:=u.Y c;have G:=bI.trans c;clear bc u bI c;refine gg ?_;refine aY (λf d=>∃z,f 2=.pointer (some ⟨T,0,none⟩)/\f 3=.int .i64 (n:Int)/\f 4=.slice (some ⟨L,0,none⟩) n n/\Ext w d/\Bx d T 1 true 0/\eM d L z n n false (λ_ _=>N) M/\∀k,k<n->L<z k) ?_ ?_
 ·refine gg ?_;refine aU (λm f d=>∃i z,m=n-i/\i<=n/\f 2=.pointer (some ⟨T,0,none⟩)/\f 3=.int .i64 (n:Int)/\f 4=.slice (some ⟨L,0,none⟩) n n/\f 19=.slice A n cq/\f 20=.int .i64 (n:Int)/\f 21=.int .i64 ((i:Nat):Int)/\
   Ext w d/\Bx d T 1 true 0/\dZ 49 d L n i n z/\(∀k,k<i->di d (z k) n false (λ_=>N) (M k)/\L<z k)/\(∀k k',k<i->k'<i->z k=z k'->k=k'))
   n ⟨0,λ_=>0,rfl,aE,rfl,rfl,rfl,rfl,rfl,rfl,G,bA,bC,λk Q=>absurd Q aq,λk k' Q=>absurd Q aq⟩ ?_
  clear bC G bA bt;rintro m f O ⟨i,z,rfl,hi,l,t,s,bI,A,u,G,K,hO,ai,bG⟩;rw[ui l,ui t,ui s,ui bI,ui A,ui u];clear l t s bI A u;by_cases P:i<n
  ·obtain⟨u,u,rfl,hx,bS⟩:=bY i P;obtain⟨u,u,rfl,u⟩:=id bS;have ax:=aP G hx;refine gg ?_;refine cJ dJ (.inl F) F rfl aD aq aq ?_;intro w2 bc c bt;have u:=fq false 0 bc;obtain⟨g,A⟩ : ∃g,g=O.heap.size:=⟨_,F⟩;rw[<-A]at u⊢;have A:=hO.lt;refine gg ?_;refine dI (aX F) (.inl F) F rfl (hO.Y c) P ?_;intro w3 ⟨_,b0⟩ a8 ay aj;have b0:=b0 F;have bM:=b0.at (k:=i) aq P;rw[show cC z i g i=g by simp[cC]]at bM;have A:=u.kp ay a8 aq;have o:Ext w w3:=a8.aK (G.trans c) λb hb=>aq;refine gg ?_;refine IY F rfl A (bS.Y o) aq ?_;intro w4 bK J V b6;have Y:Ext w w4:=J.aK o λb hb=>aq;refine gg ?_;refine⟨_,?_,i+1,cC z i g,F,aq,F,F,F,F,F,F,Y,((K.Y c).kp ay a8 aq).kp V J aq,b0.kp J aq,λk Q=>?_,λk k' Q u e=>?_⟩
   ·omega
   ·by_cases e:k=i
    ·subst e;simp only[cC,if_true];exact⟨bK,aq⟩
    ·simp only[cC,aa e];obtain⟨H,h2⟩:=ai k aq;have:=H.lt;exact⟨((H.Y c).kp ay a8 aq).kp V J aq,h2⟩
   ·have u:∀k,k<i->z k<O.heap.size:=λk Q=>(ai k Q).1.lt;simp only[cC]at e;split at e<;>split at e
    ·omega
    ·have:=u k' aq;omega
    ·have:=u k aq;omega
    ·exact bG k k' aq aq e
  ·refine gg ?_;have:i=n:=aq;subst this;exact⟨z,F,F,F,G,K,⟨hO.full,λk Q=>(ai k Q).1,λk Q=>by have:=(ai k Q).2;omega,bG⟩,λk Q=>(ai k Q).2⟩
 clear bC G bA bt;rintro f O ⟨z,l,t,s,G,K,R,W⟩;rw[ui l,ui t,ui s];clear l t s;refine gg ?_;refine aJ (du 1 O aq aq) ?_;rintro _ w2 ⟨c,x,y,rfl,aH⟩;refine gg ?_;refine aS (.inl F) a_ ?_;intro w3 b8 o aj;have A:Bx w3 w2.heap.size 1 false 0:=Bx.zero false b8;obtain⟨U,ai⟩ : ∃g,g=w2.heap.size:=⟨_,F⟩;rw[<-ai]at A⊢;refine gg ?_;refine aL (.inl F) F rfl A ((aH.Y o).ev false (N:=N) (Bd.mono (N:=1) (show(1:Int).natAbs<B^1 by decide) cf)) ?_;intro w4 ar J V b6;have X:=R.Y c;have u:∀k,k<n->z k<U:=λk Q=>by have:=(X.row k Q).lt;omega
 have bc:L<U:=by have:=X.lt;omega
 have al:=(X.Y o).kp V J aq (λk Q=>by have:=u k Q;omega);have an:=((K.Y c).Y o).kp V J aq;have Y:Ext w w4:=J.aK (G.trans (c.trans o)) λb hb=>aq;have bj:∀k,k<n->L<z k/\z k<U:=λk Q=>⟨W k Q,u k Q⟩;clear u W R X K c o aH b8 A J V b6 aj ai G O w2 w3;refine gg ?_;refine aY (λf d=>∃I C,f 2=.pointer (some ⟨T,0,none⟩)/\f 7=.bool I/\f 8=.pointer (some ⟨U,0,none⟩)/\Ext w d/\Bx d T 1 true 0/\Bx d U (Nb N n) false C/\(if I then -C else C)=gj n M) ?_ ?_
 ·refine gg ?_;refine aU (λm f d=>∃k z Mk I C,m=n-k/\k<=n/\f 2=.pointer (some ⟨T,0,none⟩)/\f 3=.int .i64 (n:Int)/\f 4=.slice (some ⟨L,0,none⟩) n n/\f 7=.bool I/\f 8=.pointer (some ⟨U,0,none⟩)/\f 39=.int .i64 (n:Int)/\f 40=.int .i64 ((k:Nat):Int)/\
   Ext w d/\Bx d T 1 true 0/\Bx d U (Nb N k) false C/\C≠0/\eM d L z n n false (λ_ _=>Nb N k) Mk/\(∀i,i<n->L<z i/\z i<U)/\jU n (n-k) k Mk I C=gj n M)
   n ⟨0,z,M,false,1,F,aE,F,F,F,F,F,F,F,Y,an,ar,aw,al,bj,F⟩ ?_
  clear Y an ar al bj w4 z;rintro m f O ⟨k,z,Mk,I,C,rfl,Q,l,t,s,E,D,r,q,G,K,Z,c9,R,W,ae⟩;rw[ui l,ui t,ui s,ui E,ui D,ui r,ui q];clear l t s E D r q;have u:Nb N k<68719476736:=iL hN aq;by_cases P:k<n
  ·refine gg ?_;refine aY (λf d=>∃p,k<=p/\p<=n/\f 2=.pointer (some ⟨T,0,none⟩)/\f 3=.int .i64 (n:Int)/\f 4=.slice (some ⟨L,0,none⟩) n n/\f 7=.bool I/\f 8=.pointer (some ⟨U,0,none⟩)/\f 9=.int .i64 (k:Int)/\f 10=.int .i64 ((p:Nat):Int)/\f 39=.int .i64 (n:Int)/\f 40=.int .i64 (k:Int)/\Ext O d/\p=dS n k Mk/\(p<n->Mk p k≠0)) ?_ ?_
   ·refine gg ?_;refine aU (λm f d=>∃p,m=n-p/\k<=p/\p<=n/\f 2=.pointer (some ⟨T,0,none⟩)/\f 3=.int .i64 (n:Int)/\f 4=.slice (some ⟨L,0,none⟩) n n/\f 7=.bool I/\f 8=.pointer (some ⟨U,0,none⟩)/\f 9=.int .i64 (k:Int)/\f 10=.int .i64 ((p:Nat):Int)/\f 39=.int .i64 (n:Int)/\f 40=.int .i64 (k:Int)/\Ext O d/\iI n k Mk (n-p) p=dS n k Mk)
     (n-k) ⟨k,F,aD,Q,F,F,F,F,F,F,F,F,F,Ext.refl _,F⟩ ?_
    rintro m f w2 ⟨p,rfl,ai,kO,l,t,s,E,D,S,A,r,q,c,hp⟩;rw[ui l,ui t,ui s,ui E,ui D,ui S,ui A,ui r,ui q];clear l t s E D S A r q;by_cases u:p<n
    ·have hx:=(R.Y c).at u;obtain⟨x,y,ax,b5,hv⟩:=((R.Y c).row p u).at P;refine aN ?_;refine gg ?_;refine aJ (pK _ _ _ _ w2 hv.1 aq) ?_;rintro _ w3 ⟨o,rfl⟩;by_cases Q:Mk p k=0
     ·have hs:(Mk p k).sign=0:=by rw[Q];rfl
      refine gg ?_;refine⟨_,?_,p+1,F,aq,aq,F,F,F,F,F,F,F,F,F,c.trans o,?_⟩
      ·omega
      ·rw[<-td ⟨u,Q⟩];exact hp
     ·have hs:¬(Mk p k).sign=0:=λe=>Q (Int.sign_eq_zero_iff_zero.1 e);refine gg ?_;refine⟨p,ai,kO,F,F,F,F,F,F,F,F,F,c.trans o,?_,λ_=>Q⟩;rw[<-hp,mD λh=>Q h.2]
    ·refine aN ?_;refine gg ?_;refine⟨p,ai,kO,F,F,F,F,F,F,F,F,F,c,?_,λh=>absurd h u⟩;rw[<-hp,mD λh=>u h.1]
   rintro f w2 ⟨p,ai,kO,l,t,s,E,D,S,A,r,q,c,hp,bI⟩;rw[ui l,ui t,ui s,ui E,ui D,ui S,ui A,ui r,ui q];clear l t s E D S A r q;have a7:=ae;rw[show n-k=(n-(k+1))+1 by omega,jU,<-hp]at a7;refine aN ?_;by_cases h:p=n
   ·rw[ab h]at a7;refine gg ?_;refine dR fm ?_;refine gg ?_;refine aL (N':=1) (.inl F) F rfl (K.Y c) ((CV.zero w2).ev true (Bd.zero 1)) ?_;intro w3 b7 a8 ay aj;refine gg ?_;obtain⟨x,y,hB,hv⟩:=b7;refine eZ F aQ F hB ⟨a8.aK (G.trans c) λb hb=>aq,x,y,F,?_⟩;rw[<-a7];exact hv.2 F
   rw[aa h]at a7;have u:p<n:=aq;have bG:=G.trans c;have bA:=K.Y c;have bC:=Z.Y c;have bc:=R.Y c;clear K Z R G c ae O;refine gg ?_;refine aY (λf d=>∃h,f 2=.pointer (some ⟨T,0,none⟩)/\f 3=.int .i64 (n:Int)/\f 4=.slice (some ⟨L,0,none⟩) n n/\f 7=.bool (I != decide (p≠k))/\f 8=.pointer (some ⟨U,0,none⟩)/\f 9=.int .i64 (k:Int)/\f 39=.int .i64 (n:Int)/\f 40=.int .i64 (k:Int)/\
    Ext w d/\Bx d T 1 true 0/\Bx d U (Nb N k) false C/\eM d L h n n false (λ_ _=>Nb N k) (swp k p Mk)/\(∀i,i<n->L<h i/\h i<U)) ?_ ?_
   ·refine aN ?_;by_cases ai:p=k
    ·refine gg ?_;refine⟨z,F,F,F,?_,F,F,F,F,bG,bA,bC,?_,W⟩
     ·show Value.bool I=_;simp[ai]
     ·rw[ai,pF];exact bc
    ·refine gg ?_;refine b_ [(0,3),(1,3),(2,3),(3,3),(4,3),(5,3),(6,3),(7,0),(8,3),(9,3),(10,3),(11,0),(12,3),(13,2),(14,3),(15,2)] mixed az λw3 o _=>?_;have Q:=bc.Y o;have h:=Q.at u;have h:=Q.at P;have b0:=Cb Q.outer;refine gg ?_;refine dI (aX F) (.inl F) F rfl b0 P ?_;intro w4 ⟨h,_⟩ J V b6;refine gg ?_;refine dI (aX F) (.inl F) F rfl h u ?_;intro w5 ⟨b0,_⟩ A bK h;have h:=J.trans A;have A:=V.trans bK;have e:cC (cC z k (z p)) p (z k)=swp k p z:=by
      funext i;simp only[cC,swp];by_cases H:i=p
      ·rw[ab H];by_cases h2:i=k
       ·omega
       ·rw[aa h2,ab H]
      ·rw[aa H];by_cases h2:i=k
       ·rw[ab h2,ab h2]
       ·rw[aa h2,aa h2,aa H]
     rw[e]at b0;have bK:=Q.swap P u h A b0;refine gg ?_;refine⟨swp k p z,F,F,F,?_,F,F,F,F,h.aK (bG.trans o) λb hb=>aq,(bA.Y o).kp A h aq,(bC.Y o).kp A h aq,bK,λi hi=>?_⟩
     ·show Value.bool (!I)=_;simp[ai]
     ·simp only[swp];split
      ·exact W p u
      ·split
       ·exact W k P
       ·exact W i hi
   clear bc bC bA bG W w2 z;rintro f O ⟨z,l,t,s,E,D,S,r,q,G,K,Z,R,W⟩;rw[ui l,ui t,ui s,ui E,ui D,ui S,ui r,ui q];clear l t s E D S r q;obtain⟨Ms,h⟩ : ∃Ms,Ms=swp k p Mk:=⟨_,F⟩;rw[<-h]at R a7;have c4:Ms k k≠0:=by rw[h];simp only[swp,if_true];exact bI u
   have hx:=R.at P;obtain⟨x,y,ax,b5,hv⟩:=(R.row k P).at P;refine gg ?_;refine aS (.inl F) a_ ?_;intro w3 b8 o aj;have h:Bx w3 O.heap.size 1 false 0:=Bx.zero false b8;obtain⟨gP,u⟩ : ∃g,g=O.heap.size:=⟨_,F⟩;rw[<-u]at h⊢;refine gg ?_;refine aL (.inl F) F rfl h (hv.Y o) ?_;intro w4 bB J V b6;have g:U<gP:=by have:=Z.lt;omega
   have Y:Ext w w4:=J.aK (G.trans o) (λb hb=>by have:=G.size;omega);have an:=(K.Y o).kp V J aq;have ar:=(Z.Y o).kp V J aq;have al:=(R.Y o).kp V J aq (λi hi=>by have:=W i hi;omega);have g:w.heap.size<=T:=aq;clear h b8 hx ax b5 hv K Z R G o J V b6 aj u O w3;refine gg ?_;refine aY (λf d=>f 2=.pointer (some ⟨T,0,none⟩)/\f 3=.int .i64 (n:Int)/\f 4=.slice (some ⟨L,0,none⟩) n n/\f 7=.bool (I != decide (p≠k))/\f 8=.pointer (some ⟨U,0,none⟩)/\f 11=.pointer (some ⟨gP,0,none⟩)/\f 39=.int .i64 (n:Int)/\f 40=.int .i64 (k:Int)/\
    Ext w d/\Bx d T 1 true 0/\Bx d U (Nb N k) false C/\Bx d gP (Nb N k) false (Ms k k)/\eM d L z n n false (λ_ _=>Nb N (k+1)) (elim k C Ms)) ?_ ?_
   ·refine gg ?_;refine aU (λm f d=>∃i,m=n-i/\k<i/\i<=n/\f 2=.pointer (some ⟨T,0,none⟩)/\f 3=.int .i64 (n:Int)/\f 4=.slice (some ⟨L,0,none⟩) n n/\f 7=.bool (I != decide (p≠k))/\f 8=.pointer (some ⟨U,0,none⟩)/\f 9=.int .i64 (k:Int)/\f 11=.pointer (some ⟨gP,0,none⟩)/\f 12=.int .i64 ((i:Nat):Int)/\f 39=.int .i64 (n:Int)/\f 40=.int .i64 (k:Int)/\
     Ext w d/\Bx d T 1 true 0/\Bx d U (Nb N k) false C/\Bx d gP (Nb N k) false (Ms k k)/\eM d L z n n false (λa b=>if k<a/\k<b/\a<i then Nb N (k+1)else Nb N k) λa b=>if k<a/\k<b/\a<i then elim k C Ms a b else Ms a b)
     (n-(k+1)) ⟨k+1,F,aq,aq,F,F,F,F,F,F,F,F,F,F,Y,an,ar,bB,al.congr (λa b ha hb=>⟨by rw[aa aq];exact Nat.le_refl _,by rw[aa aq]⟩)⟩ ?_
    clear Y an ar bB al w4;rintro m f O ⟨i,rfl,cb,g,l,t,s,E,D,S,a6,au,r,q,G,K,Z,hP,R⟩;rw[ui l,ui t,ui s,ui E,ui D,ui S,ui a6,ui au,ui r,ui q];clear l t s E D S a6 au r q;refine aN ?_;by_cases ak:i<n
    ·refine gg ?_;refine aU (λm f d=>∃j,m=n-j/\k<j/\j<=n/\f 2=.pointer (some ⟨T,0,none⟩)/\f 3=.int .i64 (n:Int)/\f 4=.slice (some ⟨L,0,none⟩) n n/\f 7=.bool (I != decide (p≠k))/\f 8=.pointer (some ⟨U,0,none⟩)/\f 9=.int .i64 (k:Int)/\f 11=.pointer (some ⟨gP,0,none⟩)/\f 12=.int .i64 (i:Int)/\f 13=.int .i64 ((j:Nat):Int)/\f 39=.int .i64 (n:Int)/\f 40=.int .i64 (k:Int)/\
      Ext w d/\Bx d T 1 true 0/\Bx d U (Nb N k) false C/\Bx d gP (Nb N k) false (Ms k k)/\eM d L z n n false (λa b=>if k<a/\k<b/\(a<i\/a=i/\b<j)then Nb N (k+1)else Nb N k) λa b=>if k<a/\k<b/\(a<i\/a=i/\b<j)then elim k C Ms a b else Ms a b)
      (n-(k+1)) ⟨k+1,F,aq,aq,F,F,F,F,F,F,F,F,F,F,F,G,K,Z,hP,R.congr λa b ha hb=>⟨?_,?_⟩⟩ ?_
     ·by_cases H:k<a/\k<b/\a<i
      ·rw[ab H,ab aq];exact Nat.le_refl _
      ·rw[aa H,aa aq];exact Nat.le_refl _
     ·by_cases H:k<a/\k<b/\a<i
      ·rw[ab H,ab aq]
      ·rw[aa H,aa aq]
     clear G K Z hP R O;rintro m f O ⟨j,rfl,ca,g,l,t,s,E,D,S,a6,au,g,r,q,G,K,Z,hP,R⟩;rw[ui l,ui t,ui s,ui E,ui D,ui S,ui a6,ui au,ui g,ui r,ui q];clear l t s E D S a6 au g r q;refine aN ?_;by_cases bx:j<n
     ·refine gg ?_;refine ib [(0,0),(1,3),(2,3),(3,3),(4,0),(5,3),(6,3),(7,0),(9,3),(10,3),(11,3),(12,0),(13,3),(14,3),(15,0),(16,3),(17,3),(18,3),(19,0),(20,3),(21,3),(22,0)] [(8,[],[]),(25,[],[]),(23,[],[8]),(24,[],[8,23])] [(26,2)] mixed az λw2 c _=>?_;have X:=R.Y c;have c5:=X.at ak;have g:=X.at P;obtain⟨g,g,Gc,bu⟩:=hP.Y c;obtain⟨g,g⟩:=bh Gc;obtain⟨g,g,ax,g,cQ⟩:=(X.row i ak).at bx;obtain⟨g,g,b5,g,fc⟩:=(X.row i ak).at P;obtain⟨g,g,bM,g,bl⟩:=(X.row k P).at bx;simp only at cQ fc bl;rw[aa aq,aa aq]at cQ fc bl;refine gg ?_;refine dN [(8,[]),(23,[]),(24,[])] [fA 25 14 44 (.agg #[.bool false,.slice none 0 0])] [112,127,128,14] az (λa ha f' d _ _=>by
       rcases List.mem_singleton.1 ha with rfl;exact cm a_ F f' d) ?_
      refine cS λw3 o=>?_;refine gg ?_;refine aM (fy _ _ _ _ _ _ (Nb N k) w3 (bu.Y o).1 (cQ.Y o).1 aq) ?_;rintro _ w4 ⟨Y,d,d,rfl,J⟩;refine⟨Y,?_⟩;refine gg ?_;refine cS λw5 m=>?_;have d:=(o.trans Y).trans m;refine gg ?_;refine aM (fy _ _ _ _ _ _ (Nb N k) w5 (fc.Y d).1 (bl.Y d).1 aq) ?_;rintro _ g ⟨h,a2,b2,rfl,u⟩;refine⟨h,?_⟩;refine gg ?_;refine cS λL g=>?_;have A:=(bu.bd).mul cQ.bd;have o:=(fc.bd).mul bl.bd;refine gg ?_;refine aM (mj _ _ _ _ _ _ (Nb N k+Nb N k) L ((J.Y ((m.trans h).trans g)).iv A) ((u.Y g).iv o) aq) ?_;rintro _ m ⟨u,a3,b3,rfl,cd⟩;refine⟨u,?_⟩;have m3:=A.sub o;have m:Nb N k+Nb N k+1=Nb N (k+1):=by simp only[Nb];omega
      rw[m]at m3;refine gg ?_;refine eW λA bW m J _=>?_;obtain⟨o,L⟩:=J _ aG;have ck:Bx A (m 14) 1 false 0:=Bx.zero false L;have o:w2.heap.size<=m 14:=o;have av:Ext w2 A:=d.trans (h.trans (g.trans (u.trans bW)));show Ro _ _ _ _ _ _ (cg _ 14 (.pointer (some ⟨m 14,0,none⟩))) _;generalize m 14=gM at*;refine gg ?_;refine aL (.inl F) F rfl ck ((cd.Y bW).ev false m3) ?_;intro o A d g h;have h:=G.trans c;have m:=h.size;have m:=(hP.Y c).lt;have m:=(X.Y av).kp g d (by have:=X.lt;omega) (λa ha=>by have:=(X.row a ha).lt;omega);have L:=(K.Y (c.trans av)).kp g d aq;have u:=(Z.Y (c.trans av)).kp g d aq;have P:=(hP.Y (c.trans av)).kp g d aq;have Q:Ext w o:=d.aK (h.trans av) λb hb=>aq;refine gg ?_;refine cP [(0,3),(1,3),(2,3),(3,0),(4,3),(5,0),(6,0),(7,1),(8,3),(9,3),(10,3),(11,3),(12,3),(13,2)] mixed az λd g _=>?_;have o:=m.Y g;have c5:=o.at ak;obtain⟨h,h,m,h⟩:=A.Y g;obtain⟨A,A⟩:=bh m;obtain⟨m,m,bD,b4⟩:=u.Y g;obtain⟨m,m⟩:=bh bD;have m:Nb N (k+1)<68719476736:=iL hN aq;refine gg ?_;refine aM (jd _ _ _ _ _ _ (Nb N (k+1)) d h.1 (b4.mono (jF N k)).1 aq c9) ?_;rintro _ d ⟨d,h,h,rx,h,rfl,h,m⟩;refine⟨d,?_⟩;refine gg ?_;refine c_ (.inl F) F rfl ((o.Y d).row i ak) bx (h.ev false (N:=Nb N (k+1)) m3.ediv) ?_;intro h J h m A;have A:=(o.Y d).put ak J h m;have o:=W i ak;refine gg ?_;refine⟨_,?_,j+1,F,aq,aq,F,F,F,F,F,F,F,F,F,F,F,h.aK (Q.trans (g.trans d)) λb hb=>aq,(L.Y (g.trans d)).kp m h aq,(u.Y (g.trans d)).kp m h aq,(P.Y (g.trans d)).kp m h aq,A.congr λa b ha hb=>⟨?_,?_⟩⟩
      ·omega
      ·simp only[cV];by_cases e:a=i/\b=j
       ·rw[ab e,ab aq];exact Nat.le_refl _
       ·rw[aa e];by_cases H:k<a/\k<b/\(a<i\/a=i/\b<j)
        ·rw[ab H,ab aq];exact Nat.le_refl _
        ·rw[aa H,aa aq];exact Nat.le_refl _
      ·simp only[cV];by_cases e:a=i/\b=j
       ·obtain⟨rfl,rfl⟩:=e;rw[ab ⟨F,F⟩,ab aq,elim,ab ⟨cb,ca⟩]
       ·rw[aa e];by_cases H:k<a/\k<b/\(a<i\/a=i/\b<j)
        ·rw[ab H,ab aq]
        ·rw[aa H,aa aq]
     ·refine gg ?_;refine⟨_,?_,i+1,F,aq,aq,F,F,F,F,F,F,F,F,F,F,G,K,Z,hP,R.congr λa b ha hb=>⟨?_,?_⟩⟩
      ·omega
      ·by_cases H:k<a/\k<b/\a<i+1
       ·rw[ab aq,ab H];exact Nat.le_refl _
       ·rw[aa aq,aa H];exact Nat.le_refl _
      ·by_cases H:k<a/\k<b/\a<i+1
       ·rw[ab aq,ab H]
       ·rw[aa aq,aa H]
    ·refine gg ?_;refine⟨F,F,F,F,F,F,F,F,G,K,Z,hP,R.congr λa b ha hb=>⟨?_,?_⟩⟩
     ·have:=jF N k;split<;>omega
     ·by_cases H:k<a/\k<b/\a<i
      ·rw[ab H]
      ·rw[aa H,elim,aa aq]
   ·clear Y an ar bB al w4;rintro f O ⟨l,t,s,E,D,a6,r,q,G,K,Z,hP,R⟩;rw[ui l,ui t,ui s,ui E,ui D,ui a6,ui r,ui q];clear l t s E D a6 r q;obtain⟨x,y,Gc,bu⟩:=hP;obtain⟨ax,b5⟩:=bh Gc;refine gg ?_;refine aL (.inl F) F rfl Z (bu.mono (jF N k)) ?_;intro w2 e a d bt;refine gg ?_;refine⟨_,?_,k+1,z,elim k C Ms,I != decide (p≠k),Ms k k,F,aq,F,F,F,F,F,F,F,a.aK G (λb hb=>aq),K.kp d a aq,e,c4,R.kp d a aq (λi hi=>by have:=W i hi;omega),W,a7⟩;omega
  ·refine gg ?_;have:k=n:=aq;subst this;rw[Nat.sub_self,jU]at ae;exact⟨I,C,F,F,F,G,K,Z,ae⟩
 clear Y an ar al bj w4 z;rintro f O ⟨I,C,l,E,D,G,K,Z,ae⟩;rw[ui l,ui E,ui D];clear l E D;have a:Nb N n<68719476736:=iL hN c6;obtain⟨x,y,bD,b4⟩:=Z;obtain⟨ax,b5⟩:=bh bD;refine aN ?_;cases I with
 |true=>
  refine gg ?_;refine aJ (Cj _ _ _ _ O b4.1 aq) ?_;rintro _ w2 ⟨c,x',y',rfl,aH⟩;refine gg ?_;refine aL (N':=Nb N n) (.inl F) F rfl (K.Y c) (aH.ev true b4.bd.neg) ?_;intro w3 b7 a8 ay aj;refine gg ?_;obtain⟨x,y,hB,hv⟩:=b7;refine eZ F aQ F hB ⟨a8.aK (G.trans c) λb hb=>aq,x,y,F,?_⟩;rw[<-ae];exact hv.2 F
 |false=>
  refine gg ?_;refine aJ (iz _ _ _ _ O b4.1 aq) ?_;rintro _ w2 ⟨c,x',y',rfl,aH⟩;refine gg ?_;refine aL (N':=Nb N n) (.inl F) F rfl (K.Y c) (aH.ev true b4.bd) ?_;intro w3 b7 a8 ay aj;refine gg ?_;obtain⟨x,y,hB,hv⟩:=b7;refine eZ F aQ F hB ⟨a8.aK (G.trans c) λb hb=>aq,x,y,F,?_⟩;rw[<-ae];exact hv.2 F
def iZ(w:World)(g c cp:Nat)(cn:Bool)(bn:Nat->Nat)(M:Nat->Int):Prop:=
 c<=cp/\cp<9223372036854775808/\∃h,bg w g 44 (arr (cp*2) h)/\nX (arr (cp*2) h)/\∀j,j<c->EV w (bn j) cn (h (j*2)) (h (j*2+1)) (M j)
section
variable {w w':World}{g c cp:Nat}{cn:Bool}{bn bn':Nat->Nat}{M M':Nat->Int}
theorem iZ.lt(h:iZ w g c cp cn bn M):g<w.heap.size:=by obtain⟨_,_,_,a,_⟩:=h;exact a.lt
theorem iZ.kp{a:Nat->Prop}(h:iZ w g c cp cn bn M)(e:Kp w w')(l:Ch a w w')(b:¬a g):iZ w' g c cp cn bn M:=by
 obtain⟨o,m,h,a,j,i⟩:=h;exact⟨o,m,h,a.ch l b,j,λj a=>(i j a).kp e⟩
theorem iZ.Y(h:iZ w g c cp cn bn M)(a:Ext w w'):iZ w' g c cp cn bn M:=h.kp (bJ a) a id
theorem iZ.congr(h:iZ w g c cp cn bn M)(e:∀j,j<c->bn j<=bn' j/\M j=M' j):iZ w g c cp cn bn' M':=by
 obtain⟨m,l,h,a,i,b⟩:=h;exact⟨m,l,h,a,i,λj a=>by rw[<-(e j a).2];exact(b j a).mono (e j a).1⟩
theorem iZ.at{j:Nat}(h:iZ w g c cp cn bn M)(b:j<c):
 ∃x y,w.cell? ⟨g,0+j*2,none⟩=some x/\w.cell? ((⟨g,0+j*2,none⟩ : Addr).add 1)=some y/\EV w (bn j) cn x y (M j):=by
 obtain⟨a,a,h,a,e,e⟩:=h;refine⟨_,_,?_,?_,e j b⟩
 ·rw[a.cell,cE aq,Nat.zero_add]
 ·rw[add_lit,a.cell,cE aq,Nat.zero_add]
theorem di.rg{m:Nat}(h:di w g cp cn bn M)(b:m<=cp)(i:cp<9223372036854775808):iZ w g m cp cn bn M:=by
 obtain⟨e,j,a⟩:=h;exact⟨b,i,e,j,jK a,λj b=>a j aq⟩
end
section
variable {n:Nat}{S:World->World->Prop}{k:Nat}{K:Fr->World->Prop}{f:Fr}{w:World}
 {d ty t t2:Nat} {x y:Operand} {pos:String} {aft:Array Edge} {gd:Option (Nat×Bool)}
theorem fr{g c cp j N:Nat}{cn:Bool}{bn:Nat->Nat}{M:Nat->Int}{z:Int}{a b:Value}(O:k=2\/k=1/\∀w',Ch (λb=>b=g) w w'->S w w')(A:ev n f x=.pointer (some ⟨g,0+j*2,none⟩))(l:ev n f y=.agg #[a,b])(G:iZ w g c cp cn bn M)(h:j<c)(o:EV w N cn a b z)
 (h:∀w',iZ w' g c cp cn (cC bn j N) (ef M j z)->Ch (λb=>b=g) w w'->Kp w w'->w'.heap.size=w.heap.size->K f w'):
 R1 Tryz.prog n S k ⟨none,.store 44 x y,ty,pos,aft,gd⟩ K f w:=by
 obtain⟨L,J,B,B,v,I⟩:=G;refine aZ aQ O A l o.1.ep o.1.eN B (by rw[bf];omega) ?_;intro w' l A G;have s:=c8 B v.lh A;refine h w' ⟨L,J,_,by rw[cT,cT]at l;exact l,?_,λq H=>?_⟩ A s G
 ·obtain⟨h,A,l,h,Q,P,_⟩:=o.1;intro i E D m;by_cases u:i<cp*2
  ·rw[cE u,Nat.zero_add]at m;have m:=Option.some.inj m;by_cases e:i=j*2+1
   ·subst e;rw[ct,P]at m;cases m
   ·rw[b9 _ _ e]at m;by_cases C:i=j*2
    ·subst C;rw[ct,Q]at m;cases m
    ·rw[b9 _ _ C]at m;exact v i E D (by rw[cE u,m])
  ·rw[Array.getElem?_eq_none (by rw[bf];omega)]at m;cases m
 by_cases p:q=j
 ·subst p;rw[Nat.zero_add,b9 _ _ (show q*2≠q*2+1 by omega),ct,ct];simp only[ef,cC,if_true];exact o.kp s
 ·rw[Nat.zero_add,b9 _ _ aq,b9 _ _ aq,b9 _ _ aq,b9 _ _ aq];simp only[ef,cC,aa p];exact(I q H).kp s
end
structure cF(w:World)(gO:Nat)(gs cp:Nat->Nat)(r c:Nat)(cn:Bool)(bn:Nat->Nat->Nat)(M:Nat->Nat->Int):Prop where
 outer:bg w gO 49 (arr r λi=>.slice (some ⟨gs i,0,none⟩) c (cp i))
 row:∀i,i<r->iZ w (gs i) c (cp i) cn (bn i) (M i)
 ne:∀i,i<r->gs i≠gO
 inj:∀i j,i<r->j<r->gs i=gs j->i=j
section
variable {w w':World}{gO r c:Nat}{gs cp:Nat->Nat}{cn:Bool}{bn bn':Nat->Nat->Nat}{M M':Nat->Nat->Int}
theorem cF.kp{a:Nat->Prop}(h:cF w gO gs cp r c cn bn M)(l:Kp w w')(b:Ch a w w')(j:¬a gO)(e:∀i,i<r->¬a (gs i)):cF w' gO gs cp r c cn bn M:=
 ⟨h.outer.ch b j,λi a=>(h.row i a).kp l b (e i a),h.ne,h.inj⟩
theorem cF.Y(h:cF w gO gs cp r c cn bn M)(a:Ext w w'):cF w' gO gs cp r c cn bn M:=h.kp (bJ a) a id (λ_ _=>id)
theorem cF.congr(h:cF w gO gs cp r c cn bn M)(e:∀i j,i<r->j<c->bn i j<=bn' i j/\M i j=M' i j):cF w gO gs cp r c cn bn' M':=
 ⟨h.outer,λi a=>(h.row i a).congr λj b=>e i j a b,h.ne,h.inj⟩
theorem cF.at(h:cF w gO gs cp r c cn bn M){i:Nat}(a:i<r):w.cell? ⟨gO,0+i*1,none⟩=some (.slice (some ⟨gs i,0,none⟩) c (cp i)):=by
 rw[h.outer.cell,cE aq,Nat.zero_add,Nat.mul_one]
theorem cF.lt(h:cF w gO gs cp r c cn bn M):gO<w.heap.size:=h.outer.lt
theorem cF.lT(_:cF w gO gs cp r c cn bn M):nX (arr r λi=>Value.slice (some ⟨gs i,0,none⟩) c (cp i)):=ff λ_ _=>⟨_,_,_,rfl⟩
theorem cF.put{i j N:Nat}{z:Int}(h:cF w gO gs cp r c cn bn M)(l:i<r)(p:iZ w' (gs i) c (cp i) cn (cC (bn i) j N) (ef (M i) j z))(o:Ch (λb=>b=gs i) w w')(q:Kp w w'):
 cF w' gO gs cp r c cn (cV bn i j N) (cV M i j z):=by
 refine⟨h.outer.ch o (Ne.symm (h.ne i l)),λa m=>?_,h.ne,h.inj⟩;by_cases e:a=i
 ·subst e;rw[kA,kA];exact p
 ·rw[kR _ _ _ e,kR _ _ _ e];exact(h.row a m).kp q o λb=>e (h.inj a i m l b)
theorem cF.swap{k p b:Nat}(h:cF w gO gs cp r c cn (λ_ _=>b) M)(o:k<r)(e:p<r)(u:Ch (λb=>b=gO) w w')(a:Kp w w')
 (q:bg w' gO 49 (arr r λi=>.slice (some ⟨swp k p gs i,0,none⟩) c (swp k p cp i))):cF w' gO (swp k p gs) (swp k p cp) r c cn (λ_ _=>b) (swp k p M):=by
 have m:∀i,i<r->∃j,j<r/\swp k p gs i=gs j/\swp k p cp i=cp j/\swp k p M i=M j/\j=swp k p id i:=λi l=>by
  simp only[swp];split
  ·exact⟨p,e,F,F,F,F⟩
  ·split
   ·exact⟨k,o,F,F,F,F⟩
   ·exact⟨i,l,F,F,F,F⟩
 refine⟨q,λi l=>?_,λi l=>?_,λi j l o e=>?_⟩
 ·obtain⟨j,o,q,v,s,_⟩:=m i l;rw[q,v,s];exact(h.row j o).kp a u (h.ne j o)
 ·obtain⟨j,o,q,_⟩:=m i l;rw[q];exact h.ne j o
 ·obtain⟨a,u,q,_,_,s⟩:=m i l;obtain⟨b,i,l,_,_,f3⟩:=m j o;rw[q,l]at e;have:=h.inj a b u i e;subst this;rw[s]at f3;simp only[swp,id]at f3;split at f3<;>split at f3<;>(try split at f3)<;>(try split at f3)<;>omega
theorem cF.read{N:Nat}(h:cF w gO gs cp r c cn (λ_ _=>N) M)(a:r<9223372036854775808)(_hc:c<9223372036854775808):cB (EI N) w (.slice (some ⟨gO,0,none⟩) r r) r (λ_=>c) M:=
 ⟨_,_,F,aD,a,λi a=>⟨_,_,rfl,by rw[add_lit];exact h.at a,by
  obtain⟨e,b,_⟩:=h.row i a;refine⟨_,_,F,e,b,λj e=>?_⟩;obtain⟨x,y,l,j,b⟩:=(h.row i a).at e;exact⟨_,x,y,F,by rw[add_lit];exact l,by rw[add_lit];exact j,b.1⟩⟩⟩
end
theorem E3(a x:Nat)(b:a<4294967296)(b:x<=4294967296):(a+(18446744073709551616-x))%18446744073709551616%4294967296+x=a+4294967296*(if a<x then 1 else 0):=by
 split<;>omega
theorem kD(D u:Option Addr)(m y C A:Nat)(a c:List Nat)(w:World)(h1:fM w D a)(H:fM w u c)(J:a.length=m)(I:c.length=y)(R:m<1099511627776)(R:y<=m)(R:val c<=val a):
 aT Tryz.prog 178 #[.slice D m C,.slice u y A] w λv b=>Ext w b/\Ln b v m (val a-val c):=by
 subst J I;refine bo (n:=46) Tryz.func178 F rfl az aA ?_;refine gg ?_;refine aN ?_;refine gg ?_;refine aU (λm f b=>∃i v l d,m=a.length-i/\i<=a.length/\f 0=.slice D a.length C/\f 1=.slice u c.length A/\f 5=v/\f 6=.int .u64 ((d:Nat):Int)/\f 7=.int .i64 ((i:Nat):Int)/\Ext w b/\oQ b w.heap.size v l/\l.length=i/\d<=1/\
  val l+val (c.take i)=val (a.take i)+d*B^i) a.length ⟨0,_,[],0,F,aq,F,F,F,F,F,Ext.refl _,oQ.nil _ _,F,aq,by simp[val]⟩ ?_
 rintro m f M ⟨i,v,l,d,rfl,m,o,k,g,m,e,q,t,p,y,G⟩;rw[ui o,ui k,ui g,ui m,ui e];clear o k g m e;refine aN ?_;have O:=h1.fD.getD i;have m:=H.fD.getD i;by_cases m:i<a.length
 ·obtain⟨Q,rfl,m⟩:=(h1.Y q).at (j:=i) aq;have y:=m i aq;refine gg ?_;refine aY (λf b=>M=b/\f 0=.slice (some Q) a.length C/\f 1=.slice u c.length A/\f 5=v/\f 7=.int .i64 (i:Int)/\f 8=.int .u64 ((d+c.getD i 0:Nat):Int)) ?_ ?_
  ·refine aN ?_;by_cases K:i<c.length
   ·obtain⟨m,rfl,m⟩:=(H.Y q).at (j:=i) aq;have u:=m i aq;refine gg ?_;exact⟨F,F,F,F,F,F⟩
   ·have:c.getD i 0=0:=by simp[List.getD,K]
    refine gg ?_;exact⟨F,F,F,F,F,by rw[this];rfl⟩
  rintro f b ⟨rfl,o,k,g,e,b⟩;rw[ui o,ui k,ui g,ui e,ui b];clear o k g e b;refine gg ?_;refine iy F rfl aq ?_;refine gg ?_;refine dp dM F (.inl F) F rfl ?_;intro b e b f;refine gg ?_;refine mS F rfl (t.Y b) F e (Nat.mod_lt _ aw) aq (by have:=q.size;omega) ?_;intro E f x e;have r:Ext w f:=e.aK (q.trans b) λb s=>t.mb s;obtain⟨b,z,L⟩:=(h1.Y r).at (j:=i) aq;injection z with z;subst z;have b:=L i aq;have g:=E3 (a.getD i 0) (d+c.getD i 0) O aq;have e:∀b,b=(if a.getD i 0<d+c.getD i 0 then 1 else 0)->val (l++[(a.getD i 0+(18446744073709551616-(d+c.getD i 0)))%18446744073709551616%4294967296])+val (c.take (i+1))=val (a.take (i+1))+b*B^(i+1):=λb f=>by
   rw[<-f]at g;rw[lB,p,fN a,fN c,Nat.pow_succ];exact sB (B^i) (val l) (val (c.take i)) (val (a.take i)) (a.getD i 0) (c.getD i 0) d _ b G (by show _=_+4294967296*b;omega)
  by_cases s:a.getD i 0<d+c.getD i 0
  ·refine gg ?_;refine⟨_,?_,i+1,E,_,1,F,aq,F,F,F,F,F,r,x,by simp[p],aq,e 1 (by rw[ab s])⟩;omega
  ·refine gg ?_;refine⟨_,?_,i+1,E,_,0,F,aq,F,F,F,F,F,r,x,by simp[p],aq,e 0 (by rw[aa s])⟩;omega
 ·refine gg ?_;have:i=a.length:=aq;subst this;rw[dk a _ aq,dk c _ aq]at G;have P:=g_ l t.1;have:d=0:=by
   rcases Nat.lt_or_ge 0 d with h|h
   ·have:B^a.length<=d*B^a.length:=Nat.le_mul_of_pos_left _ h;rw[p]at P;omega
   ·omega
  subst this;refine bF (v:=v) F rfl ⟨q,?_⟩;have:=t.My (N:=a.length) aq;rw[show val l=val a-val c by omega]at this;exact this
theorem r6(x1 y1 x2 y2:Value)(z1 g:Int)(N:Nat)(w:World)(h1:IV w N x1 y1 z1)(h2:IV w N x2 y2 g)(hN:N<137438953472):
 aT Tryz.prog 146 #[.agg #[x1,y1],.agg #[x2,y2]] w (RI w (z1+g)):=by
 obtain⟨k,g,l1,g,rfl,rfl,aH,g,ak,g,rfl⟩:=h1;obtain⟨p,g,l2,g,rfl,rfl,K,g,aj,g,rfl⟩:=h2;refine bo (n:=40) Tryz.func146 F rfl az aA ?_;refine gg ?_;refine bO (v:=.agg _) (.inl F) F ?_;intro g Y W ax;refine gg ?_;refine bO (v:=.agg _) (.inl F) F ?_;intro w2 X H av;refine gg ?_;refine aS (.inl F) a_ ?_;intro g al r au;have V:Bx g w2.heap.size 1 true 0:=Bx.zero true al;obtain⟨gR,ae⟩ : ∃g,g=w2.heap.size:=⟨_,F⟩;rw[<-ae]at V⊢;have t:=W.trans (H.trans r);refine gg ?_;refine b_ [(0,3),(1,0),(3,3),(4,0),(2,1),(5,1),(6,3),(7,3)] mixed az λg q _=>?_;have a6:=Y.Y (H.trans (r.trans q));have a1:=X.Y (r.trans q);have f1:=fG a6;have f3:=fG a1;refine gg ?_;refine aM (iO _ _ _ _ g (ak.Y (t.trans q)) F aH aq) ?_;rintro _ g ⟨M,ai⟩;refine⟨M,?_⟩;refine gg ?_;refine aM (iO _ _ _ _ g (aj.Y ((t.trans q).trans M)) F K aq) ?_;rintro _ w6 ⟨L,b0⟩;refine⟨L,?_⟩;obtain⟨g,z,g,rfl,g,g,G,T,cQ⟩:=ai.Y L;obtain⟨g,u,g,rfl,g,g,E,S,fc⟩:=b0;have g:z.length<=N:=by have:=iw ak.fD T (Nat.le_of_eq cQ);omega
 have g:u.length<=N:=by have:=iw aj.fD S (Nat.le_of_eq fc);omega
 have g:=q.trans (M.trans L);have I:=t.trans g;have ak:=Y.Y (H.trans (r.trans g));have aj:=X.Y (r.trans g);have U:=V.Y g;have aH:w.heap.size<=gR:=by have:=(W.trans H).size;omega
 clear f1 f3 a6 a1 q M L g t r H W Y X al V ax av au ae ai;have f0:=iR ak;have f2:=iR aj;refine gg ?_;by_cases B:k=p
 ·have e0:(k == p)=true:=by simpa using B
  refine aN ?_;refine gg ?_;rw[e0];refine gg ?_;refine b_ [(0,3),(1,0),(2,3),(3,3),(4,1),(5,1),(6,2)] mixed az λw7 h _=>?_;have O:=aP h f0;refine gg ?_;refine aM (Ju _ _ _ _ _ _ z u w7 (G.Y h) (E.Y h) F rfl aq aq) ?_;rintro _ P ⟨j,A,l,c,rfl,D,K,R,a8,Q⟩;refine⟨j,?_⟩;refine gg ?_;refine aM (jv k _ _ _ l P R F D aq) ?_;rintro _ w9 ⟨f,x,y,rfl,d⟩;refine⟨f,?_⟩;refine gg ?_;obtain⟨ox,oy,m,C⟩:=U.Y (h.trans (j.trans f));refine aZ aQ (.inl F) F rfl d.ep d.eN m aA ?_;intro a7 g Z q;refine gg ?_;refine eZ F aQ F g ⟨Z.aK (I.trans (h.trans (j.trans f))) λb B=>aq,x,y,F,?_⟩;have e:sg k (val l)=sg k (val l1)+sg p (val l2):=by
   rw[Q,cQ,fc,<-B];cases k<;>simp[sg];omega
  rw[<-e];exact d.kp (c8 m C.1.lh Z)
 ·have e0:(k == p)=false:=by simpa using B
  refine aN ?_;refine gg ?_;rw[e0];refine gg ?_;refine aN ?_;refine gg ?_;refine aJ (r5 _ _ _ _ _ _ z u w6 G E F rfl aq aq T S) ?_;rintro _ w7 ⟨h,rfl⟩;by_cases s:val u<=val z
  ·have ay:(0:Int)<=fl (val z) (val u):=by unfold fl;rw[aa aq];split<;>decide
   have O:=aP h f0;refine gg ?_;refine b_ [(0,3),(1,0),(2,3),(3,3),(4,1),(5,1),(6,2)] mixed az λP j _=>?_;have O:=aP j O;have a:=h.trans j;refine gg ?_;refine aM (kD _ _ _ _ _ _ z u P (G.Y a) (E.Y a) F rfl aq (iw G.fD S s) s) ?_;rintro _ w9 ⟨f,A,l,c,rfl,D,K,R,a8,Q⟩;refine⟨f,?_⟩;refine gg ?_;refine aM (jv k _ _ _ l w9 R F D aq) ?_;rintro _ a7 ⟨i,x,y,rfl,d⟩;refine⟨i,?_⟩;refine gg ?_;obtain⟨ox,oy,m,C⟩:=U.Y (a.trans (f.trans i));refine aZ aQ (.inl F) F rfl d.ep d.eN m aA ?_;intro ar J o an;refine gg ?_;refine eZ F aQ F J ⟨o.aK (I.trans (a.trans (f.trans i))) λb B=>aq,x,y,F,?_⟩;have e:sg k (val l)=sg k (val l1)+sg p (val l2):=by
    rw[Q,cQ,fc];rw[cQ,fc]at s;cases k<;>cases p<;>simp[sg]at B⊢<;>omega
   rw[<-e];exact d.kp (c8 m C.1.lh o)
  ·have ay:¬(0:Int)<=fl (val z) (val u):=by unfold fl;rw[ab aq];decide
   have O:=aP h f2;refine gg ?_;refine b_ [(0,3),(1,0),(2,3),(3,3),(4,1),(5,1),(6,2)] mixed az λP j _=>?_;have O:=aP j O;have a:=h.trans j;refine gg ?_;refine aM (kD _ _ _ _ _ _ u z P (E.Y a) (G.Y a) F rfl aq (iw E.fD T aq) aq) ?_;rintro _ w9 ⟨f,A,l,c,rfl,D,K,R,a8,Q⟩;refine⟨f,?_⟩;refine gg ?_;refine aM (jv p _ _ _ l w9 R F D aq) ?_;rintro _ a7 ⟨i,x,y,rfl,d⟩;refine⟨i,?_⟩;refine gg ?_;obtain⟨ox,oy,m,C⟩:=U.Y (a.trans (f.trans i));refine aZ aQ (.inl F) F rfl d.ep d.eN m aA ?_;intro ar J o an;refine gg ?_;refine eZ F aQ F J ⟨o.aK (I.trans (a.trans (f.trans i))) λb B=>aq,x,y,F,?_⟩;have e:sg p (val l)=sg k (val l1)+sg p (val l2):=by
    rw[Q,cQ,fc];rw[cQ,fc]at s;cases k<;>cases p<;>simp[sg]at B⊢<;>omega
   rw[<-e];exact d.kp (c8 m C.1.lh o)
theorem DK(g e f d:Value)(c b:Int)(N:Nat)(w:World)(h1:IV w N g e c)(i:IV w N f d b)(m:N<137438953472):
 aT Tryz.prog 102 #[.agg #[g,e],.agg #[f,d]] w (RI w (c-b)):=by
 refine bo (n:=9) Tryz.func102 F rfl az aA ?_;refine gg ?_;refine bO (v:=.agg _) (.inl F) F ?_;intro b l k b;refine gg ?_;refine bO (v:=.agg _) (.inl F) F ?_;intro c f h b;refine gg ?_;refine aS (.inl F) a_ ?_;intro e d b g;have j:Bx e c.heap.size 1 true 0:=Bx.zero true d;obtain⟨d,d⟩ : ∃g,g=c.heap.size:=⟨_,F⟩;rw[<-d]at j⊢;have d:=k.trans (h.trans b);refine gg ?_;refine b_ [(0,0),(1,0),(2,1),(3,1),(4,2)] mixed az λg e _=>?_;obtain⟨c,c⟩:=bh (l.Y (h.trans (b.trans e)));obtain⟨c,c⟩:=bh (f.Y (b.trans e));have c:=d.trans e;refine gg ?_;refine aM (wV _ _ _ N g (i.Y c) aq) ?_;rintro _ f ⟨d,a,b,rfl,hc⟩;refine⟨d,?_⟩;refine gg ?_;refine aM (r6 _ _ _ _ _ _ N f (h1.Y (c.trans d)) (hc.iv (IV.bd i).neg) m) ?_;rintro _ f ⟨g,x,y,rfl,f⟩;refine⟨g,?_⟩;refine gg ?_;obtain⟨i,i,i,l⟩:=j.Y (e.trans (d.trans g));refine aZ aQ (.inl F) F rfl f.ep f.eN i aA ?_;intro e j e m;refine gg ?_;refine eZ F aQ F j ⟨e.aK (c.trans (d.trans g)) (λb b=>by have:=(k.trans h).size;omega),x,y,F,?_⟩;rw[Int.sub_eq_add_neg];exact f.kp (c8 i l.1.lh e)
theorem JE(x y:Value)(z:Int)(N:Nat)(w:World)(h:IV w N x y z)(a:N<1099511627776):
 aT Tryz.prog 94 #[.agg #[x,y]] w (RI w (z.natAbs:Int)):=by
 obtain⟨a,A,l,c,rfl,rfl,e,a,g,a,rfl⟩:=h;refine bo (n:=6) Tryz.func94 F rfl az aA ?_;refine gg ?_;refine bO (v:=.agg _) (.inl F) F ?_;intro a a d b;refine gg ?_;refine aS (.inl F) a_ ?_;intro c f b h;have h:=fG (a.Y b);refine gg ?_;refine aJ (jv false _ _ _ l c (g.Y (d.trans b)) F e aq) ?_;rintro _ a ⟨c,x,y,rfl,a⟩;refine gg ?_;refine aZ aQ (.inl F) F rfl a.ep a.eN (f.Y c) aw ?_;intro e g e h;refine gg ?_;refine eZ F aQ F g ⟨e.aK ((d.trans b).trans c) (λb b=>by have:=d.size;omega),_,_,F,?_⟩;rw[iq];exact a.dT (f.Y c) dn e
theorem lL(x y:Value)(z:Int)(N:Nat)(w:World)(h:IV w N x y z)(c:N<1099511627776):
 aT Tryz.prog 100 #[.agg #[x,y]] w λv c=>Ext w c/\v=.int .i64 z.sign:=by
 obtain⟨e,A,l,c,rfl,rfl,m,c,o,c,rfl⟩:=h;refine bo (n:=12) Tryz.func100 F rfl az aA ?_;refine gg ?_;refine bO (v:=.agg _) (.inl F) F ?_;intro k c b i;have i:=iR c;have p:=fG c;refine gg ?_;refine aJ (iO _ _ _ _ k (o.Y b) F m aq) ?_;rintro _ c ⟨a,T,t,d,rfl,c,c,hT,j,f⟩;have i:=aP a i;by_cases g:t.length=0
 ·refine gg ?_;refine bF (v:=.int _ _) F rfl ⟨b.trans a,?_⟩;have:val l=0:=by rw[<-f,List.eq_nil_of_length_eq_zero g];rfl
  rw[this];cases e<;>rfl
 ·have c:0<val l:=by
   rcases Nat.eq_zero_or_pos (val l)with h|h
   ·exact absurd (by rw[val_zero j (f.trans h)];rfl) g
   ·exact h
  cases e
  ·refine gg ?_;refine bF (v:=.int _ _) F rfl ⟨b.trans a,?_⟩;rw[eY,Int.sign_eq_one_of_pos aq];rfl
  ·refine gg ?_;refine bF (v:=.int _ _) F rfl ⟨b.trans a,?_⟩;rw[fb,Int.sign_eq_neg_one_of_neg aq]
