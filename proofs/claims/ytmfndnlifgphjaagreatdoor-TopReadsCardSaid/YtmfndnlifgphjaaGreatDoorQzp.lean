import Derived.Test.YtmfndnlifgphjaaGreatDoorQzo
import Derived.Deep.Slices
set_option maxHeartbeats 64000000
open Go.Proofs.YtmfndnlifgphjaaGreatDoor
namespace Go.Proofs.Qq
section
open Go Go.cW Go.c7 Go.Proofs
theorem pT(v:Value)(n N:Nat)(M:Nat->Nat->Int)(w:World)(h:cB (EI N) w v n (λ_=>n) M)(bB:n<=16)(bX:1<=N)(hN:N<1048576):
 aT Tryz.prog 42 #[v] w (RI w (gj n M)):=by
 obtain⟨c,b4,g,o6,g,bt⟩ : ∃c,1<=c/\n<=c/\(1<=n->c=n)/\c<=16/\cB (EI N) w v n (λ_=>c) M:=by
  rcases Nat.eq_zero_or_pos n with rfl|hp
  ·obtain⟨A,g,e,E,h2,h3⟩:=h;exact⟨1,aq,aq,aq,aq,A,g,e,E,h2,λi hi=>absurd hi aq⟩
  ·exact⟨n,aq,aq,λ_=>rfl,bB,h⟩
 clear h;obtain⟨A,g,rfl,_⟩:=id bt;refine bo (n:=125) Tryz.func42 F rfl az aA ?_;refine gg ?_;refine aS (.inl F) a_ ?_;intro T g b0 bK;have A:Bx T w.heap.size 1 true 0:=Bx.zero true g;clear g;obtain⟨U,bG⟩ : ∃g,g=w.heap.size:=⟨_,F⟩;rw[<-bG]at A⊢;refine gg ?_;refine aJ (sP _ n c N M T (bt.Y b0) aq b4 aq aq) ?_;rintro _ w2 ⟨l,R,J,Q,rfl,bG,bt,P,G⟩;have bY:U<R:=aq;have H:=A.Y l;have I:=b0.trans l;clear A b0 l bG bt;refine gg ?_;refine aJ (kl 1 w2 aq aq) ?_;rintro _ w3 ⟨D,x,y,rfl,av⟩;refine gg ?_;refine aS (.inl F) a_ ?_;intro w4 bG X bx;have b0:Bx w4 w3.heap.size 1 true 0:=Bx.zero true bG;obtain⟨O,bt⟩ : ∃g,g=w3.heap.size:=⟨_,F⟩;rw[<-bt]at b0⊢;refine gg ?_;refine aL (.inl F) F rfl b0 ((av.Y X).ev true (N:=N) (Bd.mono (N:=1) (show(1:Int).natAbs<B^1 by decide) bX)) ?_;intro w5 bj ae A bu;have W:=G.Y D;have g:∀k,k<n->J k<O:=λk hk=>by have:=(W.row k hk).lt;omega
 have bX:R<O:=by have:=W.lt;omega
 have aj:=(W.Y X).kp A ae aq (λk hk=>by have:=g k hk;omega);have b6:=((H.Y D).Y X).kp A ae aq;have a6:Ext w w5:=ae.aK (I.trans (D.trans X)) λb hb=>aq;have au:∀k,k<n->R<J k/\J k<O:=λk hk=>⟨P k hk,g k hk⟩;clear g P G W H D X av bG b0 ae A bu bx bt I bK T w2 w3 w4;refine gg ?_;refine aY (λf s=>∃C d,f 2=.pointer (some ⟨U,0,none⟩)/\f 6=.bool C/\f 5=.pointer (some ⟨O,0,none⟩)/\Ext w s/\Bx s U 1 true 0/\Bx s O (Nb N n) true d/\(if C then -d else d)=gj n M) ?_ ?_
 ·refine gg ?_;refine aU (λm f s=>∃k J Q Mk C d,m=n-k/\k<=n/\f 2=.pointer (some ⟨U,0,none⟩)/\f 3=.slice (some ⟨R,0,none⟩) n n/\f 4=.int .i64 (n:Int)/\f 5=.pointer (some ⟨O,0,none⟩)/\f 6=.bool (C)/\f 7=.int .i64 ((k:Nat):Int)/\
   Ext w s/\Bx s U 1 true 0/\Bx s O (Nb N k) true d/\d≠0/\cF s R J Q n c true (λ_ _=>Nb N k) Mk/\(∀i,i<n->R<J i/\J i<O)/\jU n (n-k) k Mk C d=gj n M)
   n ⟨0,J,Q,M,false,1,F,aE,F,F,F,F,F,F,a6,b6,bj,aw,aj,au,F⟩ ?_
  clear a6 b6 bj aj au w5 J Q;rintro m f T ⟨k,J,Q,Mk,C,d,rfl,hk,r,z,u,q,o,t,I,H,L,g,G,P,Y⟩;rw[ui r,ui z,ui u,ui q,ui o,ui t];clear r z u q o t;have g:Nb N k<68719476736:=iL hN aq;refine aN ?_;by_cases K:k<n
  ·have o6:=o6 aq;subst o6;refine gg ?_;refine aY (λf s=>∃p,k<=p/\p<=c/\f 2=.pointer (some ⟨U,0,none⟩)/\f 3=.slice (some ⟨R,0,none⟩) c c/\f 4=.int .i64 (c:Int)/\f 5=.pointer (some ⟨O,0,none⟩)/\f 6=.bool (C)/\f 7=.int .i64 (k:Int)/\f 8=.int .i64 ((p:Nat):Int)/\Ext T s/\p=dS c k Mk/\(p<c->Mk p k≠0)) ?_ ?_
   ·refine gg ?_;refine aU (λm f s=>∃p,m=c-p/\k<=p/\p<=c/\f 2=.pointer (some ⟨U,0,none⟩)/\f 3=.slice (some ⟨R,0,none⟩) c c/\f 4=.int .i64 (c:Int)/\f 5=.pointer (some ⟨O,0,none⟩)/\f 6=.bool (C)/\f 7=.int .i64 (k:Int)/\f 8=.int .i64 ((p:Nat):Int)/\Ext T s/\iI c k Mk (c-p) p=dS c k Mk)
     (c-k) ⟨k,F,aD,hk,F,F,F,F,F,F,F,Ext.refl _,F⟩ ?_
    rintro m f w2 ⟨p,rfl,b0,kO,r,z,u,q,o,t,g,l,hp⟩;rw[ui r,ui z,ui u,ui q,ui o,ui t,ui g];clear r z u q o t g;by_cases V:p<c
    ·have hx:=(G.Y l).at V;obtain⟨x,y,ay,ax,hv⟩:=((G.Y l).row p V).at K;refine aN ?_;refine gg ?_;refine aJ (lL _ _ _ _ w2 hv.1 aq) ?_;rintro _ w3 ⟨D,rfl⟩;by_cases A:Mk p k=0
     ·have hs:(Mk p k).sign=0:=by rw[A];rfl
      refine gg ?_;refine⟨_,?_,p+1,F,aq,aq,F,F,F,F,F,F,F,l.trans D,?_⟩
      ·omega
      ·rw[<-td ⟨V,A⟩];exact hp
     ·have hs:¬(Mk p k).sign=0:=λe=>A (Int.sign_eq_zero_iff_zero.1 e);refine gg ?_;refine⟨p,b0,kO,F,F,F,F,F,F,F,l.trans D,?_,λ_=>A⟩;rw[<-hp,mD λh=>A h.2]
    ·refine aN ?_;refine gg ?_;refine⟨p,b0,kO,F,F,F,F,F,F,F,l,?_,λh=>absurd h V⟩;rw[<-hp,mD λh=>V h.1]
   rintro f w2 ⟨p,b0,kO,r,z,u,q,o,t,g,l,hp,bM⟩;rw[ui r,ui z,ui u,ui q,ui o,ui t,ui g];clear r z u q o t g;have S:=Y;rw[show c-k=(c-(k+1))+1 by omega,jU,<-hp]at S;refine aN ?_;refine aN ?_;by_cases g:p=c
   ·rw[ab g]at S;refine gg ?_;refine dR fm ?_;refine gg ?_;refine aL (N':=1) (.inl F) F rfl (H.Y l) ((CV.zero w2).ev true (Bd.zero 1)) ?_;intro w3 ak an bC bA;refine gg ?_;obtain⟨x,y,hB,hv⟩:=ak;refine eZ F aQ F hB ⟨an.aK (I.trans l) λb hb=>aq,x,y,F,?_⟩;rw[<-S];exact hv.2 F
   rw[aa g]at S;have V:p<c:=aq;have bs:=I.trans l;have b7:=H.Y l;have bl:=L.Y l;have b5:=G.Y l;clear H L G I l Y T;refine gg ?_;refine aY (λf s=>∃g h,f 2=.pointer (some ⟨U,0,none⟩)/\f 3=.slice (some ⟨R,0,none⟩) c c/\f 4=.int .i64 (c:Int)/\f 5=.pointer (some ⟨O,0,none⟩)/\f 6=.bool (C != decide (p≠k))/\f 7=.int .i64 (k:Int)/\
    Ext w s/\Bx s U 1 true 0/\Bx s O (Nb N k) true d/\cF s R g h c c true (λ_ _=>Nb N k) (swp k p Mk)/\(∀i,i<c->R<g i/\g i<O)) ?_ ?_
   ·refine aN ?_;by_cases aH:p=k
    ·refine gg ?_;refine⟨J,Q,F,F,F,F,?_,F,bs,b7,bl,?_,P⟩
     ·show Value.bool C=_;simp[aH]
     ·rw[aH,pF];exact b5
    ·refine gg ?_;refine b_ [(0,3),(1,3),(2,3),(3,3),(4,3),(5,3),(6,3),(7,0),(8,3),(9,3),(10,3),(11,0),(12,3),(13,2),(14,3),(15,2)] mixed az λw3 D _=>?_;have W:=b5.Y D;have g:=W.at V;have g:=W.at K;have h:=W.outer;refine gg ?_;refine cZ (aX F) (.inl F) F rfl h (by rw[bf];omega) ?_;intro w4 g A bx;rw[cT]at g;refine gg ?_;refine cZ (aX F) (.inl F) F rfl g (by rw[bf];omega) ?_;intro w5 b8 ae bu;rw[cT]at b8;have a7:=A.trans ae;have ar:=c8 h W.lT.lh a7;have e:cg (cg (λi=>Value.slice (some ⟨J i,0,none⟩) c (Q i)) (0+p*1) (.slice (some ⟨J k,0,none⟩) c (Q k))) (0+k*1) (.slice (some ⟨J p,0,none⟩) c (Q p))=λi=>Value.slice (some ⟨swp k p J i,0,none⟩) c (swp k p Q i):=by
      funext i;rw[Nat.zero_add,Nat.zero_add,Nat.mul_one,Nat.mul_one];simp only[swp];by_cases h2:i=k
      ·subst h2;rw[ct,ab F,ab F]
      ·rw[b9 _ _ h2,aa h2,aa h2];by_cases E:i=p
       ·subst E;rw[ct,ab F,ab F]
       ·rw[b9 _ _ E,aa E,aa E]
     rw[e]at b8;have aj:=W.swap K V a7 ar b8;refine gg ?_;refine⟨swp k p J,swp k p Q,F,F,F,F,?_,F,a7.aK (bs.trans D) λb hb=>aq,(b7.Y D).kp ar a7 aq,(bl.Y D).kp ar a7 aq,aj,λi hi=>?_⟩
     ·show Value.bool (!C)=_;simp[aH]
     ·simp only[swp];split
      ·exact P p V
      ·split
       ·exact P k K
       ·exact P i hi
   clear b5 bl b7 bs P w2 J Q;rintro f T ⟨J,Q,r,z,u,q,o,t,I,H,L,G,P⟩;rw[ui r,ui z,ui u,ui q,ui o,ui t];clear r z u q o t;obtain⟨Z,g⟩ : ∃Z,Z=swp k p Mk:=⟨_,F⟩;rw[<-g]at G S;have bI:Z k k≠0:=by rw[g];simp only[swp,if_true];exact bM V
   have g:w.heap.size<=U:=aq;refine aY (λf s=>f 2=.pointer (some ⟨U,0,none⟩)/\f 3=.slice (some ⟨R,0,none⟩) c c/\f 4=.int .i64 (c:Int)/\f 5=.pointer (some ⟨O,0,none⟩)/\f 6=.bool (C != decide (p≠k))/\f 7=.int .i64 (k:Int)/\
    Ext w s/\Bx s U 1 true 0/\Bx s O (Nb N k) true d/\cF s R J Q c c true (λ_ _=>Nb N (k+1)) (elim k d Z)/\Bd (Nb N k) (Z k k)) ?_ ?_
   ·refine gg ?_;have bD:Bd (Nb N k) (Z k k):=by
     obtain⟨x,y,_,_,hv⟩:=(G.row k K).at K;exact hv.bd
    refine aU (λm f s=>∃i,m=c-i/\k<i/\i<=c/\f 2=.pointer (some ⟨U,0,none⟩)/\f 3=.slice (some ⟨R,0,none⟩) c c/\f 4=.int .i64 (c:Int)/\f 5=.pointer (some ⟨O,0,none⟩)/\f 6=.bool (C != decide (p≠k))/\f 7=.int .i64 (k:Int)/\f 9=.int .i64 ((i:Nat):Int)/\
     Ext w s/\Bx s U 1 true 0/\Bx s O (Nb N k) true d/\cF s R J Q c c true (λa b=>if k<a/\k<b/\a<i then Nb N (k+1)else Nb N k) λa b=>if k<a/\k<b/\a<i then elim k d Z a b else Z a b)
     (c-(k+1)) ⟨k+1,F,aq,aq,F,F,F,F,F,F,F,I,H,L,G.congr (λa b ha hb=>⟨by rw[aa aq];exact Nat.le_refl _,by rw[aa aq]⟩)⟩ ?_
    clear I H L G T;rintro m f T ⟨i,rfl,bW,g,r,z,u,q,o,t,ai,I,H,L,G⟩;rw[ui r,ui z,ui u,ui q,ui o,ui t,ui ai];clear r z u q o t ai;refine aN ?_;by_cases a8:i<c
    ·refine aN ?_;refine gg ?_;refine aU (λm f s=>∃j,m=c-j/\k<j/\j<=c/\f 2=.pointer (some ⟨U,0,none⟩)/\f 3=.slice (some ⟨R,0,none⟩) c c/\f 4=.int .i64 (c:Int)/\f 5=.pointer (some ⟨O,0,none⟩)/\f 6=.bool (C != decide (p≠k))/\f 7=.int .i64 (k:Int)/\f 9=.int .i64 (i:Int)/\f 10=.int .i64 ((j:Nat):Int)/\
      Ext w s/\Bx s U 1 true 0/\Bx s O (Nb N k) true d/\cF s R J Q c c true (λa b=>if k<a/\k<b/\(a<i\/a=i/\b<j)then Nb N (k+1)else Nb N k) λa b=>if k<a/\k<b/\(a<i\/a=i/\b<j)then elim k d Z a b else Z a b)
      (c-(k+1)) ⟨k+1,F,aq,aq,F,F,F,F,F,F,F,F,I,H,L,G.congr λa b ha hb=>⟨?_,?_⟩⟩ ?_
     ·by_cases E:k<a/\k<b/\a<i
      ·rw[ab E,ab aq];exact Nat.le_refl _
      ·rw[aa E,aa aq];exact Nat.le_refl _
     ·by_cases E:k<a/\k<b/\a<i
      ·rw[ab E,ab aq]
      ·rw[aa E,aa aq]
     clear I H L G T;rintro m f T ⟨j,rfl,bS,g,r,z,u,q,o,t,ai,g,I,H,L,G⟩;rw[ui r,ui z,ui u,ui q,ui o,ui t,ui ai,ui g];clear r z u q o t ai g;refine aN ?_;by_cases s:j<c
     ·refine gg ?_;refine cP [(0,3),(1,3),(2,3),(3,0),(4,3),(5,3),(6,3),(7,3),(8,0),(9,3),(10,3),(11,0),(12,3),(13,3),(14,3),(15,0),(16,3),(17,3),(18,0),(20,3),(21,3),(22,3),(23,0),(24,3),(25,3),(26,0),(27,3),(28,3),(29,3),(30,0),(31,3),(32,3),(33,0),(36,0),(19,1),(34,1),(35,1),(37,1),(38,3),(39,2)] mixed az λw2 l _=>?_;have c:=G.Y l;have g:=c.at a8;have g:=c.at K;obtain⟨g,g,g,g,h⟩:=(c.row k K).at K;obtain⟨g,g,ay,g,cQ⟩:=(c.row i a8).at s;obtain⟨g,g,ax,g,fc⟩:=(c.row i a8).at K;obtain⟨g,g,g,g,g⟩:=(c.row k K).at s;obtain⟨m,m,bc,al⟩:=L.Y l;obtain⟨m,m⟩:=bh bc;simp only at h cQ fc g;rw[aa aq,aa aq]at h cQ fc g;refine gg ?_;refine aM (r4 _ _ _ _ _ _ (Nb N k) w2 h.1 cQ.1 aq) ?_;rintro _ w3 ⟨D,m,m,rfl,b4⟩;refine⟨D,?_⟩;refine gg ?_;refine aM (r4 _ _ _ _ _ _ (Nb N k) w3 (fc.Y D).1 (g.Y D).1 aq) ?_;rintro _ w4 ⟨X,a2,b2,rfl,O⟩;refine⟨X,?_⟩;have A:=(h.bd).mul cQ.bd;have m:=(fc.bd).mul g.bd;refine gg ?_;refine aM (DK _ _ _ _ _ _ (Nb N k+Nb N k) w4 ((b4.Y X).iv A) (O.iv m) aq) ?_;rintro _ w5 ⟨a6,a3,b3,rfl,g⟩;refine⟨a6,?_⟩;have h:=A.sub m;have m:Nb N k+Nb N k+1=Nb N (k+1):=by simp only[Nb];omega
      rw[m]at h;have m:Nb N (k+1)<68719476736:=iL hN aq;refine gg ?_;refine aM (Jv _ _ _ _ _ _ (Nb N (k+1)) w5 (g.iv h) (((al.Y (D.trans (X.trans a6))).mono (jF N k)).1) aq) ?_;rintro _ g ⟨g,m,m,rfl,A⟩;refine⟨g,?_⟩;have m:=D.trans (X.trans (a6.trans g));refine gg ?_;refine fr (.inl F) F rfl ((c.Y m).row i a8) s (A.ev true (N:=Nb N (k+1)) h.ediv) ?_;intro g A g h s;have s:=(c.Y m).put a8 A g h;have c:=P i a8;have c:=l.trans m;refine gg ?_;refine⟨_,?_,j+1,F,aq,aq,F,F,F,F,F,F,F,F,g.aK (I.trans c) λb hb=>aq,(H.Y c).kp h g aq,(L.Y c).kp h g aq,s.congr λa b ha hb=>⟨?_,?_⟩⟩
      ·omega
      ·simp only[cV];by_cases e:a=i/\b=j
       ·rw[ab e,ab aq];exact Nat.le_refl _
       ·rw[aa e];by_cases E:k<a/\k<b/\(a<i\/a=i/\b<j)
        ·rw[ab E,ab aq];exact Nat.le_refl _
        ·rw[aa E,aa aq];exact Nat.le_refl _
      ·simp only[cV];by_cases e:a=i/\b=j
       ·obtain⟨rfl,rfl⟩:=e;rw[ab ⟨F,F⟩,ab aq,elim,ab ⟨bW,bS⟩]
       ·rw[aa e];by_cases E:k<a/\k<b/\(a<i\/a=i/\b<j)
        ·rw[ab E,ab aq]
        ·rw[aa E,aa aq]
     ·refine gg ?_;refine⟨_,?_,i+1,F,aq,aq,F,F,F,F,F,F,F,I,H,L,G.congr λa b ha hb=>⟨?_,?_⟩⟩
      ·omega
      ·by_cases E:k<a/\k<b/\a<i+1
       ·rw[ab aq,ab E];exact Nat.le_refl _
       ·rw[aa aq,aa E];exact Nat.le_refl _
      ·by_cases E:k<a/\k<b/\a<i+1
       ·rw[ab aq,ab E]
       ·rw[aa aq,aa E]
    ·refine gg ?_;refine⟨F,F,F,F,F,F,I,H,L,G.congr λa b ha hb=>⟨?_,?_⟩,bD⟩
     ·have:=jF N k;split<;>omega
     ·by_cases E:k<a/\k<b/\a<i
      ·rw[ab E]
      ·rw[aa E,elim,aa aq]
   ·clear I H L G T;rintro f T ⟨r,z,u,q,o,t,I,H,L,G,bD⟩;rw[ui r,ui z,ui u,ui q,ui o,ui t];clear r z u q o t;have hx:=G.at K;obtain⟨x,y,ay,ax,hv⟩:=(G.row k K).at K;have a:elim k d Z k k=Z k k:=by rw[elim,aa aq]
    rw[a]at hv;refine gg ?_;refine aL (.inl F) F rfl L hv ?_;intro w2 e a c g;refine gg ?_;refine⟨_,?_,k+1,J,Q,elim k d Z,C != decide (p≠k),Z k k,F,aq,F,F,F,F,F,F,a.aK I (λb hb=>aq),H.kp c a aq,e,bI,G.kp c a aq (λi hi=>by have:=P i hi;omega),P,S⟩;omega
  ·refine gg ?_;have:k=n:=aq;subst this;rw[Nat.sub_self,jU]at Y;exact⟨C,d,F,F,F,I,H,L,Y⟩
 clear a6 b6 bj aj au w5 J Q;rintro f T ⟨C,d,r,o,q,I,H,L,Y⟩;rw[ui r,ui o,ui q];clear r o q;have a:Nb N n<68719476736:=iL hN bB;obtain⟨x,y,bc,al⟩:=L;obtain⟨ay,ax⟩:=bh bc;refine aN ?_;cases C with
 |true=>
  refine aN ?_;refine gg ?_;refine aJ (wV _ _ _ _ T al.1 aq) ?_;rintro _ w2 ⟨l,a,a,rfl,av⟩;refine gg ?_;refine aL (N':=Nb N n) (.inl F) F rfl (H.Y l) (av.ev true al.bd.neg) ?_;intro w3 ak an bC bA;refine gg ?_;obtain⟨x,y,hB,hv⟩:=ak;refine eZ F aQ F hB ⟨an.aK (I.trans l) λb hb=>aq,x,y,F,?_⟩;rw[<-Y];exact hv.2 F
 |false=>
  refine aN ?_;refine gg ?_;refine aL (N':=Nb N n) (.inl F) F rfl H al ?_;intro w3 ak an bC bA;refine gg ?_;obtain⟨x,y,hB,hv⟩:=ak;refine eZ F aQ F hB ⟨an.aK I λb hb=>aq,x,y,F,?_⟩;rw[<-Y];exact hv.2 F
def Pe(w:World)(n:Nat)(x y:Value)(z:Int):Prop:=∃a A l c,x=.bool a/\y=.slice A l.length c/\l.length<=c/\c<9223372036854775808/\fM w A l/\l.length=n/\n<=140737488355328/\z=sg a (val l)
theorem Pe.iv{w:World}{n N:Nat}{x y:Value}{z:Int}(h:Pe w n x y z)(a:n<=N):IV w N x y z:=by
 obtain⟨a,A,l,c,i,g,f,e,d,b,b,b⟩:=h;exact⟨a,A,l,c,i,g,f,e,d,aq,b⟩
def Nl(w:World)(v:Value)(c:Nat)(M:Nat->Int)(L:Nat->Nat):Prop:=
 ∃A a,v=.slice A c a/\c<=a/\a<9223372036854775808/\c<=140737488355328/\∀j,j<c->∃a x y,A=some a/\w.cell? (a.add (j*2))=some x/\w.cell? ((a.add (j*2)).add 1)=some y/\Pe w (L j) x y (M j)
def Lm(w:World)(v:Value)(r:Nat)(len:Nat->Nat)(M:Nat->Nat->Int)(L:Nat->Nat->Nat):Prop:=
 ∃A a,v=.slice A r a/\r<=a/\a<9223372036854775808/\r<=140737488355328/\∀i,i<r->∃a u,A=some a/\w.cell? (a.add (i*1))=some u/\Nl w u (len i) (M i) (L i)
theorem Nl.e{w:World}{v:Value}{c N:Nat}{M:Nat->Int}{L:Nat->Nat}(h:Nl w v c M L)(g:∀j,j<c->L j<=N):gY (EI N) w v c M:=by
 obtain⟨A,a,rfl,d,b,_,h3⟩:=h;refine⟨A,a,F,d,b,λj a=>?_⟩;obtain⟨h,x,y,e,d,b,f⟩:=h3 j a;exact⟨h,x,y,e,d,b,f.iv (g j a)⟩
theorem Lm.e{w:World}{v:Value}{r N:Nat}{len:Nat->Nat}{M:Nat->Nat->Int}{L:Nat->Nat->Nat}(h:Lm w v r len M L)(d:∀i,i<r->∀j,j<len i->L i j<=N):cB (EI N) w v r len M:=by
 obtain⟨A,a,rfl,c,b,_,h3⟩:=h;refine⟨A,a,F,c,b,λi a=>?_⟩;obtain⟨f,u,e,b,c⟩:=h3 i a;exact⟨f,u,e,b,c.e (d i a)⟩
section
variable {H:Type}{enc:TypeId×Value->H}{w:World}{sp:Nat->Bool}{hd:Bool}
def Wt(t:Nat)(d:DataW H):Prop:=∀n∈d.weights Tryz.prog t,n<=reachBytes
theorem nH{e:Nat}{d:DataW H}{n:Nat}(a:n∈d.weights Tryz.prog e):∀{l:List (DataW H)},d∈l->n∈DataW.weightsAll Tryz.prog e l
 |x::l,h=>by
  simp only[DataW.weightsAll,List.mem_append];rcases List.mem_cons.1 h with rfl|h
  ·exact .inl a
  ·exact .inr (nH a h)
theorem Gf{t e:Nat}{b a:List (DataW H)}(c:Tryz.prog.underlying t=some (.slice e))(h:Wt t (.slice b a)):(b.length+a.length)*Tryz.prog.bytesOf e<=140737488351232/\∀d∈b,Wt e d:=by
 have hd:DataW.weights Tryz.prog t (.slice b a)=(b.length+a.length)*Tryz.prog.bytesOf e::(DataW.weightsAll Tryz.prog e b++DataW.weightsAll Tryz.prog e a):=by rw[DataW.weights,c]
 unfold Wt at h;rw[hd]at h;refine⟨h _ aG,λd a n b=>h n ?_⟩;exact List.mem_cons_of_mem _ (List.mem_append_left _ (nH b a))
end
theorem mY{P:Program}{n:Nat}{f:Fr}{w:World}{d:Func}{t u:Tmp}{T G:Nat}{b:Value->World->Prop}{x y v:Value}(j:d.results=#[.cell t T,.tmp u])(k:eP P T 2=true)(g:ev n f (.tmp t)=.pointer (some ⟨G,0,none⟩))(c:bg w G T #[x,y])(i:ev n f (.tmp u)=v)(h:b (.tuple #[.agg #[x,y],v]) w):
 bodyPost P d (Et b) .ret (act n f) w:=by
 refine bodyPost_ret (v:=.tuple #[.agg #[x,y],v]) ?_ F ⟨_,F,h⟩;have e:=congrFun (cO n f) (.tmp t);have d:=congrFun (cO n f) (.tmp u);simp only[Act.eval]at e d;have l:w.cell? ⟨G,0,none⟩=some x:=by rw[c.cell];rfl
 have h:w.cell? ((⟨G,0,none⟩ : Addr).add 1)=some y:=by rw[add_lit,c.cell];rfl
 have b:=dB (P:=P) k l h;simp only[Instr.loadAt,Instr.sureAddr,Sem.run_bind,Sem.run_pure,Result.andThen_ok]at b;have h:(act n f).tmps[t]?.getD undef=.pointer (some ⟨G,0,none⟩):=by rw[<-g,<-e];simp
 have c:(act n f).tmps[u]?.getD undef=v:=by rw[<-i,<-d];simp
 simp[results,j,h,c,asAddr,b]
def Pd(w:World)(ok:Bool)(z:Int)(v:Value)(w':World):Prop:=
 Ext w w'/\∃x y,v=.tuple #[.agg #[x,y],.bool ok]/\CV w' x y (if ok then z else 0)
def jt(r:Nat)(len:Nat->Nat):Bool:=kF r len&&decide (r=len 0)
theorem dj{r:Nat}{len:Nat->Nat}:jt r len=true↔1<=r/\r<=16/\∀i,i<r->len i=r:=by
 simp only[jt,Bool.and_eq_true,decide_eq_true_eq,cD];constructor
 ·rintro⟨⟨⟨d,c,b,a⟩,f⟩,e⟩;exact⟨d,c,λi a=>by rw[f i a,<-e]⟩
 ·rintro⟨d,c,b⟩;have e:=b 0 aq;exact⟨⟨⟨d,c,aq,aq⟩,λi a=>by rw[b i a,e]⟩,e.symm⟩
theorem cB.sq{E:World->Value->Value->Int->Prop}{w:World}{v:Value}{r c:Nat}{len:Nat->Nat}{M:Nat->Nat->Int}(h:cB E w v r len M)(f:∀i,i<r->len i=c):cB E w v r (λ_=>c) M:=by
 obtain⟨A,a,rfl,d,b,g⟩:=h;refine⟨A,a,F,d,b,λi b=>?_⟩;obtain⟨h,u,e,d,a⟩:=g i b;rw[f i b]at a;exact⟨h,u,e,d,a⟩
theorem MT(v:Value)(r N:Nat)(len:Nat->Nat)(M:Nat->Nat->Int)(w:World)(h:cB (EI N) w v r len M)(p:1<=N)(q:N<1048576):
 aT Tryz.prog 47 #[v] w (Pd w (jt r len) (gj r M)):=by
 refine bo (n:=23) Tryz.func47 F rfl az aA ?_;refine gg ?_;refine aS (.inl F) a_ ?_;intro f a c b;have j:Bx f w.heap.size 1 true 0:=Bx.zero true a;refine gg ?_;refine aJ (jr _ v r len M f (h.Y c)) ?_;rintro _ _ ⟨rfl,rfl⟩;have a:¬jt r len=true->∀d,Ext f d->∀x y,CV d x y 0->Pd w (jt r len) (gj r M) (.tuple #[.agg #[x,y],.bool false]) d:=λk d b x y a=>by
  have:jt r len=false:=by simpa using k
  rw[this];exact⟨c.trans b,x,y,F,a⟩
 by_cases a:kF r len=true
 ·rw[js a];obtain⟨⟨o,m,g,e⟩,l⟩:=cD.1 a;by_cases g:r=len 0
  ·have e:jt r len=true:=by simp[jt,a,g.symm]
   refine gg ?_;refine aN ?_;refine gg ?_;refine aJ (tl v r N M f ((h.Y c).sq (λi h=>by rw[l i h];exact g.symm)) o m p q) ?_;rintro _ d ⟨b,x,y,rfl,i⟩;refine gg ?_;have d:=j.Y b;obtain⟨h,h,m,p⟩:=d;refine aZ aQ (.inl F) F rfl i.ep i.eN m aA ?_;intro o q d l;have h:=c8 m p.1.lh d;refine gg ?_;refine mY (v:=.bool _) F aQ F q F ⟨d.aK (c.trans b) (λb k=>aq),x,y,by rw[e],?_⟩;rw[e];exact i.kp h
  ·have e:¬jt r len=true:=by simp[jt,a,g]
   refine gg ?_;refine aN ?_;refine gg ?_;refine dR fm ?_;refine gg ?_;refine aL (N':=1) (.inl F) F rfl j ((CV.zero f).ev true (Bd.zero 1)) ?_;intro o g d h l;refine gg ?_;obtain⟨x,y,m,i⟩:=g;have:jt r len=false:=by simpa using e
   refine mY (v:=.bool _) F aQ F m F ⟨d.aK c (λb k=>aq),x,y,by rw[this],?_⟩;rw[this];exact i.2 F
 ·rw[dG a];have e:jt r len=false:=by simp at a;simp[jt,a]
  refine gg ?_;refine aN ?_;refine gg ?_;refine dR fm ?_;refine gg ?_;refine aL (N':=1) (.inl F) F rfl j ((CV.zero f).ev true (Bd.zero 1)) ?_;intro o g d h l;refine gg ?_;obtain⟨x,y,m,i⟩:=g;refine mY (v:=.bool _) F aQ F m F ⟨d.aK c (λb k=>aq),x,y,by rw[e],?_⟩;rw[e];exact i.2 F
theorem cB.at{E:World->Value->Value->Int->Prop}{w:World}{v:Value}{r c i:Nat}{M:Nat->Nat->Int}(h:cB E w v r (λ_=>c) M)(g:i<r):
 ∃d b u,v=.slice (some d) r b/\w.cell? (d.add (i*1))=some u/\gY E w u c (M i):=by
 obtain⟨A,b,rfl,e,e,j⟩:=h;obtain⟨d,u,rfl,e,f⟩:=j i g;exact⟨d,b,u,F,e,f⟩
theorem gY.at{E:World->Value->Value->Int->Prop}{w:World}{v:Value}{c j:Nat}{g:Nat->Int}(h:gY E w v c g)(f:j<c):
 ∃a b x y,v=.slice (some a) c b/\w.cell? (a.add (j*2))=some x/\w.cell? ((a.add (j*2)).add 1)=some y/\E w x y (g j):=by
 obtain⟨A,b,rfl,d,d,i⟩:=h;obtain⟨a,x,y,rfl,e,d,h⟩:=i j f;exact⟨a,b,x,y,F,e,d,h⟩
theorem cB.bd{w:World}{v:Value}{r c N i j:Nat}{M:Nat->Nat->Int}(h:cB (EI N) w v r (λ_=>c) M)(a:i<r)(d:j<c):Bd N (M i j):=by
 obtain⟨_,_,u,_,_,b⟩:=h.at a;obtain⟨_,_,_,_,_,_,_,a⟩:=b.at d;exact IV.bd a
theorem J1(i j g O M r c q N:Nat)(f d:Value)(X Y:Nat->Nat->Int)(w:World)(hI:bg w g 3 #[.int .i64 (q:Int)])(hA:bg w O 25 #[f])(L:bg w M 25 #[d])
 (R:cB (EI N) w f r (λ_=>q) X) (l:cB (EI N) w d q (λ_=>c) Y) (Q:i<r) (P:j<c) (d:q<=16) (d:N<68719476736):
 aT Tryz.prog 106 #[.int .i64 (i:Int),.int .i64 (j:Int),.pointer (some ⟨g,0,none⟩),.pointer (some ⟨O,0,none⟩),.pointer (some ⟨M,0,none⟩)] w (RI w (mulM q X Y i j)):=by
 refine bo (n:=34) Tryz.func106 F rfl az aA ?_;refine gg ?_;refine aS (.inl F) a_ ?_;intro f I G d;have v:Bx f w.heap.size 1 true 0:=Bx.zero true I;refine gg ?_;refine dR fm ?_;refine gg ?_;refine aS (.inl F) a_ ?_;intro z H x a6;have E:Bx z f.heap.size 1 true 0:=Bx.zero true H;refine gg ?_;refine aL (N':=N+N+1) (.inl F) F rfl E ((CV.zero z).ev true (Bd.zero _)) ?_;intro y r d D Z;obtain⟨V,J⟩ : ∃g,g=w.heap.size:=⟨_,F⟩;obtain⟨U,m⟩ : ∃g,g=f.heap.size:=⟨_,F⟩;rw[<-m]at r d⊢;rw[<-J]at v⊢;have g:=(v.Y x).kp D d aq;have a:Ext w y:=d.aK (G.trans x) λb l=>aq;have a7:=iY (hI.Y a);refine gg ?_;refine aN ?_;refine gg ?_;refine aU (λm f J=>∃k,m=q-k/\k<=q/\f 0=.int .i64 (i:Int)/\f 1=.int .i64 (j:Int)/\f 3=.pointer (some ⟨O,0,none⟩)/\f 4=.pointer (some ⟨M,0,none⟩)/\f 7=.pointer (some ⟨V,0,none⟩)/\f 8=.pointer (some ⟨U,0,none⟩)/\f 11=.int .i64 (q:Int)/\f 12=.int .i64 ((k:Nat):Int)/\
  Ext w J/\Bx J V 1 true 0/\Bx J U (N+N+1) true (gn k λt=>X i t*Y t j)) q ⟨0,rfl,aE,rfl,rfl,rfl,rfl,rfl,rfl,rfl,rfl,a,g,r⟩ ?_
 clear a7 a g D d r Z E H x a6 v I z y;rintro m f z ⟨k,rfl,d,z,x,v,r,m,g,f,d,T,S,K⟩;rw[ui z,ui x,ui v,ui r,ui m,ui g,ui f,ui d];clear z x v r m g f d;by_cases B:k<q
 ·refine gg ?_;refine cP [(0,0),(1,0),(2,3),(3,3),(4,0),(5,3),(6,3),(7,0),(8,0),(9,3),(10,3),(11,0),(12,3),(13,3),(14,0),(15,1),(16,1),(17,2)] mixed az λy a _=>?_;have e:=T.trans a;obtain⟨sx,sy,u,s⟩:=K.Y a;obtain⟨s1,s2⟩:=bh u;have d:=iY (hA.Y e);have d:=iY (L.Y e);obtain⟨d,d,ua,rfl,d,p⟩:=(R.Y e).at Q;obtain⟨d,d,ub,rfl,d,o⟩:=(l.Y e).at B;obtain⟨d,d,d,d,rfl,d,d,A⟩:=p.at B;obtain⟨d,d,d,d,rfl,d,d,f⟩:=o.at P;refine gg ?_;refine aM (fy _ _ _ _ _ _ N y A f aq) ?_;rintro _ m ⟨d,g,g,rfl,g⟩;refine⟨d,?_⟩;have r:Bd (N+N) (X i k*Y k j):=(IV.bd A).mul (IV.bd f);refine gg ?_;refine aM (kH _ _ _ _ _ _ (N+N+1) m (s.Y d).1 (g.iv (r.mono aq)) aq) ?_;rintro _ f ⟨f,a2,b2,rfl,m⟩;refine⟨f,?_⟩;have g:Bd (N+N+1) (gn (k+1) λt=>X i t*Y t j):=im aq λt r=>?_
  ·refine gg ?_;refine aL (.inl F) F rfl (K.Y (a.trans (d.trans f))) (m.ev true g) ?_;intro w6 g h C W;have m:=G.size;refine gg ?_;refine⟨_,?_,k+1,F,aq,F,F,F,F,F,F,F,F,h.aK (e.trans (d.trans f)) λb l=>aq,(S.Y (a.trans (d.trans f))).kp C h aq,g⟩;omega
  ·obtain⟨_,_,ua,a,_,p⟩:=R.at Q;obtain⟨_,_,ub,a,_,o⟩:=l.at (show t<q by omega);obtain⟨_,_,_,_,_,_,_,h1⟩:=p.at (show t<q by omega);obtain⟨_,_,_,_,_,_,_,h2⟩:=o.at P;exact(IV.bd h1).mul (IV.bd h2)
 ·have:k=q:=aq;subst this;obtain⟨sx,sy,u,s⟩:=K;obtain⟨s1,s2⟩:=bh u;refine gg ?_;refine aL (.inl F) F rfl S s ?_;intro w6 a h C W;refine gg ?_;obtain⟨x,y,L,d⟩:=a;exact eZ F aQ F L ⟨h.aK T λb l=>aq,x,y,F,d.2 F⟩
def iQ(c b:Nat)(a len2:Nat->Nat):Bool:=kF c a&&kF b len2&&decide (a 0=b)
theorem xz(q p:Value)(d e N:Nat)(a len2:Nat->Nat)(X Y:Nat->Nat->Int)(w:World)(H:cB (EI N) w q d a X)(s:cB (EI N) w p e len2 Y)(P:N<68719476736):
 aT Tryz.prog 45 #[q,p] w (oq w (iQ d e a len2) d (len2 0) (mulM (a 0) X Y)):=by
 obtain⟨b,b,h,_⟩:=id H;obtain⟨b,b,g,_⟩:=id s;refine bo (n:=39) Tryz.func45 F rfl az aA ?_;refine gg ?_;refine bO (v:=q) (.inl F) F ?_;intro B c C b;refine gg ?_;refine bO (v:=p) (.inl F) F ?_;intro A b r j;have D:bg B w.heap.size 25 #[q]:=by rw[h]at c⊢;exact c
 have O:bg A B.heap.size 25 #[p]:=by rw[g]at b⊢;exact b
 have b:=iY (D.Y r);refine gg ?_;refine aJ (jr _ q d a X A (H.Y (C.trans r))) ?_;rintro _ _ ⟨rfl,rfl⟩;obtain⟨k,j,c,b,R⟩ : ∃(k j:Nat) (c:Bool),ky d a=.tuple #[.int .i64 (k:Int),.int .i64 (j:Int),.bool c]/\((kF d a=true/\c=true/\k=d/\j=a 0)\/(¬kF d a=true/\c=false/\j=0)):=by
  by_cases h:kF d a=true
  ·exact⟨_,_,_,js h,.inl ⟨h,F,F,F⟩⟩
  ·exact⟨_,_,_,dG h,.inr ⟨h,F,F⟩⟩
 rw[b];refine gg ?_;refine aS (.inl F) NG ?_;intro z g u b;refine gg ?_;refine bZ (aX F) (.inl F) F rfl g aw ?_;intro o L b V;have V:Kp z o:=c8 g (λi z=>by match i with|0=>simp[Value.cells]|i+1=>simp[Value.cells]) b;have t:bg o A.heap.size 3 #[.int .i64 (j:Int)]:=L;obtain⟨U,z⟩ : ∃g,g=A.heap.size:=⟨_,F⟩;rw[<-z]at t b⊢;have M:bg o w.heap.size 25 #[q]:=((D.Y r).Y u).ch b aq;have y:bg o B.heap.size 25 #[p]:=(O.Y u).ch b aq;have f:Ext w o:=b.aK ((C.trans r).trans u) λb s=>aq;have b:=iY y;have b:=iY t;refine gg ?_;refine aJ (jr _ p e len2 Y o (s.Y f)) ?_;rintro _ _ ⟨rfl,rfl⟩;obtain⟨I,b,b,b,Q⟩ : ∃(k j:Nat) (c:Bool),ky e len2=.tuple #[.int .i64 (k:Int),.int .i64 (j:Int),.bool c]/\((kF e len2=true/\c=true/\k=e/\j=len2 0)\/(¬kF e len2=true/\c=false/\j=0)):=by
  by_cases h:kF e len2=true
  ·exact⟨_,_,_,js h,.inl ⟨h,F,F,F⟩⟩
  ·exact⟨_,_,_,dG h,.inr ⟨h,F,F⟩⟩
 rw[b];have x:¬iQ d e a len2=true->oq w (iQ d e a len2) d (len2 0) (mulM (a 0) X Y) (.tuple #[.slice none 0 0,.bool false]) o:=λs=>by unfold oq;rw[aa s];exact⟨f,F⟩
 rcases R with⟨m,rfl,rfl,rfl⟩|⟨m,rfl,rfl⟩
 ·rcases Q with⟨l,rfl,rfl,rfl⟩|⟨l,rfl,rfl⟩
  ·by_cases E:a 0=I
   ·have J:iQ k I a len2=true:=by simp[iQ,m,l,E]
    obtain⟨⟨c,b,g,e⟩,d⟩:=cD.1 m;obtain⟨⟨e,b,h,g⟩,c⟩:=cD.1 l;refine gg ?_;refine aN ?_;refine gg ?_;refine jD ?_;refine gg ?_;refine aJ (lW k (len2 0) _ _ (mulM (a 0) X Y) o aq aq (λi j G g e b=>J1 i j U w.heap.size B.heap.size k (len2 0) (a 0) N q p X Y e (t.Y b) (M.Y b) (y.Y b) ((H.Y (f.trans b)).sq d) (by rw[E];exact(s.Y (f.trans b)).sq c) G g aq P)) ?_;rintro v a ⟨K,T,S,rfl,a,a,b⟩;refine gg ?_;refine cU (v:=.slice _ _ _) (v':=.bool _) F rfl rfl ?_;unfold oq;rw[ab J];have:=f.size;exact⟨_,F,f.trans K,T,S,F,aq,λi G=>by have:=a i G;omega,b⟩
   ·refine gg ?_;refine aN ?_;refine gg ?_;exact cU (v:=.slice _ _ _) (v':=.bool _) F rfl rfl (x (by simp[iQ,E]))
  ·refine gg ?_;refine aN ?_;refine gg ?_;exact cU (v:=.slice _ _ _) (v':=.bool _) F rfl rfl (x (by simp[iQ,l]))
 ·refine gg ?_;refine aN ?_;refine gg ?_;exact cU (v:=.slice _ _ _) (v':=.bool _) F rfl rfl (x (by simp[iQ,m]))
theorem zL(i j e r c N:Nat)(b:Value)(X:Nat->Nat->Int)(w:World)(o:bg w e 25 #[b])
 (l:cB (EI N) w b r (λ_=>c) X) (k:i<r) (h:j<c) (m:N<1099511627776):
 aT Tryz.prog 217 #[.int .i64 (i:Int),.int .i64 (j:Int),.pointer (some ⟨e,0,none⟩)] w (RI w (- X i j)):=by
 refine bo (n:=14) Tryz.func217 F rfl az aA ?_;refine gg ?_;refine aS (.inl F) a_ ?_;intro d b a e;have g:Bx d w.heap.size 1 true 0:=Bx.zero true b;have b:=iY (o.Y a);obtain⟨b,b,b,rfl,b,f⟩:=(l.Y a).at k;obtain⟨b,b,b,b,rfl,b,b,b⟩:=f.at h;refine gg ?_;refine aJ (Cj _ _ _ N d b m) ?_;rintro _ d ⟨d,e,e,rfl,e⟩;refine gg ?_;refine aL (.inl F) F rfl (g.Y d) (e.ev true (N:=N) (IV.bd b).neg) ?_;intro b b e f f;refine gg ?_;obtain⟨x,y,g,f⟩:=b;exact eZ F aQ F g ⟨e.aK (a.trans d) λb a=>aq,x,y,F,f.2 F⟩
theorem Ci(d:Value)(r c N:Nat)(X:Nat->Nat->Int)(w:World)(k:cB (EI N) w d r (λ_=>c) X)(f:1<=r)(p:r<1073741824)(q:c<1073741824)(y:N<1099511627776):
 aT Tryz.prog 216 #[d] w (RM w r c λi j=>- X i j):=by
 obtain⟨f,f,o,_⟩:=id k;refine bo (n:=11) Tryz.func216 F rfl az aA ?_;refine gg ?_;refine bO (v:=d) (.inl F) F ?_;intro t f s u;have g:bg t w.heap.size 25 #[d]:=by rw[o]at f⊢;exact f
 refine gg ?_;refine b_ [(0,0),(1,3),(2,0),(3,3),(4,0),(5,3),(6,3),(7,1),(8,3)] mixed az λm b _=>?_;have a:=s.trans b;have d:=iY (g.Y b);obtain⟨B,d,u,rfl,x,C,l,rfl,d⟩:=(k.Y a).at (show 0<r by omega);have d:m.cell? (B.add (((0:Nat):Nat)*1))=some (.slice C c l):=x;refine gg ?_;refine jD ?_;refine gg ?_;refine aM (lW r c _ _ (λi j=>- X i j) m p q λi j h l f d=>zL i j w.heap.size r c N _ X f ((g.Y b).Y d) (k.Y (a.trans d)) h l y) ?_;rintro v b ⟨e,A,z,rfl,b,b,d⟩;refine⟨e,?_⟩;refine gg ?_;have:=a.size;exact bF (v:=.slice _ _ _) F rfl ⟨a.trans e,A,z,F,aq,λi h=>by have:=b i h;omega,d⟩
