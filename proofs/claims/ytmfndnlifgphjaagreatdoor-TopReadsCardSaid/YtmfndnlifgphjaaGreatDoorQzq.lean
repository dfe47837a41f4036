import Derived.Test.YtmfndnlifgphjaaGreatDoorQzp
set_option maxHeartbeats 64000000
open Go.Proofs.YtmfndnlifgphjaaGreatDoor
namespace Go.Proofs.Qq
section
open Go Go.cW Go.c7 Go.Proofs
def qu(n:Nat)(M:Nat->Nat->Int)(k:Nat)(P:Nat->Nat->Int):Nat->Nat->Int:=
 λi j=>if i=j then mulM n M P i j+(gn n λt=>mulM n M P t t)/(-(k:Int))else mulM n M P i j
def nV(n:Nat)(M:Nat->Nat->Int):Nat->Nat->Nat->Int
 |0=>uB 1
 |k+1=>qu n M (k+1) (nV n M k)
def ni(n:Nat)(M:Nat->Nat->Int):Nat->Nat->Int:=λi j=>if n%2=0 then-nV n M (n-1) i j else nV n M (n-1) i j
theorem xy{n N N' i j:Nat}{X Y:Nat->Nat->Int}(a:n<=16)(c:∀t,t<n->Bd N (X i t))(b:∀t,t<n->Bd N' (Y t j)):Bd (N+N'+1) (mulM n X Y i j):=
 im aq λt a=>(c t a).mul (b t a)
theorem CF{n N N' k:Nat}{M P:Nat->Nat->Int}(a:n<=16)(e:∀i j,i<n->j<n->Bd N (M i j))(d:∀i j,i<n->j<n->Bd N' (P i j)):∀i j,i<n->j<n->Bd (N+N'+3) (qu n M k P i j):=by
 intro i j c b;have h:∀i j,i<n->j<n->Bd (N+N'+1) (mulM n M P i j):=λi j c b=>xy a (λt a=>e i t c a) λt a=>d t j a b;unfold qu;split
 ·have d:Bd (N+N'+1+1) (gn n λt=>mulM n M P t t):=im aq λt a=>h t t a a;exact((h i j c b).mono aq).add d.ediv
 ·exact(h i j c b).mono aq
theorem x7{n N:Nat}{M:Nat->Nat->Int}(b:n<=16)(e:∀i j,i<n->j<n->Bd N (M i j)):∀k i j,i<n->j<n->Bd (1+k*(N+3)) (nV n M k i j):=by
 intro k;induction k with
 |zero=>
  intro i j _ _;rw[Nat.zero_mul,Nat.add_zero];unfold nV uB Bd;split<;>decide
 |succ k a=>
  intro i j d c;have:=CF (k:=k+1) b e a i j d c;rw[Nat.succ_mul];exact this.mono aq
theorem n_{r c:Nat}(h1:1<=r)(d:r<=16)(b:1<=c)(a:c<=16):kF r (λ_=>c)=true:=cD.2 ⟨⟨h1,d,b,a⟩,λ_ _=>rfl⟩
theorem AZ(v:Value)(n N:Nat)(M:Nat->Nat->Int)(w:World)(h:cB (EI N) w v n (λ_=>n) M)(hn:1<=n)(g:n<=16)(u:1<=N)(u:N<1048576):
 aT Tryz.prog 205 #[v] w (RM w n n (ni n M)):=by
 obtain⟨A,aH,rfl,_⟩:=id h;have bC:=x7 (N:=N) (M:=M) g λi j l S=>h.bd l S;refine bo (n:=78) Tryz.func205 F rfl az aA ?_;refine gg ?_;refine aJ (du 1 w aq aq) ?_;rintro _ X ⟨ax,x,y,rfl,ar⟩;refine gg ?_;refine aJ (u7 n 1 x y 1 X (ar.iv aw) aq aq ar.ep) ?_;rintro _ H ⟨d,K,L,rfl,hg,O,T⟩;refine gg ?_;have an:=ax.size;refine aY (λf s=>∃K L,f 3=.int .i64 (n:Int)/\f 4=.slice (some ⟨K,0,none⟩) n n/\Ext w s/\w.heap.size<=K/\(∀i,i<n->w.heap.size<=L i)/\iF s K L n n (nV n M (n-1))) ?_ ?_
 ·refine gg ?_;refine aU (λm f s=>∃k K L,m=n-k/\1<=k/\k<=n/\f 0=.slice A n aH/\f 3=.int .i64 (n:Int)/\f 4=.slice (some ⟨K,0,none⟩) n n/\f 5=.int .i64 ((k:Nat):Int)/\
   Ext w s/\w.heap.size<=K/\(∀i,i<n->w.heap.size<=L i)/\iF s K L n n (nV n M (k-1)))
   (n-1) ⟨1,K,L,F,aD,hn,F,F,F,F,ax.trans d,aq,λi l=>by have:=O i l;omega,T⟩ ?_
  clear T O hg d ax ar H an L K;rintro m f X ⟨k,K,L,rfl,u,u,G,r,q,E,D,hg,O,T⟩;rw[ui G,ui r,ui q,ui E];clear G r q E;refine aN ?_;by_cases u:k<n
  ·have c5:(k-1)*(N+3)<=15*1048579:=Nat.mul_le_mul aq aq;obtain⟨c,u⟩ : ∃c,c=N+1+(k-1)*(N+3):=⟨_,F⟩;obtain⟨P,hP⟩ : ∃P,P=nV n M (k-1):=⟨_,F⟩;have bx:∀i j,i<n->j<n->Bd c (P i j):=λi j l S=>by rw[hP];exact(bC (k-1) i j l S).mono aq
   have bM:∀i j,i<n->j<n->Bd c (M i j):=λi j l S=>(h.bd l S).mono aq;rw[<-hP]at T;have u:iQ n n (λ_=>n) (λ_=>n)=true:=by simp[iQ,n_ hn g hn g]
   refine gg ?_;refine aJ (xz _ _ n n c (λ_=>n) (λ_=>n) M P X ((h.Y D).mono aq) (T.read (λi j l S=>bx i j l S) aq aq) aq) ?_;intro v H hv;unfold oq at hv;rw[ab u]at hv;obtain⟨u,rfl,d,C,J,rfl,bA,a6,W⟩:=hv;clear T hg O L;have an:=D.size;have ay:=D.trans d;have bc:∀i j,i<n->j<n->Bd (c+c+1) (mulM n M P i j):=λi j l S=>xy g (λt ht=>bM i t l ht) λt ht=>bx t j ht S;obtain⟨Q,hQ⟩ : ∃Q,Q=mulM n M P:=⟨_,F⟩;rw[<-hQ]at W bc;refine gg ?_;refine dR fm ?_;refine gg ?_;refine aS (.inl F) a_ ?_;intro w3 bM o bY;have P:Bx w3 H.heap.size 1 false 0:=Bx.zero false bM;obtain⟨u,bx⟩ : ∃g,g=H.heap.size:=⟨_,F⟩;rw[<-bx]at P⊢;refine gg ?_;refine aL (N':=c+c+1+1) (.inl F) F rfl P ((CV.zero w3).ev false (Bd.zero _)) ?_;intro w4 ai I U b5;have bu:∀i,i<n->J i<u:=λi l=>by have:=(W.row i l).lt;omega
   have g:C<u:=by have:=W.outer.lt;omega
   have p:=W.wm true bc;have ae:=(p.Y o).kp U I aq (λi l=>by have:=bu i l;omega);have R:Ext w w4:=I.aK (ay.trans o) (λb hb=>by have:=ay.size;omega);have bS:w.heap.size<=C:=aq;have bl:∀i,i<n->w.heap.size<=J i:=λi l=>by have:=a6 i l;omega
   have g:w.heap.size<=u:=by have:=ay.size;omega
   clear U I b5 P bM o bY p W bx bA a6 ay d an D X H w3;refine gg ?_;refine aY (λf s=>f 0=.slice A n aH/\f 3=.int .i64 (n:Int)/\f 4=.slice (some ⟨C,0,none⟩) n n/\f 5=.int .i64 (k:Int)/\f 6=.pointer (some ⟨u,0,none⟩)/\
    Ext w s/\eM s C J n n true (λ_ _=>c+c+1) Q/\Bx s u (c+c+1+1) false (gn n λt=>Q t t)) ?_ ?_
   ·refine gg ?_;refine aU (λm f s=>∃i,m=n-i/\i<=n/\f 0=.slice A n aH/\f 3=.int .i64 (n:Int)/\f 4=.slice (some ⟨C,0,none⟩) n n/\f 5=.int .i64 (k:Int)/\f 6=.pointer (some ⟨u,0,none⟩)/\f 29=.int .i64 (n:Int)/\f 30=.int .i64 ((i:Nat):Int)/\
     Ext w s/\eM s C J n n true (λ_ _=>c+c+1) Q/\Bx s u (c+c+1+1) false (gn i λt=>Q t t))
     n ⟨0,F,aE,F,F,F,F,F,F,F,R,ae,ai⟩ ?_
    clear R ae ai w4;rintro m f X ⟨i,rfl,l,G,r,q,E,a7,u,g,D,hW,hT⟩;rw[ui G,ui r,ui q,ui E,ui a7,ui u,ui g];clear G r q E a7 u g;by_cases z:i<n
    ·refine gg ?_;refine cP [(0,0),(1,3),(2,3),(3,3),(4,0),(5,3),(6,3),(7,0),(8,1),(9,2)] mixed az λH d _=>?_;have p:=hW.Y d;have hx:=p.at z;obtain⟨x1,y1,bX,bW,cQ⟩:=(p.row i z).at z;obtain⟨tx,ty,Z,V⟩:=hT.Y d;obtain⟨b4,b0⟩:=bh Z;refine gg ?_;refine aM (kH _ _ _ _ _ _ (c+c+1+1) H V.1 (cQ.mono aq).1 aq) ?_;rintro _ w3 ⟨o,a1,b1,rfl,a8⟩;refine⟨o,?_⟩;refine gg ?_;refine aL (.inl F) F rfl (hT.Y (d.trans o)) (a8.ev false (im (n:=i+1) aq λt ht=>bc t t aq aq)) ?_;intro w4 ai I U b5;refine gg ?_;refine⟨_,?_,i+1,F,aq,F,F,F,F,F,F,F,I.aK (D.trans (d.trans o)) (λb hb=>aq),(p.Y o).kp U I aq (λi l=>by have:=bu i l;omega),ai⟩;omega
    ·refine gg ?_;have:i=n:=aq;subst this;exact⟨F,F,F,F,F,D,hW,hT⟩
   clear R ae ai w4;rintro f X ⟨G,r,q,E,a7,D,hW,hT⟩;rw[ui G,ui r,ui q,ui E,ui a7];clear G r q E a7;refine ib [(0,0),(1,3),(2,3)] [(3,[],[]),(9,[],[]),(10,[],[]),(4,[(5,3),(6,3),(7,3),(8,3)],[3])] [(11,2),(12,2),(13,3)] mixed az λH d _=>?_;obtain⟨tx,ty,Z,V⟩:=hT.Y d;obtain⟨b4,b0⟩:=bh Z;refine gg ?_;refine Bh F aq aq ?_;refine gg ?_;refine dN [(3,[]),(4,[(5,3),(6,3),(7,3),(8,3)])] [fA 9 8 44 (.agg #[.bool false,.slice none 0 0]),fA 10 9 44 (.agg #[.bool false,.slice none 0 0])] [47,48,43,49,50,51,8,9] az (λa ha f' s _ _=>by
    rcases List.mem_cons.1 ha with rfl|ha
    ·exact cm a_ F f' s
    ·rcases List.mem_singleton.1 ha with rfl;exact cm a_ F f' s) ?_
   refine cS λw3 o=>?_;refine gg ?_;refine aM (du (0-(k:Int)) w3 aq aq) ?_;rintro _ w4 ⟨R,a1,b1,rfl,a8⟩;refine⟨R,?_⟩;refine gg ?_;refine cS λu av=>?_;have g:Bd 2 (0-(k:Int)):=CD aq aq;refine gg ?_;refine aM (jd _ _ _ _ _ _ (c+c+1+1) u (V.Y (o.trans (R.trans av))).1 ((a8.Y av).iv (g.mono aq)) aq aq) ?_;rintro _ g ⟨bj,g,g,rx,g,rfl,hq,hr⟩;refine⟨bj,?_⟩;refine gg ?_;refine eW λg au Y b8 bt=>?_;obtain⟨ak,bK⟩:=b8 _ aG;obtain⟨aj,bI⟩:=b8 _ (List.mem_cons_of_mem _ aG);have b7:Y 8≠Y 9:=bt _ _ aG (List.mem_cons_of_mem _ aG) (show(8:Nat)≠9 by decide);have bG:Bx g (Y 8) 1 false 0:=Bx.zero false bK;have bD:Bx g (Y 9) 1 false 0:=Bx.zero false bI;have ak:H.heap.size<=Y 8:=ak;have aj:H.heap.size<=Y 9:=aj;have al:Ext H g:=o.trans (R.trans (av.trans (bj.trans au)));show Ro _ _ _ _ _ _ (cg (cg _ 9 (.pointer (some ⟨Y 9,0,none⟩))) 8 (.pointer (some ⟨Y 8,0,none⟩))) _;generalize Y 8=g8 at*;generalize Y 9=g9 at*;clear bK bI b8 bt;have b6:Bd (c+c+1+1) ((gn n λt=>Q t t)/(0-(k:Int))):=V.bd.ediv;have g:Bd (c+c+1+1) ((gn n λt=>Q t t)%(0-(k:Int))):=by
    have u:=Int.emod_nonneg (gn n λt=>Q t t) (show(0-(k:Int))≠0 by omega);have u:=Int.emod_lt (gn n λt=>Q t t) (show(0-(k:Int))≠0 by omega);refine Bd.mono (N:=1) ?_ aq;unfold Bd;have:B^1=4294967296:=aw;omega
   refine gg ?_;refine aL (.inl F) F rfl bG ((hq.Y au).ev false b6) ?_;intro u bt ai Y bI;refine gg ?_;refine aL (.inl F) F rfl (bD.kp Y ai b7.symm) (((hr.Y au).kp Y).ev false g) ?_;intro w9 bM a7 ay bx;have p:=hW.Y d;have P:∀i,i<n->J i<H.heap.size:=λi l=>(p.row i l).lt;have bK:=p.lt;have g:=bt.kp ay a7 b7;have b8:=((p.Y al).kp Y ai aq (λi l=>by have:=P i l;omega)).kp ay a7 aq (λi l=>by have:=P i l;omega);have u:=D.trans d;have bu:=u.size;have bc:Ext w w9:=a7.aK (ai.aK (u.trans al) λb hb=>aq) λb hb=>aq;have c4:∀i,i<n->J i<g8:=λi l=>by have:=P i l;omega
   have bY:C<g8:=aq;obtain⟨cf,bB⟩ : ∃cf,cf=(gn n λt=>Q t t)/(0-(k:Int)):=⟨_,F⟩;rw[<-bB]at g b6;clear u bM ay a7 bx Y ai bI bt bG bD ak aj al b7 au bj av R o hq hr Z V b4 b0 hW hT D p P bK bu;refine gg ?_;refine aU (λm f s=>∃i,m=n-i/\i<=n/\f 0=.slice A n aH/\f 3=.int .i64 (n:Int)/\f 4=.slice (some ⟨C,0,none⟩) n n/\f 5=.int .i64 (k:Int)/\f 8=.pointer (some ⟨g8,0,none⟩)/\f 52=.int .i64 (n:Int)/\f 53=.int .i64 ((i:Nat):Int)/\
    Ext w s/\eM s C J n n true (λa b=>if a=b/\a<i then c+c+1+1+1 else c+c+1) (λa b=>if a=b/\a<i then Q a b+cf else Q a b)/\Bx s g8 (c+c+1+1) false cf)
    n ⟨0,F,aE,F,F,F,F,F,F,F,bc,b8.congr λa b _ _=>⟨aA,aA⟩,g⟩ ?_
   clear bc b8 g w9;rintro m f X ⟨i,rfl,l,G,r,q,E,s,m,g,D,hW,hT⟩;rw[ui G,ui r,ui q,ui E,ui s,ui m,ui g];clear G r q E s m g;by_cases z:i<n
   ·refine gg ?_;refine cP [(0,3),(1,3),(2,3),(3,0),(4,3),(5,3),(6,3),(7,3),(8,0),(9,3),(10,3),(11,0),(12,0),(13,1),(14,3),(15,2)] mixed az λH d _=>?_;have p:=hW.Y d;have hx:=p.at z;obtain⟨x1,y1,bX,bW,cQ⟩:=(p.row i z).at z;simp only at cQ;rw[aa aq,aa aq]at cQ;obtain⟨tx,ty,Z,V⟩:=hT.Y d;obtain⟨b4,b0⟩:=bh Z;refine gg ?_;refine aM (kH _ _ _ _ _ _ (c+c+1+1) H (cQ.mono aq).1 V.1 aq) ?_;rintro _ w3 ⟨o,a1,b1,rfl,a8⟩;refine⟨o,?_⟩;refine gg ?_;refine c_ (.inl F) F rfl ((p.Y o).row i z) z (a8.ev true (N:=c+c+1+1+1) ((cQ.bd.mono aq).add b6)) ?_;intro w4 g I U b5;have ae:=(p.Y o).put z g I U;have g:=bl i z;have g:=c4 i z;refine gg ?_;refine⟨_,?_,i+1,F,aq,F,F,F,F,F,F,F,I.aK (D.trans (d.trans o)) λb hb=>aq,ae.congr λa b ha hb=>⟨?_,?_⟩,(hT.Y (d.trans o)).kp U I aq⟩
    ·omega
    ·simp only[cV];by_cases e:a=i/\b=i
     ·rw[ab e,ab aq];exact Nat.le_refl _
     ·rw[aa e];by_cases e2:a=b/\a<i
      ·rw[ab e2,ab aq];exact Nat.le_refl _
      ·rw[aa e2,aa aq];exact Nat.le_refl _
    ·simp only[cV];by_cases e:a=i/\b=i
     ·obtain⟨rfl,rfl⟩:=e;rw[ab ⟨F,F⟩,ab aq]
     ·rw[aa e];by_cases e2:a=b/\a<i
      ·rw[ab e2,ab aq]
      ·rw[aa e2,aa aq]
   ·refine gg ?_;refine⟨_,?_,k+1,C,J,F,aq,aq,F,F,F,F,D,bS,bl,?_⟩
    ·omega
    ·refine(hW.congr (bn':=λ_ _=>c+c+1+1+1) (M':=nV n M (k+1-1)) (λa b ha hb=>⟨by split<;>omega,?_⟩)).o;obtain⟨k,rfl⟩ : ∃c,k=c+1:=⟨k-1,aq⟩;simp only[Nat.add_sub_cancel]at hP⊢;rw[nV,qu,<-hP,<-hQ];by_cases e:a=b
     ·rw[ab ⟨e,aq⟩,ab e,bB,Int.zero_sub]
     ·rw[aa λh=>e h.1,aa e]
  ·refine gg ?_;have:k=n:=aq;subst this;exact⟨K,L,F,F,D,hg,O,T⟩
 clear T O hg d ax ar X H an L K;rintro f X ⟨K,L,r,q,D,hg,O,T⟩;rw[ui r,ui q];clear r q;refine aN ?_;by_cases a:n%2=0
 ·refine gg ?_;refine jB F aw ?_;refine gg ?_;have c5:(n-1)*(N+3)<=15*1048579:=Nat.mul_le_mul aq aq;refine aJ (Ci _ n n (1+(n-1)*(N+3)) _ X (T.read (λi j l S=>bC (n-1) i j l S) aq aq) hn aq aq aq) ?_;rintro _ H ⟨d,C,J,rfl,bA,a6,W⟩;refine gg ?_;have:=D.size;refine bF (v:=.slice _ _ _) F rfl ⟨D.trans d,C,J,F,aq,λi l=>by have:=a6 i l;omega,?_⟩;have e:(λi j=>- nV n M (n-1) i j)=ni n M:=by funext i j;rw[ni,ab a]
  rw[<-e];exact W
 ·refine gg ?_;refine jB F aw ?_;refine gg ?_;refine bF (v:=.slice _ _ _) F rfl ⟨D,K,L,F,hg,O,?_⟩;have e:nV n M (n-1)=ni n M:=by funext i j;rw[ni,aa a]
  rw[<-e];exact T
theorem H0{n N:Nat}:∀(m k:Nat) (M:Nat->Nat->Int) (b:Bool) (a:Int),(∀i j,Bd (Nb N k) (M i j))->Bd (Nb N k) a->Bd (Nb N (k+m)) (jU n m k M b a):=by
 intro m;induction m with
 |zero=>intro k M b a d c;unfold jU;split<;>first|exact c.neg|exact c
 |succ m e=>
  intro k M b a d c;unfold jU;split
  ·exact Bd.zero _
  ·have c:∀i j,Bd (Nb N k) (swp k (dS n k M) M i j):=λi j=>by
    simp only[swp];split
    ·exact d _ _
    ·split<;>exact d _ _
   have d:=e (k+1) (elim k a (swp k (dS n k M) M)) (b != decide (dS n k M≠k)) (swp k (dS n k M) M k k) (λi j=>Kr c) ((c k k).mono (jF N k));rw[show k+(m+1)=k+1+m by omega];exact d
def cut(n:Nat)(M:Nat->Nat->Int):Nat->Nat->Int:=λi j=>if i<n/\j<n then M i j else 0
theorem At{n k:Nat}{M M':Nat->Nat->Int}(c:k<n)(h:∀i j,i<n->j<n->M i j=M' i j):∀a p,iI n k M a p=iI n k M' a p:=by
 intro a;induction a with
 |zero=>intro p;rfl
 |succ a b=>
  intro p;simp only[iI];by_cases a:p<n
  ·rw[h p k a c,b]
  ·rw[aa λe=>a e.1,aa λe=>a e.1]
theorem HB{n k:Nat}{M:Nat->Nat->Int}:∀a p,p<=n->p<=iI n k M a p/\iI n k M a p<=n:=by
 intro a;induction a with
 |zero=>intro p b;exact⟨aD,b⟩
 |succ a c=>
  intro p b;simp only[iI];split
  ·rename_i h;have:=c (p+1) aq;omega
  ·omega
theorem AK{n:Nat}:∀(m k:Nat) (M a:Nat->Nat->Int) (c:Bool) (b:Int),k+m=n->(∀i j,i<n->j<n->M i j=a i j)->jU n m k M c b=jU n m k a c b:=by
 intro m;induction m with
 |zero=>intro k M a c b _ _;rfl
 |succ m l=>
  intro k M a c b q h;have o:dS n k M=dS n k a:=At aq h _ _;have g:dS n k a<=n:=(HB (n:=n) (k:=k) (M:=a) (n-k) k aq).2;simp only[jU,o];split
  ·rfl
  ·rename_i p;have g:dS n k a<n:=aq;have e:∀i j,i<n->j<n->swp k (dS n k a) M i j=swp k (dS n k a) a i j:=λi j f d=>by
    simp only[swp];split
    ·exact h _ _ g d
    ·split
     ·exact h _ _ aq d
     ·exact h _ _ f d
   rw[e k k aq aq];refine l (k+1) _ _ _ _ aq λi j f d=>?_;simp only[elim];rw[e k k aq aq,e i j f d,e i k f aq,e k j aq d]
theorem CB{n:Nat}{M M':Nat->Nat->Int}(h:∀i j,i<n->j<n->M i j=M' i j):gj n M=gj n M':=AK n 0 M M' false 1 (by omega) h
theorem ie{n N:Nat}{M:Nat->Nat->Int}(d:1<=N)(h:∀i j,i<n->j<n->Bd N (M i j)):Bd (Nb N n) (gj n M):=by
 have e:gj n M=gj n (cut n M):=CB λi j c b=>by simp[cut,c,b]
 rw[e];have:=H0 (n:=n) (N:=N) n 0 (cut n M) false 1 (λi j=>by
  unfold cut;split
  ·rename_i a;exact h i j a.1 a.2
  ·exact Bd.zero _) (Bd.mono (N:=1) (show(1:Int).natAbs<B^1 by decide) d)
 rwa[Nat.zero_add]at this
def NB(r:Nat)(len:Nat->Nat)(M:Nat->Nat->Int):Bool:=jt r len&&decide (gj r M=1\/gj r M=-1)
end
end Go.Proofs.Qq

namespace Go.Proofs.Qq
section
open Go Go.cW Go.c7 Go.Proofs
def PT(w:World)(v:Value)(w':World):Prop:=Ext w w'/\v=.bool true
theorem df(r:Nat)(len:Nat->Nat):∃(s c:Nat) (ok:Bool),ky r len=.tuple #[.int .i64 (s:Int),.int .i64 (c:Int),.bool ok]/\((kF r len=true/\ok=true/\s=r/\c=len 0)\/(kF r len=false/\ok=false/\s=0/\c=0)):=by
 by_cases h:kF r len=true
 ·exact⟨_,_,_,js h,.inl ⟨h,F,F,F⟩⟩
 ·exact⟨_,_,_,dG h,.inr ⟨by simpa using h,F,F,F⟩⟩
theorem jQ{w w':World}{ok:Bool}{r c:Nat}{M:Nat->Nat->Int}(h:ok=false)(a:Ext w w'):oq w ok r c M (.tuple #[.slice none 0 0,.bool false]) w':=by
 unfold oq;rw[aa (by rw[h];decide)];exact⟨a,F⟩
theorem wW{w a w':World}{ok:Bool}{r c:Nat}{M:Nat->Nat->Int}{v:Value}(h:ok=true)(b:Ext w a)(e:RM a r c M v w'):oq w ok r c M (.tuple #[v,.bool true]) w':=by
 unfold oq;rw[ab h];obtain⟨d,j,i,rfl,a,g,f⟩:=e;have:=b.size;exact⟨_,F,b.trans d,j,i,F,aq,λi a=>by have:=g i a;omega,f⟩
theorem uu(i j e r c N:Nat)(b:Value)(X:Nat->Nat->Int)(w:World)(o:bg w e 25 #[b])
 (l:cB (EI N) w b r (λ_=>c) X) (k:i<c) (h:j<r) (m:N<1099511627776):
 aT Tryz.prog 87 #[.int .i64 (i:Int),.int .i64 (j:Int),.pointer (some ⟨e,0,none⟩)] w (RI w (X j i)):=by
 refine bo (n:=14) Tryz.func87 F rfl az aA ?_;refine gg ?_;refine aS (.inl F) a_ ?_;intro d b a e;have g:Bx d w.heap.size 1 true 0:=Bx.zero true b;have b:=iY (o.Y a);obtain⟨b,b,b,rfl,b,f⟩:=(l.Y a).at h;obtain⟨b,b,b,b,rfl,b,b,b⟩:=f.at k;refine gg ?_;refine aJ (iz _ _ _ N d b m) ?_;rintro _ d ⟨d,e,e,rfl,e⟩;refine gg ?_;refine aL (.inl F) F rfl (g.Y d) (e.ev true (N:=N) (IV.bd b)) ?_;intro b b e f f;refine gg ?_;obtain⟨x,y,g,f⟩:=b;exact eZ F aQ F g ⟨e.aK (a.trans d) λb a=>aq,x,y,F,f.2 F⟩
theorem mh(c:Value)(r N:Nat)(len:Nat->Nat)(X:Nat->Nat->Int)(w:World)(g:cB (EI N) w c r len X)(o:N<1099511627776):
 aT Tryz.prog 36 #[c] w (oq w (kF r len) (len 0) r λi j=>X j i):=by
 obtain⟨d,d,h,_⟩:=id g;refine bo (n:=19) Tryz.func36 F rfl az aA ?_;refine gg ?_;refine bO (v:=c) (.inl F) F ?_;intro f d b l;have e:bg f w.heap.size 25 #[c]:=by rw[h]at d⊢;exact d
 have d:=iY e;refine gg ?_;refine aJ (jr _ c r len X f (g.Y b)) ?_;rintro _ _ ⟨rfl,rfl⟩;obtain⟨k,d,d,h,d⟩:=df r len;rw[h];rcases d with⟨a,rfl,rfl,rfl⟩|⟨a,rfl,rfl,rfl⟩
 ·obtain⟨⟨l,d,p,m⟩,h⟩:=cD.1 a;refine gg ?_;refine aN ?_;refine gg ?_;refine jD ?_;refine gg ?_;refine aJ (lW (len 0) k _ _ (λi j=>X j i) f aq aq λi j m l f d=>uu i j w.heap.size k (len 0) N c X f (e.Y d) ((g.Y (b.trans d)).sq h) m l o) ?_;rintro v c c;have d:=c;obtain⟨_,e,gs,rfl,_⟩:=d;refine gg ?_;exact cU (v:=.slice _ _ _) (v':=.bool _) F rfl rfl (wW a b c)
 ·refine gg ?_;refine aN ?_;refine gg ?_;exact cU (v:=.slice _ _ _) (v':=.bool _) F rfl rfl (jQ a b)
def oM(c b:Nat)(a len2:Nat->Nat):Bool:=kF c a&&kF b len2&&decide (c=b)&&decide (a 0=len2 0)
def Sm(r:Nat)(len:Nat->Nat)(L:Nat->Nat->Nat):Prop:=r<=600/\∀i,i<r->len i<=600/\∀j,j<len i->L i j<=600
theorem Sm.e{w:World}{v:Value}{r:Nat}{len:Nat->Nat}{M:Nat->Nat->Int}{L:Nat->Nat->Nat}(h:Sm r len L)(a:Lm w v r len M L):cB (EI 600) w v r len M:=a.e λi b j a=>(h.2 i b).2 j a
theorem kh(E:World->Value->Value->Int->Prop)(v:Value)(r:Nat)(len:Nat->Nat)(M:Nat->Nat->Int)(w:World)(h:cB E w v r len M):
 aT Tryz.prog 43 #[v] w λv' a=>w=a/\v'=ky r len:=by
 refine bo (n:=10) Tryz.func43 F rfl az aA ?_;refine gg ?_;refine aJ (jr E v r len M w h) ?_;rintro _ _ ⟨rfl,rfl⟩;obtain⟨a,a,a,a,_⟩:=df r len;rw[a];refine gg ?_;exact jG (v:=.int _ _) (v':=.int _ _) (v'':=.bool _) F rfl rfl rfl ⟨F,F⟩
theorem oJ(L:Value)(r N:Nat)(len:Nat->Nat)(X:Nat->Nat->Int)(w:World)(s:cB (EI N) w L r len X)(T:N<1099511627776):
 aT Tryz.prog 62 #[L] w (oq w (kF r len) (len 0) r λi j=>X j i):=by
 obtain⟨W,G,Q,_⟩:=id s;refine bo (n:=51) Tryz.func62 F rfl az aA ?_;refine gg ?_;refine aJ (qQ _ L r len X w s) ?_;rintro _ S ⟨D,rfl⟩;obtain⟨c,L,L,U,L⟩:=df r len;rw[U];rcases L with⟨q,rfl,rfl,rfl⟩|⟨q,rfl,rfl,rfl⟩
 ·obtain⟨⟨U,L,Z,Y⟩,r⟩:=cD.1 q;have O:=s.sq r;refine gg ?_;refine aN ?_;refine gg ?_;refine aJ (rW (len 0) c S aq aq) ?_;rintro _ K ⟨J,A,gs,rfl,r,I,P⟩;have r:=D.size;have E:=D.trans J;subst Q;refine gg ?_;refine aN ?_;refine gg ?_;refine aU (λm f z=>∃i,m=c-i/\i<=c/\f 0=.slice W c G/\f 7=.slice (some ⟨A,0,none⟩) (len 0) (len 0)/\f 22=.int .i64 (c:Int)/\f 23=.int .i64 ((i:Nat):Int)/\
   Ext w z/\eM z A gs (len 0) c true (λ_ _=>N) λa b=>if b<i then X b a else 0)
   c ⟨0,F,aE,F,F,F,F,E,(P.wm true (N:=N) λ_ _ _ _=>Bd.zero N).congr λi j _ _=>⟨aD,aA⟩⟩ ?_
  clear P E J K;rintro m f K ⟨i,rfl,r,o,l,g,d,h,t⟩;rw[ui o,ui l,ui g,ui d];clear o l g d;by_cases B:i<c
  ·obtain⟨V,r,u,e,M,p⟩:=(O.Y h).at B;obtain⟨r,r,rfl,_⟩:=id p;cases e;refine gg ?_;refine aU (λm f z=>∃j,m=len 0-j/\j<=len 0/\f 0=.slice (some V) c G/\f 7=.slice (some ⟨A,0,none⟩) (len 0) (len 0)/\f 8=.int .i64 (i:Int)/\f 22=.int .i64 (c:Int)/\f 23=.int .i64 (i:Int)/\
    f 30=.int .i64 ((len 0:Nat):Int)/\f 31=.int .i64 (j:Int)/\Ext w z/\eM z A gs (len 0) c true (λ_ _=>N) λa b=>if b<i\/b=i/\a<j then X b a else 0)
    (len 0) ⟨0,F,aE,F,F,F,F,F,F,F,h,t.congr (λa b _ _=>⟨aD,by by_cases e:b<i<;>simp[e]⟩)⟩ ?_
   clear t h M p;rintro m f K ⟨j,rfl,f,o,l,r,g,d,m,f,h,t⟩;rw[ui o,ui l,ui r,ui g,ui d,ui m,ui f];clear o l r g d m f;by_cases k:j<len 0
   ·refine gg ?_;refine cP [(0,3),(1,3),(2,3),(3,0),(4,3),(5,3),(6,3),(7,3),(8,0),(9,3),(10,3),(11,0),(12,1),(13,3),(14,2)] mixed az λR C _=>?_;obtain⟨d,d,u,e,M,p⟩:=(O.Y (h.trans C)).at B;cases e;obtain⟨d,d,d,d,rfl,d,d,cQ⟩:=p.at k;have f:=t.Y C;have d:=f.at k;refine gg ?_;refine aM (oK _ _ _ N R cQ T) ?_;rintro _ d ⟨d,x,y,rfl,g⟩;refine⟨d,?_⟩;refine gg ?_;refine c_ (.inl F) F rfl ((f.Y d).row j k) B (g.ev true (N:=N) (IV.bd cQ)) ?_;intro g o g l m;have m:=(f.Y d).put k o g l;refine gg ?_;have f:=I j k;refine⟨_,?_,j+1,F,aq,F,F,F,F,F,F,F,g.aK (h.trans (C.trans d)) λb H=>aq,m.congr λa b s H=>⟨?_,?_⟩⟩
    ·omega
    ·unfold cV;split<;>exact Nat.le_refl _
    ·simp only[cV];by_cases e:a=j/\b=i
     ·obtain⟨rfl,rfl⟩:=e;rw[ab ⟨F,F⟩,ab aq]
     ·rw[aa e];by_cases d:b<i\/b=i/\a<j
      ·rw[ab d,ab aq]
      ·rw[aa d,aa aq]
   ·refine gg ?_;refine⟨_,?_,i+1,F,aq,F,F,F,F,h,t.congr λa b s H=>⟨aD,?_⟩⟩
    ·omega
    ·by_cases d:b<i+1
     ·rw[ab d,ab aq]
     ·rw[aa d,aa aq]
  ·refine gg ?_;have:i=c:=aq;subst this;refine cU (v:=.slice _ _ _) (v':=.bool _) F rfl rfl ?_;unfold oq;rw[ab q];exact⟨_,F,h,A,gs,F,aq,λk c=>by have:=I k c;omega,(t.congr (bn':=λ_ _=>N) (M':=λi j=>X j i) (λa b s H=>⟨aD,by rw[ab H]⟩)).o⟩
 ·refine gg ?_;refine aN ?_;refine gg ?_;exact cU (v:=.slice _ _ _) (v':=.bool _) F rfl rfl (jQ q D)
theorem MR(d E:Value)(c N:Nat)(X Y:Nat->Int)(w:World)(G:gY (EI N) w d c X)(j:gY (EI N) w E c Y)(e:c<4294967295)(e:N<34359738368):
 aT Tryz.prog 165 #[d,E] w (RI w (gn c λt=>X t*Y t)):=by
 obtain⟨W,I,h,_⟩:=id G;subst h;refine bo (n:=26) Tryz.func165 F rfl az aA ?_;refine gg ?_;refine aS (.inl F) a_ ?_;intro f C A d;have p:Bx f w.heap.size 1 true 0:=Bx.zero true C;refine gg ?_;refine dR fm ?_;refine gg ?_;refine aS (.inl F) a_ ?_;intro u B q Q;have z:Bx u f.heap.size 1 true 0:=Bx.zero true B;refine gg ?_;refine aL (N':=N+N+1) (.inl F) F rfl z ((CV.zero u).ev true (Bd.zero _)) ?_;intro s e d y P;obtain⟨M,D⟩ : ∃g,g=w.heap.size:=⟨_,F⟩;obtain⟨L,m⟩ : ∃g,g=f.heap.size:=⟨_,F⟩;rw[<-m]at e d⊢;rw[<-D]at p⊢;have g:=(p.Y q).kp y d aq;have a:Ext w s:=d.aK (A.trans q) λb j=>aq;refine gg ?_;refine aN ?_;refine gg ?_;refine aU (λm f D=>∃k,m=c-k/\k<=c/\f 0=.slice W c I/\f 1=E/\f 4=.pointer (some ⟨M,0,none⟩)/\f 5=.pointer (some ⟨L,0,none⟩)/\f 9=.int .i64 (c:Int)/\f 10=.int .i64 ((k:Nat):Int)/\
  Ext w D/\Bx D M 1 true 0/\Bx D L (N+N+1) true (gn k λt=>X t*Y t)) c ⟨0,rfl,aE,rfl,rfl,rfl,rfl,rfl,rfl,a,g,e⟩ ?_
 clear a g y d e P z B q Q p C u s;rintro m f u ⟨k,rfl,d,p,m,g,f,e,d,K,J,H⟩;rw[ui p,ui m,ui g,ui f,ui e,ui d];clear p m g f e d;by_cases v:k<c
 ·refine gg ?_;refine cP [(0,0),(1,3),(2,3),(3,3),(4,0),(5,3),(6,3),(7,3),(8,0),(9,1),(10,1),(11,2)] mixed az λs a _=>?_;have r:=K.trans a;obtain⟨T,S,o,l⟩:=H.Y a;obtain⟨V,U⟩:=bh o;obtain⟨d,d,d,d,e,d,d,h⟩:=(G.Y r).at v;cases e;obtain⟨d,d,d,d,rfl,d,d,e⟩:=(j.Y r).at v;refine gg ?_;refine aM (r4 _ _ _ _ _ _ N s h e aq) ?_;rintro _ g ⟨d,f,f,rfl,f⟩;refine⟨d,?_⟩;have m:Bd (N+N) (X k*Y k):=(IV.bd h).mul (IV.bd e);refine gg ?_;refine aM (r6 _ _ _ _ _ _ (N+N+1) g (l.Y d).1 (f.iv (m.mono aq)) aq) ?_;rintro _ e ⟨e,a2,b2,rfl,g⟩;refine⟨e,?_⟩;have f:Bd (N+N+1) (gn (k+1) λt=>X t*Y t):=im aq λt h=>?_
  ·refine gg ?_;refine aL (.inl F) F rfl (H.Y (a.trans (d.trans e))) (g.ev true f) ?_;intro R f i x O;have g:=A.size;refine gg ?_;refine⟨_,?_,k+1,F,aq,F,F,F,F,F,F,i.aK (r.trans (d.trans e)) λb j=>aq,(J.Y (a.trans (d.trans e))).kp x i aq,f⟩;omega
  ·obtain⟨_,_,_,_,_,_,_,h1⟩:=G.at (show t<c by omega);obtain⟨_,_,_,_,_,_,_,h2⟩:=j.at (show t<c by omega);exact(IV.bd h1).mul (IV.bd h2)
 ·have:k=c:=aq;subst this;obtain⟨T,S,o,l⟩:=H;obtain⟨V,U⟩:=bh o;refine gg ?_;refine aL (.inl F) F rfl J l ?_;intro R a i x O;refine gg ?_;obtain⟨x,y,e,d⟩:=a;exact eZ F aQ F e ⟨i.aK K λb j=>aq,x,y,F,d.2 F⟩
theorem GO(W S:Value)(H l N:Nat)(c len2:Nat->Nat)(X Y:Nat->Nat->Int)(w:World)(p:cB (EI N) w W H c X)(s:cB (EI N) w S l len2 Y)(hN:N<34359738368):
 aT Tryz.prog 124 #[W,S] w (oq w (iQ H l c len2) H (len2 0) (mulM (c 0) X Y)):=by
 obtain⟨Aa,T,a7,_⟩:=id p;obtain⟨Ab,ai,a6,_⟩:=id s;refine bo (n:=70) Tryz.func124 F rfl az aA ?_;refine gg ?_;refine aJ (qQ _ W H c X w p) ?_;rintro _ W ⟨Q,rfl⟩;obtain⟨d,c1,a1,e1,h1⟩:=df H c;rw[e1];refine gg ?_;refine aJ (oJ S l N len2 Y W (s.Y Q) aq) ?_;intro H w2 K;by_cases g:kF l len2=true
 ·obtain⟨_,rfl,P,gT,A,rfl,H,H,O⟩:=K.get g;clear K;have o:=Q.trans P;obtain⟨⟨W,S,aj,ai⟩,H⟩:=cD.1 g;have M:=s.sq H;rcases h1 with⟨z,rfl,rfl,rfl⟩|⟨z,rfl,rfl,rfl⟩
  ·obtain⟨⟨W,S,aj,ai⟩,H⟩:=cD.1 z;have Z:=p.sq H;subst a7;subst a6;by_cases V:l=c 0
   ·have ae:iQ d l c len2=true:=by simp[iQ,z,g,V.symm]
    refine gg ?_;refine aN ?_;refine gg ?_;refine aJ (rW d (len2 0) w2 aq aq) ?_;rintro _ U ⟨H,J,gs,rfl,S,L,hO⟩;have S:=o.size;have S:=o.trans H;have W:=O.Y H;have R:∀i,i<d->gT≠gs i/\∀j,j<len2 0->A j≠gs i:=λi hi=>by
     have a:=L i hi;have b:=O.outer.lt;refine⟨aq,λj hj=>?_⟩;have:=(O.row j hj).lt;omega
    refine gg ?_;refine aN ?_;refine gg ?_;refine aU (λm f B=>∃i,m=d-i/\i<=d/\f 0=.slice Aa d T/\f 9=.slice (some ⟨gT,0,none⟩) (len2 0) (len2 0)/\f 11=.slice (some ⟨J,0,none⟩) d d/\f 43=.int .i64 (d:Int)/\f 44=.int .i64 ((i:Nat):Int)/\
     Ext w B/\iF B gT A (len2 0) l (λi j=>Y j i)/\eM B J gs d (len2 0) true (λ_ _=>N+N+1) λa b=>if a<i then mulM (c 0) X Y a b else 0)
     d ⟨0,F,aE,F,F,F,F,F,S,W,(hO.wm true (N:=N+N+1) λ_ _ _ _=>Bd.zero _).congr λi j _ _=>⟨aD,aA⟩⟩ ?_
    clear hO S H W U;rintro m f U ⟨i,rfl,hi,u,t,r,q,h,C,I,G⟩;rw[ui u,ui t,ui r,ui q,ui h];clear u t r q h;by_cases k:i<d
    ·refine gg ?_;refine aU (λm f B=>∃j,m=len2 0-j/\j<=len2 0/\f 0=.slice Aa d T/\f 9=.slice (some ⟨gT,0,none⟩) (len2 0) (len2 0)/\f 11=.slice (some ⟨J,0,none⟩) d d/\f 12=.int .i64 (i:Int)/\f 43=.int .i64 (d:Int)/\f 44=.int .i64 (i:Int)/\
      f 48=.int .i64 ((len2 0:Nat):Int)/\f 49=.int .i64 (j:Int)/\Ext w B/\iF B gT A (len2 0) l (λi j=>Y j i)/\eM B J gs d (len2 0) true (λ_ _=>N+N+1) λa b=>if a<i\/a=i/\b<j then mulM (c 0) X Y a b else 0)
      (len2 0) ⟨0,F,aE,F,F,F,F,F,F,F,F,C,I,G.congr (λa b _ _=>⟨aD,by by_cases e:a<i<;>simp[e]⟩)⟩ ?_
     clear G C I U;rintro m f U ⟨j,rfl,hj,u,t,r,B,q,h,m,f,C,I,G⟩;rw[ui u,ui t,ui r,ui B,ui q,ui h,ui m,ui f];clear u t r B q h m f;by_cases D:j<len2 0
     ·refine gg ?_;refine cP [(0,3),(1,3),(2,3),(3,0),(4,3),(5,3),(6,3),(7,3),(8,0),(9,3),(10,3),(11,3),(12,0),(13,1),(14,3),(15,2)] mixed az λw4 E _=>?_;obtain⟨f,f,u,e,f,a8⟩:=(Z.Y (C.trans E)).at k;cases e;have m:=I.Y E;have f:gY (EI N) w4 (.slice (some ⟨A j,0,none⟩) l l) l (λt=>Y t j):=(m.row j D).read (λt q=>M.bd q D) aq;have h:w4.cell? ⟨gT,0+j*1,none⟩=some (.slice (some ⟨A j,0,none⟩) l l):=by rw[m.outer.cell,cE aq,Nat.zero_add,Nat.mul_one]
      have h:=G.Y E;have r:=h.at k;refine gg ?_;refine aM (MR _ _ l N (X i) (λt=>Y t j) w4 (by rw[V];exact a8) f aq hN) ?_;rintro _ f ⟨f,x,y,rfl,r⟩;refine⟨f,?_⟩;have u:Bd (N+N+1) (gn l λt=>X i t*Y t j):=im aq λt q=>(Z.bd k aq).mul (M.bd q D);refine gg ?_;refine c_ (.inl F) F rfl ((h.Y f).row i k) D (r.ev true u) ?_;intro q u q r t;have t:=(h.Y f).put k u q r;have u:=(((m.Y f).wm true (N:=N) λa b p s=>M.bd s p).kp r q (λh=>(R i k).1 h) λa p h=>(R i k).2 a p h).o;refine gg ?_;have h:=L i k;refine⟨_,?_,j+1,F,aq,F,F,F,F,F,F,F,F,q.aK (C.trans (E.trans f)) λb s=>aq,u,t.congr λa b p s=>⟨?_,?_⟩⟩
      ·omega
      ·unfold cV;split<;>exact Nat.le_refl _
      ·simp only[cV];by_cases e:a=i/\b=j
       ·obtain⟨rfl,rfl⟩:=e;rw[ab ⟨F,F⟩,ab aq,mulM,V]
       ·rw[aa e];by_cases e:a<i\/a=i/\b<j
        ·rw[ab e,ab aq]
        ·rw[aa e,aa aq]
     ·refine gg ?_;refine⟨_,?_,i+1,F,aq,F,F,F,F,F,C,I,G.congr λa b p s=>⟨aD,?_⟩⟩
      ·omega
      ·by_cases e:a<i+1
       ·rw[ab e,ab aq]
       ·rw[aa e,aa aq]
    ·refine gg ?_;have:i=d:=aq;subst this;refine cU (v:=.slice _ _ _) (v':=.bool _) F rfl rfl ?_;unfold oq;rw[ab ae];exact⟨_,F,C,J,gs,F,aq,λk d=>by have:=L k d;omega,(G.congr (bn':=λ_ _=>N+N+1) (M':=mulM (c 0) X Y) (λa b p s=>⟨aD,by rw[ab p]⟩)).o⟩
   ·refine gg ?_;refine aN ?_;refine gg ?_;exact cU (v:=.slice _ _ _) (v':=.bool _) F rfl rfl (jQ (by simp[iQ,Ne.symm V]) o)
  ·refine gg ?_;refine aN ?_;refine gg ?_;exact cU (v:=.slice _ _ _) (v':=.bool _) F rfl rfl (jQ (by simp[iQ,z]) o)
 ·have g:kF l len2=false:=by simpa using g
  obtain⟨P,rfl⟩:=K.no g;have o:=Q.trans P;cases a1
  ·refine gg ?_;refine aN ?_;refine gg ?_;exact cU (v:=.slice _ _ _) (v':=.bool _) F rfl rfl (jQ (by simp[iQ,g]) o)
  ·refine gg ?_;refine aN ?_;refine gg ?_;exact cU (v:=.slice _ _ _) (v':=.bool _) F rfl rfl (jQ (by simp[iQ,g]) o)
theorem zm(f e:Value)(c d N:Nat)(a len2:Nat->Nat)(X Y:Nat->Nat->Int)(w:World)(j:cB (EI N) w f c a X)(i:cB (EI N) w e d len2 Y)(k:N<34359738368):
 aT Tryz.prog 63 #[f,e] w (K7 w (iQ c d a len2) c (len2 0) (mulM (a 0) X Y)):=by
 refine bo (n:=14) Tryz.func63 F rfl az aA ?_;refine gg ?_;refine aJ (GO f e c d N a len2 X Y w j i k) ?_;intro e e h;by_cases b:iQ c d a len2=true
 ·obtain⟨u,rfl,g,m,l,rfl,a⟩:=h.get b;refine gg ?_;refine bF (v:=.slice _ _ _) F rfl ?_;unfold K7;rw[ab b];exact⟨g,m,l,F,a⟩
 ·obtain⟨g,rfl⟩:=h.no (by simpa using b);refine gg ?_;refine bF (v:=.slice _ _ _) F rfl ?_;unfold K7;rw[aa b];exact⟨g,F⟩
end
end Go.Proofs.Qq

