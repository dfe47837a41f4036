import Derived.Test.YtmfndnlifgphjaaGreatQzw
set_option maxHeartbeats 64000000
open Go.Proofs.YtmfndnlifgphjaaGreat
namespace Go.Proofs.Qq
section
open Go Go.cU Go.cV Go.Proofs
open Go.bc (aQ tr mul)
open Go.Hn (HS Hf kB fin nk jQ)
def JR(w:World)(n N:Nat)(W:Nat->Nat->Int)(v:Value)(w':World):Prop:=
 Ext w w'/\∃a b T X,v=.slice (some ⟨a,0,none⟩) n n/\w.heap.size<=a/\(∀i,i<n->w.heap.size<=b i)/\bO w' a b (λ_=>n) n n true (λ_ _=>N) T/\Hf n T/\(aQ n X=1\/aQ n X=-1)/\∀r j,r<n->j<n->T r j=mul n W X r j
def qP(C:Nat->Nat->Int)(k first:Nat)(z:Int):Nat->Nat->Int:=λt r=>if t<k/\first<=r then C t r%z else C t r
theorem ri(C:Nat->Nat->Int)(k first:Nat)(z:Int):sv (qP C k first z) k first z=qP C (k+1) first z:=by
 funext t r;unfold sv qP;by_cases b:t=k
 ·subst b;by_cases a:first<=r
  ·rw[ae ⟨F,a⟩,aa aq,ae ⟨aq,a⟩]
  ·rw[aa aq,aa aq,aa aq]
 ·rw[aa λh=>b h.1];congr 1;exact propext aq
def jP(C:Nat->Nat->Int)(i k:Nat)(a b:Int):Nat->Nat->Int:=λt r=>if t=i then jQ C i a b r else if t<k/\t<i then C t r+-(C t i/b)*jQ C i a b r else C t r
theorem pQ(v:Value)(n N:Nat)(W:Nat->Nat->Int)(d:Int)(xd yd:Value)(w:World)(h:cO (EB N true) w v n (λ_=>n) W)(u:EV w N true xd yd d)(bB:d=aQ n W)(h0:d≠0)(bu:1<=n)(z:n<=16)(h8:1<=N)(z:N<65536):
 aT Tryz.prog 87 #[v,.agg #[xd,yd]] w (JR w n N W):=by
 obtain⟨ad,eR,z,e,z,z⟩:=h.at (show 0<n by omega);subst e;obtain⟨_,_,e,z,z,z⟩:=id h;cases e;refine bF (n:=147) Tryz.func87 F rfl aw aA ?_;have bd:Bd N d:=u.1.bd;have l:Ext w w:=Ext.refl w;refine gc ?_;refine aZ (v:=.agg _) (.inl F) F ?_;intro cL b4 c Y;have z:bh cL w.heap.size 35 #[xd,yd]:=b4;obtain⟨gD,bW⟩ : ∃g,g=w.heap.size:=⟨_,F⟩;rw[<-bW]at z⊢;have g7:w.heap.size<=gD:=by have:=l.size;omega
 replace u:=u.Y c;replace l:=l.trans c;clear b4 Y bW c;have hD:Bx cL gD N true d:=⟨xd,yd,z,u⟩;clear z u;refine gc ?_;have hh:cO (EB N true) cL (.slice (some ad) n eR) n (λ_=>n) W:=h.imp (λp u u=>aS l u) λx y z hv=>EV.Y hv l;have u:=hD.lt;refine gc ?_;refine aJ (nC _ n n N true W cL hh bu aq bu aq) ?_;rintro _ z ⟨c,T,D,rfl,gJ,eX,E⟩;replace hD:=hD.Y c;replace l:=l.trans c;clear c;clear hh;refine gc ?_;have u:=E.lt;have eQ:∀t,t<n->w.heap.size<=D t/\D t<(z).heap.size/\gD<D t:=λt S=>by
  have:=eX t S;have:=(E.row t S).lt;omega
 have u:gD<T/\w.heap.size<=T:=aq;have A:Ext z z:=Ext.refl _;obtain⟨eR,cL,u,aj⟩:=id hD;obtain⟨al,ak⟩:=a9 u;have vd:=aj;refine gc ?_;refine gc ?_;refine aR (.inl F) a_ ?_;intro g7 b4 c Y;have o:=Bx.zero (N:=1) true b4;obtain⟨O,bW⟩ : ∃g,g=z.heap.size:=⟨_,F⟩;rw[<-bW]at o⊢;have g7:w.heap.size<=O:=by have:=l.size;omega
 have g7:z.heap.size<=O:=by have:=A.size;omega
 have z:gD<O:=by have:=hD.lt;omega
 replace hD:=hD.Y c;replace A:=A.trans c;replace vd:=vd.Y c;replace l:=l.trans c;clear b4 Y bW c;refine gc ?_;clear al ak;refine gc ?_;refine aL ag F rfl o (vd) ?_;intro eV o B s Y;replace hD:=hD.kp s B ah;replace A:=B.aK A λb hb=>aq;replace vd:=vd.kp s;replace l:=B.aK l λb hb=>aq;clear B s Y;have M:∀t,t<n->w.heap.size<=D t/\D t≠O:=λt S=>by have:=eQ t S;omega
 have z:T<O:=aq;refine gc ?_;refine aX (λf G=>f 5=.int .i64 (n:Int)/\f 6=.slice (some ⟨T,0,none⟩) n n/\f 7=.pointer (some ⟨O,0,none⟩)/\Ext w G/\bO G T D (λ_=>n) n n true (λ_ _=>N) (λj i=>W i j)/\Bx G O N true ((aQ n W).natAbs:Int)) ?_ ?_
 ·refine aP ?_;refine gc ?_;obtain⟨eR,cL,u,aj⟩:=id hD;obtain⟨al,ak⟩:=a9 u;refine gc ?_;by_cases z:d<0
  ·have hs:d.sign<0:=by rw[Int.sign_eq_neg_one_of_neg z];decide
   refine gc ?_;refine aJ (cE _ _ _ N eV aj.1 aq) ?_;rintro _ z ⟨c,rfl⟩;replace hD:=hD.Y c;replace A:=A.trans c;replace vd:=vd.Y c;replace o:=o.Y c;replace l:=l.trans c;clear c;clear al ak;refine gc ?_;obtain⟨eR,cL,u,aj⟩:=id hD;obtain⟨al,ak⟩:=a9 u;refine gc ?_;refine gc ?_;refine aJ (iZ _ _ _ N z aj.1 aq) ?_;rintro _ u ⟨c,u,u,rfl,u⟩;replace hD:=hD.Y c;replace A:=A.trans c;replace vd:=vd.Y c;replace o:=o.Y c;replace l:=l.trans c;clear c;clear al ak;refine gc ?_;refine gc ?_;refine aL ag F rfl o (u.ev true bd.neg) ?_;intro z o B s Y;replace hD:=hD.kp s B ah;replace A:=B.aK A λb hb=>aq;replace vd:=vd.kp s;replace u:=u.kp s;replace l:=B.aK l λb hb=>aq;clear B s Y;refine gc ?_;refine⟨F,F,F,l,E.Y A,?_⟩;have e:(((aQ n W).natAbs:Nat):Int)=-d:=by rw[<-bB];omega
   rw[e];exact o
  ·have hs:¬d.sign<0:=by
    rcases Int.lt_or_le 0 d with h1|h1
    ·rw[Int.sign_eq_one_of_pos h1];decide
    ·omega
   refine gc ?_;refine aJ (cE _ _ _ N eV aj.1 aq) ?_;rintro _ u ⟨c,rfl⟩;replace hD:=hD.Y c;replace A:=A.trans c;replace vd:=vd.Y c;replace o:=o.Y c;replace l:=l.trans c;clear c;clear al ak;refine gc ?_;refine⟨F,F,F,l,E.Y A,?_⟩;have e:(((aQ n W).natAbs:Nat):Int)=d:=by rw[<-bB];omega
   rw[e];exact o
 clear l E o hD A vd eX gJ eQ;rintro f w1 ⟨L,H,K,l,E,o⟩;rw[ui L,ui H,ui K];clear L H K;have fu:aQ n W≠0:=by rw[<-bB];exact h0
 have fI:=HS.start fu;have J4:Bd N ((aQ n W).natAbs:Int):=by rw[<-bB];unfold Bd at *;omega
 refine gc ?_;refine aX (λf G=>f 5=.int .i64 (n:Int)/\f 6=.slice (some ⟨T,0,none⟩) n n/\f 7=.pointer (some ⟨O,0,none⟩)/\Ext w G/\bO G T D (λ_=>n) n n true (λ_ _=>N) (λj r=>W r j%((aQ n W).natAbs:Int))/\Bx G O N true ((aQ n W).natAbs:Int)) ?_ ?_
 ·refine gc ?_;refine aU (λm f G=>∃j,m=n-j/\j<=n/\f 5=.int .i64 (n:Int)/\f 6=.slice (some ⟨T,0,none⟩) n n/\f 7=.pointer (some ⟨O,0,none⟩)/\f 31=.int .i64 (n:Int)/\f 32=.int .i64 ((j:Nat):Int)/\Ext w G/\bO G T D (λ_=>n) n n true (λ_ _=>N) (qP (λj r=>W r j) j 0 ((aQ n W).natAbs:Int))/\Bx G O N true ((aQ n W).natAbs:Int))
   n ⟨0,F,aE,F,F,F,F,F,l,E.congr (λa b _ _=>⟨aD,by unfold qP;rw[aa aq]⟩),o⟩ ?_
  clear l E o;rintro m f w2 ⟨j,rfl,hj,L,H,K,z,u,l,E,o⟩;rw[ui L,ui H,ui K,ui z,ui u];clear L H K z u;by_cases a5:j<n;rotate_left
  ·obtain rfl:j=n:=aq;refine gc ?_;exact⟨F,F,F,l,E.congr (λa b ha _=>⟨aD,by unfold qP;rw[ae aq]⟩),o⟩
  obtain⟨u0,u1,ax,c6⟩:=id o;obtain⟨k0,k1⟩:=a9 ax;refine gc ?_;refine aJ (kz T n n j 0 N D (λ_=>n) _ _ _ _ w2 E a5 c6.1 aq aq bu aq aq) ?_;rintro _ w3 ⟨rfl,hC,A,bY⟩;have gG:=M j a5;have eo:=hC.aK l λb hb=>aq;have ez:=o.kp A hC aq;rw[ri]at bY;clear k0 k1 ax;refine gc ?_;refine⟨_,?_,j+1,F,aq,F,F,F,F,F,eo,bY,ez⟩;omega
 clear l E o;rintro f w1 ⟨L,H,K,l,E,o⟩;rw[ui L,ui H,ui K];clear L H K;refine gc ?_;refine aX (λf G=>∃D U p m C,f 5=.int .i64 (n:Int)/\f 6=.slice (some ⟨T,0,none⟩) n n/\f 7=.pointer (some ⟨O,0,none⟩)/\Ext w G/\bO G T D U n n true (λ_ _=>N) C/\HS n n W p m C) ?_ ?_
 ·refine gc ?_;refine aU (λq f G=>∃i D U p m C,q=n-i/\i<=n/\f 5=.int .i64 (n:Int)/\f 6=.slice (some ⟨T,0,none⟩) n n/\f 7=.pointer (some ⟨O,0,none⟩)/\f 40=.int .i64 (n:Int)/\f 41=.int .i64 ((i:Nat):Int)/\Ext w G/\bO G T D U n n true (λ_ _=>N) C/\Bx G O N true m/\HS n i W p m C/\∀t,t<n->w.heap.size<=D t/\D t≠O)
   n ⟨0,D,_,_,_,_,F,aE,F,F,F,F,F,l,E,o,fI,M⟩ ?_
  clear l E o fI M;rintro q f w2 ⟨i,D,U,p,m,C,rfl,hi,L,H,K,R,Q,l,E,o,hS,M⟩;rw[ui L,ui H,ui K,ui R,ui Q];clear L H K R Q;by_cases P:i<n;rotate_left
  ·obtain rfl:i=n:=aq;refine gc ?_;exact⟨D,U,p,m,C,F,F,F,l,E,hS⟩
  refine gc ?_;refine aX (λf G=>∃D U C,f 5=.int .i64 (n:Int)/\f 6=.slice (some ⟨T,0,none⟩) n n/\f 7=.pointer (some ⟨O,0,none⟩)/\f 40=.int .i64 (n:Int)/\f 41=.int .i64 (i:Int)/\f 9=.int .i64 (i:Int)/\Ext w G/\bO G T D U n n true (λ_ _=>N) C/\Bx G O N true m/\HS n i W p m C/\(∀t,t<n->w.heap.size<=D t/\D t≠O)/\∀t,i<t->t<n->C t i=0) ?_ ?_
  ·refine gc ?_;refine aU (λq f G=>∃j D U C,q=n-j/\i<j/\j<=n/\f 5=.int .i64 (n:Int)/\f 6=.slice (some ⟨T,0,none⟩) n n/\f 7=.pointer (some ⟨O,0,none⟩)/\f 40=.int .i64 (n:Int)/\f 41=.int .i64 (i:Int)/\f 9=.int .i64 (i:Int)/\f 10=.int .i64 ((j:Nat):Int)/\Ext w G/\bO G T D U n n true (λ_ _=>N) C/\Bx G O N true m/\HS n i W p m C/\(∀t,t<n->w.heap.size<=D t/\D t≠O)/\∀t,i<t->t<j->C t i=0)
    (n-(i+1)) ⟨i+1,D,U,C,F,aq,aq,F,F,F,F,F,F,F,l,E,o,hS,M,λt h1 h2=>absurd h1 aq⟩ ?_
   clear l E o hS M D U C;rintro q f w3 ⟨j,D,U,C,rfl,ej,hj,L,H,K,R,Q,a2,u,l,E,o,hS,M,bX⟩;rw[ui L,ui H,ui K,ui R,ui Q,ui a2,ui u];clear L H K R Q a2 u;refine aP ?_;by_cases a5:j<n;rotate_left
   ·obtain rfl:j=n:=aq;refine gc ?_;exact⟨D,U,C,F,F,F,F,F,F,l,E,o,hS,M,bX⟩
   obtain⟨u0,u1,ax,c6⟩:=id o;obtain⟨k0,k1⟩:=a9 ax;refine gc ?_;refine aJ (zJ T n i j N D U C m _ _ w3 E ej a5 c6.1 hS.pos aq h8 aq (hS.HJ i i P (Nat.le_refl i) P).1 (hS.HJ j i a5 (Nat.le_refl i) P).1 λr hr=>⟨hS.zero i r P hr hr,hS.zero j r a5 aq hr⟩) ?_;rintro _ w4 ⟨rfl,hC,A,eB,hg,C',u,h4,dA⟩;have gX:=hC.aK l λb hb=>aq;have h5:=o.kp A hC aq;have gC:=o.lt;have eN:=l.size;have h6:∀t,t<n->w.heap.size<=eB t/\eB t≠O:=λt S=>by
    rcases u t S with e|e
    ·rw[e];exact M t S
    ·omega
   clear k0 k1 ax;refine gc ?_;refine⟨_,?_,j+1,eB,hg,C',F,aq,aq,F,F,F,F,F,F,F,gX,h4,h5,?_,h6,?_⟩
   ·omega
   ·rcases dA with⟨_,rfl⟩|⟨a,b,x,y,g,_,fs,ex,ey,eg,rfl⟩
    ·exact hS
    ·refine hS.clear ej a5 ?_;refine Int.eq_of_mul_eq_mul_left (a:=g) aq ?_;rw[ex,ey]at eg;grind
   ·intro t h1 h2;rcases dA with⟨h3,rfl⟩|⟨a,b,x,y,g,gy,fs,ex,ey,eg,rfl⟩
    ·by_cases e:t=j
     ·rw[e];exact h3
     ·exact bX t h1 aq
    ·by_cases e:t=j
     ·rw[e];exact(Go.Hn.EX hS ej a5 ex ey eg gy fs).2
     ·rw[Go.Hn.qb C i a b x y m aq e];exact bX t h1 aq
  clear l E o hS M D U C;rintro f w3 ⟨D,U,C,L,H,K,R,Q,a2,l,E,o,hS,M,bX⟩;rw[ui L,ui H,ui K,ui R,ui Q,ui a2];clear L H K R Q a2;refine gc ?_;have bC:∀a b,a<n->b<n->Bd N (C a b):=λa b ha hb=>by
   obtain⟨x,y,_,_,hv⟩:=(E.row a ha).at hb;exact hv.1.bd
  have bm:Bd N m:=by obtain⟨_,_,_,h⟩:=o;exact h.1.bd
  have u:=hS.pos;have gw:=hS.HJ i i P (Nat.le_refl i) P;have l:Ext w w3:=l;have A:Ext w3 w3:=Ext.refl _;have gC:=o.lt;have eN:=l.size;have bM:∀t,t<n->D t<w3.heap.size:=λt S=>(E.row t S).lt;have gF:=E.lt;refine gc ?_;refine iq [(0,3),(1,3),(2,3),(3,0),(4,3),(5,3),(6,0),(7,0)] [(8,[(9,3),(10,3),(11,3),(12,3)],[]),(13,[],[]),(14,[],[]),(15,[],[])] [(16,2),(17,2),(18,2)] mixed aw λe7 c _=>?_;replace o:=o.Y c;replace A:=A.trans c;replace l:=l.trans c;clear c;have ef:=(E.Y A).at P;obtain⟨x0,y0,cb,ca,I⟩:=((E.Y A).row i P).at P;obtain⟨gd,ga,cf,cd⟩:=id o;obtain⟨cq,ck⟩:=a9 cf;have vU:=cd;refine gc ?_;clear ef cb ca cq ck;refine gc ?_;refine dT [(8,[(9,3),(10,3),(11,3),(12,3)])] [fA 13 11 35 (.agg #[.bool false,.slice none 0 0]),fA 14 12 35 (.agg #[.bool false,.slice none 0 0]),fA 15 13 35 (.agg #[.bool false,.slice none 0 0])] [65,56,66,67,68,11,12,13] aw (λa ha f' G _ _=>by
   rcases List.mem_cons.1 ha with rfl|ha
   ·exact b_ a_ F f' G
   ·skip;rcases List.mem_cons.1 ha with rfl|ha
    ·exact b_ a_ F f' G
    ·skip;rcases List.mem_singleton.1 ha with rfl;exact b_ a_ F f' G) ?_
  have an:=A.size;have au:=o.lt;have cc:=l.size;refine gc ?_;refine cT λu c=>?_;replace o:=o.Y c;replace A:=A.trans c;replace I:=I.Y c;replace vU:=vU.Y c;replace l:=l.trans c;clear c;refine gc ?_;refine aM (rH _ _ _ _ _ _ N true u I vU aq gw.1 aq) ?_;rintro _ u ⟨c,c0,c1,c2,u,u,u,pv,a,b,rfl,vg,va,vb,eg,eD,ba,bb⟩;refine⟨c,?_⟩;replace o:=o.Y c;replace A:=A.trans c;replace I:=I.Y c;replace vU:=vU.Y c;replace l:=l.trans c;clear c;refine gc ?_;refine fM λu c V av a7=>?_;replace o:=o.Y c;replace A:=A.trans c;replace I:=I.Y c;replace vU:=vU.Y c;replace vg:=vg.Y c;replace va:=va.Y c;replace vb:=vb.Y c;replace l:=l.trans c;clear c;obtain⟨bj,dI⟩:=av _ aG;have bj:e7.heap.size<=V 11:=bj;have J:Bx u (V 11) 1 true 0:=Bx.zero true dI;obtain⟨bt,dS⟩:=av _ (List.mem_cons_of_mem _ aG);have bt:e7.heap.size<=V 12:=bt;have hA:Bx u (V 12) 1 true 0:=Bx.zero true dS;have z:V 12≠V 11:=a7 _ _ (List.mem_cons_of_mem _ aG) aG (show(12:Nat)≠11 by decide);obtain⟨bl,dR⟩:=av _ (List.mem_cons_of_mem _ (List.mem_cons_of_mem _ aG));have bl:e7.heap.size<=V 13:=bl;have hB:Bx u (V 13) 1 true 0:=Bx.zero true dR;have u:V 13≠V 11:=a7 _ _ (List.mem_cons_of_mem _ (List.mem_cons_of_mem _ aG)) aG (show(13:Nat)≠11 by decide);have u:V 13≠V 12:=a7 _ _ (List.mem_cons_of_mem _ (List.mem_cons_of_mem _ aG)) (List.mem_cons_of_mem _ aG) (show(13:Nat)≠12 by decide);show Ro _ _ _ _ _ _ (bS (bS (bS _ 13 (.pointer (some ⟨V 13,0,none⟩))) 12 (.pointer (some ⟨V 12,0,none⟩))) 11 (.pointer (some ⟨V 11,0,none⟩))) _;generalize V 11=gP at*;generalize V 12=gA at*;generalize V 13=gB at*;have u:w.heap.size<=gP:=aq;have u:gP≠O:=aq;have u:w3.heap.size<=gP:=aq;have u:w.heap.size<=gA:=aq;have u:gA≠O:=aq;have u:w3.heap.size<=gA:=aq;have u:w.heap.size<=gB:=aq;have u:gB≠O:=aq;have u:w3.heap.size<=gB:=aq;clear an;clear av a7 cc dI bj dS bt dR bl au;refine gc ?_;refine aL ag F rfl J (vg) ?_;intro u J B s Y;replace o:=o.kp s B ah;replace A:=B.aK A λb hb=>aq;replace I:=I.kp s;replace vU:=vU.kp s;replace vg:=vg.kp s;replace va:=va.kp s;replace vb:=vb.kp s;replace hA:=hA.kp s B ah;replace hB:=hB.kp s B ah;replace l:=B.aK l λb hb=>aq;clear B s Y;refine gc ?_;refine aL ag F rfl hA (va.ev true ba) ?_;intro u hA B s Y;replace o:=o.kp s B ah;replace A:=B.aK A λb hb=>aq;replace I:=I.kp s;replace vU:=vU.kp s;replace vg:=vg.kp s;replace va:=va.kp s;replace vb:=vb.kp s;replace J:=J.kp s B ah;replace hB:=hB.kp s B ah;replace l:=B.aK l λb hb=>aq;clear B s Y;refine gc ?_;refine aL ag F rfl hB (vb.ev true bb) ?_;intro eL hB B s Y;replace o:=o.kp s B ah;replace A:=B.aK A λb hb=>aq;replace I:=I.kp s;replace vU:=vU.kp s;replace vg:=vg.kp s;replace va:=va.kp s;replace vb:=vb.kp s;replace J:=J.kp s B ah;replace hA:=hA.kp s B ah;replace l:=B.aK l λb hb=>aq;clear B s Y;clear I vU vg va vb;have gN:pv∣C i i:=by rw[eD];exact Int.gcd_dvd_left ..
  have ek:pv∣m:=by rw[eD];exact Int.gcd_dvd_right ..
  have gx:0<pv:=by
   have h1:0<=pv:=by rw[eD];exact Int.natCast_nonneg _
   rcases Int.lt_or_le 0 pv with h|h
   ·exact h
   ·have h2:pv=0:=aq;rw[h2]at ek;have:=Int.zero_dvd.1 ek;omega
  obtain⟨m',eW⟩:=ek;refine gc ?_;obtain⟨u,u,u,z⟩:=id hA;obtain⟨ak,aj⟩:=a9 u;have u:=z.1;refine gc ?_;refine fp ij ?_;have c9:=((E.Y A).congr (bn':=λ_ _=>N+1) λ_ _ _ _=>⟨aq,F⟩).read aq aq;have z:=(CV.zero eL).iv (Bd.zero (N+1));have al:∀r,r<n->Bd (N+N+3) (a*C i r+0*C i r):=λr hr=>by
   rw[Int.zero_mul,Int.add_zero];exact(ba.mul (bC i r P hr)).mono aq
  refine gc ?_;have g8:=A.size;have gE:=J.lt;refine gc ?_;refine aJ (iK _ n n i i (N+1) (N+N+3) C a 0 _ _ _ _ eL c9 P P u z aq aq aq al) ?_;rintro _ al ⟨c,gI,rfl,gK,dx⟩;replace o:=o.Y c;replace A:=A.trans c;replace J:=J.Y c;replace hA:=hA.Y c;replace hB:=hB.Y c;replace u:=u.Y c;replace l:=l.trans c;clear c;clear c9 ak aj z;refine gc ?_;have a6:=(E.Y A).congr (bn':=λ_ _=>N+N+3) λ_ _ _ _=>⟨aq,F⟩;have hO:=a6.outer;refine cH (aW F) (.inl F) F rfl hO (by rw[bk];omega) ?_;intro wA bx Z dd;rw[cC,ju]at bx;have a4:=cK hO a6.j7.jn Z;have a3:=a6.set P ((dx.rg (Nat.le_refl n) aq).kp a4 Z aq) Z a4 bx aq (λt S=>by have:=bM t S;omega);have ab:=Z.aK l λb hb=>aq;have ai:=o.kp a4 Z aq;have ay:=J.kp a4 Z aq;have z:w.heap.size<=gI/\gP<gI/\O<gI:=aq;clear E a6 hO bx Z dd a4 l o J hA hB dx A u;obtain⟨dy,eC⟩ : ∃g,g=eF D i gI:=⟨_,F⟩;obtain⟨hf,g4⟩ : ∃g,g=eF U i n:=⟨_,F⟩;rw[<-eC,<-g4]at a3;have bD:∀t,t<n->w.heap.size<=dy t/\dy t≠O/\dy t≠gP:=λt S=>by
   rw[eC];by_cases e:t=i
   ·subst e;rw[cJ];omega
   ·rw[bZ _ _ e];have:=M t S;have:=bM t S;omega
  have u:gP≠T/\w.heap.size<=gP/\gP≠O:=aq;clear M bM eC g4;refine gc ?_;have l:Ext w wA:=ab;refine gc ?_;refine b7 [(0,3),(1,3),(2,3),(3,0),(4,3),(5,0),(6,3),(7,2)] mixed aw λu c _=>?_;replace ai:=ai.Y c;replace ay:=ay.Y c;replace a3:=a3.Y c;replace l:=l.trans c;clear c;have ef:=a3.at P;obtain⟨u,u,z,u⟩:=id ay;obtain⟨eU,eS⟩:=a9 z;have vP:=u;refine gc ?_;refine eJ (.inl F) F rfl (a3.row i P) P (vP.mono (show N<=N+N+3 by omega)) ?_;intro u hR B s Y;have gH:=bD i P;have fv:=(a3.put P hR B s).congr (bn':=λ_ _=>4*N+9) (M':=jP C i 0 a pv) (λt r _ _=>⟨by
   simp only[dM];split<;>omega,by
   unfold jP jQ;simp only[dM];by_cases e:t=i
   ·subst e;rw[ae F,cJ];by_cases e2:r=t
    ·rw[ae ⟨F,e2⟩,ae e2]
    ·rw[aa λh=>e2 h.2,aa e2,Int.zero_mul,Int.add_zero]
   ·rw[aa λh=>e h.1,aa e,aa aq,bZ _ _ e]⟩)
  have u:=B.aK l λb hb=>aq;have ds:=ai.kp s B aq;have z:=ay.kp s B aq;clear a3 l ab ai ay hR B s Y ef eU eS vP;refine gc ?_;refine aX (λf G=>∃D U,f 5=.int .i64 (n:Int)/\f 6=.slice (some ⟨T,0,none⟩) n n/\f 7=.pointer (some ⟨O,0,none⟩)/\f 40=.int .i64 (n:Int)/\f 41=.int .i64 (i:Int)/\f 9=.int .i64 (i:Int)/\f 11=.pointer (some ⟨gP,0,none⟩)/\Ext w G/\bO G T D U n n true (λ_ _=>4*N+9) (jP C i i a pv)/\Bx G O N true m/\Bx G gP N true pv/\∀t,t<n->w.heap.size<=D t/\D t≠O/\D t≠gP) ?_ ?_
  ·refine gc ?_;refine aU (λq f G=>∃k D U,q=i-k/\k<=i/\f 5=.int .i64 (n:Int)/\f 6=.slice (some ⟨T,0,none⟩) n n/\f 7=.pointer (some ⟨O,0,none⟩)/\f 40=.int .i64 (n:Int)/\f 41=.int .i64 (i:Int)/\f 9=.int .i64 (i:Int)/\f 11=.pointer (some ⟨gP,0,none⟩)/\f 85=.int .i64 (i:Int)/\f 86=.int .i64 ((k:Nat):Int)/\Ext w G/\bO G T D U n n true (λ_ _=>4*N+9) (jP C i k a pv)/\Bx G O N true m/\Bx G gP N true pv/\∀t,t<n->w.heap.size<=D t/\D t≠O/\D t≠gP)
    i ⟨0,dy,hf,F,aE,F,F,F,F,F,F,F,F,F,u,fv,ds,z,bD⟩ ?_
   clear u fv ds z bD gH;rintro q f w4 ⟨k,D,U,rfl,hk,L,H,K,R,Q,a2,b0,z,u,l,E,o,J,M⟩;rw[ui L,ui H,ui K,ui R,ui Q,ui a2,ui b0,ui z,ui u];clear L H K R Q a2 b0 z u;by_cases u:k<i;rotate_left
   ·obtain rfl:k=i:=aq;refine gc ?_;exact⟨D,U,F,F,F,F,F,F,F,l,E,o,J,M⟩
   have z:(jP C i k a pv) k i=C k i:=by unfold jP;rw[aa aq,aa aq]
   have eG:Bd N (C k i/pv):=(bC k i aq P).ediv;have u:∀x y,x<n->y<n->Bd (4*N+9) (jP C i k a pv x y):=λx y y u=>by
    obtain⟨_,_,_,_,hv⟩:=(E.row x y).at u;exact hv.1.bd
   have bI:∀r,r<n->Bd (N+N+3) (jQ C i a pv r):=λr hr=>by
    unfold jQ;split
    ·obtain⟨_,_,_,h⟩:=J;exact h.1.bd.mono aq
    ·exact(ba.mul (bC i r P hr)).mono aq
   have l:Ext w w4:=l;have A:Ext w4 w4:=Ext.refl _;have bM:∀t,t<n->D t<w4.heap.size:=λt S=>(E.row t S).lt;have gF:=E.lt;refine gc ?_;refine gc ?_;refine iq [(0,3),(1,3),(2,3),(3,0),(4,3),(5,3),(6,0),(7,0)] [(8,[(9,3),(10,3),(11,3),(12,3)],[]),(13,[],[]),(14,[],[])] [(15,2),(16,2),(17,3)] mixed aw λeH c _=>?_;replace o:=o.Y c;replace J:=J.Y c;replace A:=A.trans c;replace l:=l.trans c;clear c;have u:=(E.Y A).at (show k<n by omega);obtain⟨x0,y0,cb,ca,I⟩:=((E.Y A).row k aq).at P;rw[z]at I;replace I:=I.1;obtain⟨gk,gf,cx,cv⟩:=id J;obtain⟨cA,cy⟩:=a9 cx;have vP:=cv.1;refine gc ?_;clear u cb ca cA cy;refine gc ?_;refine dT [(8,[(9,3),(10,3),(11,3),(12,3)])] [fA 13 15 35 (.agg #[.bool false,.slice none 0 0]),fA 14 16 35 (.agg #[.bool false,.slice none 0 0])] [98,89,99,100,101,15,16] aw (λa ha f' G _ _=>by
    rcases List.mem_cons.1 ha with rfl|ha
    ·exact b_ a_ F f' G
    ·skip;rcases List.mem_singleton.1 ha with rfl;exact b_ a_ F f' G) ?_
   have an:=A.size;have au:=o.lt;have e6:=J.lt;have cc:=l.size;refine gc ?_;refine cT λu c=>?_;replace o:=o.Y c;replace J:=J.Y c;replace A:=A.trans c;replace I:=I.Y c;replace vP:=vP.Y c;replace l:=l.trans c;clear c;refine gc ?_;refine aM (dp _ _ _ _ _ _ (4*N+9) u I (vP.mono aq) aq aq) ?_;rintro _ u ⟨c,d0,d1,d2,d3,rfl,dq,dr⟩;refine⟨c,?_⟩;replace o:=o.Y c;replace J:=J.Y c;replace A:=A.trans c;replace I:=I.Y c;replace vP:=vP.Y c;replace l:=l.trans c;clear c;refine gc ?_;refine fM λu c V av a7=>?_;replace o:=o.Y c;replace J:=J.Y c;replace A:=A.trans c;replace I:=I.Y c;replace vP:=vP.Y c;replace dq:=dq.Y c;replace dr:=dr.Y c;replace l:=l.trans c;clear c;obtain⟨bg,dE⟩:=av _ aG;have bg:eH.heap.size<=V 15:=bg;have hQ:Bx u (V 15) 1 true 0:=Bx.zero true dE;obtain⟨b5,dC⟩:=av _ (List.mem_cons_of_mem _ aG);have b5:eH.heap.size<=V 16:=b5;have hR:Bx u (V 16) 1 true 0:=Bx.zero true dC;have u:V 16≠V 15:=a7 _ _ (List.mem_cons_of_mem _ aG) aG (show(16:Nat)≠15 by decide);show Ro _ _ _ _ _ _ (bS (bS _ 16 (.pointer (some ⟨V 16,0,none⟩))) 15 (.pointer (some ⟨V 15,0,none⟩))) _;generalize V 15=gQ at*;generalize V 16=gR at*;have u:w.heap.size<=gQ:=aq;have u:gQ≠O:=aq;have u:gQ≠gP:=aq;have u:w4.heap.size<=gQ:=aq;have u:w.heap.size<=gR:=aq;have u:gR≠O:=aq;have u:gR≠gP:=aq;have u:w4.heap.size<=gR:=aq;clear an;clear av a7 cc dE bg dC b5 au e6;have u:Bd N (C k i%pv):=by
    obtain⟨_,_,_,h⟩:=J;exact h.1.bd.emod aq
   refine gc ?_;refine aL ag F rfl hQ (dq.ev true eG) ?_;intro x hQ B s Y;replace o:=o.kp s B ah;replace J:=J.kp s B ah;replace A:=B.aK A λb hb=>aq;replace I:=I.kp s;replace vP:=vP.kp s;replace dq:=dq.kp s;replace dr:=dr.kp s;replace hR:=hR.kp s B ah;replace l:=B.aK l λb hb=>aq;clear B s Y;refine gc ?_;refine gc ?_;refine aL ag F rfl hR (dr.ev true u) ?_;intro u hR B s Y;replace o:=o.kp s B ah;replace J:=J.kp s B ah;replace A:=B.aK A λb hb=>aq;replace I:=I.kp s;replace vP:=vP.kp s;replace dq:=dq.kp s;replace dr:=dr.kp s;replace hQ:=hQ.kp s B ah;replace l:=B.aK l λb hb=>aq;clear B s Y;clear I vP dq dr;refine gc ?_;refine gc ?_;refine c8 [(0,3),(1,3),(2,3),(3,3),(5,3),(6,0),(4,1),(7,1),(8,1),(9,3),(10,2)] mixed aw λu c _=>?_;replace o:=o.Y c;replace J:=J.Y c;replace A:=A.trans c;replace hQ:=hQ.Y c;replace hR:=hR.Y c;replace l:=l.trans c;clear c;obtain⟨s,s,s,x⟩:=id hQ;obtain⟨B,z⟩:=a9 s;have s:=x.1;refine gc ?_;refine gc ?_;refine aM (fb 1 u ar ar) ?_;rintro _ x ⟨c,u,e1,rfl,u⟩;refine⟨c,?_⟩;replace o:=o.Y c;replace J:=J.Y c;replace A:=A.trans c;replace hQ:=hQ.Y c;replace hR:=hR.Y c;replace s:=s.Y c;replace l:=l.trans c;clear c;refine gc ?_;refine gc ?_;refine aM (iZ _ _ _ N x s aq) ?_;rintro _ y ⟨c,e2,e3,rfl,x⟩;refine⟨c,?_⟩;replace o:=o.Y c;replace J:=J.Y c;replace A:=A.trans c;replace hQ:=hQ.Y c;replace hR:=hR.Y c;replace s:=s.Y c;replace u:=u.Y c;replace l:=l.trans c;clear c;clear B z;refine gc ?_;have B:Bd (4*N+9) 1:=Bd.mono (N:=1) (by unfold Bd;decide) aq;have c9:=(E.Y A).read aq aq;have z:∀r,r<n->Bd (4*N+9) (1*jP C i k a pv k r+-(C k i/pv)*jP C i k a pv i r):=λr hr=>by
    have e1:jP C i k a pv k r=C k r:=by unfold jP;rw[aa aq,aa aq]
    have e2:jP C i k a pv i r=jQ C i a pv r:=by unfold jP;rw[ae F]
    rw[e1,e2,Int.one_mul];exact((((bC k r aq hr).mono (show N<=N+(N+N+3) by omega)).add (eG.neg.mul (bI r hr))).mono aq)
   have g8:=A.size;have gE:=J.lt;refine gc ?_;refine aM (iK _ n n k i (4*N+9) (4*N+9) (jP C i k a pv) 1 (-(C k i/pv)) _ _ _ _ y c9 aq P (u.iv B) ((x.iv eG.neg).mono aq) aq aq aq z) ?_;rintro _ y ⟨c,gI,rfl,gK,dx⟩;refine⟨c,?_⟩;replace o:=o.Y c;replace J:=J.Y c;replace A:=A.trans c;replace hQ:=hQ.Y c;replace hR:=hR.Y c;replace s:=s.Y c;replace u:=u.Y c;replace x:=x.Y c;replace l:=l.trans c;clear c;clear c9;refine gc ?_;have a6:=E.Y A;have hO:=a6.outer;refine cH (aW F) (.inl F) F rfl hO (by rw[bk];omega) ?_;intro wA bx Z dd;rw[cC,ju]at bx;have a4:=cK hO a6.j7.jn Z;have a3:=(a6.set (show k<n by omega) ((dx.rg (Nat.le_refl n) aq).kp a4 Z aq) Z a4 bx aq (λt S=>by have:=bM t S;omega)).congr (bn':=λ_ _=>4*N+9) (M':=jP C i (k+1) a pv) (λt r _ _=>⟨aD,by
    by_cases e:t=k
    ·subst e;rw[cJ];unfold jP;rw[aa aq,ae F,aa aq,aa aq,ae aq,Int.one_mul]
    ·rw[bZ _ _ e];unfold jP;by_cases e2:t=i
     ·rw[ae e2,ae e2]
     ·rw[aa e2,aa e2];congr 1;exact propext aq⟩)
   have ab:=Z.aK l λb hb=>aq;have ai:=o.kp a4 Z aq;have ay:=J.kp a4 Z aq;have ds:∀t,t<n->w.heap.size<=eF D k gI t/\eF D k gI t≠O/\eF D k gI t≠gP:=λt S=>by
    by_cases e:t=k
    ·subst e;rw[cJ];omega
    ·rw[bZ _ _ e];have:=M t S;omega
   refine gc ?_;refine⟨_,?_,k+1,_,_,F,aq,F,F,F,F,F,F,F,F,F,ab,a3,ai,ay,ds⟩;omega
  rintro f w4 ⟨D,U,L,H,K,R,Q,a2,b0,l,E,o,J,M⟩;rw[ui L,ui H,ui K,ui R,ui Q,ui a2,ui b0];clear L H K R Q a2 b0;have l:Ext w w4:=l;have A:Ext w4 w4:=Ext.refl _;refine gc ?_;obtain⟨gd,ga,cf,cd⟩:=id o;obtain⟨cq,ck⟩:=a9 cf;obtain⟨gk,gf,cx,cv⟩:=id J;obtain⟨cA,cy⟩:=a9 cx;have vU:=cd.1;have vP:=cv.1;refine gc ?_;refine gc ?_;refine aJ (dp _ _ _ _ _ _ N w4 vU vP aq aq) ?_;rintro _ s ⟨c,d0,d1,d2,d3,rfl,dq,dr⟩;replace o:=o.Y c;replace J:=J.Y c;replace A:=A.trans c;replace vU:=vU.Y c;replace vP:=vP.Y c;replace l:=l.trans c;clear c;clear cq ck cA cy;refine gc ?_;have c:m/pv=m':=by rw[eW];exact Int.mul_ediv_cancel_left m' aq
  have g6:Bd N m':=by rw[<-c];exact bm.ediv
  rw[c]at dq;have a6:=E.Y A;refine aL (.inl F) F rfl o (dq.ev true g6) ?_;intro wA ai Z a4 dd;have a3:=a6.kp a4 Z aq λt S=>(M t S).2.1;have ab:=Z.aK l λb hb=>aq;have g5:Bd N pv:=by obtain⟨_,_,_,h⟩:=J;exact h.1.bd
  have eA:=hS.next P bX (b:=b) eg.symm gN eW gx
  clear l E a6 o J A vU vP dq dr Z a4 dd;refine gc ?_;refine aU (λq f G=>∃j,q=n-j/\j<=n/\f 5=.int .i64 (n:Int)/\f 6=.slice (some ⟨T,0,none⟩) n n/\f 7=.pointer (some ⟨O,0,none⟩)/\f 40=.int .i64 (n:Int)/\f 41=.int .i64 (i:Int)/\f 9=.int .i64 (i:Int)/\f 120=.int .i64 (n:Int)/\f 121=.int .i64 ((j:Nat):Int)/\Ext w G/\bO G T D U n n true (λ_ _=>4*N+9) (qP (jP C i i a pv) j (i+1) m')/\Bx G O N true m')
   n ⟨0,F,aE,F,F,F,F,F,F,F,F,ab,a3.congr (λa b _ _=>⟨aD,by unfold qP;rw[aa aq]⟩),ai⟩ ?_
  clear ab a3 ai;rintro q f w5 ⟨j,rfl,hj,L,H,K,R,Q,a2,s,c,l,E,o⟩;rw[ui L,ui H,ui K,ui R,ui Q,ui a2,ui s,ui c];clear L H K R Q a2 s c;by_cases a5:j<n;rotate_left
  ·obtain rfl:j=n:=aq;refine gc ?_;have fO:∀r,r<i->jQ C i a pv r=0:=λr hr=>by unfold jQ;rw[aa aq,hS.zero i r P hr hr,Int.mul_zero]
   have gv:∀t r,t<j->qP (jP C i i a pv) j (i+1) m' t r=fin C i a pv m' t r:=λt r S=>by
    have e:jP C i i a pv t r=nk C i a pv t r:=by
     unfold jP nk;by_cases e1:t=i
     ·rw[ae e1,ae e1]
     ·rw[aa e1,aa e1];congr 1;exact propext aq
    unfold qP fin;rw[e];by_cases e2:i<r
    ·rw[ae ⟨S,e2⟩,ae e2]
    ·rw[aa aq,aa e2]
   have gq:∀t r,t<j->r<j->Bd N (fin C i a pv m' t r):=λt r S hr=>by
    by_cases e2:i<r
    ·rw[Go.Hn.sR C a pv m' t e2];exact g6.emod (by have:=eA.pos;omega)
    ·rw[Go.Hn.pU C a pv m' t aq];by_cases e1:t=i
     ·subst e1;rw[Go.Hn.sS];by_cases e3:r=t
      ·unfold jQ;rw[ae e3];exact g5
      ·rw[fO r aq];exact Bd.zero N
     ·by_cases c:t<i
      ·rw[Go.Hn.nj C a pv r c];by_cases e3:r=i
       ·subst e3;have c:C t r+-(C t r/pv)*jQ C r a pv r=C t r%pv:=by
         unfold jQ;rw[ae F,Int.emod_def];grind
        rw[c];exact g5.emod aq
       ·rw[fO r aq,Int.mul_zero,Int.add_zero];exact bC t r S hr
      ·rw[Go.Hn.oY C a pv r aq];exact bC t r S hr
   refine⟨_,?_,i+1,D,U,_,m',_,F,P,F,F,F,F,F,l,(E.congr λt r S _=>⟨aD,gv t r S⟩).tight gq,o,eA,λt S=>⟨(M t S).1,(M t S).2.1⟩⟩;omega
  obtain⟨u0,u1,ax,c6⟩:=id o;obtain⟨k0,k1⟩:=a9 ax;refine gc ?_;refine aJ (kz T n n j (i+1) (4*N+9) D U _ _ _ _ w5 E a5 (c6.1.mono aq) (by have:=eA.pos;omega) aq bu aq aq) ?_;rintro _ c ⟨rfl,hC,A,bY⟩;have gG:=M j a5;have eo:=hC.aK l λb hb=>aq;have ez:=o.kp A hC aq;rw[ri]at bY;clear k0 k1 ax;refine gc ?_;refine⟨_,?_,j+1,F,aq,F,F,F,F,F,F,F,F,eo,bY,ez⟩;omega
 clear l E o;rintro f w1 ⟨D,U,p,m,C,L,H,K,l,E,hS⟩;rw[ui L,ui H,ui K];clear L H K;obtain⟨h9,X,gW,gV⟩:=hS.done fu;refine gc ?_;refine cF iP (.inl F) F rfl aD aq aq ?_;intro w2 c m p;obtain⟨gL,o⟩ : ∃g,g=w1.heap.size:=⟨_,F⟩;rw[<-o]at c⊢;have hL:bh w2 gL 3 (arr n λk=>.int .i64 (if k<0 then((k:Nat):Int)else 0)):=by
  rw[il,Nat.mul_one]at c;have e:arr n (λk=>(Value.int IntKind.i64 0).cells[k%(Value.int IntKind.i64 0).cells.size]!)=arr n λk=>.int .i64 (if k<0 then((k:Nat):Int)else 0):=du λk _=>by simp[Value.cells,Nat.mod_one]
  rw[<-e];exact c
 have g:w.heap.size<=gL:=by have:=l.size;omega
 have er:=l.trans m;have et:=E.Y m;have g9:∀t,t<n->D t≠gL:=λt S=>by have:=(E.row t S).lt;omega
 have h7:T≠gL:=by have:=E.lt;omega
 clear l E c m p o;refine gc ?_;refine aX (λf G=>f 6=.slice (some ⟨T,0,none⟩) n n/\f 19=.slice (some ⟨gL,0,none⟩) n n/\Ext w G/\bO G T D U n n true (λ_ _=>N) C/\bh G gL 3 (arr n λk=>.int .i64 ((k:Nat):Int))) ?_ ?_
 ·refine gc ?_;refine aU (λq f G=>∃j,q=n-j/\j<=n/\f 6=.slice (some ⟨T,0,none⟩) n n/\f 19=.slice (some ⟨gL,0,none⟩) n n/\f 135=.int .i64 (n:Int)/\f 136=.int .i64 ((j:Nat):Int)/\Ext w G/\bO G T D U n n true (λ_ _=>N) C/\bh G gL 3 (arr n λk=>.int .i64 (if k<j then((k:Nat):Int)else 0)))
   n ⟨0,F,aE,F,F,F,F,er,et,hL⟩ ?_
  clear er et hL;rintro q f w3 ⟨j,rfl,hj,H,aH,g,c,l,E,hL⟩;rw[ui H,ui aH,ui g,ui c];clear H aH g c;by_cases a5:j<n;rotate_left
  ·obtain rfl:j=n:=aq;refine gc ?_;refine⟨F,F,l,E,?_⟩;rw[du (h':=λk=>.int .i64 ((k:Nat):Int)) (λk hk=>by rw[ae hk])]at hL;exact hL
  refine gc ?_;refine cg (aW F) (.inl F) F rfl hL (by rw[bk];omega) ?_;intro w5 g c m;rw[cC,Nat.zero_add,Nat.mul_one]at g;have m:=cK hL (D9 λ_ _=>⟨_,rfl⟩) c;have a3:=E.kp m c h7 g9;have ab:=c.aK l λb hb=>aq;refine gc ?_;refine⟨_,?_,j+1,F,aq,F,F,F,F,ab,a3,?_⟩
  ·omega
  ·rw[du (h':=λk=>.int .i64 (if k<j+1 then((k:Nat):Int)else 0)) λk hk=>?_]at g
   ·exact g
   ·by_cases e:k=j
    ·subst e;rw[bG,ae aq]
    ·rw[bw _ _ e];by_cases h1:k<j
     ·rw[ae h1,ae aq]
     ·rw[aa h1,aa aq]
 clear er et hL;rintro f w3 ⟨H,aH,l,E,hL⟩;rw[ui H,ui aH];clear H aH;refine gc ?_;have c:kq w3 (.slice (some ⟨gL,0,none⟩) n n) n (λk=>k):=⟨_,_,F,aD,aq,λk hk=>⟨_,rfl,by rw[add_lit,hL.cell,b8 aq,Nat.zero_add,Nat.mul_one]⟩⟩;refine aJ (ni _ _ n n n N (λk=>k) C w3 (E.read aq aq) c (λk hk=>hk) bu aq bu aq aq aq) ?_;rintro _ w4 ⟨e,gT,f,rfl,c,c,hT⟩;have eN:=l.size;refine gc ?_;exact cI F rfl ⟨l.trans e,gT,f,_,X,F,aq,λi hi=>by have:=c i hi;omega,hT,h9,gW,λr j hr hj=>gV r j hr hj⟩
end
section
open Go Go.cU Go.cV Go.Proofs
theorem dk.un{w:World}{g c:Nat}{cn:Bool}{bn:Nat->Nat}{M:Nat->Int}(h:dk w g c cn bn M):dk w g c false bn M:=by
 obtain⟨a,d,b⟩:=h;exact⟨a,d,λj a=>⟨(b j a).1,λe=>by cases e⟩⟩
theorem bO.IH{w w':World}{f r c g p b s i:Nat}{k o:Nat->Nat}{cn:Bool}{M:Nat->Nat->Int}{v:Nat->Int}(h:bO w f k o r c cn (λ_ _=>b) M)(x:f_ w' g c p cn (λ_=>s) v)(z:Ch (λb=>b=f) w w')(t:Kp w w')
 (y:bh w' f 27 (arr r λa=>.slice (some ⟨eF k i g a,0,none⟩) c (eF o i p a))) (u:g≠f) (q:∀a,a<r->k a≠g):bO w' f (eF k i g) (eF o i p) r c cn (λa _=>if a=i then s else b) (eF M i v):=by
 refine⟨y,λa d=>?_,λa d=>?_,λa l d m e=>?_⟩
 ·by_cases e:a=i
  ·subst e;rw[cJ,cJ,cJ];exact x.congr λ_ _=>⟨by rw[ae F];exact Nat.le_refl _,F⟩
  ·rw[bZ _ _ e,bZ _ _ e,bZ _ _ e];exact((h.row a d).kp t z (h.ne a d)).congr λ_ _=>⟨by rw[aa e];exact Nat.le_refl _,F⟩
 ·by_cases e:a=i
  ·subst e;rw[cJ];exact u
  ·rw[bZ _ _ e];exact h.ne a d
 ·by_cases n:a=i
  ·by_cases j:l=i
   ·omega
   ·subst n;rw[cJ,bZ _ _ j]at e;exact absurd e.symm (q l m)
  ·by_cases j:l=i
   ·subst j;rw[cJ,bZ _ _ n]at e;exact absurd e (q a d)
   ·rw[bZ _ _ n,bZ _ _ j]at e;exact h.inj a l d m e
theorem sQ(p n m i j N:Nat)(g h:Nat->Nat)(cn:Bool)(C:Nat->Nat->Int)(w:World)(c:bO w p g h n m cn (λ_ _=>N) C)(t:i<n)(s:j<n)(_hn:n<=1048576):
 aT Tryz.prog 110 #[.slice (some ⟨p,0,none⟩) n n,.int .i64 (i:Int),.int .i64 (j:Int)] w λv r=>
  v=.tuple #[]/\Ch (λb=>b=p) w r/\Kp w r/\bO r p (swp i j g) (swp i j h) n m cn (λ_ _=>N) (swp i j C):=by
 refine bF (n:=20) Tryz.func110 F rfl aw aA ?_;have o:Ext w w:=Ext.refl w;refine gc ?_;refine gc ?_;refine c8 [(0,3),(1,3),(2,3),(3,3),(4,3),(5,3),(6,3),(7,0),(8,3),(9,3),(10,3),(11,0),(12,3),(13,2),(14,3),(15,2)] mixed aw λb b _=>?_;replace c:=c.Y b;replace o:=o.trans b;clear b;have b:=c.at t;have b:=c.at s;have p:=c.outer;refine gc ?_;refine cH (aW F) (.inl F) F rfl p (by rw[bk];omega) ?_;intro b b r u;rw[cC]at b;refine gc ?_;refine cH (aW F) (.inl F) F rfl b (by rw[bk];omega) ?_;intro b k b u;rw[cC]at k;have l:=r.trans b;have q:=cK p c.j7.jn l;have e:bS (bS (λa=>Value.slice (some ⟨g a,0,none⟩) m (h a)) (0+i*1) (.slice (some ⟨g j,0,none⟩) m (h j))) (0+j*1) (.slice (some ⟨g i,0,none⟩) m (h i))=λa=>Value.slice (some ⟨swp i j g a,0,none⟩) m (swp i j h a):=by
  funext a;rw[Nat.zero_add,Nat.zero_add,Nat.mul_one,Nat.mul_one];simp only[swp];by_cases f:a=i
  ·rw[ae f,ae f];by_cases d:a=j
   ·subst d;subst f;rw[bG]
   ·rw[bw _ _ d,f,bG]
  ·rw[aa f,aa f];by_cases d:a=j
   ·subst d;rw[bG,ae F,ae F]
   ·rw[bw _ _ d,bw _ _ f,aa d,aa d]
 rw[e]at k;have a:=c.swap t s l q k;refine gc ?_;exact n6 F ⟨F,(o.mono λ_ _ h=>h.elim).trans l,(bN o).trans q,a⟩
def oG(C:Nat->Nat->Int)(i j a:Nat):Nat->Int:=λr=>C i a*C j r+-C j a*C i r
theorem qR(O n m i j l N:Nat)(gs cp:Nat->Nat)(C:Nat->Nat->Int)(z:Int)(xd yd:Value)(w:World)(u:bO w O gs cp n m false (λ_ _=>N) C)(D:i<n)(B:j<n)(q:l<m)(f:IV w N xd yd z)(h0:z≠0)(x:n<=1048576)(hm:m<=1048576)(x:1<=N)(x:N<1048576)
 (R:∀r,r<m->Bd N (oG C i j l r/z)):
 aT Tryz.prog 111 #[.slice (some ⟨O,0,none⟩) n n,.int .i64 (j:Int),.int .i64 (i:Int),.int .i64 (l:Int),.agg #[xd,yd]] w λv M=>
  v=.tuple #[]/\∃g,w.heap.size<=g/\Ch (λb=>b=O) w M/\Kp w M/\bO M O (eF gs j g) (eF cp j m) n m false (λ_ _=>N) (eF C j λr=>oG C i j l r/z):=by
 refine bF (n:=58) Tryz.func111 F rfl aw aA ?_;have x:Bd N z:=f.bd;have bC:∀a b,a<n->b<m->Bd N (C a b):=λa b ha R=>by
  obtain⟨x,y,_,_,A⟩:=(u.row a ha).at R;exact A.1.bd
 have a2:∀a,a<n->gs a<w.heap.size:=λa ha=>(u.row a ha).lt;have x:=u.lt;have d:Ext w w:=Ext.refl w;have p:Ext w w:=Ext.refl _;refine gc ?_;refine aZ (v:=.agg _) (.inl F) F ?_;intro x G c I;have Y:bh x w.heap.size 35 #[xd,yd]:=G;obtain⟨P,Q⟩ : ∃g,g=w.heap.size:=⟨_,F⟩;rw[<-Q]at Y⊢;have y:w.heap.size<=P:=by have:=d.size;omega
 have y:w.heap.size<=P:=by have:=p.size;omega
 replace f:=f.Y c;replace p:=p.trans c;replace d:=d.trans c;clear G I Q c;have o:Bx x P N false z:=⟨xd,yd,Y,f,λh=>by cases h⟩;clear Y f;refine gc ?_;refine gc ?_;refine b7 [(0,3),(1,3),(2,3),(3,3),(4,3),(5,3),(6,3),(7,0),(8,3),(9,3),(10,0),(11,3),(12,3),(13,3),(14,3),(15,0),(16,3),(17,3),(18,0),(19,1),(20,1),(21,3),(22,2)] mixed aw λx c _=>?_;replace p:=p.trans c;replace o:=o.Y c;replace d:=d.trans c;clear c;have ad:=(u.Y p).at D;have J:=(u.Y p).at B;obtain⟨x0,y0,T,S,f⟩:=((u.Y p).row i D).at q;obtain⟨y,y,ab,y,ct⟩:=((u.Y p).row j B).at q;replace f:=f.1;replace ct:=ct.1;refine gc ?_;refine gc ?_;refine aM (iZ _ _ _ N x ct aq) ?_;rintro _ a7 ⟨c,x,x,rfl,Y⟩;refine⟨c,?_⟩;replace p:=p.trans c;replace o:=o.Y c;replace f:=f.Y c;replace ct:=ct.Y c;replace d:=d.trans c;clear c;clear ad J T S ab y;refine gc ?_;have bi:=bC i l D q;have y:=bC j l B q;have q:=(u.Y p).read aq aq;have x:=o.lt;have x:=p.size;have ab:∀r,r<m->Bd (N+N+1) (C i l*C j r+-C j l*C i r):=λr x=>(bi.mul (bC j r B x)).add (y.neg.mul (bC i r D x));refine gc ?_;refine aM (iK _ n m j i N (N+N+1) C (C i l) (-C j l) _ _ _ _ a7 q B D f (Y.iv y.neg) aq aq hm ab) ?_;rintro _ x ⟨c,g,rfl,x,hR⟩;refine⟨c,?_⟩;replace p:=p.trans c;replace o:=o.Y c;replace f:=f.Y c;replace ct:=ct.Y c;replace Y:=Y.Y c;replace d:=d.trans c;clear c;clear q;refine gc ?_;have E:=u.Y p;have D:=E.outer;refine cH (aW F) (.inl F) F rfl D (by rw[bk];omega) ?_;intro wA y q a7;rw[cC,ju]at y;have x:=cK D E.j7.jn q;have K:=bO.IH E (((dk.un hR).rg (Nat.le_refl m) aq).kp x q aq) q x y aq (λt W=>by have:=a2 t W;omega);have a5:Ch (λb=>b=O) w wA:=(d.mono λ_ _ h=>h.elim).trans q;have a3:Kp w wA:=(bN d).trans x;have a4:=o.kp x q aq;have ab:w.heap.size<=g/\P<g:=aq;clear E D y q a7 x d p o hR f ct Y;obtain⟨U,V⟩ : ∃f,f=eF gs j g:=⟨_,F⟩;obtain⟨a6,Z⟩ : ∃f,f=eF cp j m:=⟨_,F⟩;obtain⟨C1,eC⟩ : ∃D:Nat->Nat->Int,D=eF C j λr=>C i l*C j r+-C j l*C i r:=⟨_,F⟩;rw[<-V,<-Z,<-eC]at K;have e1:U j=g:=by rw[V,cJ]
 have e2:a6 j=m:=by rw[Z,cJ]
 have e3:∀r,C1 j r=oG C i j l r:=λr=>by rw[eC,cJ];rfl
 have ai:∀t,t<n->U t≠P:=λt W=>by
  rw[V];by_cases e:t=j
  ·subst e;rw[cJ];omega
  ·rw[bZ _ _ e];have:=a2 t W;omega
 refine gc ?_;have J:=K.at B;rw[e1,e2]at J;refine gc ?_;clear J;refine aU (λq f M=>∃k,q=m-k/\k<=m/\f 0=.slice (some ⟨O,0,none⟩) n n/\f 1=.int .i64 (j:Int)/\f 9=.pointer (some ⟨P,0,none⟩)/\f 37=.slice (some ⟨g,0,none⟩) m m/\f 38=.int .i64 (m:Int)/\f 39=.int .i64 ((k:Nat):Int)/\Ch (λb=>b=O) w M/\Kp w M/\bO M O U a6 n m false (λt r=>if t=j/\k<=r then N+N+1 else N) (λt r=>if t=j/\r<k then oG C i j l r/z else C1 t r)/\Bx M P N false z)
  m ⟨0,F,aE,F,F,F,F,F,F,a5,a3,K.congr (λa b _ _=>⟨by split<;>split<;>omega,by rw[aa aq]⟩),a4⟩ ?_
 clear a5 a3 K a4 u;rintro q f L ⟨k,rfl,f,M,D,y,x,q,f,hC,p,u,o⟩;rw[ui M,ui D,ui y,ui x,ui q,ui f];clear M D y x q f;by_cases X:k<m;rotate_left
 ·obtain rfl:k=m:=aq;refine gc ?_;refine n6 F ⟨F,g,aq,hC,p,?_⟩;rw[<-V,<-Z];exact u.congr (bn':=λ_ _=>N) (M':=eF C j λr=>oG C i j l r/z) (λa b _ aj=>⟨by
   show(if a=j/\k<=b then N+N+1 else N)<=N;rw[aa aq];exact Nat.le_refl _,by
   by_cases e:a=j
   ·subst e;rw[ae ⟨F,aj⟩,cJ]
   ·rw[aa λh=>e h.1,bZ _ _ e,eC,bZ _ _ e]⟩)
 have f:=hC.size;have f:∀t,t<n->U t<L.heap.size:=λt W=>(u.row t W).lt;have d:Ext L L:=Ext.refl L;have s:Ext L L:=Ext.refl _;obtain⟨x0,y0,T,S,A⟩:=(u.row j B).at X;rw[aa (show¬(j=j/\k<k) by omega),ae ⟨F,Nat.le_refl k⟩,e3]at A;rw[e1]at T S;replace A:=A.1;refine gc ?_;refine gc ?_;refine aR (.inl F) a_ ?_;intro f G c I;have H:=Bx.zero (N:=1) true G;obtain⟨l,Q⟩ : ∃g,g=L.heap.size:=⟨_,F⟩;rw[<-Q]at H⊢;have f:L.heap.size<=l:=by have:=d.size;omega
 have f:L.heap.size<=l:=by have:=s.size;omega
 have f:P<l:=by have:=o.lt;omega
 replace o:=o.Y c;replace s:=s.trans c;replace A:=A.Y c;replace d:=d.trans c;clear G I Q c;replace H:=H.un;clear T S;refine gc ?_;refine aL ag F rfl H (⟨A,λe=>by cases e⟩) ?_;intro f H f g I;replace o:=o.kp g f ah;replace s:=f.aK s λb R=>aq;replace A:=A.kp g;replace d:=f.aK d λb R=>aq;clear f g I;refine gc ?_;refine gc ?_;refine c8 [(0,3),(1,3),(2,3),(3,0),(4,3),(5,0),(6,0),(7,1),(8,3),(9,3),(10,3),(11,3),(12,3),(13,2)] mixed aw λG c _=>?_;replace o:=o.Y c;replace s:=s.trans c;replace A:=A.Y c;replace H:=H.Y c;replace d:=d.trans c;clear c;have J:=(u.Y s).at B;obtain⟨l,l,l,q⟩:=id H;obtain⟨t,r⟩:=a9 l;obtain⟨l,l,l,x⟩:=id o;obtain⟨D,y⟩:=a9 l;have l:=q.1;have q:=x.1;refine gc ?_;refine gc ?_;refine aM (dp _ _ _ _ _ _ (N+N+1) G l (q.mono aq) aq h0) ?_;rintro _ x ⟨c,c0,c1,c2,x,rfl,x,G⟩;refine⟨c,?_⟩;replace o:=o.Y c;replace s:=s.trans c;replace A:=A.Y c;replace H:=H.Y c;replace l:=l.Y c;replace q:=q.Y c;replace d:=d.trans c;clear c;clear J t r D y;have E:=u.Y s;refine gc ?_;refine eJ (.inl F) F rfl (E.row j B) X (x.ev false (R k X)) ?_;intro c hR f g I;have K:=E.put B hR f g;have l:=(hC.join (d.mono (M':=λ_=>False) λ_ _ h=>h.elim) λ_ _ h=>h.elim).join f λb R e=>aq;have c:=p.trans ((bN d).trans g);have d:=o.kp g f (by have:=ai j B;omega);refine gc ?_;refine⟨_,?_,k+1,F,aq,F,F,F,F,F,F,l,c,K.congr λa b ha R=>⟨?_,?_⟩,d⟩
 ·omega
 ·simp only[dM];by_cases e:a=j/\b=k
  ·obtain⟨rfl,rfl⟩:=e;rw[ae ⟨F,F⟩,aa aq];exact Nat.le_refl _
  ·rw[aa e];by_cases c:a=j/\k<=b
   ·rw[ae c,ae aq];exact Nat.le_refl _
   ·rw[aa c];split<;>omega
 ·simp only[dM];by_cases e:a=j/\b=k
  ·obtain⟨rfl,rfl⟩:=e;rw[ae ⟨F,F⟩,ae aq]
  ·rw[aa e];congr 1;exact propext aq
