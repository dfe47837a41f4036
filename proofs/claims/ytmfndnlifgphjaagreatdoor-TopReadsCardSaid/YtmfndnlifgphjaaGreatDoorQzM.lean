import Derived.Test.YtmfndnlifgphjaaGreatDoorQzL
set_option maxHeartbeats 64000000
open Go.Proofs.YtmfndnlifgphjaaGreatDoor
namespace Go.Proofs.Qq
section
open Go Go.cW Go.c7 Go.Proofs
open Go.aW (aO tr mul)
open Go.Hn (HS Hf mH fin qa lk)
def Px(w:World)(n N:Nat)(W:Nat->Nat->Int)(v:Value)(w':World):Prop:=
 Ext w w'/\∃a b T X,v=.slice (some ⟨a,0,none⟩) n n/\w.heap.size<=a/\(∀i,i<n->w.heap.size<=b i)/\cF w' a b (λ_=>n) n n true (λ_ _=>N) T/\Hf n T/\(aO n X=1\/aO n X=-1)/\∀r j,r<n->j<n->T r j=mul n W X r j
def uD(C:Nat->Nat->Int)(k first:Nat)(z:Int):Nat->Nat->Int:=λt r=>if t<k/\first<=r then C t r%z else C t r
theorem vm(C:Nat->Nat->Int)(k first:Nat)(z:Int):xc (uD C k first z) k first z=uD C (k+1) first z:=by
 funext t r;unfold xc uD;by_cases b:t=k
 ·subst b;by_cases a:first<=r
  ·rw[ab ⟨F,a⟩,aa aq,ab ⟨aq,a⟩]
  ·rw[aa aq,aa aq,aa aq]
 ·rw[aa λh=>b h.1];congr 1;exact propext aq
def lj(C:Nat->Nat->Int)(i k:Nat)(a b:Int):Nat->Nat->Int:=λt r=>if t=i then lk C i a b r else if t<k/\t<i then C t r+-(C t i/b)*lk C i a b r else C t r
theorem s8(v:Value)(n N:Nat)(W:Nat->Nat->Int)(d:Int)(xd yd:Value)(w:World)(h:cB (EB N true) w v n (λ_=>n) W)(u:EV w N true xd yd d)(bA:d=aO n W)(h0:d≠0)(bt:1<=n)(z:n<=16)(hE:1<=N)(z:N<65536):
 aT Tryz.prog 183 #[v,.agg #[xd,yd]] w (Px w n N W):=by
 obtain⟨ad,eS,z,e,z,z⟩:=h.at (show 0<n by omega);subst e;obtain⟨_,_,e,z,z,z⟩:=id h;cases e;refine bo (n:=147) Tryz.func183 F rfl az aA ?_;have bd:Bd N d:=u.1.bd;have l:Ext w w:=Ext.refl w;refine gc ?_;refine bO (v:=.agg _) (.inl F) F ?_;intro cv b6 c Y;have z:bg cv w.heap.size 44 #[xd,yd]:=b6;obtain⟨gD,bG⟩ : ∃g,g=w.heap.size:=⟨_,F⟩;rw[<-bG]at z⊢;have gq:w.heap.size<=gD:=by have:=l.size;omega
 replace u:=u.Y c;replace l:=l.trans c;clear b6 Y bG c;have hD:Bx cv gD N true d:=⟨xd,yd,z,u⟩;clear z u;refine gc ?_;have hh:cB (EB N true) cv (.slice (some ad) n eS) n (λ_=>n) W:=h.imp (λp u u=>aP l u) λx y z hv=>EV.Y hv l;have u:=hD.lt;refine gc ?_;refine aJ (ql _ n n N true W cv hh bt aq bt aq) ?_;rintro _ z ⟨c,T,D,rfl,h6,fx,E⟩;replace hD:=hD.Y c;replace l:=l.trans c;clear c;clear hh;refine gc ?_;have u:=E.lt;have eR:∀t,t<n->w.heap.size<=D t/\D t<(z).heap.size/\gD<D t:=λt S=>by
  have:=fx t S;have:=(E.row t S).lt;omega
 have u:gD<T/\w.heap.size<=T:=aq;have A:Ext z z:=Ext.refl _;obtain⟨eS,cv,u,an⟩:=id hD;obtain⟨au,ar⟩:=bh u;have vd:=an;refine gc ?_;refine gc ?_;refine aS (.inl F) a_ ?_;intro gq b6 c Y;have o:=Bx.zero (N:=1) true b6;obtain⟨O,bG⟩ : ∃g,g=z.heap.size:=⟨_,F⟩;rw[<-bG]at o⊢;have gq:w.heap.size<=O:=by have:=l.size;omega
 have gq:z.heap.size<=O:=by have:=A.size;omega
 have z:gD<O:=by have:=hD.lt;omega
 replace hD:=hD.Y c;replace A:=A.trans c;replace vd:=vd.Y c;replace l:=l.trans c;clear b6 Y bG c;refine gc ?_;clear au ar;refine gc ?_;refine aL ag F rfl o (vd) ?_;intro eX o B s Y;replace hD:=hD.kp s B ah;replace A:=B.aK A λb hb=>aq;replace vd:=vd.kp s;replace l:=B.aK l λb hb=>aq;clear B s Y;have M:∀t,t<n->w.heap.size<=D t/\D t≠O:=λt S=>by have:=eR t S;omega
 have z:T<O:=aq;refine gc ?_;refine aY (λf G=>f 5=.int .i64 (n:Int)/\f 6=.slice (some ⟨T,0,none⟩) n n/\f 7=.pointer (some ⟨O,0,none⟩)/\Ext w G/\cF G T D (λ_=>n) n n true (λ_ _=>N) (λj i=>W i j)/\Bx G O N true ((aO n W).natAbs:Int)) ?_ ?_
 ·refine aN ?_;refine gc ?_;obtain⟨eS,cv,u,an⟩:=id hD;obtain⟨au,ar⟩:=bh u;refine gc ?_;by_cases z:d<0
  ·have hs:d.sign<0:=by rw[Int.sign_eq_neg_one_of_neg z];decide
   refine gc ?_;refine aJ (dw _ _ _ N eX an.1 aq) ?_;rintro _ z ⟨c,rfl⟩;replace hD:=hD.Y c;replace A:=A.trans c;replace vd:=vd.Y c;replace o:=o.Y c;replace l:=l.trans c;clear c;clear au ar;refine gc ?_;obtain⟨eS,cv,u,an⟩:=id hD;obtain⟨au,ar⟩:=bh u;refine gc ?_;refine gc ?_;refine aJ (j8 _ _ _ N z an.1 aq) ?_;rintro _ u ⟨c,a0,u,rfl,u⟩;replace hD:=hD.Y c;replace A:=A.trans c;replace vd:=vd.Y c;replace o:=o.Y c;replace l:=l.trans c;clear c;clear au ar;refine gc ?_;refine gc ?_;refine aL ag F rfl o (u.ev true bd.neg) ?_;intro z o B s Y;replace hD:=hD.kp s B ah;replace A:=B.aK A λb hb=>aq;replace vd:=vd.kp s;replace u:=u.kp s;replace l:=B.aK l λb hb=>aq;clear B s Y;refine gc ?_;refine⟨F,F,F,l,E.Y A,?_⟩;have e:(((aO n W).natAbs:Nat):Int)=-d:=by rw[<-bA];omega
   rw[e];exact o
  ·have hs:¬d.sign<0:=by
    rcases Int.lt_or_le 0 d with h1|h1
    ·rw[Int.sign_eq_one_of_pos h1];decide
    ·omega
   refine gc ?_;refine aJ (dw _ _ _ N eX an.1 aq) ?_;rintro _ u ⟨c,rfl⟩;replace hD:=hD.Y c;replace A:=A.trans c;replace vd:=vd.Y c;replace o:=o.Y c;replace l:=l.trans c;clear c;clear au ar;refine gc ?_;refine⟨F,F,F,l,E.Y A,?_⟩;have e:(((aO n W).natAbs:Nat):Int)=d:=by rw[<-bA];omega
   rw[e];exact o
 clear l E o hD A vd fx h6 eR;rintro f w1 ⟨L,H,K,l,E,o⟩;rw[ui L,ui H,ui K];clear L H K;have fI:aO n W≠0:=by rw[<-bA];exact h0
 have fR:=HS.start fI;have PU:Bd N ((aO n W).natAbs:Int):=by rw[<-bA];unfold Bd at *;omega
 refine gc ?_;refine aY (λf G=>f 5=.int .i64 (n:Int)/\f 6=.slice (some ⟨T,0,none⟩) n n/\f 7=.pointer (some ⟨O,0,none⟩)/\Ext w G/\cF G T D (λ_=>n) n n true (λ_ _=>N) (λj r=>W r j%((aO n W).natAbs:Int))/\Bx G O N true ((aO n W).natAbs:Int)) ?_ ?_
 ·refine gc ?_;refine aU (λm f G=>∃j,m=n-j/\j<=n/\f 5=.int .i64 (n:Int)/\f 6=.slice (some ⟨T,0,none⟩) n n/\f 7=.pointer (some ⟨O,0,none⟩)/\f 31=.int .i64 (n:Int)/\f 32=.int .i64 ((j:Nat):Int)/\Ext w G/\cF G T D (λ_=>n) n n true (λ_ _=>N) (uD (λj r=>W r j) j 0 ((aO n W).natAbs:Int))/\Bx G O N true ((aO n W).natAbs:Int))
   n ⟨0,F,aE,F,F,F,F,F,l,E.congr (λa b _ _=>⟨aD,by unfold uD;rw[aa aq]⟩),o⟩ ?_
  clear l E o;rintro m f w2 ⟨j,rfl,hj,L,H,K,z,u,l,E,o⟩;rw[ui L,ui H,ui K,ui z,ui u];clear L H K z u;by_cases ae:j<n;rotate_left
  ·obtain rfl:j=n:=aq;refine gc ?_;exact⟨F,F,F,l,E.congr (λa b ha _=>⟨aD,by unfold uD;rw[ab aq]⟩),o⟩
  obtain⟨u0,u1,aH,bW⟩:=id o;obtain⟨k0,k1⟩:=bh aH;refine gc ?_;refine aJ (mB T n n j 0 N D (λ_=>n) _ _ _ _ w2 E ae bW.1 aq aq bt aq aq) ?_;rintro _ w3 ⟨rfl,hC,A,bS⟩;have h4:=M j ae;have eo:=hC.aK l λb hb=>aq;have ew:=o.kp A hC aq;rw[vm]at bS;clear k0 k1 aH;refine gc ?_;refine⟨_,?_,j+1,F,aq,F,F,F,F,F,eo,bS,ew⟩;omega
 clear l E o;rintro f w1 ⟨L,H,K,l,E,o⟩;rw[ui L,ui H,ui K];clear L H K;refine gc ?_;refine aY (λf G=>∃D U p m C,f 5=.int .i64 (n:Int)/\f 6=.slice (some ⟨T,0,none⟩) n n/\f 7=.pointer (some ⟨O,0,none⟩)/\Ext w G/\cF G T D U n n true (λ_ _=>N) C/\HS n n W p m C) ?_ ?_
 ·refine gc ?_;refine aU (λq f G=>∃i D U p m C,q=n-i/\i<=n/\f 5=.int .i64 (n:Int)/\f 6=.slice (some ⟨T,0,none⟩) n n/\f 7=.pointer (some ⟨O,0,none⟩)/\f 40=.int .i64 (n:Int)/\f 41=.int .i64 ((i:Nat):Int)/\Ext w G/\cF G T D U n n true (λ_ _=>N) C/\Bx G O N true m/\HS n i W p m C/\∀t,t<n->w.heap.size<=D t/\D t≠O)
   n ⟨0,D,_,_,_,_,F,aE,F,F,F,F,F,l,E,o,fR,M⟩ ?_
  clear l E o fR M;rintro q f w2 ⟨i,D,U,p,m,C,rfl,hi,L,H,K,R,Q,l,E,o,hS,M⟩;rw[ui L,ui H,ui K,ui R,ui Q];clear L H K R Q;by_cases P:i<n;rotate_left
  ·obtain rfl:i=n:=aq;refine gc ?_;exact⟨D,U,p,m,C,F,F,F,l,E,hS⟩
  refine gc ?_;refine aY (λf G=>∃D U C,f 5=.int .i64 (n:Int)/\f 6=.slice (some ⟨T,0,none⟩) n n/\f 7=.pointer (some ⟨O,0,none⟩)/\f 40=.int .i64 (n:Int)/\f 41=.int .i64 (i:Int)/\f 9=.int .i64 (i:Int)/\Ext w G/\cF G T D U n n true (λ_ _=>N) C/\Bx G O N true m/\HS n i W p m C/\(∀t,t<n->w.heap.size<=D t/\D t≠O)/\∀t,i<t->t<n->C t i=0) ?_ ?_
  ·refine gc ?_;refine aU (λq f G=>∃j D U C,q=n-j/\i<j/\j<=n/\f 5=.int .i64 (n:Int)/\f 6=.slice (some ⟨T,0,none⟩) n n/\f 7=.pointer (some ⟨O,0,none⟩)/\f 40=.int .i64 (n:Int)/\f 41=.int .i64 (i:Int)/\f 9=.int .i64 (i:Int)/\f 10=.int .i64 ((j:Nat):Int)/\Ext w G/\cF G T D U n n true (λ_ _=>N) C/\Bx G O N true m/\HS n i W p m C/\(∀t,t<n->w.heap.size<=D t/\D t≠O)/\∀t,i<t->t<j->C t i=0)
    (n-(i+1)) ⟨i+1,D,U,C,F,aq,aq,F,F,F,F,F,F,F,l,E,o,hS,M,λt h1 h2=>absurd h1 aq⟩ ?_
   clear l E o hS M D U C;rintro q f w3 ⟨j,D,U,C,rfl,ek,hj,L,H,K,R,Q,a6,u,l,E,o,hS,M,bM⟩;rw[ui L,ui H,ui K,ui R,ui Q,ui a6,ui u];clear L H K R Q a6 u;refine aN ?_;by_cases ae:j<n;rotate_left
   ·obtain rfl:j=n:=aq;refine gc ?_;exact⟨D,U,C,F,F,F,F,F,F,l,E,o,hS,M,bM⟩
   obtain⟨u0,u1,aH,bW⟩:=id o;obtain⟨k0,k1⟩:=bh aH;refine gc ?_;refine aJ (Fm T n i j N D U C m _ _ w3 E ek ae bW.1 hS.pos aq hE aq (hS.Me i i P (Nat.le_refl i) P).1 (hS.Me j i ae (Nat.le_refl i) P).1 λr hr=>⟨hS.zero i r P hr hr,hS.zero j r ae aq hr⟩) ?_;rintro _ w4 ⟨rfl,hC,A,eB,hH,C',u,hl,dd⟩;have hg:=hC.aK l λb hb=>aq;have ho:=o.kp A hC aq;have gV:=o.lt;have eL:=l.size;have hq:∀t,t<n->w.heap.size<=eB t/\eB t≠O:=λt S=>by
    rcases u t S with e|e
    ·rw[e];exact M t S
    ·omega
   clear k0 k1 aH;refine gc ?_;refine⟨_,?_,j+1,eB,hH,C',F,aq,aq,F,F,F,F,F,F,F,hg,hl,ho,?_,hq,?_⟩
   ·omega
   ·rcases dd with⟨_,rfl⟩|⟨a,b,x,y,g,_,fC,ex,ey,eg,rfl⟩
    ·exact hS
    ·refine hS.clear ek ae ?_;refine Int.eq_of_mul_eq_mul_left (a:=g) aq ?_;rw[ex,ey]at eg;grind
   ·intro t h1 h2;rcases dd with⟨h3,rfl⟩|⟨a,b,x,y,g,gK,fC,ex,ey,eg,rfl⟩
    ·by_cases e:t=j
     ·rw[e];exact h3
     ·exact bM t h1 aq
    ·by_cases e:t=j
     ·rw[e];exact(Go.Hn.KD hS ek ae ex ey eg gK fC).2
     ·rw[Go.Hn.tw C i a b x y m aq e];exact bM t h1 aq
  clear l E o hS M D U C;rintro f w3 ⟨D,U,C,L,H,K,R,Q,a6,l,E,o,hS,M,bM⟩;rw[ui L,ui H,ui K,ui R,ui Q,ui a6];clear L H K R Q a6;refine gc ?_;have bC:∀a b,a<n->b<n->Bd N (C a b):=λa b ha hb=>by
   obtain⟨x,y,_,_,hv⟩:=(E.row a ha).at hb;exact hv.1.bd
  have bm:Bd N m:=by obtain⟨_,_,_,h⟩:=o;exact h.1.bd
  have u:=hS.pos;have gH:=hS.Me i i P (Nat.le_refl i) P;have l:Ext w w3:=l;have A:Ext w3 w3:=Ext.refl _;have gV:=o.lt;have eL:=l.size;have bD:∀t,t<n->D t<w3.heap.size:=λt S=>(E.row t S).lt;have gX:=E.lt;refine gc ?_;refine ib [(0,3),(1,3),(2,3),(3,0),(4,3),(5,3),(6,0),(7,0)] [(8,[(9,3),(10,3),(11,3),(12,3)],[]),(13,[],[]),(14,[],[]),(15,[],[])] [(16,2),(17,2),(18,2)] mixed az λe9 c _=>?_;replace o:=o.Y c;replace A:=A.trans c;replace l:=l.trans c;clear c;have ej:=(E.Y A).at P;obtain⟨x0,y0,c6,bY,I⟩:=((E.Y A).row i P).at P;obtain⟨gx,gw,cb,ca⟩:=id o;obtain⟨cd,cc⟩:=bh cb;have vU:=ca;refine gc ?_;clear ej c6 bY cd cc;refine gc ?_;refine dN [(8,[(9,3),(10,3),(11,3),(12,3)])] [fA 13 11 44 (.agg #[.bool false,.slice none 0 0]),fA 14 12 44 (.agg #[.bool false,.slice none 0 0]),fA 15 13 44 (.agg #[.bool false,.slice none 0 0])] [65,56,66,67,68,11,12,13] az (λa ha f' G _ _=>by
   rcases List.mem_cons.1 ha with rfl|ha
   ·exact cm a_ F f' G
   ·skip;rcases List.mem_cons.1 ha with rfl|ha
    ·exact cm a_ F f' G
    ·skip;rcases List.mem_singleton.1 ha with rfl;exact cm a_ F f' G) ?_
  have av:=A.size;have ax:=o.lt;have c9:=l.size;refine gc ?_;refine cS λu c=>?_;replace o:=o.Y c;replace A:=A.trans c;replace I:=I.Y c;replace vU:=vU.Y c;replace l:=l.trans c;clear c;refine gc ?_;refine aM (vN _ _ _ _ _ _ N true u I vU aq gH.1 aq) ?_;rintro _ u ⟨c,c0,c1,c2,c3,u,u,pv,a,b,rfl,vg,va,vb,eg,eD,ba,bb⟩;refine⟨c,?_⟩;replace o:=o.Y c;replace A:=A.trans c;replace I:=I.Y c;replace vU:=vU.Y c;replace l:=l.trans c;clear c;refine gc ?_;refine eW λu c V ay aj=>?_;replace o:=o.Y c;replace A:=A.trans c;replace I:=I.Y c;replace vU:=vU.Y c;replace vg:=vg.Y c;replace va:=va.Y c;replace vb:=vb.Y c;replace l:=l.trans c;clear c;obtain⟨bc,dy⟩:=ay _ aG;have bc:e9.heap.size<=V 11:=bc;have J:Bx u (V 11) 1 true 0:=Bx.zero true dy;obtain⟨bl,e7⟩:=ay _ (List.mem_cons_of_mem _ aG);have bl:e9.heap.size<=V 12:=bl;have hA:Bx u (V 12) 1 true 0:=Bx.zero true e7;have z:V 12≠V 11:=aj _ _ (List.mem_cons_of_mem _ aG) aG (show(12:Nat)≠11 by decide);obtain⟨bj,e6⟩:=ay _ (List.mem_cons_of_mem _ (List.mem_cons_of_mem _ aG));have bj:e9.heap.size<=V 13:=bj;have hB:Bx u (V 13) 1 true 0:=Bx.zero true e6;have u:V 13≠V 11:=aj _ _ (List.mem_cons_of_mem _ (List.mem_cons_of_mem _ aG)) aG (show(13:Nat)≠11 by decide);have u:V 13≠V 12:=aj _ _ (List.mem_cons_of_mem _ (List.mem_cons_of_mem _ aG)) (List.mem_cons_of_mem _ aG) (show(13:Nat)≠12 by decide);show Ro _ _ _ _ _ _ (cg (cg (cg _ 13 (.pointer (some ⟨V 13,0,none⟩))) 12 (.pointer (some ⟨V 12,0,none⟩))) 11 (.pointer (some ⟨V 11,0,none⟩))) _;generalize V 11=gP at*;generalize V 12=gA at*;generalize V 13=gB at*;have u:w.heap.size<=gP:=aq;have u:gP≠O:=aq;have u:w3.heap.size<=gP:=aq;have u:w.heap.size<=gA:=aq;have u:gA≠O:=aq;have u:w3.heap.size<=gA:=aq;have u:w.heap.size<=gB:=aq;have u:gB≠O:=aq;have u:w3.heap.size<=gB:=aq;clear av;clear ay aj c9 dy bc e7 bl e6 bj ax;refine gc ?_;refine aL ag F rfl J (vg) ?_;intro u J B s Y;replace o:=o.kp s B ah;replace A:=B.aK A λb hb=>aq;replace I:=I.kp s;replace vU:=vU.kp s;replace vg:=vg.kp s;replace va:=va.kp s;replace vb:=vb.kp s;replace hA:=hA.kp s B ah;replace hB:=hB.kp s B ah;replace l:=B.aK l λb hb=>aq;clear B s Y;refine gc ?_;refine aL ag F rfl hA (va.ev true ba) ?_;intro u hA B s Y;replace o:=o.kp s B ah;replace A:=B.aK A λb hb=>aq;replace I:=I.kp s;replace vU:=vU.kp s;replace vg:=vg.kp s;replace va:=va.kp s;replace vb:=vb.kp s;replace J:=J.kp s B ah;replace hB:=hB.kp s B ah;replace l:=B.aK l λb hb=>aq;clear B s Y;refine gc ?_;refine aL ag F rfl hB (vb.ev true bb) ?_;intro eH hB B s Y;replace o:=o.kp s B ah;replace A:=B.aK A λb hb=>aq;replace I:=I.kp s;replace vU:=vU.kp s;replace vg:=vg.kp s;replace va:=va.kp s;replace vb:=vb.kp s;replace J:=J.kp s B ah;replace hA:=hA.kp s B ah;replace l:=B.aK l λb hb=>aq;clear B s Y;clear I vU vg va vb;have h8:pv∣C i i:=by rw[eD];exact Int.gcd_dvd_left ..
  have en:pv∣m:=by rw[eD];exact Int.gcd_dvd_right ..
  have gJ:0<pv:=by
   have h1:0<=pv:=by rw[eD];exact Int.natCast_nonneg _
   rcases Int.lt_or_le 0 pv with h|h
   ·exact h
   ·have h2:pv=0:=aq;rw[h2]at en;have:=Int.zero_dvd.1 en;omega
  obtain⟨m',fs⟩:=en;refine gc ?_;obtain⟨u,u,u,z⟩:=id hA;obtain⟨ar,an⟩:=bh u;have u:=z.1;refine gc ?_;refine dR fm ?_;have bX:=((E.Y A).congr (bn':=λ_ _=>N+1) λ_ _ _ _=>⟨aq,F⟩).read aq aq;have z:=(CV.zero eH).iv (Bd.zero (N+1));have au:∀r,r<n->Bd (N+N+3) (a*C i r+0*C i r):=λr hr=>by
   rw[Int.zero_mul,Int.add_zero];exact(ba.mul (bC i r P hr)).mono aq
  refine gc ?_;have gu:=A.size;have gW:=J.lt;refine gc ?_;refine aJ (jS _ n n i i (N+1) (N+N+3) C a 0 _ _ _ _ eH bX P P u z aq aq aq au) ?_;rintro _ au ⟨c,gI,rfl,h7,cA⟩;replace o:=o.Y c;replace A:=A.trans c;replace J:=J.Y c;replace hA:=hA.Y c;replace hB:=hB.Y c;replace u:=u.Y c;replace l:=l.trans c;clear c;clear bX ar an z;refine gc ?_;have ai:=(E.Y A).congr (bn':=λ_ _=>N+N+3) λ_ _ _ _=>⟨aq,F⟩;have hO:=ai.outer;refine cZ (aX F) (.inl F) F rfl hO (by rw[bf];omega) ?_;intro wA bu Z cx;rw[cT,kE]at bu;have a8:=c8 hO ai.lT.lh Z;have a7:=ai.set P ((cA.rg (Nat.le_refl n) aq).kp a8 Z aq) Z a8 bu aq (λt S=>by have:=bD t S;omega);have ak:=Z.aK l λb hb=>aq;have al:=o.kp a8 Z aq;have b0:=J.kp a8 Z aq;have z:w.heap.size<=gI/\gP<gI/\O<gI:=aq;clear E ai hO bu Z cx a8 l o J hA hB cA A u;obtain⟨cL,eC⟩ : ∃g,g=fT D i gI:=⟨_,F⟩;obtain⟨hG,gd⟩ : ∃g,g=fT U i n:=⟨_,F⟩;rw[<-eC,<-gd]at a7;have bB:∀t,t<n->w.heap.size<=cL t/\cL t≠O/\cL t≠gP:=λt S=>by
   rw[eC];by_cases e:t=i
   ·subst e;rw[de];omega
   ·rw[cG _ _ e];have:=M t S;have:=bD t S;omega
  have u:gP≠T/\w.heap.size<=gP/\gP≠O:=aq;clear M bD eC gd;refine gc ?_;have l:Ext w wA:=ak;refine gc ?_;refine b_ [(0,3),(1,3),(2,3),(3,0),(4,3),(5,0),(6,3),(7,2)] mixed az λu c _=>?_;replace al:=al.Y c;replace b0:=b0.Y c;replace a7:=a7.Y c;replace l:=l.trans c;clear c;have ej:=a7.at P;obtain⟨u,u,z,u⟩:=id b0;obtain⟨eV,eU⟩:=bh z;have vP:=u;refine gc ?_;refine fr (.inl F) F rfl (a7.row i P) P (vP.mono (show N<=N+N+3 by omega)) ?_;intro u hR B s Y;have h5:=bB i P;have fO:=(a7.put P hR B s).congr (bn':=λ_ _=>4*N+9) (M':=lj C i 0 a pv) (λt r _ _=>⟨by
   simp only[cV];split<;>omega,by
   unfold lj lk;simp only[cV];by_cases e:t=i
   ·subst e;rw[ab F,de];by_cases e2:r=t
    ·rw[ab ⟨F,e2⟩,ab e2]
    ·rw[aa λh=>e2 h.2,aa e2,Int.zero_mul,Int.add_zero]
   ·rw[aa λh=>e h.1,aa e,aa aq,cG _ _ e]⟩)
  have u:=B.aK l λb hb=>aq;have cy:=al.kp s B aq;have z:=b0.kp s B aq;clear a7 l ak al b0 hR B s Y ej eV eU vP;refine gc ?_;refine aY (λf G=>∃D U,f 5=.int .i64 (n:Int)/\f 6=.slice (some ⟨T,0,none⟩) n n/\f 7=.pointer (some ⟨O,0,none⟩)/\f 40=.int .i64 (n:Int)/\f 41=.int .i64 (i:Int)/\f 9=.int .i64 (i:Int)/\f 11=.pointer (some ⟨gP,0,none⟩)/\Ext w G/\cF G T D U n n true (λ_ _=>4*N+9) (lj C i i a pv)/\Bx G O N true m/\Bx G gP N true pv/\∀t,t<n->w.heap.size<=D t/\D t≠O/\D t≠gP) ?_ ?_
  ·refine gc ?_;refine aU (λq f G=>∃k D U,q=i-k/\k<=i/\f 5=.int .i64 (n:Int)/\f 6=.slice (some ⟨T,0,none⟩) n n/\f 7=.pointer (some ⟨O,0,none⟩)/\f 40=.int .i64 (n:Int)/\f 41=.int .i64 (i:Int)/\f 9=.int .i64 (i:Int)/\f 11=.pointer (some ⟨gP,0,none⟩)/\f 85=.int .i64 (i:Int)/\f 86=.int .i64 ((k:Nat):Int)/\Ext w G/\cF G T D U n n true (λ_ _=>4*N+9) (lj C i k a pv)/\Bx G O N true m/\Bx G gP N true pv/\∀t,t<n->w.heap.size<=D t/\D t≠O/\D t≠gP)
    i ⟨0,cL,hG,F,aE,F,F,F,F,F,F,F,F,F,u,fO,cy,z,bB⟩ ?_
   clear u fO cy z bB h5;rintro q f w4 ⟨k,D,U,rfl,hk,L,H,K,R,Q,a6,b5,z,u,l,E,o,J,M⟩;rw[ui L,ui H,ui K,ui R,ui Q,ui a6,ui b5,ui z,ui u];clear L H K R Q a6 b5 z u;by_cases u:k<i;rotate_left
   ·obtain rfl:k=i:=aq;refine gc ?_;exact⟨D,U,F,F,F,F,F,F,F,l,E,o,J,M⟩
   have z:(lj C i k a pv) k i=C k i:=by unfold lj;rw[aa aq,aa aq]
   have eE:Bd N (C k i/pv):=(bC k i aq P).ediv;have u:∀x y,x<n->y<n->Bd (4*N+9) (lj C i k a pv x y):=λx y y u=>by
    obtain⟨_,_,_,_,hv⟩:=(E.row x y).at u;exact hv.1.bd
   have bI:∀r,r<n->Bd (N+N+3) (lk C i a pv r):=λr hr=>by
    unfold lk;split
    ·obtain⟨_,_,_,h⟩:=J;exact h.1.bd.mono aq
    ·exact(ba.mul (bC i r P hr)).mono aq
   have l:Ext w w4:=l;have A:Ext w4 w4:=Ext.refl _;have bD:∀t,t<n->D t<w4.heap.size:=λt S=>(E.row t S).lt;have gX:=E.lt;refine gc ?_;refine gc ?_;refine ib [(0,3),(1,3),(2,3),(3,0),(4,3),(5,3),(6,0),(7,0)] [(8,[(9,3),(10,3),(11,3),(12,3)],[]),(13,[],[]),(14,[],[])] [(15,2),(16,2),(17,3)] mixed az λeG c _=>?_;replace o:=o.Y c;replace J:=J.Y c;replace A:=A.trans c;replace l:=l.trans c;clear c;have u:=(E.Y A).at (show k<n by omega);obtain⟨x0,y0,c6,bY,I⟩:=((E.Y A).row k aq).at P;rw[z]at I;replace I:=I.1;obtain⟨gC,gy,ck,cf⟩:=id J;obtain⟨cu,cq⟩:=bh ck;have vP:=cf.1;refine gc ?_;clear u c6 bY cu cq;refine gc ?_;refine dN [(8,[(9,3),(10,3),(11,3),(12,3)])] [fA 13 15 44 (.agg #[.bool false,.slice none 0 0]),fA 14 16 44 (.agg #[.bool false,.slice none 0 0])] [98,89,99,100,101,15,16] az (λa ha f' G _ _=>by
    rcases List.mem_cons.1 ha with rfl|ha
    ·exact cm a_ F f' G
    ·skip;rcases List.mem_singleton.1 ha with rfl;exact cm a_ F f' G) ?_
   have av:=A.size;have ax:=o.lt;have e8:=J.lt;have c9:=l.size;refine gc ?_;refine cS λu c=>?_;replace o:=o.Y c;replace J:=J.Y c;replace A:=A.trans c;replace I:=I.Y c;replace vP:=vP.Y c;replace l:=l.trans c;clear c;refine gc ?_;refine aM (eT _ _ _ _ _ _ (4*N+9) u I (vP.mono aq) aq aq) ?_;rintro _ u ⟨c,d0,d1,d2,d3,rfl,dq,dr⟩;refine⟨c,?_⟩;replace o:=o.Y c;replace J:=J.Y c;replace A:=A.trans c;replace I:=I.Y c;replace vP:=vP.Y c;replace l:=l.trans c;clear c;refine gc ?_;refine eW λu c V ay aj=>?_;replace o:=o.Y c;replace J:=J.Y c;replace A:=A.trans c;replace I:=I.Y c;replace vP:=vP.Y c;replace dq:=dq.Y c;replace dr:=dr.Y c;replace l:=l.trans c;clear c;obtain⟨b8,dx⟩:=ay _ aG;have b8:eG.heap.size<=V 15:=b8;have hQ:Bx u (V 15) 1 true 0:=Bx.zero true dx;obtain⟨b7,ds⟩:=ay _ (List.mem_cons_of_mem _ aG);have b7:eG.heap.size<=V 16:=b7;have hR:Bx u (V 16) 1 true 0:=Bx.zero true ds;have u:V 16≠V 15:=aj _ _ (List.mem_cons_of_mem _ aG) aG (show(16:Nat)≠15 by decide);show Ro _ _ _ _ _ _ (cg (cg _ 16 (.pointer (some ⟨V 16,0,none⟩))) 15 (.pointer (some ⟨V 15,0,none⟩))) _;generalize V 15=gQ at*;generalize V 16=gR at*;have u:w.heap.size<=gQ:=aq;have u:gQ≠O:=aq;have u:gQ≠gP:=aq;have u:w4.heap.size<=gQ:=aq;have u:w.heap.size<=gR:=aq;have u:gR≠O:=aq;have u:gR≠gP:=aq;have u:w4.heap.size<=gR:=aq;clear av;clear ay aj c9 dx b8 ds b7 ax e8;have u:Bd N (C k i%pv):=by
    obtain⟨_,_,_,h⟩:=J;exact h.1.bd.emod aq
   refine gc ?_;refine aL ag F rfl hQ (dq.ev true eE) ?_;intro x hQ B s Y;replace o:=o.kp s B ah;replace J:=J.kp s B ah;replace A:=B.aK A λb hb=>aq;replace I:=I.kp s;replace vP:=vP.kp s;replace dq:=dq.kp s;replace dr:=dr.kp s;replace hR:=hR.kp s B ah;replace l:=B.aK l λb hb=>aq;clear B s Y;refine gc ?_;refine gc ?_;refine aL ag F rfl hR (dr.ev true u) ?_;intro u hR B s Y;replace o:=o.kp s B ah;replace J:=J.kp s B ah;replace A:=B.aK A λb hb=>aq;replace I:=I.kp s;replace vP:=vP.kp s;replace dq:=dq.kp s;replace dr:=dr.kp s;replace hQ:=hQ.kp s B ah;replace l:=B.aK l λb hb=>aq;clear B s Y;clear I vP dq dr;refine gc ?_;refine gc ?_;refine cP [(0,3),(1,3),(2,3),(3,3),(5,3),(6,0),(4,1),(7,1),(8,1),(9,3),(10,2)] mixed az λu c _=>?_;replace o:=o.Y c;replace J:=J.Y c;replace A:=A.trans c;replace hQ:=hQ.Y c;replace hR:=hR.Y c;replace l:=l.trans c;clear c;obtain⟨s,s,s,x⟩:=id hQ;obtain⟨B,z⟩:=bh s;have s:=x.1;refine gc ?_;refine gc ?_;refine aM (du 1 u aw aw) ?_;rintro _ x ⟨c,u,e1,rfl,u⟩;refine⟨c,?_⟩;replace o:=o.Y c;replace J:=J.Y c;replace A:=A.trans c;replace hQ:=hQ.Y c;replace hR:=hR.Y c;replace s:=s.Y c;replace l:=l.trans c;clear c;refine gc ?_;refine gc ?_;refine aM (j8 _ _ _ N x s aq) ?_;rintro _ y ⟨c,e2,e3,rfl,x⟩;refine⟨c,?_⟩;replace o:=o.Y c;replace J:=J.Y c;replace A:=A.trans c;replace hQ:=hQ.Y c;replace hR:=hR.Y c;replace s:=s.Y c;replace u:=u.Y c;replace l:=l.trans c;clear c;clear B z;refine gc ?_;have B:Bd (4*N+9) 1:=Bd.mono (N:=1) (by unfold Bd;decide) aq;have bX:=(E.Y A).read aq aq;have z:∀r,r<n->Bd (4*N+9) (1*lj C i k a pv k r+-(C k i/pv)*lj C i k a pv i r):=λr hr=>by
    have e1:lj C i k a pv k r=C k r:=by unfold lj;rw[aa aq,aa aq]
    have e2:lj C i k a pv i r=lk C i a pv r:=by unfold lj;rw[ab F]
    rw[e1,e2,Int.one_mul];exact((((bC k r aq hr).mono (show N<=N+(N+N+3) by omega)).add (eE.neg.mul (bI r hr))).mono aq)
   have gu:=A.size;have gW:=J.lt;refine gc ?_;refine aM (jS _ n n k i (4*N+9) (4*N+9) (lj C i k a pv) 1 (-(C k i/pv)) _ _ _ _ y bX aq P (u.iv B) ((x.iv eE.neg).mono aq) aq aq aq z) ?_;rintro _ y ⟨c,gI,rfl,h7,cA⟩;refine⟨c,?_⟩;replace o:=o.Y c;replace J:=J.Y c;replace A:=A.trans c;replace hQ:=hQ.Y c;replace hR:=hR.Y c;replace s:=s.Y c;replace u:=u.Y c;replace x:=x.Y c;replace l:=l.trans c;clear c;clear bX;refine gc ?_;have ai:=E.Y A;have hO:=ai.outer;refine cZ (aX F) (.inl F) F rfl hO (by rw[bf];omega) ?_;intro wA bu Z cx;rw[cT,kE]at bu;have a8:=c8 hO ai.lT.lh Z;have a7:=(ai.set (show k<n by omega) ((cA.rg (Nat.le_refl n) aq).kp a8 Z aq) Z a8 bu aq (λt S=>by have:=bD t S;omega)).congr (bn':=λ_ _=>4*N+9) (M':=lj C i (k+1) a pv) (λt r _ _=>⟨aD,by
    by_cases e:t=k
    ·subst e;rw[de];unfold lj;rw[aa aq,ab F,aa aq,aa aq,ab aq,Int.one_mul]
    ·rw[cG _ _ e];unfold lj;by_cases e2:t=i
     ·rw[ab e2,ab e2]
     ·rw[aa e2,aa e2];congr 1;exact propext aq⟩)
   have ak:=Z.aK l λb hb=>aq;have al:=o.kp a8 Z aq;have b0:=J.kp a8 Z aq;have cy:∀t,t<n->w.heap.size<=fT D k gI t/\fT D k gI t≠O/\fT D k gI t≠gP:=λt S=>by
    by_cases e:t=k
    ·subst e;rw[de];omega
    ·rw[cG _ _ e];have:=M t S;omega
   refine gc ?_;refine⟨_,?_,k+1,_,_,F,aq,F,F,F,F,F,F,F,F,F,ak,a7,al,b0,cy⟩;omega
  rintro f w4 ⟨D,U,L,H,K,R,Q,a6,b5,l,E,o,J,M⟩;rw[ui L,ui H,ui K,ui R,ui Q,ui a6,ui b5];clear L H K R Q a6 b5;have l:Ext w w4:=l;have A:Ext w4 w4:=Ext.refl _;refine gc ?_;obtain⟨gx,gw,cb,ca⟩:=id o;obtain⟨cd,cc⟩:=bh cb;obtain⟨gC,gy,ck,cf⟩:=id J;obtain⟨cu,cq⟩:=bh ck;have vU:=ca.1;have vP:=cf.1;refine gc ?_;refine gc ?_;refine aJ (eT _ _ _ _ _ _ N w4 vU vP aq aq) ?_;rintro _ s ⟨c,d0,d1,d2,d3,rfl,dq,dr⟩;replace o:=o.Y c;replace J:=J.Y c;replace A:=A.trans c;replace vU:=vU.Y c;replace vP:=vP.Y c;replace l:=l.trans c;clear c;clear cd cc cu cq;refine gc ?_;have c:m/pv=m':=by rw[fs];exact Int.mul_ediv_cancel_left m' aq
  have gk:Bd N m':=by rw[<-c];exact bm.ediv
  rw[c]at dq;have ai:=E.Y A;refine aL (.inl F) F rfl o (dq.ev true gk) ?_;intro wA al Z a8 cx;have a7:=ai.kp a8 Z aq λt S=>(M t S).2.1;have ak:=Z.aK l λb hb=>aq;have gf:Bd N pv:=by obtain⟨_,_,_,h⟩:=J;exact h.1.bd
  have eA:=hS.next P bM (b:=b) eg.symm h8 fs gJ
  clear l E ai o J A vU vP dq dr Z a8 cx;refine gc ?_;refine aU (λq f G=>∃j,q=n-j/\j<=n/\f 5=.int .i64 (n:Int)/\f 6=.slice (some ⟨T,0,none⟩) n n/\f 7=.pointer (some ⟨O,0,none⟩)/\f 40=.int .i64 (n:Int)/\f 41=.int .i64 (i:Int)/\f 9=.int .i64 (i:Int)/\f 120=.int .i64 (n:Int)/\f 121=.int .i64 ((j:Nat):Int)/\Ext w G/\cF G T D U n n true (λ_ _=>4*N+9) (uD (lj C i i a pv) j (i+1) m')/\Bx G O N true m')
   n ⟨0,F,aE,F,F,F,F,F,F,F,F,ak,a7.congr (λa b _ _=>⟨aD,by unfold uD;rw[aa aq]⟩),al⟩ ?_
  clear ak a7 al;rintro q f w5 ⟨j,rfl,hj,L,H,K,R,Q,a6,h,c,l,E,o⟩;rw[ui L,ui H,ui K,ui R,ui Q,ui a6,ui h,ui c];clear L H K R Q a6 h c;by_cases ae:j<n;rotate_left
  ·obtain rfl:j=n:=aq;refine gc ?_;have ga:∀r,r<i->lk C i a pv r=0:=λr hr=>by unfold lk;rw[aa aq,hS.zero i r P hr hr,Int.mul_zero]
   have gG:∀t r,t<j->uD (lj C i i a pv) j (i+1) m' t r=fin C i a pv m' t r:=λt r S=>by
    have e:lj C i i a pv t r=qa C i a pv t r:=by
     unfold lj qa;by_cases e1:t=i
     ·rw[ab e1,ab e1]
     ·rw[aa e1,aa e1];congr 1;exact propext aq
    unfold uD fin;rw[e];by_cases e2:i<r
    ·rw[ab ⟨S,e2⟩,ab e2]
    ·rw[aa aq,aa e2]
   have gE:∀t r,t<j->r<j->Bd N (fin C i a pv m' t r):=λt r S hr=>by
    by_cases e2:i<r
    ·rw[Go.Hn.xK C a pv m' t e2];exact gk.emod (by have:=eA.pos;omega)
    ·rw[Go.Hn.te C a pv m' t aq];by_cases e1:t=i
     ·subst e1;rw[Go.Hn.xL];by_cases e3:r=t
      ·unfold lk;rw[ab e3];exact gf
      ·rw[ga r aq];exact Bd.zero N
     ·by_cases c:t<i
      ·rw[Go.Hn.p_ C a pv r c];by_cases e3:r=i
       ·subst e3;have c:C t r+-(C t r/pv)*lk C r a pv r=C t r%pv:=by
         unfold lk;rw[ab F,Int.emod_def];grind
        rw[c];exact gf.emod aq
       ·rw[ga r aq,Int.mul_zero,Int.add_zero];exact bC t r S hr
      ·rw[Go.Hn.r8 C a pv r aq];exact bC t r S hr
   refine⟨_,?_,i+1,D,U,_,m',_,F,P,F,F,F,F,F,l,(E.congr λt r S _=>⟨aD,gG t r S⟩).tight gE,o,eA,λt S=>⟨(M t S).1,(M t S).2.1⟩⟩;omega
  obtain⟨u0,u1,aH,bW⟩:=id o;obtain⟨k0,k1⟩:=bh aH;refine gc ?_;refine aJ (mB T n n j (i+1) (4*N+9) D U _ _ _ _ w5 E ae (bW.1.mono aq) (by have:=eA.pos;omega) aq bt aq aq) ?_;rintro _ c ⟨rfl,hC,A,bS⟩;have h4:=M j ae;have eo:=hC.aK l λb hb=>aq;have ew:=o.kp A hC aq;rw[vm]at bS;clear k0 k1 aH;refine gc ?_;refine⟨_,?_,j+1,F,aq,F,F,F,F,F,F,F,F,eo,bS,ew⟩;omega
 clear l E o;rintro f w1 ⟨D,U,p,m,C,L,H,K,l,E,hS⟩;rw[ui L,ui H,ui K];clear L H K;obtain⟨hF,X,hf,h9⟩:=hS.done fI;refine gc ?_;refine cJ iJ (.inl F) F rfl aD aq aq ?_;intro w2 c h o;obtain⟨gL,m⟩ : ∃g,g=w1.heap.size:=⟨_,F⟩;rw[<-m]at c⊢;have hL:bg w2 gL 3 (arr n λk=>.int .i64 (if k<0 then((k:Nat):Int)else 0)):=by
  rw[jA,Nat.mul_one]at c;have e:arr n (λk=>(Value.int IntKind.i64 0).cells[k%(Value.int IntKind.i64 0).cells.size]!)=arr n λk=>.int .i64 (if k<0 then((k:Nat):Int)else 0):=dO λk _=>by simp[Value.cells,Nat.mod_one]
  rw[<-e];exact c
 have g:w.heap.size<=gL:=by have:=l.size;omega
 have er:=l.trans h;have et:=E.Y h;have gv:∀t,t<n->D t≠gL:=λt S=>by have:=(E.row t S).lt;omega
 have hz:T≠gL:=by have:=E.lt;omega
 clear l E c h o m;refine gc ?_;refine aY (λf G=>f 6=.slice (some ⟨T,0,none⟩) n n/\f 19=.slice (some ⟨gL,0,none⟩) n n/\Ext w G/\cF G T D U n n true (λ_ _=>N) C/\bg G gL 3 (arr n λk=>.int .i64 ((k:Nat):Int))) ?_ ?_
 ·refine gc ?_;refine aU (λq f G=>∃j,q=n-j/\j<=n/\f 6=.slice (some ⟨T,0,none⟩) n n/\f 19=.slice (some ⟨gL,0,none⟩) n n/\f 135=.int .i64 (n:Int)/\f 136=.int .i64 ((j:Nat):Int)/\Ext w G/\cF G T D U n n true (λ_ _=>N) C/\bg G gL 3 (arr n λk=>.int .i64 (if k<j then((k:Nat):Int)else 0)))
   n ⟨0,F,aE,F,F,F,F,er,et,hL⟩ ?_
  clear er et hL;rintro q f w3 ⟨j,rfl,hj,H,b4,g,c,l,E,hL⟩;rw[ui H,ui b4,ui g,ui c];clear H b4 g c;by_cases ae:j<n;rotate_left
  ·obtain rfl:j=n:=aq;refine gc ?_;refine⟨F,F,l,E,?_⟩;rw[dO (h':=λk=>.int .i64 ((k:Nat):Int)) (λk hk=>by rw[ab hk])]at hL;exact hL
  refine gc ?_;refine bZ (aX F) (.inl F) F rfl hL (by rw[bf];omega) ?_;intro w5 g c h;rw[cT,Nat.zero_add,Nat.mul_one]at g;have h:=c8 hL (JX λ_ _=>⟨_,rfl⟩) c;have a7:=E.kp h c hz gv;have ak:=c.aK l λb hb=>aq;refine gc ?_;refine⟨_,?_,j+1,F,aq,F,F,F,F,ak,a7,?_⟩
  ·omega
  ·rw[dO (h':=λk=>.int .i64 (if k<j+1 then((k:Nat):Int)else 0)) λk hk=>?_]at g
   ·exact g
   ·by_cases e:k=j
    ·subst e;rw[ct,ab aq]
    ·rw[b9 _ _ e];by_cases h1:k<j
     ·rw[ab h1,ab aq]
     ·rw[aa h1,aa aq]
 clear er et hL;rintro f w3 ⟨H,b4,l,E,hL⟩;rw[ui H,ui b4];clear H b4;refine gc ?_;have c:k8 w3 (.slice (some ⟨gL,0,none⟩) n n) n (λk=>k):=⟨_,_,F,aD,aq,λk hk=>⟨_,rfl,by rw[add_lit,hL.cell,cE aq,Nat.zero_add,Nat.mul_one]⟩⟩;refine aJ (p8 _ _ n n n N (λk=>k) C w3 (E.read aq aq) c (λk hk=>hk) bt aq bt aq aq aq) ?_;rintro _ w4 ⟨e,gT,f,rfl,c,c,hT⟩;have eL:=l.size;refine gc ?_;exact bF F rfl ⟨l.trans e,gT,f,_,X,F,aq,λi hi=>by have:=c i hi;omega,hT,hF,hf,λr j hr hj=>h9 r j hr hj⟩
end
section
open Go Go.cW Go.c7 Go.Proofs
theorem di.un{w:World}{g c:Nat}{cn:Bool}{bn:Nat->Nat}{M:Nat->Int}(h:di w g c cn bn M):di w g c false bn M:=by
 obtain⟨a,d,b⟩:=h;exact⟨a,d,λj a=>⟨(b j a).1,λe=>by cases e⟩⟩
theorem cF.OQ{w w':World}{f r c g p b s i:Nat}{k o:Nat->Nat}{cn:Bool}{M:Nat->Nat->Int}{v:Nat->Int}(h:cF w f k o r c cn (λ_ _=>b) M)(x:iZ w' g c p cn (λ_=>s) v)(z:Ch (λb=>b=f) w w')(t:Kp w w')
 (y:bg w' f 49 (arr r λa=>.slice (some ⟨fT k i g a,0,none⟩) c (fT o i p a))) (u:g≠f) (q:∀a,a<r->k a≠g):cF w' f (fT k i g) (fT o i p) r c cn (λa _=>if a=i then s else b) (fT M i v):=by
 refine⟨y,λa d=>?_,λa d=>?_,λa l d m e=>?_⟩
 ·by_cases e:a=i
  ·subst e;rw[de,de,de];exact x.congr λ_ _=>⟨by rw[ab F];exact Nat.le_refl _,F⟩
  ·rw[cG _ _ e,cG _ _ e,cG _ _ e];exact((h.row a d).kp t z (h.ne a d)).congr λ_ _=>⟨by rw[aa e];exact Nat.le_refl _,F⟩
 ·by_cases e:a=i
  ·subst e;rw[de];exact u
  ·rw[cG _ _ e];exact h.ne a d
 ·by_cases n:a=i
  ·by_cases j:l=i
   ·omega
   ·subst n;rw[de,cG _ _ j]at e;exact absurd e.symm (q l m)
  ·by_cases j:l=i
   ·subst j;rw[de,cG _ _ n]at e;exact absurd e (q a d)
   ·rw[cG _ _ n,cG _ _ j]at e;exact h.inj a l d m e
theorem xE(p n m i j N:Nat)(g h:Nat->Nat)(cn:Bool)(C:Nat->Nat->Int)(w:World)(c:cF w p g h n m cn (λ_ _=>N) C)(t:i<n)(s:j<n)(_hn:n<=1048576):
 aT Tryz.prog 203 #[.slice (some ⟨p,0,none⟩) n n,.int .i64 (i:Int),.int .i64 (j:Int)] w λv r=>
  v=.tuple #[]/\Ch (λb=>b=p) w r/\Kp w r/\cF r p (swp i j g) (swp i j h) n m cn (λ_ _=>N) (swp i j C):=by
 refine bo (n:=20) Tryz.func203 F rfl az aA ?_;have o:Ext w w:=Ext.refl w;refine gc ?_;refine gc ?_;refine cP [(0,3),(1,3),(2,3),(3,3),(4,3),(5,3),(6,3),(7,0),(8,3),(9,3),(10,3),(11,0),(12,3),(13,2),(14,3),(15,2)] mixed az λb b _=>?_;replace c:=c.Y b;replace o:=o.trans b;clear b;have b:=c.at t;have b:=c.at s;have p:=c.outer;refine gc ?_;refine cZ (aX F) (.inl F) F rfl p (by rw[bf];omega) ?_;intro b b r u;rw[cT]at b;refine gc ?_;refine cZ (aX F) (.inl F) F rfl b (by rw[bf];omega) ?_;intro b k b u;rw[cT]at k;have l:=r.trans b;have q:=c8 p c.lT.lh l;have e:cg (cg (λa=>Value.slice (some ⟨g a,0,none⟩) m (h a)) (0+i*1) (.slice (some ⟨g j,0,none⟩) m (h j))) (0+j*1) (.slice (some ⟨g i,0,none⟩) m (h i))=λa=>Value.slice (some ⟨swp i j g a,0,none⟩) m (swp i j h a):=by
  funext a;rw[Nat.zero_add,Nat.zero_add,Nat.mul_one,Nat.mul_one];simp only[swp];by_cases f:a=i
  ·rw[ab f,ab f];by_cases d:a=j
   ·subst d;subst f;rw[ct]
   ·rw[b9 _ _ d,f,ct]
  ·rw[aa f,aa f];by_cases d:a=j
   ·subst d;rw[ct,ab F,ab F]
   ·rw[b9 _ _ d,b9 _ _ f,aa d,aa d]
 rw[e]at k;have a:=c.swap t s l q k;refine gc ?_;exact lP F ⟨F,(o.mono λ_ _ h=>h.elim).trans l,(bJ o).trans q,a⟩
def rG(C:Nat->Nat->Int)(i j a:Nat):Nat->Int:=λr=>C i a*C j r+-C j a*C i r
theorem uI(O n m i j l N:Nat)(gs cp:Nat->Nat)(C:Nat->Nat->Int)(z:Int)(xd yd:Value)(w:World)(u:cF w O gs cp n m false (λ_ _=>N) C)(D:i<n)(B:j<n)(q:l<m)(f:IV w N xd yd z)(h0:z≠0)(x:n<=1048576)(hm:m<=1048576)(x:1<=N)(x:N<1048576)
 (R:∀r,r<m->Bd N (rG C i j l r/z)):
 aT Tryz.prog 204 #[.slice (some ⟨O,0,none⟩) n n,.int .i64 (j:Int),.int .i64 (i:Int),.int .i64 (l:Int),.agg #[xd,yd]] w λv M=>
  v=.tuple #[]/\∃g,w.heap.size<=g/\Ch (λb=>b=O) w M/\Kp w M/\cF M O (fT gs j g) (fT cp j m) n m false (λ_ _=>N) (fT C j λr=>rG C i j l r/z):=by
 refine bo (n:=58) Tryz.func204 F rfl az aA ?_;have x:Bd N z:=f.bd;have bC:∀a b,a<n->b<m->Bd N (C a b):=λa b ha R=>by
  obtain⟨x,y,_,_,A⟩:=(u.row a ha).at R;exact A.1.bd
 have a6:∀a,a<n->gs a<w.heap.size:=λa ha=>(u.row a ha).lt;have x:=u.lt;have d:Ext w w:=Ext.refl w;have p:Ext w w:=Ext.refl _;refine gc ?_;refine bO (v:=.agg _) (.inl F) F ?_;intro x G c I;have Y:bg x w.heap.size 44 #[xd,yd]:=G;obtain⟨P,Q⟩ : ∃g,g=w.heap.size:=⟨_,F⟩;rw[<-Q]at Y⊢;have y:w.heap.size<=P:=by have:=d.size;omega
 have y:w.heap.size<=P:=by have:=p.size;omega
 replace f:=f.Y c;replace p:=p.trans c;replace d:=d.trans c;clear G I Q c;have o:Bx x P N false z:=⟨xd,yd,Y,f,λh=>by cases h⟩;clear Y f;refine gc ?_;refine gc ?_;refine b_ [(0,3),(1,3),(2,3),(3,3),(4,3),(5,3),(6,3),(7,0),(8,3),(9,3),(10,0),(11,3),(12,3),(13,3),(14,3),(15,0),(16,3),(17,3),(18,0),(19,1),(20,1),(21,3),(22,2)] mixed az λx c _=>?_;replace p:=p.trans c;replace o:=o.Y c;replace d:=d.trans c;clear c;have al:=(u.Y p).at D;have J:=(u.Y p).at B;obtain⟨x0,y0,T,S,f⟩:=((u.Y p).row i D).at q;obtain⟨y,y,ak,y,cQ⟩:=((u.Y p).row j B).at q;replace f:=f.1;replace cQ:=cQ.1;refine gc ?_;refine gc ?_;refine aM (j8 _ _ _ N x cQ aq) ?_;rintro _ aj ⟨c,a0,x,rfl,Y⟩;refine⟨c,?_⟩;replace p:=p.trans c;replace o:=o.Y c;replace f:=f.Y c;replace cQ:=cQ.Y c;replace d:=d.trans c;clear c;clear al J T S ak y;refine gc ?_;have bi:=bC i l D q;have y:=bC j l B q;have q:=(u.Y p).read aq aq;have x:=o.lt;have x:=p.size;have ak:∀r,r<m->Bd (N+N+1) (C i l*C j r+-C j l*C i r):=λr x=>(bi.mul (bC j r B x)).add (y.neg.mul (bC i r D x));refine gc ?_;refine aM (jS _ n m j i N (N+N+1) C (C i l) (-C j l) _ _ _ _ aj q B D f (Y.iv y.neg) aq aq hm ak) ?_;rintro _ x ⟨c,g,rfl,x,hR⟩;refine⟨c,?_⟩;replace p:=p.trans c;replace o:=o.Y c;replace f:=f.Y c;replace cQ:=cQ.Y c;replace Y:=Y.Y c;replace d:=d.trans c;clear c;clear q;refine gc ?_;have E:=u.Y p;have D:=E.outer;refine cZ (aX F) (.inl F) F rfl D (by rw[bf];omega) ?_;intro wA y q aj;rw[cT,kE]at y;have x:=c8 D E.lT.lh q;have K:=cF.OQ E (((di.un hR).rg (Nat.le_refl m) aq).kp x q aq) q x y aq (λt W=>by have:=a6 t W;omega);have ae:Ch (λb=>b=O) w wA:=(d.mono λ_ _ h=>h.elim).trans q;have a7:Kp w wA:=(bJ d).trans x;have a8:=o.kp x q aq;have ak:w.heap.size<=g/\P<g:=aq;clear E D y q aj x d p o hR f cQ Y;obtain⟨U,V⟩ : ∃f,f=fT gs j g:=⟨_,F⟩;obtain⟨ai,Z⟩ : ∃f,f=fT cp j m:=⟨_,F⟩;obtain⟨C1,eC⟩ : ∃D:Nat->Nat->Int,D=fT C j λr=>C i l*C j r+-C j l*C i r:=⟨_,F⟩;rw[<-V,<-Z,<-eC]at K;have e1:U j=g:=by rw[V,de]
 have e2:ai j=m:=by rw[Z,de]
 have e3:∀r,C1 j r=rG C i j l r:=λr=>by rw[eC,de];rfl
 have an:∀t,t<n->U t≠P:=λt W=>by
  rw[V];by_cases e:t=j
  ·subst e;rw[de];omega
  ·rw[cG _ _ e];have:=a6 t W;omega
 refine gc ?_;have J:=K.at B;rw[e1,e2]at J;refine gc ?_;clear J;refine aU (λq f M=>∃k,q=m-k/\k<=m/\f 0=.slice (some ⟨O,0,none⟩) n n/\f 1=.int .i64 (j:Int)/\f 9=.pointer (some ⟨P,0,none⟩)/\f 37=.slice (some ⟨g,0,none⟩) m m/\f 38=.int .i64 (m:Int)/\f 39=.int .i64 ((k:Nat):Int)/\Ch (λb=>b=O) w M/\Kp w M/\cF M O U ai n m false (λt r=>if t=j/\k<=r then N+N+1 else N) (λt r=>if t=j/\r<k then rG C i j l r/z else C1 t r)/\Bx M P N false z)
  m ⟨0,F,aE,F,F,F,F,F,F,ae,a7,K.congr (λa b _ _=>⟨by split<;>split<;>omega,by rw[aa aq]⟩),a8⟩ ?_
 clear ae a7 K a8 u;rintro q f L ⟨k,rfl,f,M,D,y,x,q,f,hC,p,u,o⟩;rw[ui M,ui D,ui y,ui x,ui q,ui f];clear M D y x q f;by_cases X:k<m;rotate_left
 ·obtain rfl:k=m:=aq;refine gc ?_;refine lP F ⟨F,g,aq,hC,p,?_⟩;rw[<-V,<-Z];exact u.congr (bn':=λ_ _=>N) (M':=fT C j λr=>rG C i j l r/z) (λa b _ ar=>⟨by
   show(if a=j/\k<=b then N+N+1 else N)<=N;rw[aa aq];exact Nat.le_refl _,by
   by_cases e:a=j
   ·subst e;rw[ab ⟨F,ar⟩,de]
   ·rw[aa λh=>e h.1,cG _ _ e,eC,cG _ _ e]⟩)
 have f:=hC.size;have f:∀t,t<n->U t<L.heap.size:=λt W=>(u.row t W).lt;have d:Ext L L:=Ext.refl L;have s:Ext L L:=Ext.refl _;obtain⟨x0,y0,T,S,A⟩:=(u.row j B).at X;rw[aa (show¬(j=j/\k<k) by omega),ab ⟨F,Nat.le_refl k⟩,e3]at A;rw[e1]at T S;replace A:=A.1;refine gc ?_;refine gc ?_;refine aS (.inl F) a_ ?_;intro f G c I;have H:=Bx.zero (N:=1) true G;obtain⟨l,Q⟩ : ∃g,g=L.heap.size:=⟨_,F⟩;rw[<-Q]at H⊢;have f:L.heap.size<=l:=by have:=d.size;omega
 have f:L.heap.size<=l:=by have:=s.size;omega
 have f:P<l:=by have:=o.lt;omega
 replace o:=o.Y c;replace s:=s.trans c;replace A:=A.Y c;replace d:=d.trans c;clear G I Q c;replace H:=H.un;clear T S;refine gc ?_;refine aL ag F rfl H (⟨A,λe=>by cases e⟩) ?_;intro f H f g I;replace o:=o.kp g f ah;replace s:=f.aK s λb R=>aq;replace A:=A.kp g;replace d:=f.aK d λb R=>aq;clear f g I;refine gc ?_;refine gc ?_;refine cP [(0,3),(1,3),(2,3),(3,0),(4,3),(5,0),(6,0),(7,1),(8,3),(9,3),(10,3),(11,3),(12,3),(13,2)] mixed az λG c _=>?_;replace o:=o.Y c;replace s:=s.trans c;replace A:=A.Y c;replace H:=H.Y c;replace d:=d.trans c;clear c;have J:=(u.Y s).at B;obtain⟨l,l,l,q⟩:=id H;obtain⟨t,r⟩:=bh l;obtain⟨l,l,l,x⟩:=id o;obtain⟨D,y⟩:=bh l;have l:=q.1;have q:=x.1;refine gc ?_;refine gc ?_;refine aM (eT _ _ _ _ _ _ (N+N+1) G l (q.mono aq) aq h0) ?_;rintro _ x ⟨c,c0,c1,c2,c3,rfl,x,G⟩;refine⟨c,?_⟩;replace o:=o.Y c;replace s:=s.trans c;replace A:=A.Y c;replace H:=H.Y c;replace l:=l.Y c;replace q:=q.Y c;replace d:=d.trans c;clear c;clear J t r D y;have E:=u.Y s;refine gc ?_;refine fr (.inl F) F rfl (E.row j B) X (x.ev false (R k X)) ?_;intro c hR f g I;have K:=E.put B hR f g;have l:=(hC.join (d.mono (M':=λ_=>False) λ_ _ h=>h.elim) λ_ _ h=>h.elim).join f λb R e=>aq;have c:=p.trans ((bJ d).trans g);have d:=o.kp g f (by have:=an j B;omega);refine gc ?_;refine⟨_,?_,k+1,F,aq,F,F,F,F,F,F,l,c,K.congr λa b ha R=>⟨?_,?_⟩,d⟩
 ·omega
 ·simp only[cV];by_cases e:a=j/\b=k
  ·obtain⟨rfl,rfl⟩:=e;rw[ab ⟨F,F⟩,aa aq];exact Nat.le_refl _
  ·rw[aa e];by_cases c:a=j/\k<=b
   ·rw[ab c,ab aq];exact Nat.le_refl _
   ·rw[aa c];split<;>omega
 ·simp only[cV];by_cases e:a=j/\b=k
  ·obtain⟨rfl,rfl⟩:=e;rw[ab ⟨F,F⟩,ab aq]
  ·rw[aa e];congr 1;exact propext aq
