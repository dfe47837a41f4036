import Derived.Test.YtmfndnlifgphjaaGreatQzv
set_option maxHeartbeats 64000000
open Go.Proofs.YtmfndnlifgphjaaGreat
namespace Go.Proofs.Qq
section
open Go Go.cU Go.cV Go.Proofs
theorem IL{n:Nat}{f:Fr}{w:World}{b:Func}{a:Value->World->Prop}(c:b.results=#[])(h:a (.tuple #[]) w):bodyPost Tryz.prog b (xB a) .ret (act n f) w:=
 bodyPost_ret (v:=.tuple #[]) (by simp[results,c]) F ⟨_,F,h⟩
theorem bO.tight{w:World}{b r c:Nat}{a d:Nat->Nat}{bn bn':Nat->Nat->Nat}{M:Nat->Nat->Int}(h:bO w b a d r c true bn M)(e:∀i j,i<r->j<c->Bd (bn' i j) (M i j)):bO w b a d r c true bn' M:=
 ⟨h.outer,λi a=>(h.row i a).tight λj b=>e i j a b,h.ne,h.inj⟩
theorem _root_.Go.cU.Ch.join{M M':Nat->Prop}{w b a:World}(h:Ch M w b)(k:Ch M' b a)(c:∀b,b<w.heap.size->M' b->M b):Ch M w a:=
 ((h.mono (M':=λb=>M b\/M' b) λ_ _ h=>.inl h).trans (k.mono (M':=λb=>M b\/M' b) λ_ _ h=>.inr h)).mono λb a h=>h.elim id (c b a)
theorem ju{n p g i:Nat}(b c:Nat->Nat):bS (λa=>Value.slice (some ⟨b a,0,none⟩) n (c a)) (0+i*1) (.slice (some ⟨g,0,none⟩) n p)=λa=>Value.slice (some ⟨eF b i g a,0,none⟩) n (eF c i p a):=by
 funext a;rw[Nat.zero_add,Nat.mul_one];by_cases e:a=i
 ·subst e;rw[bG,cJ,cJ]
 ·rw[bw _ _ e,bZ _ _ e,bZ _ _ e]
def sv(C:Nat->Nat->Int)(j first:Nat)(z:Int):Nat->Nat->Int:=λt r=>if t=j/\first<=r then C t r%z else C t r
theorem kz(t n m j first N:Nat)(r K:Nat->Nat)(C:Nat->Nat->Int)(z:Int)(D B:Value)(w:World)(d:bO w t r K n m true (λ_ _=>N) C)(s:j<n)(k:IV w N D B z)(L:z≠0)(M:first<=m)(g:1<=m)(g:m<=1048576)(O:N<17592186044416):
 aT Tryz.prog 115 #[.slice (some ⟨t,0,none⟩) n n,.int .i64 (j:Int),.int .i64 (first:Int),.agg #[D,B]] w λv p=>
  v=.tuple #[]/\Ch (λb=>b=r j) w p/\Kp w p/\bO p t r K n m true (λ_ _=>N) (sv C j first z):=by
 refine bF (n:=38) Tryz.func115 F rfl aw aA ?_;have P:Bd N z:=k.bd;have g:=(d.row j s).lt;have g:∀i,i<n->r i<w.heap.size:=λi g=>(d.row i g).lt;have g:=d.lt;have l:Ext w w:=Ext.refl w;refine gc ?_;refine aZ (v:=.agg _) (.inl F) F ?_;intro f i c E;have A:bh f w.heap.size 35 #[D,B]:=i;obtain⟨y,I⟩ : ∃g,g=w.heap.size:=⟨_,F⟩;rw[<-I]at A⊢;have g:w.heap.size<=y:=by have:=l.size;omega
 replace k:=k.Y c;replace l:=l.trans c;clear i E I c;have o:Bx f y N false z:=⟨D,B,A,k,λh=>by cases h⟩;replace d:=d.Y l;have u:Ch (λb=>b=r j) w f:=l.mono λ_ _ h=>h.elim;have x:Kp w f:=bN l;clear A k l;refine gc ?_;refine aU (λk f p=>∃q,k=m-q/\q<=m/\first<=q/\f 0=.slice (some ⟨t,0,none⟩) n n/\f 1=.int .i64 (j:Int)/\f 7=.pointer (some ⟨y,0,none⟩)/\f 8=.int .i64 ((q:Nat):Int)/\Ch (λb=>b=r j) w p/\Kp w p/\bO p t r K n m true (λ_ _=>N) (λt r=>if t=j/\first<=r/\r<q then C t r%z else C t r)/\Bx p y N false z)
  (m-first) ⟨first,F,M,aD,F,F,F,F,u,x,d.congr (λa b _ _=>⟨aD,by rw[aa aq]⟩),o⟩ ?_
 clear d o u x;rintro k f J ⟨q,rfl,f,f,k,i,g,f,u,x,d,o⟩;rw[ui k,ui i,ui g,ui f];clear k i g f;refine aP ?_;have H:=d.at s;refine gc ?_;by_cases G:q<m;rotate_left
 ·obtain rfl:q=m:=aq;refine gc ?_;exact n6 F ⟨F,u,x,d.congr λa b _ A=>⟨aD,by unfold sv;congr 1;exact propext aq⟩⟩
 refine gc ?_;have f:=u.size;have f:=o.lt;have f:w.heap.size<=y:=aq;have l:Ext J J:=Ext.refl J;refine gc ?_;refine gc ?_;refine c8 [(0,3),(1,3),(2,3),(3,0),(4,3),(5,3),(6,3),(7,3),(8,0),(9,3),(10,3),(11,0),(12,0),(13,1),(14,3),(15,3),(16,3),(17,3),(18,3),(19,2)] mixed aw λr c _=>?_;replace d:=d.Y c;replace o:=o.Y c;replace l:=l.trans c;clear c;replace H:=d.at s;obtain⟨f,f,y,t,f⟩:=(d.row j s).at G;rw[aa aq]at f;replace f:=f.1;have g:Bd N (C j q):=f.bd;obtain⟨g,g,g,i⟩:=id o;obtain⟨p,k⟩:=a9 g;have g:=i.1;refine gc ?_;refine gc ?_;refine aM (dp _ _ _ _ _ _ N r f g O L) ?_;rintro _ i ⟨c,c0,c1,c2,i,rfl,i,i⟩;refine⟨c,?_⟩;replace d:=d.Y c;replace o:=o.Y c;replace f:=f.Y c;replace g:=g.Y c;replace l:=l.trans c;clear c;clear H y t p k;refine gc ?_;refine eJ (.inl F) F rfl (d.row j s) G (i.ev true (P.emod L)) ?_;intro c g f c E;replace d:=d.put s g f c;have i:=u.trans ((l.mono λ_ _ h=>h.elim).trans f);have h:=x.trans ((bN l).trans c);have g:=o.kp c f aq;refine gc ?_;refine⟨_,?_,q+1,F,aq,aq,F,F,F,F,i,h,d.congr λa b c A=>⟨?_,?_⟩,g⟩
 ·omega
 ·simp only[dM];split<;>exact Nat.le_refl _
 ·simp only[dM];by_cases e:a=j/\b=q
  ·obtain⟨rfl,rfl⟩:=e;rw[ae ⟨F,F⟩,ae aq]
  ·rw[aa e];congr 1;exact propext aq
def JY(w:World)(d n i j N:Nat)(f:Nat->Nat)(C:Nat->Nat->Int)(z:Int)(v:Value)(w':World):Prop:=
 v=.tuple #[]/\Ch (λb=>b=d) w w'/\Kp w w'/\∃a e c,(∀t,t<n->a t=f t\/w.heap.size<=a t)/\bO w' d a e n n true (λ_ _=>N) c/\
  ((C j i=0/\c=C)\/∃a b x y g,C j i≠0/\0<g/\C i i=g*x/\C j i=g*y/\a*C i i+b*C j i=g/\c=Go.Hn.kB C i j a b x y z)
theorem zJ(gO n i j N:Nat)(gs cp:Nat->Nat)(C:Nat->Nat->Int)(z:Int)(xm ym:Value)(w:World)(k:bO w gO gs cp n n true (λ_ _=>N) C)(x:i<j)(hj:j<n)(u:IV w N xm ym z)(x:0<z)(hn:n<=1048576)(x:1<=N)(x:N<1048576)
 (b5:0<=C i i) (b4:0<=C j i) (a0:∀r,r<i->C i r=0/\C j r=0):
 aT Tryz.prog 116 #[.slice (some ⟨gO,0,none⟩) n n,.int .i64 (i:Int),.int .i64 (j:Int),.agg #[xm,ym]] w (JY w gO n i j N gs C z):=by
 refine bF (n:=80) Tryz.func116 F rfl aw aA ?_;have G:i<n:=aq;have bz:Bd N z:=u.bd;have bC:∀a b,a<n->b<n->Bd N (C a b):=λa b Q Y=>by
  obtain⟨x,y,_,_,hv⟩:=(k.row a Q).at Y;exact hv.1.bd
 have R:∀a,a<n->gs a<w.heap.size:=λa Q=>(k.row a Q).lt;have x:=k.lt;have l:Ext w w:=Ext.refl w;refine gc ?_;refine aZ (v:=.agg _) (.inl F) F ?_;intro x J c D;have aj:bh x w.heap.size 35 #[xm,ym]:=J;obtain⟨gM,K⟩ : ∃g,g=w.heap.size:=⟨_,F⟩;rw[<-K]at aj⊢;have y:w.heap.size<=gM:=by have:=l.size;omega
 replace u:=u.Y c;replace k:=k.Y c;replace l:=l.trans c;clear J D K c;have m:Bx x gM N false z:=⟨xm,ym,aj,u,λh=>by cases h⟩;clear aj u;refine gc ?_;refine gc ?_;refine Ff [(0,3),(1,3),(2,3),(3,0),(4,3),(5,3),(6,0),(7,3),(8,3),(9,3),(10,0),(11,3),(12,3),(13,0)] [(14,[],[]),(15,[],[])] [(16,1),(17,2)] mixed aw λav c _=>?_;replace k:=k.Y c;replace m:=m.Y c;replace l:=l.trans c;clear c;have bj:=k.at G;have bg:=k.at hj;obtain⟨u,u,aj,x,o⟩:=(k.row i G).at G;obtain⟨u,u,y,u,ct⟩:=(k.row j hj).at G;refine gc ?_;clear bj bg aj y x u;refine gc ?_;refine z_ [] [fA 14 8 35 (.agg #[.bool false,.slice none 0 0]),fA 15 9 35 (.agg #[.bool false,.slice none 0 0])] [8,9] aw aw (λa Q f' w' _ _=>by
  rcases List.mem_cons.1 Q with rfl|Q
  ·exact b_ a_ F f' w'
  ·skip;rcases List.mem_singleton.1 Q with rfl;exact b_ a_ F f' w') ?_
 have a6:=m.lt;have aH:=l.size;refine fM λx c s ab au=>?_;replace k:=k.Y c;replace m:=m.Y c;replace o:=o.Y c;replace ct:=ct.Y c;replace l:=l.trans c;clear c;obtain⟨u,a5⟩:=ab _ aG;have u:av.heap.size<=s 8:=u;have q:Bx x (s 8) 1 true 0:=Bx.zero true a5;obtain⟨u,Z⟩:=ab _ (List.mem_cons_of_mem _ aG);have u:av.heap.size<=s 9:=u;have p:Bx x (s 9) 1 true 0:=Bx.zero true Z;have u:s 9≠s 8:=au _ _ (List.mem_cons_of_mem _ aG) aG (show(9:Nat)≠8 by decide);show Ro _ _ _ _ _ _ (bS (bS _ 9 (.pointer (some ⟨s 9,0,none⟩))) 8 (.pointer (some ⟨s 8,0,none⟩))) _;generalize s 8=gx at*;generalize s 9=gy at*;have s:w.heap.size<=gx:=aq;have s:gx≠gM:=aq;have s:w.heap.size<=gy:=aq;have s:gy≠gM:=aq;clear ab au aH a5 Z a6;refine gc ?_;refine aL ag F rfl q (o) ?_;intro s q f d D;replace k:=k.kp d f aq (λi G=>by have:=R i G;omega);replace m:=m.kp d f ah;replace o:=o.kp d;replace ct:=ct.kp d;replace p:=p.kp d f ah;replace l:=f.aK l λb Y=>aq;clear f d D;refine gc ?_;refine gc ?_;refine aL ag F rfl p (ct) ?_;intro s p f d D;replace k:=k.kp d f aq (λi G=>by have:=R i G;omega);replace m:=m.kp d f ah;replace o:=o.kp d;replace ct:=ct.kp d;replace q:=q.kp d f ah;replace l:=f.aK l λb Y=>aq;clear f d D;clear o ct;refine gc ?_;refine aP ?_;refine gc ?_;obtain⟨a3,a2,M,L⟩:=id p;obtain⟨P,O⟩:=a9 M;refine gc ?_;by_cases a1:C j i=0
 ·have o:(C j i).sign=0:=by rw[a1];rfl
  refine gc ?_;refine aJ (cE _ _ _ N s L.1 aq) ?_;rintro _ u ⟨c,rfl⟩;replace k:=k.Y c;replace m:=m.Y c;replace q:=q.Y c;replace p:=p.Y c;replace l:=l.trans c;clear c;refine gc ?_;exact IL F ⟨F,l.mono λ_ _ h=>h.elim,bN l,gs,cp,C,λ_ _=>.inl rfl,k,.inl ⟨a1,rfl⟩⟩
 have o:¬(C j i).sign=0:=λe=>a1 (Int.sign_eq_zero_iff_zero.1 e);refine gc ?_;refine aJ (cE _ _ _ N s L.1 aq) ?_;rintro _ o ⟨c,rfl⟩;replace k:=k.Y c;replace m:=m.Y c;replace q:=q.Y c;replace p:=p.Y c;replace l:=l.trans c;clear c;refine gc ?_;clear P O;obtain⟨an,al,V,U⟩:=id q;obtain⟨X,W⟩:=a9 V;obtain⟨a3,a2,M,L⟩:=id p;obtain⟨P,O⟩:=a9 M;have B:=U;have A:=L;refine gc ?_;refine gc ?_;refine aJ (rH _ _ _ _ _ _ N true o B A aq b5 b4) ?_;rintro _ b0 ⟨c,c0,c1,c2,c3,o,o,g,a,b,rfl,E,I,H,eg,o,ba,bb⟩;replace k:=k.Y c;replace m:=m.Y c;replace q:=q.Y c;replace p:=p.Y c;replace B:=B.Y c;replace A:=A.Y c;replace l:=l.trans c;clear c;refine gc ?_;clear X W P O;have bl:g∣C i i:=by rw[o];exact Int.gcd_dvd_left ..
 have a7:g∣C j i:=by rw[o];exact Int.gcd_dvd_right ..
 have bt:0<g:=by
  have h1:0<=g:=by rw[o];exact Int.natCast_nonneg _
  rcases Int.lt_or_le 0 g with h|h
  ·exact h
  ·have S:g=0:=aq;rw[S]at a7;exact absurd (Int.zero_dvd.1 a7) a1
 have ex:C i i=g*(C i i/g):=(Int.mul_ediv_cancel' bl).symm;have ey:C j i=g*(C j i/g):=(Int.mul_ediv_cancel' a7).symm;have ab:Bd N (C i i/g):=(bC i i G G).ediv;have a5:Bd N (C j i/g):=(bC j i hj G).ediv;refine gc ?_;refine aR (.inl F) a_ ?_;intro u J c D;have o:=Bx.zero (N:=1) true J;obtain⟨Z,K⟩ : ∃g,g=b0.heap.size:=⟨_,F⟩;rw[<-K]at o⊢;have s:w.heap.size<=Z:=by have:=l.size;omega
 have s:gM<Z:=by have:=m.lt;omega
 have s:gx<Z:=by have:=q.lt;omega
 have s:gy<Z:=by have:=p.lt;omega
 replace k:=k.Y c;replace m:=m.Y c;replace q:=q.Y c;replace p:=p.Y c;replace B:=B.Y c;replace A:=A.Y c;replace E:=E.Y c;replace I:=I.Y c;replace H:=H.Y c;replace l:=l.trans c;clear J D K c;refine gc ?_;refine aR (.inl F) a_ ?_;intro a6 J c D;have s:=Bx.zero (N:=1) true J;obtain⟨y,K⟩ : ∃g,g=u.heap.size:=⟨_,F⟩;rw[<-K]at s⊢;have u:w.heap.size<=y:=by have:=l.size;omega
 have u:gM<y:=by have:=m.lt;omega
 have u:gx<y:=by have:=q.lt;omega
 have u:gy<y:=by have:=p.lt;omega
 have u:Z<y:=by have:=o.lt;omega
 replace k:=k.Y c;replace m:=m.Y c;replace q:=q.Y c;replace p:=p.Y c;replace B:=B.Y c;replace A:=A.Y c;replace E:=E.Y c;replace I:=I.Y c;replace H:=H.Y c;replace o:=o.Y c;replace l:=l.trans c;clear J D K c;refine gc ?_;refine aR (.inl F) a_ ?_;intro u J c D;have u:=Bx.zero (N:=1) true J;obtain⟨x,K⟩ : ∃g,g=a6.heap.size:=⟨_,F⟩;rw[<-K]at u⊢;have a6:w.heap.size<=x:=by have:=l.size;omega
 have a6:gM<x:=by have:=m.lt;omega
 have a6:gx<x:=by have:=q.lt;omega
 have a6:gy<x:=by have:=p.lt;omega
 have a6:Z<x:=by have:=o.lt;omega
 have Z:y<x:=by have:=s.lt;omega
 replace k:=k.Y c;replace m:=m.Y c;replace q:=q.Y c;replace p:=p.Y c;replace B:=B.Y c;replace A:=A.Y c;replace E:=E.Y c;replace I:=I.Y c;replace H:=H.Y c;replace o:=o.Y c;replace s:=s.Y c;replace l:=l.trans c;clear J D K c;refine gc ?_;refine aL ag F rfl o (E) ?_;intro x o f d D;replace k:=k.kp d f aq (λi G=>by have:=R i G;omega);replace m:=m.kp d f ah;replace q:=q.kp d f ah;replace p:=p.kp d f ah;replace B:=B.kp d;replace A:=A.kp d;replace E:=E.kp d;replace I:=I.kp d;replace H:=H.kp d;replace s:=s.kp d f ah;replace u:=u.kp d f ah;replace l:=f.aK l λb Y=>aq;clear f d D;refine gc ?_;refine aL ag F rfl s (I.ev true ba) ?_;intro x s f d D;replace k:=k.kp d f aq (λi G=>by have:=R i G;omega);replace m:=m.kp d f ah;replace q:=q.kp d f ah;replace p:=p.kp d f ah;replace B:=B.kp d;replace A:=A.kp d;replace E:=E.kp d;replace I:=I.kp d;replace H:=H.kp d;replace o:=o.kp d f ah;replace u:=u.kp d f ah;replace l:=f.aK l λb Y=>aq;clear f d D;refine gc ?_;refine aL ag F rfl u (H.ev true bb) ?_;intro Z u f d D;replace k:=k.kp d f aq (λi G=>by have:=R i G;omega);replace m:=m.kp d f ah;replace q:=q.kp d f ah;replace p:=p.kp d f ah;replace B:=B.kp d;replace A:=A.kp d;replace E:=E.kp d;replace I:=I.kp d;replace H:=H.kp d;replace o:=o.kp d f ah;replace s:=s.kp d f ah;replace l:=f.aK l λb Y=>aq;clear f d D;clear B A E I H;refine gc ?_;obtain⟨an,al,V,U⟩:=id q;obtain⟨X,W⟩:=a9 V;obtain⟨a7,a6,y,x⟩:=id o;obtain⟨K,J⟩:=a9 y;have B:=U;have E:=x;refine gc ?_;refine gc ?_;refine aJ (dp _ _ _ _ _ _ N Z B.1 E.1 aq aq) ?_;rintro _ Z ⟨c,d0,d1,d2,d3,rfl,Z,r1⟩;replace k:=k.Y c;replace m:=m.Y c;replace q:=q.Y c;replace p:=p.Y c;replace o:=o.Y c;replace s:=s.Y c;replace u:=u.Y c;replace B:=B.Y c;replace E:=E.Y c;replace l:=l.trans c;clear c;refine gc ?_;clear X W K J;refine gc ?_;refine aL ag F rfl q (Z.ev true ab) ?_;intro aj q f d D;replace k:=k.kp d f aq (λi G=>by have:=R i G;omega);replace m:=m.kp d f ah;replace p:=p.kp d f ah;replace o:=o.kp d f ah;replace s:=s.kp d f ah;replace u:=u.kp d f ah;replace B:=B.kp d;replace E:=E.kp d;replace Z:=Z.kp d;replace r1:=r1.kp d;replace l:=f.aK l λb Y=>aq;clear f d D;clear B E Z r1;refine gc ?_;obtain⟨a3,a2,M,L⟩:=id p;obtain⟨P,O⟩:=a9 M;obtain⟨a7,a6,y,x⟩:=id o;obtain⟨K,J⟩:=a9 y;have A:=L;have E:=x;refine gc ?_;refine gc ?_;refine aJ (dp _ _ _ _ _ _ N aj A.1 E.1 aq aq) ?_;rintro _ x ⟨c,d4,d5,d6,d7,rfl,x,y⟩;replace k:=k.Y c;replace m:=m.Y c;replace q:=q.Y c;replace p:=p.Y c;replace o:=o.Y c;replace s:=s.Y c;replace u:=u.Y c;replace A:=A.Y c;replace E:=E.Y c;replace l:=l.trans c;clear c;refine gc ?_;clear P O K J;refine gc ?_;refine aL ag F rfl p (x.ev true a5) ?_;intro J p f d D;replace k:=k.kp d f aq (λi G=>by have:=R i G;omega);replace m:=m.kp d f ah;replace q:=q.kp d f ah;replace o:=o.kp d f ah;replace s:=s.kp d f ah;replace u:=u.kp d f ah;replace A:=A.kp d;replace E:=E.kp d;replace x:=x.kp d;replace y:=y.kp d;replace l:=f.aK l λb Y=>aq;clear f d D;clear A E x y;refine gc ?_;refine gc ?_;refine b7 [(0,3),(1,3),(2,3),(3,3),(4,3),(5,3),(6,0),(7,3),(8,0),(10,3),(11,3),(12,0),(13,3),(14,0),(9,1),(15,1),(16,1),(17,3),(18,2),(19,3),(20,2)] mixed aw λd c _=>?_;replace k:=k.Y c;replace m:=m.Y c;replace q:=q.Y c;replace p:=p.Y c;replace o:=o.Y c;replace s:=s.Y c;replace u:=u.Y c;replace l:=l.trans c;clear c;obtain⟨f,f,f,E⟩:=id s;obtain⟨Z,J⟩:=a9 f;obtain⟨f,f,x,f⟩:=id u;obtain⟨D,y⟩:=a9 x;obtain⟨an,al,V,U⟩:=id q;obtain⟨X,W⟩:=a9 V;obtain⟨a3,a2,M,L⟩:=id p;obtain⟨P,O⟩:=a9 M;have I:=E;have H:=f;have B:=U;have A:=L;have f:=m.lt;have f:=k.lt;have U:∀a,a<n->gs a<(d).heap.size:=λa Q=>(k.row a Q).lt;refine gc ?_;have x:∀r,r<n->Bd (N+N+3) (a*C i r+b*C j r):=λr hr=>(((ba.mul (bC i r G hr)).add (bb.mul (bC j r hj hr))).mono aq);have L:∀r,r<n->Bd (N+N+3) (C i i/g*C j r+-(C j i/g)*C i r):=λr hr=>(((ab.mul (bC j r hj hr)).add (a5.neg.mul (bC i r G hr))).mono aq);have f:=(k.congr (bn':=λ_ _=>N+1) λ_ _ _ _=>⟨aq,F⟩).read aq aq;refine gc ?_;refine aM (iK _ n n i j (N+1) (N+N+3) C a b _ _ _ _ d f G hj I.1 H.1 aq aq hn x) ?_;rintro _ x ⟨c,E,rfl,d,d⟩;refine⟨c,?_⟩;replace k:=k.Y c;replace m:=m.Y c;replace q:=q.Y c;replace p:=p.Y c;replace o:=o.Y c;replace s:=s.Y c;replace u:=u.Y c;replace I:=I.Y c;replace H:=H.Y c;replace B:=B.Y c;replace A:=A.Y c;replace l:=l.trans c;clear c;clear f;refine gc ?_;refine gc ?_;refine aM (iZ _ _ _ N x A.1 aq) ?_;rintro _ x ⟨c,K,e1,rfl,K⟩;refine⟨c,?_⟩;replace k:=k.Y c;replace m:=m.Y c;replace q:=q.Y c;replace p:=p.Y c;replace o:=o.Y c;replace s:=s.Y c;replace u:=u.Y c;replace I:=I.Y c;replace H:=H.Y c;replace B:=B.Y c;replace A:=A.Y c;replace d:=d.Y c;replace l:=l.trans c;clear c;refine gc ?_;have M:=d.lt;have f:=(k.congr (bn':=λ_ _=>N+1) λ_ _ _ _=>⟨aq,F⟩).read aq aq;refine gc ?_;refine aM (iK _ n n j i (N+1) (N+N+3) C (C i i/g) (-(C j i/g)) _ _ _ _ x f hj G (B.1.mono aq) ((K.iv a5.neg).mono aq) aq aq hn L) ?_;rintro _ x ⟨c,L,rfl,x,M⟩;refine⟨c,?_⟩;replace k:=k.Y c;replace m:=m.Y c;replace q:=q.Y c;replace p:=p.Y c;replace o:=o.Y c;replace s:=s.Y c;replace u:=u.Y c;replace I:=I.Y c;replace H:=H.Y c;replace B:=B.Y c;replace A:=A.Y c;replace d:=d.Y c;replace K:=K.Y c;replace l:=l.trans c;clear c;clear f Z J D y X W P O;refine gc ?_;have x:=k.outer;refine cH (aW F) (.inl F) F rfl x (by rw[bk];omega) ?_;intro V D c W;rw[cC,ju]at D;have f:=cK x k.j7.jn c;have y:=(k.congr (bn':=λ_ _=>N+N+3) (λ_ _ _ _=>⟨aq,F⟩)).set G ((d.rg (Nat.le_refl n) aq).kp f c aq) c f D aq (λa Q=>by have:=U a Q;omega);have J:=M.kp f c aq;have O:=m.kp f c aq;have P:Ch (λb=>b=gO) w V:=(l.mono λ_ _ h=>h.elim).trans c;have h:Kp w V:=(bN l).trans f;have U:=l.size;have U:w.heap.size<=E/\w.heap.size<=L/\E<L/\gM<E:=aq;clear k d M m x D c W f l q p o s u I H B A K;refine gc ?_;have x:=y.outer;refine cH (aW F) (.inl F) F rfl x (by rw[bk];omega) ?_;intro wB f c k;rw[cC,ju]at f;have d:=cK x y.j7.jn c;have ad:=y.set hj ((J.rg (Nat.le_refl n) aq).kp d c aq) c d f aq (λa Q=>by
  unfold eF;split
  ·omega
  ·have:=R a Q;omega)
 have ai:=O.kp d c aq;have ay:=P.trans c;have ax:=h.trans d;clear y J O x f c k d P h;obtain⟨T,a4⟩ : ∃g,g=eF (eF gs i E) j L:=⟨_,F⟩;obtain⟨ak,c⟩ : ∃g,g=eF (eF cp i n) j n:=⟨_,F⟩;obtain⟨C3,eC⟩ : ∃D:Nat->Nat->Int,D=eF (eF C i λr=>a*C i r+b*C j r) j λr=>C i i/g*C j r+-(C j i/g)*C i r:=⟨_,F⟩;rw[<-a4,<-c,<-eC]at ad;have e1:T i=E:=by rw[a4,bZ _ _ aq,cJ]
 have e2:T j=L:=by rw[a4,cJ]
 have e3:∀t,t<n->T t=gs t\/w.heap.size<=T t:=λt _=>by
  by_cases h1:t=j
  ·subst h1;exact .inr aq
  ·by_cases S:t=i
   ·subst S;exact .inr aq
   ·rw[a4,bZ _ _ h1,bZ _ _ S];exact .inl F
 refine gc ?_;obtain⟨c,c,f,h⟩:=id ai;obtain⟨q,p⟩:=a9 f;refine gc ?_;refine aJ (kz gO n n i i (N+N+3) T ak C3 z _ _ wB ad G (h.1.mono aq) aq aq aq hn aq) ?_;rintro _ s ⟨rfl,d,c,k⟩;have l:=ai.kp c d (by rw[e1];omega);have o:=ay.join d (λb Y e=>by rw[e1]at e;omega);have m:=ax.trans c;clear q p f h ai ad d c ay ax;refine gc ?_;obtain⟨u,u,f,h⟩:=id l;obtain⟨q,p⟩:=a9 f;refine gc ?_;refine aJ (kz gO n n j i (N+N+3) T ak _ z _ _ s k hj (h.1.mono aq) aq aq aq hn aq) ?_;rintro _ s ⟨rfl,d,c,bu⟩;have bA:=o.join d (λb Y e=>by rw[e2]at e;omega);have bx:=m.trans c;clear q p f h l k d c o m;refine gc ?_;have b1:∀t r,sv (sv C3 i i z) j i z t r=Go.Hn.kB C i j a b (C i i/g) (C j i/g) z t r:=λt r=>by
  by_cases h1:t=j
  ·subst h1;have c3:C3 t r=C i i/g*C t r+-(C t i/g)*C i r:=by rw[eC,cJ]
   unfold sv Go.Hn.kB;rw[aa (show¬t=i by omega),ae F];by_cases S:i<=r
   ·rw[ae ⟨F,S⟩,aa aq,ae S,c3]
   ·rw[aa aq,aa aq,aa S,c3]
  ·by_cases h3:t=i
   ·subst h3;have c3:C3 t r=a*C t r+b*C j r:=by rw[eC,bZ _ _ h1,cJ]
    unfold sv Go.Hn.kB;rw[aa aq,ae F];by_cases S:t<=r
    ·rw[ae ⟨F,S⟩,ae S,c3]
    ·rw[aa aq,aa S,c3]
   ·have c3:C3 t r=C t r:=by rw[eC,bZ _ _ h1,bZ _ _ h3]
    unfold sv Go.Hn.kB;rw[aa aq,aa aq,aa h3,aa h1,c3]
 have c:∀t r,t<n->r<n->Bd N (Go.Hn.kB C i j a b (C i i/g) (C j i/g) z t r):=λt r d hr=>by
  unfold Go.Hn.kB;split
  ·split
   ·exact bz.emod aq
   ·rw[(a0 r aq).1,(a0 r aq).2,Int.mul_zero,Int.mul_zero];exact Bd.zero N
  ·split
   ·split
    ·exact bz.emod aq
    ·rw[(a0 r aq).1,(a0 r aq).2,Int.mul_zero,Int.mul_zero];exact Bd.zero N
   ·exact bC t r d hr
 exact n6 F ⟨F,bA,bx,T,ak,_,e3,(bu.congr λt r _ _=>⟨aD,b1 t r⟩).tight c,.inr ⟨a,b,_,_,g,a1,bt,ex,ey,eg.symm,rfl⟩⟩
def EB(N:Nat)(cn:Bool):World->Value->Value->Int->Prop:=λw x y z=>EV w N cn x y z
def dZ(w:World)(gO r i c:Nat)(gs:Nat->Nat)(cn:Bool)(NN:Nat)(aI:Nat->Nat->Int):Prop:=
 eO 27 w gO r i c gs/\(∀k,k<i->dk w (gs k) c cn (λ_=>NN) (aI k)/\gO<gs k)/\(∀k b,k<i->b<i->gs k=gs b->k=b)
section
variable {w w':World}{gO r i c NN:Nat}{gs:Nat->Nat}{cn:Bool}{aI F':Nat->Nat->Int}
theorem dZ.Y(h:dZ w gO r i c gs cn NN aI)(b:Ext w w'):dZ w' gO r i c gs cn NN aI:=
 ⟨h.1.Y b,λk a=>⟨(h.2.1 k a).1.Y b,(h.2.1 k a).2⟩,h.2.2⟩
theorem dZ.congr(h:dZ w gO r i c gs cn NN aI)(e:∀k j,k<i->j<c->aI k j=F' k j):dZ w gO r i c gs cn NN F':=
 ⟨h.1,λk a=>⟨(h.2.1 k a).1.congr λj b=>⟨aD,e k j a b⟩,(h.2.1 k a).2⟩,h.2.2⟩
theorem dZ.lt(h:dZ w gO r i c gs cn NN aI):gO<w.heap.size/\∀k,k<i->gs k<w.heap.size:=⟨h.1.lt,λk a=>(h.2.1 k a).1.lt⟩
theorem dZ.put{k j N:Nat}{z:Int}(h:dZ w gO r i c gs cn NN aI)(f:k<i)(b:N<=NN)(m:dk w' (gs k) c cn (cZ (λ_=>NN) j N) (fR (aI k) j z))(g:Ch (λb=>b=gs k) w w')(l:Kp w w'):dZ w' gO r i c gs cn NN (dM aI k j z):=by
 refine⟨h.1.kp g (λe=>by have:=(h.2.1 k f).2;omega),λd a=>⟨?_,(h.2.1 d a).2⟩,h.2.2⟩;by_cases e:d=k
 ·subst e;refine m.congr λq _=>⟨?_,?_⟩
  ·simp only[cZ];split<;>omega
  ·simp only[dM,fR];by_cases b:q=j
   ·rw[ae b,ae ⟨trivial,b⟩]
   ·rw[aa b,aa λh=>b h.2]
 ·rw[m8 aI j z e];exact(h.2.1 d a).1.kp l g λb=>e (h.2.2 d k a f b)
theorem dZ.add{g:Nat}(h:dZ w gO r i c gs cn NN aI)(m:eO 27 w' gO r (i+1) c (cZ gs i g))(f:∀k,k<i->gs k<g)(a:dk w' g c cn (λ_=>NN) (aI i))(l:gO<g)(n:Ch (λb=>b=gO) w w')(j:Kp w w'):dZ w' gO r (i+1) c (cZ gs i g) cn NN aI:=by
 refine⟨m,λk b=>?_,λk d b b e=>?_⟩
 ·by_cases e:k=i
  ·subst e;simp only[cZ,if_true];exact⟨a,l⟩
  ·simp only[cZ,aa e];obtain⟨b,a⟩:=h.2.1 k aq;exact⟨b.kp j n aq,a⟩
 ·simp only[cZ]at e;split at e<;>split at e
  ·omega
  ·have:=f d aq;omega
  ·have:=f k aq;omega
  ·exact h.2.2 k d aq aq e
theorem dZ.gm(h:dZ w gO r r c gs cn NN aI)(b:c<9223372036854775808):bO w gO gs (λ_=>c) r c cn (λ_ _=>NN) aI:=
 ⟨h.1.full,λk a=>(h.2.1 k a).1.rg (Nat.le_refl c) b,λk a=>by have:=(h.2.1 k a).2;omega,λi j b a e=>h.2.2 i j b a e⟩
end
def JW(w:World)(r c N:Nat)(cn:Bool)(M:Nat->Nat->Int)(v:Value)(w':World):Prop:=
 Ext w w'/\∃gO gs,v=.slice (some ⟨gO,0,none⟩) c c/\w.heap.size<=gO/\(∀i,i<c->w.heap.size<=gs i)/\bO w' gO gs (λ_=>r) c r cn (λ_ _=>N) λj i=>M i j
theorem nC(v:Value)(r c N:Nat)(cn:Bool)(M:Nat->Nat->Int)(w:World)(h:cO (EB N cn) w v r (λ_=>c) M)(x:1<=r)(x:r<=1048576)(x:1<=c)(x:c<=1048576):
 aT Tryz.prog 83 #[v] w (JW w r c N cn M):=by
 obtain⟨R,E,x,e,x,g⟩:=h.at (show 0<r by omega);subst e;obtain⟨_,_,e,x,x,G⟩:=id h;cases e;obtain⟨x,x,rfl,_,_,_⟩:=id g;refine bF (n:=43) Tryz.func83 F rfl aw aA ?_;refine gc ?_;refine cF dF (.inl F) F rfl aD aq aq ?_;intro P x C A;obtain⟨gO,O⟩ : ∃g,g=w.heap.size:=⟨_,F⟩;rw[<-O]at x⊢;have d:dZ P gO c 0 r (λ_=>0) cn N (λk j=>if k<0 then M j k else 0):=⟨iz x,λk y=>absurd y aq,λk g y=>absurd y aq⟩;clear x A;refine gc ?_;refine aX (λf w'=>∃gs,f 3=.slice (some ⟨gO,0,none⟩) c c/\Ext w w'/\(∀i,i<c->w.heap.size<=gs i)/\bO w' gO gs (λ_=>r) c r cn (λ_ _=>N) λj i=>M i j) ?_ ?_
 ·refine gc ?_;refine aU (λm f w'=>∃j gs,m=c-j/\j<=c/\f 0=.slice (some R) r E/\f 3=.slice (some ⟨gO,0,none⟩) c c/\f 13=.int .i64 (c:Int)/\f 14=.int .i64 ((j:Nat):Int)/\Ext w w'/\dZ w' gO c j r gs cn N λk q=>if k<j then M q k else 0)
   c ⟨0,λ_=>0,rfl,aE,rfl,rfl,rfl,rfl,C,d⟩ ?_
  clear C d;rintro m f z ⟨j,gs,rfl,g,t,s,o,l,a,d⟩;rw[ui t,ui s,ui o,ui l];clear t s o l;by_cases u:j<c;rotate_left
  ·obtain rfl:j=c:=aq;refine gc ?_;exact⟨gs,F,a,λi U=>by have:=(d.2.1 i U).2;omega,(d.congr (λk q y _=>by rw[ae y])).gm aq⟩
  refine gc ?_;refine cF eE (.inl F) F rfl aD aq aq ?_;intro g P g W;refine gc ?_;refine eY (aW F) (.inl F) F rfl (d.1.Y g) u ?_;intro Y ⟨_,O⟩ x A V;have T:=d.lt;have Z:=a.size;have B:dZ Y gO c (j+1) r (cZ gs j z.heap.size) cn N (λk q=>if k<j then M q k else 0):=
   (d.Y g).add (O F) T.2 (((ff cn N P).kp A x aq).congr λq _=>⟨aD,by rw[aa aq]⟩) T.1 x A
  have L:=x.aK (a.trans g) λb hb=>aq;have T:w.heap.size<=z.heap.size:=Z;clear a d P g W O x A V;generalize S:cZ gs j z.heap.size=D at B;have g:D j=z.heap.size:=by rw[<-S];simp[cZ]
  refine gc ?_;refine aU (λm f w'=>∃i,m=r-i/\i<=r/\f 0=.slice (some R) r E/\f 3=.slice (some ⟨gO,0,none⟩) c c/\f 13=.int .i64 (c:Int)/\f 14=.int .i64 (j:Int)/\f 4=.int .i64 (j:Int)/\f 23=.slice (some R) r E/\f 24=.int .i64 (r:Int)/\f 25=.int .i64 ((i:Nat):Int)/\Ext w w'/\dZ w' gO c (j+1) r D cn N λk q=>if k<j\/k=j/\q<i then M q k else 0)
   r ⟨0,F,aE,F,F,F,F,F,F,F,F,L,B.congr λk q _ _=>?_⟩ ?_
  ·by_cases p:k<j
   ·rw[ae p,ae (.inl p)]
   ·rw[aa p,aa aq]
  clear L B;rintro m f Q ⟨i,rfl,U,t,s,o,l,A,x,m,g,a,d⟩;rw[ui t,ui s,ui o,ui l,ui A,ui x,ui m,ui g];clear t s o l A x m g;by_cases K:i<r;rotate_left
  ·obtain rfl:i=r:=aq;refine gc ?_;refine⟨_,?_,j+1,D,F,u,F,F,F,F,a,d.congr λk q y g=>?_⟩
   ·omega
   ·by_cases p:k<j+1
    ·rw[ae p,ae aq]
    ·omega
  obtain⟨_,_,g,e,hu,J⟩:=h.at K;cases e;obtain⟨g,g,_,_,rfl,_,_,_⟩:=J.at (show 0<c by omega);obtain⟨_,_,x1,X,e,I,H,ct⟩:=J.at u;cases e;have g:=aS a hu;have a:Ext w Q:=a;refine gc ?_;clear g;have g:Ext Q Q:=Ext.refl _;refine gc ?_;refine c8 [(0,3),(1,3),(2,3),(3,0),(4,3),(5,3),(6,3),(7,3),(8,0),(9,3),(10,2)] mixed aw λl l _=>?_;replace g:=g.trans l;replace a:=a.trans l;clear l;replace I:=aS a I;replace H:=aS a H;have fg:EV _ N cn x1 X (M i j):=EV.Y ct a;have l:=(d.Y g).1.at (show j<j+1 by omega) u;have G:=((d.Y g).2.1 j aq).1;refine gc ?_;refine dW (.inl F) F rfl G K fg ?_;intro l o l m s;have s:=(d.Y g).put (show j<j+1 by omega) aD o l m;have g:=l.aK a λb hb=>aq;refine gc ?_;refine⟨_,?_,i+1,F,aq,F,F,F,F,F,F,F,F,g,s.congr λk q _ _=>?_⟩
  ·omega
  ·simp only[dM];by_cases e:k=j/\q=i
   ·obtain⟨rfl,rfl⟩:=e;rw[ae ⟨F,F⟩,ae aq]
   ·rw[aa e];by_cases p:k<j\/k=j/\q<i
    ·rw[ae p,ae aq]
    ·rw[aa p,aa aq]
 clear C d;rintro f z ⟨gs,d,a,b,e⟩;rw[ui d];refine gc ?_;exact cI F rfl ⟨a,gO,gs,F,aq,b,e⟩
def JS(w:World)(l n N:Nat)(L:Nat->Nat)(C:Nat->Nat->Int)(v:Value)(w':World):Prop:=
 Ext w w'/\∃a b,v=.slice (some ⟨a,0,none⟩) l l/\w.heap.size<=a/\(∀i,i<l->w.heap.size<=b i)/\bO w' a b (λ_=>n) l n true (λ_ _=>N) λk j=>C j (L k)
theorem ni(v g:Value)(n m l N:Nat)(L:Nat->Nat)(C:Nat->Nat->Int)(w:World)(h:cO (EI N) w v n (λ_=>m) C)(J:kq w g l L)(a5:∀k,k<l->L k<m)(W:1<=n)(W:n<=1048576)(W:1<=l)(W:l<=1048576)(_hm:m<=1048576)(hN:N<17592186044416):
 aT Tryz.prog 65 #[v,g] w (JS w l n N L C):=by
 obtain⟨Z,P,g,e,g,g⟩:=h.at (show 0<n by omega);subst e;obtain⟨_,_,e,g,g,Q⟩:=id h;cases e;obtain⟨g,t,rfl,g,g,R⟩:=id J;obtain⟨S,e,_⟩:=R 0 aq;subst e;refine bF (n:=47) Tryz.func65 F rfl aw aA ?_;refine gc ?_;refine cF fU (.inl F) F rfl aD aq aq ?_;intro w2 J M W;obtain⟨s,X⟩ : ∃g,g=w.heap.size:=⟨_,F⟩;rw[<-X]at J⊢;have c:dZ w2 s l 0 n (λ_=>0) true N (λk j=>if k<0 then C j (L k)else 0):=⟨iz J,λk x=>absurd x aq,λk g x=>absurd x aq⟩;clear J W;refine gc ?_;refine aX (λf u=>∃r,f 5=.slice (some ⟨s,0,none⟩) l l/\Ext w u/\(∀i,i<l->w.heap.size<=r i)/\bO u s r (λ_=>n) l n true (λ_ _=>N) λk j=>C j (L k)) ?_ ?_
 ·refine gc ?_;refine aU (λq f u=>∃i r,q=l-i/\i<=l/\f 0=.slice (some Z) n P/\f 1=.slice (some S) l t/\f 5=.slice (some ⟨s,0,none⟩) l l/\f 12=.slice (some S) l t/\f 13=.int .i64 (l:Int)/\f 14=.int .i64 ((i:Nat):Int)/\Ext w u/\dZ u s l i n r true N λk j=>if k<i then C j (L k)else 0)
   l ⟨0,λ_=>0,rfl,aE,rfl,rfl,rfl,rfl,rfl,rfl,M,c⟩ ?_
  clear M c;rintro q f G ⟨i,r,rfl,g,D,B,A,p,o,d,a,c⟩;rw[ui D,ui B,ui A,ui p,ui o,ui d];clear D B A p o d;by_cases z:i<l;rotate_left
  ·obtain rfl:i=l:=aq;refine gc ?_;exact⟨r,F,a,λk x=>by have:=(c.2.1 k x).2;omega,(c.congr (λk j x _=>by rw[ae x])).gm aq⟩
  obtain⟨_,e,E⟩:=R i z;cases e;replace E:=aS a E;refine gc ?_;clear E;refine cF eE (.inl F) F rfl aD aq aq ?_;intro g X g a4;refine gc ?_;refine eY (aW F) (.inl F) F rfl (c.1.Y g) z ?_;intro w5 ⟨_,W⟩ E J a3;have R:=c.lt;have hx:=a.size;have K:dZ w5 s l (i+1) n (cZ r i G.heap.size) true N (λk j=>if k<i then C j (L k)else 0):=
   (c.Y g).add (W F) R.2 (((ff true N X).kp J E aq).congr λq _=>⟨aD,by rw[aa aq]⟩) R.1 E J
  have V:=E.aK (a.trans g) λb hb=>aq;have R:w.heap.size<=G.heap.size:=hx;clear a c X g a4 W E J a3;generalize a2:cZ r i G.heap.size=O at K;have g:O i=G.heap.size:=by rw[<-a2];simp[cZ]
  refine gc ?_;refine aU (λq f u=>∃j,q=n-j/\j<=n/\f 0=.slice (some Z) n P/\f 1=.slice (some S) l t/\f 5=.slice (some ⟨s,0,none⟩) l l/\f 12=.slice (some S) l t/\f 13=.int .i64 (l:Int)/\f 14=.int .i64 (i:Int)/\f 6=.int .i64 (i:Int)/\f 7=.int .i64 (((L i):Nat):Int)/\f 25=.slice (some Z) n P/\f 26=.int .i64 (n:Int)/\f 27=.int .i64 ((j:Nat):Int)/\Ext w u/\dZ u s l (i+1) n O true N λk q=>if k<i\/k=i/\q<j then C q (L k)else 0)
   n ⟨0,F,aE,F,F,F,F,F,F,F,F,F,F,F,V,K.congr λk q _ _=>?_⟩ ?_
  ·by_cases y:k<i
   ·rw[ae y,ae (.inl y)]
   ·rw[aa y,aa aq]
  clear V K;rintro q f Y ⟨j,rfl,g,D,B,A,p,o,d,J,E,u,t,g,a,c⟩;rw[ui D,ui B,ui A,ui p,ui o,ui d,ui J,ui E,ui u,ui t,ui g];clear D B A p o d J E u t g;by_cases U:j<n;rotate_left
  ·obtain rfl:j=n:=aq;refine gc ?_;refine⟨_,?_,i+1,O,F,z,F,F,F,F,F,F,a,c.congr λk q x d=>?_⟩
   ·omega
   ·by_cases y:k<i+1
    ·rw[ae y,ae aq]
    ·omega
  obtain⟨_,_,d,e,hu,T⟩:=h.at U;cases e;have d:=a5 i z;obtain⟨g,g,_,_,rfl,_,_,_⟩:=T.at d;obtain⟨_,_,x1,y1,e,I,H,ct⟩:=T.at d;cases e;have a:Ext w Y:=a;refine gc ?_;have g:Ext Y Y:=Ext.refl _;refine gc ?_;refine c8 [(0,3),(1,3),(2,3),(3,0),(4,3),(5,3),(6,3),(7,3),(8,0),(9,3),(10,3),(11,0),(12,1),(13,3),(14,2)] mixed aw λo d _=>?_;replace g:=g.trans d;replace a:=a.trans d;clear d;have p:=aS a hu;replace I:=aS a I;replace H:=aS a H;have fg:IV o N x1 y1 (C j (L i)):=IV.Y ct a;have u:Bd N (C j (L i)):=fg.bd;have t:=(c.Y g).1.at (show i<i+1 by omega) z;refine gc ?_;refine gc ?_;refine aM (mq _ _ _ N o fg hN) ?_;rintro _ o ⟨d,o,o,rfl,hm⟩;refine⟨d,?_⟩;replace g:=g.trans d;replace a:=a.trans d;clear d;clear t p I H;have Q:=((c.Y g).2.1 i aq).1;refine gc ?_;refine dW (.inl F) F rfl Q U (hm.ev true u) ?_;intro d p d o t;have t:=(c.Y g).put (show i<i+1 by omega) aD p d o;have g:=d.aK a λb hb=>aq;refine gc ?_;refine⟨_,?_,j+1,F,aq,F,F,F,F,F,F,F,F,F,F,F,g,t.congr λk q _ _=>?_⟩
  ·omega
  ·simp only[dM];by_cases e:k=i/\q=j
   ·obtain⟨rfl,rfl⟩:=e;rw[ae ⟨F,F⟩,ae aq]
   ·rw[aa e];by_cases y:k<i\/k=i/\q<j
    ·rw[ae y,ae aq]
    ·rw[aa y,aa aq]
 clear M c;rintro f G ⟨r,c,a,b,d⟩;rw[ui c];refine gc ?_;exact cI F rfl ⟨a,s,r,F,aq,b,d⟩
