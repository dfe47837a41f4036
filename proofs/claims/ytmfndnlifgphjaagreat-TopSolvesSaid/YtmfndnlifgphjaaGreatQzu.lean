import Derived.Test.YtmfndnlifgphjaaGreatQzt
set_option maxHeartbeats 64000000
open Go.Proofs.YtmfndnlifgphjaaGreat
namespace Go.Proofs.Qq
section
open Go Go.cU Go.cV Go.Proofs
theorem Bd.emod{N:Nat}{a b:Int}(c:Bd N b)(c:b≠0):Bd N (a%b):=by
 have d:=Int.emod_nonneg a c;have d:=Int.emod_lt a c;unfold Bd at*;omega
theorem DP(k e i c:Value)(f a:Int)(N:Nat)(w:World)(h1:IV w N k e f)(p:IV w N i c a)(t:N<68719476736)(o:a≠0):
 aT Tryz.prog 82 #[.agg #[k,e],.agg #[i,c]] w (RI w (f%a)):=by
 refine bF (n:=16) Tryz.func82 F rfl aw aA ?_;refine gg ?_;refine aZ (v:=.agg _) (.inl F) F ?_;intro c s i c;refine gg ?_;refine aZ (v:=.agg _) (.inl F) F ?_;intro m r e c;refine gg ?_;refine aR (.inl F) a_ ?_;intro k q c u;have h:Bx k m.heap.size 1 true 0:=Bx.zero true q;obtain⟨q,q⟩ : ∃g,g=m.heap.size:=⟨_,F⟩;rw[<-q]at h⊢;have b:=i.trans (e.trans c);obtain⟨A,z⟩:=a9 (s.Y (e.trans c));obtain⟨y,x⟩:=a9 (r.Y c);have c:=b.size;have c:=(i.trans e).size;refine gg ?_;refine aJ (pI _ _ _ _ _ _ N k (h1.Y b) (p.Y b) t) ?_;intro v l j;unfold HA at j;rw[aa o]at j;obtain⟨d,c,c,c,c,rfl,s,r⟩:=j;have q:Bd N (f/a):=Bd.ediv (IV.bd h1);have m:Bd N (f%a):=Bd.emod (IV.bd p) o;have a:=d.size;refine gg ?_;refine aR (.inl F) a_ ?_;intro a k i c;have c:Bx a l.heap.size 1 true 0:=Bx.zero true k;obtain⟨e,e⟩ : ∃g,g=l.heap.size:=⟨_,F⟩;rw[<-e]at c⊢;refine gg ?_;refine aR (.inl F) a_ ?_;intro l j e f;have f:Bx l a.heap.size 1 true 0:=Bx.zero true j;obtain⟨l,l⟩ : ∃g,g=a.heap.size:=⟨_,F⟩;rw[<-l]at f⊢;have a:=i.size;have a:=i.trans e;clear k j;refine gg ?_;refine aL (.inl F) F rfl (c.Y e) ((s.Y a).ev true q) ?_;intro c c e c g;refine gg ?_;refine aL (.inl F) F rfl (f.kp c e aq) (((r.Y a).kp c).ev true m) ?_;intro i k f j g;have g:Ext w i:=f.aK (e.aK (b.trans (d.trans a)) λb i=>aq) λb i=>aq;have l:=((h.Y (d.trans a)).kp c e aq).kp j f aq;obtain⟨u,v,c,a⟩:=id k;obtain⟨d,d⟩:=a9 c;clear A z y x;refine gg ?_;refine aL (.inl F) F rfl l a ?_;intro a d e a a;obtain⟨a,a,c,a⟩:=d;refine gg ?_;exact dO F aN F c ⟨e.aK g λb i=>aq,_,_,F,a.2 F⟩
theorem DU(U t y g:Value)(J E:Int)(N:Nat)(w:World)(h1:IV w N U t J)(h2:IV w N y g E)(hN:N<68719476736):
 aT Tryz.prog 62 #[.agg #[U,t],.agg #[y,g]] w (RI w ((Int.gcd J E:Nat):Int)):=by
 refine bF (n:=19) Tryz.func62 F rfl aw aA ?_;refine gg ?_;refine aZ (v:=.agg _) (.inl F) F ?_;intro g X U g;refine gg ?_;refine aZ (v:=.agg _) (.inl F) F ?_;intro w2 W y g;refine gg ?_;refine aR (.inl F) a_ ?_;intro g V t a1;have D:Bx g w2.heap.size 1 true 0:=Bx.zero true V;obtain⟨u,a1⟩ : ∃g,g=w2.heap.size:=⟨_,F⟩;rw[<-a1]at D⊢;have B:=U.trans (y.trans t);have Z:=(U.trans y).size;have a0:=D.lt;refine gg ?_;refine iq [(0,0),(2,0)] [(1,[],[]),(4,[],[]),(5,[],[]),(3,[],[1])] [(6,2),(7,2)] mixed aw λw9 i _=>?_;obtain⟨f0,f1⟩:=a9 (X.Y (y.trans (t.trans i)));obtain⟨f2,f3⟩:=a9 (W.Y (t.trans i));have p:=B.trans i;refine gg ?_;refine dT [(1,[]),(3,[])] [fA 4 5 35 (.agg #[.bool false,.slice none 0 0]),fA 5 6 35 (.agg #[.bool false,.slice none 0 0])] [8,10,5,6] aw (λa Y f' d _ _=>by
  rcases List.mem_cons.1 Y with rfl|Y
  ·exact b_ a_ F f' d
  ·rcases List.mem_singleton.1 Y with rfl;exact b_ a_ F f' d) ?_
 refine cT λg o=>?_;refine gg ?_;refine aM (yt _ _ _ N g (h1.Y (p.trans o)) aq) ?_;rintro _ g ⟨l,g,g,rfl,T⟩;refine⟨l,?_⟩;refine gg ?_;refine cT λg k=>?_;refine gg ?_;refine aM (yt _ _ _ N g (h2.Y (p.trans (o.trans (l.trans k)))) aq) ?_;rintro _ g ⟨c,g,g,rfl,S⟩;refine⟨c,?_⟩;refine gg ?_;refine fM λg j e q G=>?_;obtain⟨s,P⟩:=q _ aG;obtain⟨r,O⟩:=q _ (List.mem_cons_of_mem _ aG);have C:e 5≠e 6:=G _ _ aG (List.mem_cons_of_mem _ aG) (show(5:Nat)≠6 by decide);have M:Bx g (e 5) 1 true 0:=Bx.zero true P;have L:Bx g (e 6) 1 true 0:=Bx.zero true O;have s:w9.heap.size<=e 5:=s;have r:w9.heap.size<=e 6:=r;show Ro _ _ _ _ _ _ (bS (bS _ 6 (.pointer (some ⟨e 6,0,none⟩))) 5 (.pointer (some ⟨e 5,0,none⟩))) _;generalize e 5=I at*;generalize e 6=K at*;clear P O q G f0 f1 f2 f3;have b1:Bd N (J.natAbs:Int):=by have:=IV.bd h1;unfold Bd at *;omega
 have b2:Bd N (E.natAbs:Int):=by have:=IV.bd h2;unfold Bd at *;omega
 have Y:=i.size;have P:=B.size;refine gg ?_;refine aL (.inl F) F rfl M ((T.Y (k.trans (c.trans j))).ev true b1) ?_;intro e h q e O;refine gg ?_;refine aL (.inl F) F rfl (L.kp e q C.symm) (((S.Y j).kp e).ev true b2) ?_;intro U x g y G;have h:=h.kp y g C;have t:=o.trans (l.trans (k.trans (c.trans j)));have z:=((D.Y (i.trans t)).kp e q aq).kp y g aq;have A:Ext w U:=g.aK (q.aK (p.trans t) λb Q=>aq) λb Q=>aq;have U:w.heap.size<=u/\w.heap.size<=I/\w.heap.size<=K/\u≠I/\u≠K:=aq;clear t e q y g O G M L j c k l o i s r T S Y P a0 Z B p D X W V;obtain⟨G,H⟩ : ∃G,G=Int.gcd J E:=⟨_,F⟩;rw[<-H];refine gg ?_;refine aX (λf d=>f 4=.pointer (some ⟨u,0,none⟩)/\f 5=.pointer (some ⟨I,0,none⟩)/\f 6=.pointer (some ⟨K,0,none⟩)/\Ext w d/\Bx d u 1 true 0/\Bx d I N true (G:Int)) ?_ ?_
 ·refine gg ?_;refine aU (λm f d=>∃a b:Nat,m=b/\f 4=.pointer (some ⟨u,0,none⟩)/\f 5=.pointer (some ⟨I,0,none⟩)/\f 6=.pointer (some ⟨K,0,none⟩)/\Ext w d/\Bx d u 1 true 0/\Bx d I N true (a:Int)/\Bx d K N true (b:Int)/\G=Nat.gcd a b)
   E.natAbs ⟨J.natAbs,E.natAbs,F,F,F,F,A,z,h,x,H⟩ ?_
  clear A z h x H b1 b2;rintro m f R ⟨a,b,rfl,j,i,g,y,t,h,x,H⟩;rw[ui j,ui i,ui g];clear j i g;obtain⟨u,v,p,k⟩:=id x;obtain⟨s,r⟩:=a9 p;refine aP ?_;refine aP ?_;refine gg ?_;refine aJ (h_ _ _ _ N R k.1 aq) ?_;rintro _ B ⟨d,rfl⟩;clear s r;by_cases c:m=0
  ·have e:(m:Int).sign=0:=by rw[c];rfl
   refine gg ?_;refine⟨F,F,F,y.trans d,t.Y d,?_⟩;rw[H,c,Nat.gcd_zero_right];exact h.Y d
  ·have e:¬(m:Int).sign=0:=λe=>c (by have:=Int.sign_eq_zero_iff_zero.1 e;omega);refine gg ?_;refine c8 [(0,0),(1,0),(2,0),(3,1),(4,2),(5,2)] mixed aw λl e _=>?_;have c:=d.trans e;obtain⟨u,v,p,k⟩:=x.Y c;obtain⟨s,r⟩:=a9 p;obtain⟨d,d,e,d⟩:=h.Y c;obtain⟨D,o⟩:=a9 e;refine gg ?_;refine aM (DP _ _ _ _ _ _ N l d.1 k.1 hN aq) ?_;rintro _ d ⟨d,c1,c2,rfl,l⟩;refine⟨d,?_⟩;have q:Bd N ((a:Int)%(m:Int)):=Bd.emod k.bd aq;have e:(a:Int)%(m:Int)=((a%m:Nat):Int):=aq;rw[e]at l q;clear s r D o;refine gg ?_;refine aL (.inl F) F rfl (h.Y (c.trans d)) (k.Y d) ?_;intro e E o e D;refine gg ?_;refine aL (.inl F) F rfl ((x.Y (c.trans d)).kp e o C.symm) ((l.kp e).ev true q) ?_;intro l D l q G;refine gg ?_;refine⟨a%m,Nat.mod_lt _ aq,m,a%m,F,F,F,F,l.aK (o.aK (y.trans (c.trans d)) λb Q=>aq) λb Q=>aq,((t.Y (c.trans d)).kp e o aq).kp q l aq,E.kp q l C,D,?_⟩;rw[H,Nat.gcd_comm a,Nat.gcd_rec,Nat.gcd_comm]
 clear A z h x;rintro f R ⟨j,i,g,y,t,h⟩;rw[ui j,ui i,ui g];clear j i g;obtain⟨u,v,p,k⟩:=id h;obtain⟨s,r⟩:=a9 p;refine gg ?_;refine aL (.inl F) F rfl t k ?_;intro B a c d d;obtain⟨d,d,e,d⟩:=a;refine gg ?_;exact dO F aN F e ⟨c.aK y λb Q=>aq,_,_,F,d.2 F⟩
theorem mr(n d:Int):fF n d∣n:=by
 unfold fF;split
 ·exact Int.neg_dvd.2 (Int.gcd_dvd_left ..)
 ·exact Int.gcd_dvd_left ..
theorem ld(n d:Int):fF n d∣d:=by
 unfold fF;split
 ·exact Int.neg_dvd.2 (Int.gcd_dvd_right ..)
 ·exact Int.gcd_dvd_right ..
theorem Bw(n d:Int):ic n d*fF n d=n:=Int.ediv_mul_cancel (mr n d)
theorem uK(n d:Int):fL n d*fF n d=d:=Int.ediv_mul_cancel (ld n d)
theorem j9{n d:Int}:ic n d*d=n*fL n d:=by
 have a:=Bw n d;have b:=uK n d;generalize ic n d=x at*;generalize fL n d=y at*;generalize fF n d=g at*;subst a b;grind
theorem j_{n d:Int}(h:d≠0):0<fL n d:=by
 have c:=uK n d;have f:Int.gcd n d≠0:=λe=>h (Int.gcd_eq_zero_iff.1 e).2;by_cases b:d<0
 ·have e:fF n d=-((Int.gcd n d:Nat):Int):=by unfold fF;rw[ae b]
  rcases Int.lt_trichotomy (fL n d) 0 with a|a|a
  ·exfalso;have:=Int.mul_nonneg_of_nonpos_of_nonpos (Int.le_of_lt a) (show fF n d<=0 by omega);omega
  ·rw[a,Int.zero_mul]at c;omega
  ·exact a
 ·have e:fF n d=((Int.gcd n d:Nat):Int):=by unfold fF;rw[aa b]
  rcases Int.lt_trichotomy (fL n d) 0 with a|a|a
  ·exfalso;have:=Int.mul_nonpos_of_nonpos_of_nonneg (Int.le_of_lt a) (show 0<=fF n d by omega);omega
  ·rw[a,Int.zero_mul]at c;omega
  ·exact a
theorem pO{n d:Int}{N:Nat}(h1:Bd N n)(a:Bd N d):Bd N (ic n d)/\Bd N (fL n d):=⟨h1.ediv,a.ediv⟩
theorem pG(h t f r:Value)(k a:Int)(N:Nat)(w:World)(h1:IV w N h t k)(J:IV w N f r a)(Y:N<68719476736)(hz:a≠0):
 aT Tryz.prog 37 #[.agg #[h,t],.agg #[f,r]] w λv C=>∃u,v=.tuple #[u,.bool true]/\CX w (ic k a) (fL k a) u C:=by
 refine bF (n:=28) Tryz.func37 F rfl aw aA ?_;refine gg ?_;refine aZ (v:=.agg _) (.inl F) F ?_;intro p U B E;have j:Bx p w.heap.size N false k:=⟨h,t,U,(h1.Y B),λe=>by cases e⟩;obtain⟨K,S⟩ : ∃g,g=w.heap.size:=⟨_,F⟩;rw[<-S]at j⊢;refine gg ?_;refine aZ (v:=.agg _) (.inl F) F ?_;intro W T A a3;have c:Bx W p.heap.size N false a:=⟨f,r,T,(J.Y (B.trans A)),λe=>by cases e⟩;obtain⟨J,R⟩ : ∃g,g=p.heap.size:=⟨_,F⟩;rw[<-R]at c⊢;refine gg ?_;refine aR (.inl F) kV ?_;intro w3 h f a0;have p:bh w3 W.heap.size 42 #[.bool false,.slice none 0 0,.bool false,.slice none 0 0]:=h;obtain⟨u,Q⟩ : ∃g,g=W.heap.size:=⟨_,F⟩;rw[<-Q]at p⊢;clear U T h;replace j:=j.Y (A.trans f);replace c:=c.Y f;have h:=B.trans (A.trans f);have W:=B.size;have U:=A.size;have T:=f.size;have hd:w.heap.size<=K/\w.heap.size<=J/\w.heap.size<=u/\K≠J/\K≠u/\J≠u:=aq;clear W U T E a3 a0 S R Q B A f;obtain⟨O,M,i,d⟩:=id c;obtain⟨y,l⟩:=a9 i;refine gg ?_;refine aP ?_;refine gg ?_;refine aJ (h_ _ _ _ N w3 d.1 aq) ?_;rintro _ A ⟨f,rfl⟩;have a6:¬a.sign=0:=λe=>hz (Int.sign_eq_zero_iff_zero.1 e);clear y l i d;replace j:=j.Y f;replace c:=c.Y f;replace p:=p.Y f;replace h:=h.trans f;refine gg ?_;obtain⟨s,x⟩ : ∃s:Int,s=if a<0 then -1 else 1:=⟨_,F⟩;refine aX (λf C=>f 2=.pointer (some ⟨K,0,none⟩)/\f 3=.pointer (some ⟨J,0,none⟩)/\f 4=.pointer (some ⟨u,0,none⟩)/\Ext w C/\Bx C K N false (s*k)/\Bx C J N false (s*a)/\bh C u 42 #[.bool false,.slice none 0 0,.bool false,.slice none 0 0]) ?_ ?_
 ·obtain⟨O,M,i,d⟩:=id c;obtain⟨y,l⟩:=a9 i;refine gg ?_;refine aJ (h_ _ _ _ N A d.1 aq) ?_;rintro _ w5 ⟨A,rfl⟩;clear y l i d;by_cases B:a<0
  ·have Q:a.sign<0:=by rw[Int.sign_eq_neg_one_of_neg B];decide
   rw[ae B]at x;refine gg ?_;refine c8 [(0,0),(2,0),(1,1),(3,1),(4,2),(5,2)] mixed aw λI H _=>?_;have C:=A.trans H;obtain⟨u1,v1,m,o⟩:=j.Y C;obtain⟨P,D⟩:=a9 m;obtain⟨O,M,i,d⟩:=c.Y C;obtain⟨y,l⟩:=a9 i;refine gg ?_;refine aM (oV _ _ _ N I o.1 aq) ?_;rintro _ V ⟨z,a1,b1,rfl,G⟩;refine⟨z,?_⟩;refine gg ?_;refine aM (oV _ _ _ N V (d.1.Y z) aq) ?_;rintro _ w8 ⟨q,u,b2,rfl,K⟩;refine⟨q,?_⟩;have u:=C.trans (z.trans q);clear P D y l;refine gg ?_;refine aL (.inl F) F rfl (j.Y u) ((G.Y q).ev false o.bd.Gy) ?_;intro Z S J C R;refine gg ?_;refine aL (.inl F) F rfl ((c.Y u).kp C J aq) ((K.kp C).ev false d.bd.Gy) ?_;intro L R C K T;refine gg ?_;refine⟨F,F,F,C.aK (J.aK (h.trans u) λb X=>aq) λb X=>aq,?_,?_,((p.Y u).ch J aq).ch C aq⟩
   ·rw[x,Int.neg_mul,Int.one_mul];exact S.kp K C aq
   ·rw[x,Int.neg_mul,Int.one_mul];exact R
  ·have Q:¬a.sign<0:=by rw[Int.sign_eq_one_of_pos (show 0<a by omega)];decide
   rw[aa B]at x;refine gg ?_;refine⟨F,F,F,h.trans A,?_,?_,p.Y A⟩
   ·rw[x,Int.one_mul];exact j.Y A
   ·rw[x,Int.one_mul];exact c.Y A
 clear j c p h;rintro f w5 ⟨p,h,f,hE,j,c,hR⟩;rw[ui p,ui h,ui f];clear p h f;have E:s=1\/s=-1:=by rw[x];split<;>omega
 have f:0<s*a:=by
  rw[x];split
  ·rw[Int.neg_mul,Int.one_mul];omega
  ·rw[Int.one_mul];omega
 obtain⟨e1,e2⟩ : ic k a=ic (s*k) (s*a)/\fL k a=fL (s*k) (s*a):=by
  rcases E with rfl|rfl
  ·rw[Int.one_mul,Int.one_mul];exact⟨F,F⟩
  ·rw[Int.neg_mul,Int.one_mul,Int.neg_mul,Int.one_mul];have f:fF (-k) (-a)=- fF k a:=by
    unfold fF;have e:Int.gcd (-k) (-a)=Int.gcd k a:=by simp[Int.gcd]
    rw[e];by_cases h:a<0
    ·rw[aa aq,ae h];omega
    ·rw[ae aq,aa h]
   unfold ic fL;rw[f,Int.ediv_neg,Int.ediv_neg,Int.neg_ediv_of_dvd (mr k a),Int.neg_ediv_of_dvd (ld k a),Int.neg_neg,Int.neg_neg];exact⟨F,F⟩
 rw[e1,e2];generalize s*k=t at*;generalize s*a=r at*;clear e1 e2 E x a6;have a:fF t r=((Int.gcd t r:Nat):Int):=by unfold fF;rw[aa aq]
 obtain⟨u1,v1,m,o⟩:=id j;obtain⟨P,D⟩:=a9 m;obtain⟨O,M,i,d⟩:=id c;obtain⟨y,l⟩:=a9 i;refine gg ?_;refine aJ (DU _ _ _ _ _ _ N w5 o.1 d.1 Y) ?_;rintro _ I ⟨H,a1,b1,rfl,G⟩;have f:=BK (n:=t) (show r≠0 by omega) d.bd;rw[<-a]at G f;have a:=m.lt;have a:=i.lt;have a:=hR.lt;have a:=H.size;clear P D y l m i;refine gg ?_;refine aR (.inl F) a_ ?_;intro k h e p;have a:Bx k I.heap.size 1 true 0:=Bx.zero true h;obtain⟨A,k⟩ : ∃g,g=I.heap.size:=⟨_,F⟩;rw[<-k]at a⊢;refine gg ?_;refine aL (.inl F) F rfl a ((G.Y e).ev true f) ?_;intro V x f s g;have z:Ext I V:=f.aK e λb X=>aq;have u:I.heap.size<=A:=aq;clear a h e p g f s k;have e:=H.trans z;refine gg ?_;refine b7 [(0,0),(1,0),(3,0),(4,0),(2,1),(5,1),(6,3),(7,2),(8,3)] mixed aw λw8 q _=>?_;have a:=e.trans q;obtain⟨u1,v1,m,o⟩:=j.Y a;obtain⟨P,D⟩:=a9 m;obtain⟨O,M,i,d⟩:=c.Y a;obtain⟨y,l⟩:=a9 i;obtain⟨c,c,e,c⟩:=x.Y q;obtain⟨f,f⟩:=a9 e;refine gg ?_;refine aM (sk _ _ _ _ _ _ N w8 o.1 c.1 Y) ?_;rintro _ Z ⟨f,j,h,rfl,e⟩;refine⟨f,?_⟩;refine gg ?_;refine aM (sk _ _ _ _ _ _ N Z (d.1.Y f) (c.1.Y f) Y) ?_;rintro _ L ⟨c,i,g,rfl,d⟩;refine⟨c,?_⟩;have e:CV L j h (ic t r):=e.Y c;have d:CV L i g (fL t r):=d;have h:=hR.Y (a.trans (f.trans c));refine gg ?_;refine om F rfl ?_;refine gg ?_;refine kf dU (.inl F) F rfl e.db e.de d.db d.de h ar ?_;intro g j i g;have g:=cK h (ob ⟨_,F⟩ ⟨_,_,_,F⟩ ⟨_,F⟩ ⟨_,_,_,F⟩).jn i;refine gg ?_;exact A7 F dU F j F ⟨_,F,i.aK (hE.trans (a.trans (f.trans c))) λb X=>aq,_,_,_,_,F,e.kp g,d.kp g⟩
end
end Go.Proofs.Qq

namespace Go.Proofs.Qq
section
open Go Go.cU Go.cV Go.Proofs
open Go.bc (aQ)
theorem Bx.un{w:World}{g N:Nat}{cn:Bool}{z:Int}(h:Bx w g N cn z):Bx w g N false z:=by
 obtain⟨x,y,b,a⟩:=h;exact⟨x,y,b,a.1,λe=>by cases e⟩
end
end Go.Proofs.Qq
namespace Go.Hn
section
open Go.bc Go.Sm
def Lt(n:Nat)(w:Mt)(v:Nat->Int):Prop:=∃x:Nat->Int,∀r,r<n->v r=sm n λk=>w r k*x k
theorem Lt.congr{n:Nat}{w:Mt}{u v:Nat->Int}(h:Lt n w u)(e:∀r,r<n->u r=v r):Lt n w v:=by
 obtain⟨x,b⟩:=h;exact⟨x,λr a=>by rw[<-e r a,b r a]⟩
theorem Lt.kT{n:Nat}{w:Mt}{u v:Nat->Int}(h:Lt n w u)(g:Lt n w v)(a b:Int):Lt n w (λr=>a*u r+b*v r):=by
 obtain⟨x,e⟩:=h;obtain⟨y,d⟩:=g;refine⟨λk=>a*x k+b*y k,λr c=>?_⟩;show a*u r+b*v r=_;rw[e r c,d r c,<-e8];exact aO λk _=>aC
theorem Lt.Jm{n k:Nat}{w:Mt}(a:k<n):Lt n w (λr=>w r k):=by
 refine⟨λt=>if t=k then 1 else 0,λr _=>?_⟩;rw[cG (c:=k) a λt _ a=>by show w r t*(if t=k then 1 else 0)=0;rw[aa a,Int.mul_zero]];show w r k=w r k*(if k=k then 1 else 0);rw[ae F,Int.mul_one]
theorem Lt.zero(n:Nat)(w:Mt):Lt n w (λ_=>0):=⟨λ_=>0,λ_r _=>(iD λ_k _=>Int.mul_zero _).symm⟩
def Mu(n i:Nat)(w:Mt)(m:Int):Prop:=∀k,i<=k->k<n->Lt n w (λr=>if r=k then m else 0)
theorem Mu.sum{n i:Nat}{w:Mt}{m:Int}(h:Mu n i w m)(q:Nat->Int):∀t,i<=t->t<=n->Lt n w (λr=>if i<=r/\r<t then m*q r else 0):=by
 intro t a;obtain⟨d,rfl⟩:=Nat.exists_eq_add_of_le a;clear a;induction d with
 |zero=>exact λ_=>(Lt.zero n w).congr λr _=>by rw[aa aq]
 |succ d b=>
  intro c;obtain⟨t,c⟩ : ∃t,t=i+d:=⟨_,F⟩;have a:i<=t:=aq;rw[<-Nat.add_assoc,<-c];rw[<-c]at b;refine((b aq).kT (h t a aq) 1 (q t)).congr λr _=>?_;by_cases e:r=t
  ·subst e;rw[aa aq,ae F,ae ⟨a,aq⟩];grind
  ·by_cases a:i<=r/\r<t
   ·rw[ae a,aa e,ae ⟨a.1,aq⟩];omega
   ·rw[aa a,aa e,aa aq];omega
theorem Lt.mod{n i:Nat}{w:Mt}{m:Int}{u v:Nat->Int}(h:Lt n w u)(a:Mu n i w m)(b:i<=n)(e:∀r,r<i->v r=u r)(d:∀r,i<=r->r<n->m∣v r-u r):Lt n w v:=by
 refine(h.kT (a.sum (λr=>(v r-u r)/m) n b (Nat.le_refl n)) 1 1).congr λr a=>?_;by_cases g:i<=r
 ·rw[ae ⟨g,a⟩];have:=Int.mul_ediv_cancel' (d r g a);omega
 ·rw[aa aq,e r aq];omega
def iH:Nat->(Nat->Int)->Int
 |0,_=>1
 |i+1,p=>iH i p*p i
theorem jm{p q:Nat->Int}:∀{i:Nat},(∀j,j<i->p j=q j)->iH i p=iH i q
 |0,_=>rfl
 |i+1,h=>by simp only[iH];rw[jm (i:=i) λj a=>h j aq,h i aq]
theorem lR{p:Nat->Int}:∀{i:Nat},(∀j,j<i->0<p j)->0<iH i p
 |0,_=>by show(0:Int)<1;decide
 |i+1,h=>Int.mul_pos (lR (i:=i) λj a=>h j aq) (h i aq)
theorem lU:∀(n:Nat) (A:Mt),(∀i j,i<n->j<n->i<j->A i j=0)->aQ n A=iH n λi=>A i i
 |0,_,_=>rfl
 |n+1,A,h=>by
  rw[<-df,pZ n (tr A) λj a=>h j n aq aq a,df,lU n A λi j b a a=>h i j aq aq a];simp only[iH,tr];exact Int.mul_comm _ _
structure HS(n i:Nat)(w:Mt)(p:Nat->Int)(m:Int)(C:Mt):Prop where
 mem:∀j,j<n->Lt n w (C j)
 zero:∀j r,j<n->r<j->r<i->C j r=0
 diag:∀j,j<i->C j j=p j/\0<p j
 red:∀j r,j<r->r<i->0<=C j r/\C j r<p r
 mu:Mu n i w m
 dvd:∀j,j<i->∀v,Lt n w v->(∀r,r<j->v r=0)->p j∣v j
 gen:∀v,Lt n w v->(∀r,r<i->v r=0)->∃y:Nat->Int,∀r,i<=r->r<n->m∣v r-sm n λj=>if i<=j then C j r*y j else 0
 prod:iH i p*m=((aQ n w).natAbs:Int)
 pos:0<m
 HJ:∀j r,j<n->i<=r->r<n->0<=C j r/\C j r<m
theorem AE{n k:Nat}(w:Mt)(b:k<n)(f:Int)(c:f=aQ n w\/f=- aQ n w):Lt n w (λr=>if r=k then f else 0):=by
 cases n with
 |zero=>omega
 |succ n=>
  have h:∀r,r<n+1->(sm (n+1) λt=>w r t*fa n w t k)=if r=k then aQ (n+1) w else 0:=λr a=>jJ n w r k a b;rcases c with e|e
  ·exact⟨λt=>fa n w t k,λr a=>by rw[h r a,e]⟩
  ·refine⟨λt=>- fa n w t k,λr a=>?_⟩;have:(sm (n+1) λt=>w r t*- fa n w t k)=- (sm (n+1) λt=>w r t*fa n w t k):=by
    have:=dD (n+1) (λt=>w r t*fa n w t k) (-1);rw[show(-(sm (n+1) λt=>w r t*fa n w t k))=-1*(sm (n+1) λt=>w r t*fa n w t k) by omega,<-this];exact aO λt _=>aC
   rw[this,h r a,e];show(if r=k then-aQ (n+1) w else 0)=_;split<;>omega
theorem HS.start{n:Nat}{w:Mt}(a:aQ n w≠0):HS n 0 w (λ_=>0) ((aQ n w).natAbs:Int) (λj r=>w r j%((aQ n w).natAbs:Int)):=by
 have b:Mu n 0 w ((aQ n w).natAbs:Int):=λk _ a=>AE w a _ aq;have c:(0:Int)<((aQ n w).natAbs:Int):=aq;have d:∀a m:Int,m∣a%m-a:=λa m=>⟨-(a/m),by rw[Int.emod_def];grind⟩;refine⟨λj a=>(Lt.Jm a).mod b (Nat.zero_le n) (λr a=>aq) λr _ _=>d _ _,λ_ _ _ _ h=>aq,λ_ h=>aq,λ_ _ _ h=>aq,b,λ_ h=>aq,λv d _=>?_,?_,c,λj r _ _ _=>⟨Int.emod_nonneg _ aq,Int.emod_lt_of_pos _ c⟩⟩
 ·obtain⟨x,b⟩:=d;refine⟨x,λr _ a=>?_⟩;rw[b r a];have e:(sm n λk=>w r k*x k)-(sm n λj=>if 0<=j then w r j%((aQ n w).natAbs:Int)*x j else 0)=sm n λk=>(w r k-w r k%((aQ n w).natAbs:Int))*x k:=by
   have:=e8 n (λk=>w r k*x k) (λj=>if 0<=j then w r j%((aQ n w).natAbs:Int)*x j else 0) 1 (-1);rw[show(sm n λk=>w r k*x k)-(sm n λj=>if 0<=j then w r j%((aQ n w).natAbs:Int)*x j else 0)=1*(sm n λk=>w r k*x k)+-1*(sm n λj=>if 0<=j then w r j%((aQ n w).natAbs:Int)*x j else 0) by omega,<-this];exact aO λk _=>by rw[ae (Nat.zero_le k)];grind
  rw[e];exact mH λk _=>Int.dvd_trans ⟨w r k/((aQ n w).natAbs:Int),by rw[Int.emod_def];grind⟩ ⟨x k,F⟩
 ·simp[iH]
theorem DE{n i j:Nat}{f:Nat->Int}(k:i<n)(g:j<n)(c:i≠j)(h:∀t,t<n->t≠i->t≠j->f t=0):sm n f=f i+f j:=by
 have e:sm n f=sm n λt=>(if t=i then f i else 0)+(if t=j then f j else 0):=aO λt d=>by
  by_cases a:t=i
  ·subst a;rw[ae F,aa c];omega
  ·by_cases b:t=j
   ·subst b;rw[aa a,ae F];omega
   ·rw[aa a,aa b,h t d a b];rfl
 rw[e,pn,cG k λt _ a=>aa a,cG g λt _ a=>aa a,ae rfl,ae rfl]
theorem sO(a m:Int):m∣a%m-a:=⟨-(a/m),by rw[Int.emod_def];grind⟩
def kB(C:Mt)(i j:Nat)(a b x y m:Int):Mt:=λt r=>
 if t=i then(if i<=r then(a*C i r+b*C j r)%m else a*C i r+b*C j r)
 else if t=j then(if i<=r then(x*C j r+-y*C i r)%m else x*C j r+-y*C i r)else C t r
theorem yL(C:Mt)(i j r:Nat)(a b x y m:Int)(c:i<=r):kB C i j a b x y m i r=(a*C i r+b*C j r)%m:=by unfold kB;rw[ae F,ae c]
theorem yK(C:Mt){i j:Nat}(r:Nat)(a b x y m:Int)(c:i<j)(c:i<=r):kB C i j a b x y m j r=(x*C j r+-y*C i r)%m:=by unfold kB;rw[aa (by omega),ae F,ae c]
theorem qb(C:Mt){i j t:Nat}(r:Nat)(a b x y m:Int)(h1:t≠i)(c:t≠j):kB C i j a b x y m t r=C t r:=by unfold kB;rw[aa h1,aa c]
theorem HS.clear{n i j:Nat}{w:Mt}{p:Nat->Int}{m:Int}{C:Mt}{a b x y:Int}(h:HS n i w p m C)(q:i<j)(A:j<n)(h1:a*x+b*y=1):HS n i w p m (kB C i j a b x y m):=by
 have B:i<n:=aq;have s:∀t r,i<=t->t<n->r<i->C t r=0:=λt r o D g=>h.zero t r D aq g;refine⟨λt o=>?_,λt r o I g=>?_,λt o=>by rw[qb C t a b x y m aq aq];exact h.diag t o,λt r D g=>by rw[qb C r a b x y m aq aq];exact h.red t r D g,h.mu,h.dvd,λv J u=>?_,h.prod,h.pos,λt r o c g=>?_⟩
 ·by_cases k:t=i
  ·subst k;refine((h.mem t o).kT (h.mem j A) a b).mod h.mu aq (λr g=>?_) λr c _=>by rw[yL C t j r a b x y m c];exact sO _ _
   unfold kB;rw[ae F,aa aq]
  ·by_cases l:t=j
   ·subst l;refine((h.mem t o).kT (h.mem i B) x (-y)).mod h.mu aq (λr g=>?_) λr c _=>by rw[yK C r a b x y m q c];exact sO _ _
    unfold kB;rw[aa k,ae F,aa aq]
   ·exact(h.mem t o).congr λr _=>(qb C r a b x y m k l).symm
 ·by_cases k:t=i
  ·subst k;unfold kB;rw[ae F,aa aq,s t r aD o g,s j r aq A g];omega
  ·by_cases l:t=j
   ·subst l;unfold kB;rw[aa k,ae F,aa aq,s t r aq o g,s i r aD B g];omega
   ·rw[qb C r a b x y m k l];exact h.zero t r o I g
 ·obtain⟨z,u⟩:=h.gen v J u;refine⟨λt=>if t=i then x*z i+y*z j else if t=j then -b*z i+a*z j else z t,λr c g=>?_⟩;have M:=u r c g;obtain⟨d,s⟩ : ∃d:Nat->Int,d=λt=>if t=i then x*z i+y*z j else if t=j then -b*z i+a*z j else z t:=⟨_,F⟩;have J:d i=x*z i+y*z j:=by rw[s];exact ae F
  have I:d j=-b*z i+a*z j:=by rw[s];show(if j=i then _ else if j=j then _ else _)=_;rw[aa aq,ae F]
  have D:∀t,t≠i->t≠j->d t=z t:=λt k l=>by rw[s];show(if t=i then _ else if t=j then _ else _)=_;rw[aa k,aa l]
  rw[<-s];have e:(sm n λt=>if i<=t then C t r*z t else 0)-(sm n λt=>if i<=t then kB C i j a b x y m t r*d t else 0)=(C i r*z i-kB C i j a b x y m i r*d i)+(C j r*z j-kB C i j a b x y m j r*d j):=by
   have k:=e8 n (λt=>if i<=t then C t r*z t else 0) (λt=>if i<=t then kB C i j a b x y m t r*d t else 0) 1 (-1);have l:=DE (f:=λt=>1*(if i<=t then C t r*z t else 0)+-1*(if i<=t then kB C i j a b x y m t r*d t else 0)) B A aq λt _ u s=>by
    show 1*(if i<=t then C t r*z t else 0)+-1*(if i<=t then kB C i j a b x y m t r*d t else 0)=0;rw[qb C r a b x y m u s,D t u s];omega
   rw[k]at l;simp only[ae (Nat.le_refl i),ae (Nat.le_of_lt q)]at l;omega
  have N:m∣(C i r*z i-kB C i j a b x y m i r*d i)+(C j r*z j-kB C i j a b x y m j r*d j):=by
   rw[yL C i j r a b x y m c,yK C r a b x y m q c,J,I,Int.emod_def,Int.emod_def];generalize (a*C i r+b*C j r)/m=L;generalize (x*C j r+-y*C i r)/m=K;generalize C i r=c1;generalize C j r=c2;generalize z i=G;generalize z j=E;refine⟨L*(x*G+y*E)+K*(-b*G+a*E),?_⟩;grind
  have:=Int.dvd_add M N;rw[<-e]at this;have e:v r-(sm n λt=>if i<=t then C t r*z t else 0)+((sm n λt=>if i<=t then C t r*z t else 0)-sm n λt=>if i<=t then kB C i j a b x y m t r*d t else 0)=v r-sm n λt=>if i<=t then kB C i j a b x y m t r*d t else 0:=aq;rw[e]at this;exact this
 ·have H:=h.pos;by_cases k:t=i
  ·subst k;rw[yL C t j r a b x y m c];exact⟨Int.emod_nonneg _ aq,Int.emod_lt_of_pos _ H⟩
  ·by_cases l:t=j
   ·subst l;rw[yK C r a b x y m q c];exact⟨Int.emod_nonneg _ aq,Int.emod_lt_of_pos _ H⟩
   ·rw[qb C r a b x y m k l];exact h.HJ t r o c g
theorem EX{n i j:Nat}{w:Mt}{p:Nat->Int}{m:Int}{C:Mt}{a b x y g:Int}(h:HS n i w p m C)(f:i<j)(o:j<n)(l:C i i=g*x)(k:C j i=g*y)(q:a*C i i+b*C j i=g)(r:C j i≠0)(c:0<g):
 kB C i j a b x y m i i=g/\kB C i j a b x y m j i=0:=by
 rw[yL C i j i a b x y m (Nat.le_refl i),yK C i a b x y m f (Nat.le_refl i),q];have f:=h.HJ j i o (Nat.le_refl i) aq;have e:1<=y:=by
  rcases Int.lt_or_le 0 y with d|d
  ·omega
  ·have:=Int.mul_nonpos_of_nonneg_of_nonpos (Int.le_of_lt c) d;omega
 have d:g<=g*y:=by
  have:=Int.mul_le_mul_of_nonneg_left e (Int.le_of_lt c);omega
 refine⟨Int.emod_eq_of_lt (Int.le_of_lt c) aq,?_⟩;rw[l,k];have:x*(g*y)+-y*(g*x)=0:=aC;rw[this];exact Int.zero_emod m
theorem Gn{n k:Nat}{f:Nat->Int}(a:k<=n)(h:∀t,k<=t->t<n->f t=0):sm n f=sm k f:=by
 obtain⟨d,rfl⟩:=Nat.exists_eq_add_of_le a;clear a;induction d with
 |zero=>rfl
 |succ d b=>
  rw[<-Nat.add_assoc];simp only[sm];rw[b λt a b=>h t a aq,h (k+d) aq aq];omega
theorem DZ{p:Nat->Int}{k n:Nat}(a:k<=n):iH n (λr=>if r<k then p r else 1)=iH k p:=by
 obtain⟨d,rfl⟩:=Nat.exists_eq_add_of_le a;clear a;induction d with
 |zero=>exact jm λj a=>ae a
 |succ d b=>
  rw[<-Nat.add_assoc];simp only[iH];rw[b,aa aq,Int.mul_one]
structure Dn(n k:Nat)(w:Mt)(p:Nat->Int)(K:Mt):Prop where
 mem:∀t,t<k->Lt n w (K t)
 low:∀t r,t<k->r<t->K t r=0
 diag:∀t,t<k->K t t=p t/\0<p t
 dvd:∀t,t<k->∀v,Lt n w v->(∀r,r<t->v r=0)->p t∣v t
theorem Dn.expand{n k:Nat}{w:Mt}{p:Nat->Int}{K:Mt}(h:Dn n k w p K){v:Nat->Int}(c:Lt n w v):∀d,d<=k->∃x:Nat->Int,Lt n w (λr=>v r-sm d λt=>K t r*x t)/\∀r,r<d->v r=sm d λt=>K t r*x t:=by
 intro d;induction d with
 |zero=>exact λ_=>⟨λ_=>0,c.congr λr _=>(Int.sub_zero _).symm,λr a=>aq⟩
 |succ d e=>
  intro c;obtain⟨x,c,b⟩:=e aq;obtain⟨q,e⟩:=h.dvd d aq _ c λr a=>by rw[b r a];omega
  have e:∀r,(sm (d+1) λt=>K t r*(if t=d then q else x t))=(sm d λt=>K t r*x t)+K d r*q:=λr=>by
   simp only[sm];rw[ae trivial];congr 1;exact aO λt g=>by rw[aa aq]
  refine⟨λt=>if t=d then q else x t,(c.kT (h.mem d aq) 1 (-q)).congr λr _=>by rw[e];grind,λr a=>?_⟩;rw[e];by_cases f:r=d
  ·subst f;rw[(h.diag r aq).1];omega
  ·rw[h.low d r aq aq,b r aq];omega
theorem Dn.mu{n k:Nat}{w:Mt}{p:Nat->Int}{K:Mt}{m:Int}(h:Dn n k w p K)(u:iH k p*m=((aQ n w).natAbs:Int)):Mu n k w m:=by
 intro c b y;cases n with
 |zero=>omega
 |succ n=>
  have b:0<iH k p:=lR λj b=>(h.diag j b).2;have v:∀t,iH k p∣fa n w t c:=λt=>by
   simp only[fa,s6];refine Int.dvd_mul_of_dvd_right ?_;have d:∀q,∃x:Nat->Int,q<n->∀r,r<k->w r (skip t q)=sm k λs=>K s r*x s:=λq=>by
    by_cases i:q<n
    ·obtain⟨x,_,h2⟩:=h.expand (Lt.Jm (w:=w) (iE (j:=t) i)) k (Nat.le_refl k);exact⟨x,λ_=>h2⟩
    ·exact⟨λ_=>0,λh=>absurd h i⟩
   obtain⟨X,x⟩:=Classical.axiomOfChoice d;have e:aQ n (minor w c t)=aQ n (mul n (λr s=>if r<k then(if s<k then K s r else 0)else if s=r then 1 else 0) λs q=>if s<k then X q s else minor w c t s q):=by
    refine aY λr q g i=>?_;simp only[mul];by_cases d:r<k
    ·rw[Gn (k:=k) aq λs z _=>by rw[ae d,aa aq,Int.zero_mul]];simp only[minor];have l:skip c r=r:=by unfold skip;rw[ae aq]
     rw[l,x q i r d];exact aO λs f=>by rw[ae d,ae f,ae f]
    ·rw[cG (c:=r) g λs _ i=>by rw[aa d,aa i,Int.zero_mul],aa d,ae F,aa d,Int.one_mul]
   rw[e,fV,lU]
   ·refine Int.dvd_mul_of_dvd_left ?_;have d:iH n (λi=>if i<k then(if i<k then K i i else 0)else if i=i then 1 else 0)=iH k p:=by
     rw[<-DZ (p:=p) (show k<=n by omega)];refine jm λj _=>?_;by_cases b:j<k
     ·rw[ae b,ae b,ae b];exact(h.diag j b).1
     ·rw[aa b,aa b,ae F]
    rw[d];exact Int.dvd_refl _
   ·intro i j _ _ q;by_cases d:i<k
    ·rw[ae d];by_cases b:j<k
     ·rw[ae b];exact h.low j i b q
     ·rw[aa b]
    ·rw[aa d,aa aq]
  have o:∀r,r<n+1->iH k p*(sm (n+1) λt=>w r t*(fa n w t c/iH k p))=if r=c then aQ (n+1) w else 0:=λr g=>by
   rw[<-jJ n w r c g y,<-dD];exact aO λt _=>by
    have:=Int.mul_ediv_cancel' (v t);grind
  have f:∃s:Int,(s=1\/s=-1)/\aQ (n+1) w*s=iH k p*m:=by
   rcases Int.natAbs_eq (aQ (n+1) w)with e|e
   ·exact⟨1,.inl F,by rw[u];omega⟩
   ·exact⟨-1,.inr F,by rw[u];omega⟩
  obtain⟨s,_,f⟩:=f;refine⟨λt=>s*(fa n w t c/iH k p),λr g=>?_⟩;have l:(sm (n+1) λt=>w r t*(s*(fa n w t c/iH k p)))=s*sm (n+1) λt=>w r t*(fa n w t c/iH k p):=by
   rw[<-dD];exact aO λt _=>aC
  rw[l];refine Int.eq_of_mul_eq_mul_left (a:=iH k p) aq ?_;have d:=o r g;show iH k p*(if r=c then m else 0)=_;by_cases b:r=c
  ·rw[ae b]at d⊢;grind
  ·rw[aa b]at d⊢;grind
def jQ(C:Mt)(i:Nat)(a b:Int):Nat->Int:=λr=>if r=i then b else a*C i r
def nk(C:Mt)(i:Nat)(a b:Int):Mt:=λt r=>if t=i then jQ C i a b r else if t<i then C t r+-(C t i/b)*jQ C i a b r else C t r
def fin(C:Mt)(i:Nat)(a b m:Int):Mt:=λt r=>if i<r then nk C i a b t r%m else nk C i a b t r
theorem sS(C:Mt)(i:Nat)(a b:Int)(r:Nat):nk C i a b i r=jQ C i a b r:=ae F
theorem nj(C:Mt){i t:Nat}(a b:Int)(r:Nat)(h:t<i):nk C i a b t r=C t r+-(C t i/b)*jQ C i a b r:=by unfold nk;rw[aa (by omega),ae h]
theorem oY(C:Mt){i t:Nat}(a b:Int)(r:Nat)(h:i<t):nk C i a b t r=C t r:=by unfold nk;rw[aa (by omega),aa (by omega)]
theorem pU(C:Mt){i r:Nat}(a b m:Int)(t:Nat)(h:r<=i):fin C i a b m t r=nk C i a b t r:=aa (by omega)
theorem sR(C:Mt){i r:Nat}(a b m:Int)(t:Nat)(h:i<r):fin C i a b m t r=nk C i a b t r%m:=ae h
theorem HS.next{n i:Nat}{w:Mt}{p:Nat->Int}{m:Int}{C:Mt}{a b d f:Int}(h:HS n i w p m C)(z:i<n)(R:∀t,i<t->t<n->C t i=0)
 (M:a*C i i+b*m=d) (O:d∣C i i) (u:m=d*f) (Q:0<d):
 HS n (i+1) w (λt=>if t=i then d else p t) f (fin C i a d f):=by
 have D:∀r,r<i->jQ C i a d r=0:=λr l=>by unfold jQ;rw[aa aq,h.zero i r z l l,Int.mul_zero]
 have P:jQ C i a d i=d:=ae F;have E:Lt n w (jQ C i a d):=((h.mem i z).kT (h.mu i (Nat.le_refl i) z) a b).congr λr _=>by
  unfold jQ;by_cases e:r=i
  ·rw[ae e,ae e,e];exact M
  ·rw[aa e,aa e];omega
 have B:(if i=i then d else p i)=d:=ae F;have A:∀t,t<i->(if t=i then d else p t)=p t:=λt g=>aa aq;have G:0<f:=by
  have:=h.pos;rcases Int.lt_or_le 0 f with s|s
  ·exact s
  ·have:=Int.mul_nonpos_of_nonneg_of_nonpos (Int.le_of_lt Q) s;omega
 have L:∀v,Lt n w v->(∀r,r<i->v r=0)->d∣v i:=λv H x=>by
  obtain⟨y,J⟩:=h.gen v H x;have s:=J i (Nat.le_refl i) z;rw[cG (c:=i) z λt g X=>?_,ae (Nat.le_refl i)]at s
  ·have o:d∣v i-C i i*y i:=Int.dvd_trans ⟨f,u⟩ s;have T:d∣C i i*y i:=Int.dvd_trans O ⟨y i,F⟩;have:=Int.dvd_add o T;rwa[show v i-C i i*y i+C i i*y i=v i by omega]at this
  ·by_cases o:i<=t
   ·rw[ae o,R t aq g,Int.zero_mul]
   ·rw[aa o]
 have k:Dn n (i+1) w (λt=>if t=i then d else p t) (nk C i a d):=by
  refine⟨λt g=>?_,λt r g l=>?_,λt g=>?_,λt g v H x=>?_⟩
  ·by_cases e:t=i
   ·subst e;exact E.congr λr _=>(sS C t a d r).symm
   ·exact((h.mem t aq).kT E 1 (-(C t i/d))).congr λr _=>by rw[nj C a d r aq];omega
  ·by_cases e:t=i
   ·subst e;rw[sS];exact D r l
   ·rw[nj C a d r aq,D r aq,h.zero t r aq l aq];omega
  ·by_cases e:t=i
   ·subst e;rw[sS,P];exact⟨B.symm,by rw[B];exact Q⟩
   ·have:=h.diag t aq;rw[nj C a d t aq,D t aq,A t aq];exact⟨by rw[this.1];omega,this.2⟩
  ·by_cases e:t=i
   ·subst e;rw[B];exact L v H x
   ·rw[A t aq];exact h.dvd t aq v H x
 have E:iH (i+1) (λt=>if t=i then d else p t)*f=((aQ n w).natAbs:Int):=by
  simp only[iH];rw[jm (q:=p) λj S=>A j S,<-h.prod,u,Int.mul_assoc];simp
 have N:=k.mu E;refine⟨λt g=>?_,λt r g L l=>?_,λt g=>?_,λj r V l=>?_,N,k.dvd,λv H x=>?_,E,G,λt r g W l=>?_⟩
 ·have E:Lt n w (nk C i a d t):=by
   by_cases e:t<i+1
   ·exact k.mem t e
   ·exact(h.mem t g).congr λr _=>(oY C a d r aq).symm
  exact E.mod N aq (λr l=>pU C a d f t aq) λr l _=>by rw[sR C a d f t aq];exact sO _ _
 ·rw[pU C a d f t aq];by_cases e:t<i+1
  ·exact k.low t r e L
  ·rw[oY C a d r aq];by_cases K:r=i
   ·rw[K];exact R t aq g
   ·exact h.zero t r g L aq
 ·rw[pU C a d f t aq];exact k.diag t g
 ·rw[pU C a d f j aq,nj C a d r aq];by_cases e:r=i
  ·subst e;rw[P,B];have K:C j r+-(C j r/d)*d=C j r%d:=by rw[Int.emod_def];grind
   rw[K];exact⟨Int.emod_nonneg _ aq,Int.emod_lt_of_pos _ Q⟩
  ·rw[D r aq,A r aq];have:=h.red j r V aq;omega
 ·obtain⟨y,J⟩:=h.gen v H λr l=>x r aq;have s:=J i (Nat.le_refl i) z;rw[cG (c:=i) z λt g X=>?_,ae (Nat.le_refl i),x i aq]at s;rotate_left
  ·by_cases o:i<=t
   ·rw[ae o,R t aq g,Int.zero_mul]
   ·rw[aa o]
  have U:f∣y i:=by
   obtain⟨x,g⟩:=O;obtain⟨k,z⟩:=s;have o:a*x+b*f=1:=by
    refine Int.eq_of_mul_eq_mul_left (a:=d) aq ?_;rw[g,u]at M;grind
   have T:x*y i=f*-k:=by
    refine Int.eq_of_mul_eq_mul_left (a:=d) aq ?_;rw[g,u]at z;grind
   exact⟨a*-k+b*y i,aC⟩
  refine⟨y,λr W l=>?_⟩;have o:f∣v r-sm n λj=>if i<=j then C j r*y j else 0:=Int.dvd_trans ⟨d,by rw[u];exact Int.mul_comm _ _⟩ (J r aq l);have e:(sm n λj=>if i<=j then C j r*y j else 0)-(sm n λj=>if i+1<=j then fin C i a d f j r*y j else 0)=sm n λj=>if i<=j then(if j=i then C i r*y i else(C j r-C j r%f)*y j)else 0:=by
   have g:=e8 n (λj=>if i<=j then C j r*y j else 0) (λj=>if i+1<=j then fin C i a d f j r*y j else 0) 1 (-1);have K:(sm n λj=>1*(if i<=j then C j r*y j else 0)+-1*(if i+1<=j then fin C i a d f j r*y j else 0))=sm n λj=>if i<=j then(if j=i then C i r*y i else(C j r-C j r%f)*y j)else 0:=aO λj S=>by
    by_cases I:j=i
    ·subst I;rw[ae (Nat.le_refl j),aa aq,ae (Nat.le_refl j),ae F];omega
    ·by_cases g:i<=j
     ·rw[ae g,ae aq,ae g,aa I,sR C a d f j aq,oY C a d r aq];grind
     ·rw[aa g,aa aq,aa g];rfl
   omega
  have k:f∣sm n λj=>if i<=j then(if j=i then C i r*y i else(C j r-C j r%f)*y j)else 0:=mH λj _=>by
   by_cases g:i<=j
   ·rw[ae g];by_cases I:j=i
    ·rw[ae I];exact Int.dvd_trans U ⟨C i r,Int.mul_comm _ _⟩
    ·rw[aa I];exact Int.dvd_trans ⟨C j r/f,by rw[Int.emod_def];grind⟩ ⟨y j,F⟩
   ·rw[aa g];exact Int.dvd_zero _
  rw[<-e]at k;have:=Int.dvd_add o k;rwa[show v r-(sm n λj=>if i<=j then C j r*y j else 0)+((sm n λj=>if i<=j then C j r*y j else 0)-sm n λj=>if i+1<=j then fin C i a d f j r*y j else 0)=v r-sm n λj=>if i+1<=j then fin C i a d f j r*y j else 0 by omega]at this
 ·rw[sR C a d f t aq];exact⟨Int.emod_nonneg _ aq,Int.emod_lt_of_pos _ G⟩
structure Hf(n:Nat)(H:Mt):Prop where
 up:∀i j,i<n->j<n->i<j->H i j=0
 pos:∀i,i<n->0<H i i
 red:∀i j,i<n->j<i->0<=H i j/\H i j<H i i
theorem HS.done{n:Nat}{w:Mt}{p:Nat->Int}{m:Int}{C:Mt}(h:HS n n w p m C)(a:aQ n w≠0):Hf n (tr C)/\∃X,(aQ n X=1\/aQ n X=-1)/\∀r j,r<n->j<n->C j r=mul n w X r j:=by
 refine⟨⟨λi j b a c=>h.zero j i a c b,λi b=>by have:=h.diag i b;simp only[tr];omega,λi j b d=>by have:=h.red j i d b;have:=h.diag i b;simp only[tr];omega⟩,?_⟩;have d:∀j,∃x:Nat->Int,j<n->∀r,r<n->C j r=sm n λk=>w r k*x k:=λj=>by
  by_cases a:j<n
  ·obtain⟨x,d⟩:=h.mem j a;exact⟨x,λ_=>d⟩
  ·exact⟨λ_=>0,λh=>absurd h a⟩
 obtain⟨X,f⟩:=Classical.axiomOfChoice d;have e:∀r j,r<n->j<n->C j r=mul n w (λk j=>X j k) r j:=λr j d a=>f j a r d;refine⟨λk j=>X j k,?_,e⟩;have d:aQ n (λr j=>C j r)=iH n p:=by
  rw[lU n (λr j=>C j r) λi j b a c=>h.zero j i a c b];exact jm λj a=>(h.diag j a).1
 rw[aY e,fV]at d;have a:=h.prod;rw[<-d]at a;have b:(aQ n w).natAbs*((aQ n λk j=>X j k).natAbs*m.natAbs)=(aQ n w).natAbs*1:=by
  rw[<-Int.natAbs_mul,<-Int.natAbs_mul,<-Int.mul_assoc,a];omega
 have a:=Nat.eq_of_mul_eq_mul_left aq b;have b:=Nat.eq_one_of_mul_eq_one_right a;omega
