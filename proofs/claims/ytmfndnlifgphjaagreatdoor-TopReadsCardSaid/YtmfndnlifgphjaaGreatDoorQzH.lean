import Derived.Test.YtmfndnlifgphjaaGreatDoorQzG
set_option maxHeartbeats 64000000
open Go.Proofs.YtmfndnlifgphjaaGreatDoor
namespace Go.Proofs.Qq
section
open Go Go.cW Go.c7 Go.Proofs
open Go.aW (gr bm aO Sy PM po one)
theorem By.agg{w:World}{b kd n cap m a:Nat}{d e:Nat->Int}{A A':Option Addr}(h1:b<256)(j:kd<256)(i:n<=cap)(h:m<=a)(g:qD w A n d)(f:qD w A' m e):∀c,Ext w c->By c (.agg #[.int .u8 (b:Int),.int .u8 (kd:Int),.slice A n cap,.slice A' m a]) b kd n d m e:=
 λ_ b=>⟨A,cap,A',a,rfl,h1,j,i,h,g.Y b,f.Y b⟩
def Pz(w:World)(n:Nat)(v:Value)(w':World):Prop:=
 Ext w w'/\∃a b M,v=.slice (some ⟨a,0,none⟩) n n/\w.heap.size<=a/\(∀i,i<n->w.heap.size<=b i)/\iF w' a b n n M/\dQ n (λ_=>n) M=0/\aO n M<=10000/\∀i j,i<n->j<n->Bd 5 (M i j)
theorem AN{n:Nat}{M U:Nat->Nat->Int}(h:dQ n (λ_=>n) M=0)(b:aO n U=1\/aO n U=-1):dQ n (λ_=>n) (gr n U M)=0/\aO n (gr n U M)=aO n M:=by
 obtain⟨d,g,_,_⟩:=dF.1 h;obtain⟨f,a⟩:=BI h;have c:=Go.aW.PM.O9 a f (T:=U) (by rcases b with e|e<;>rw[e]<;>decide);refine⟨nq ⟨d,g⟩ (λi j _ _=>Go.aW.D5 a i j) λq a=>c (q+1) aq,?_⟩;rw[Go.aW.Hw];rcases b with e|e<;>rw[e]<;>omega
theorem Fh(v:Value)(l kd q m c:Nat)(K G:Nat->Int)(w:World)(h:By w v l kd q K m G)(z:0<c)(I:c<=8):
 aT Tryz.prog 4 #[v,.int .i64 (c:Int)] w (Pz w (1+l%c)):=by
 obtain⟨A,g,H,f,rfl,J,x,Q,e,R,C⟩:=h;have S:=By.agg J x Q e R C;refine bo (n:=18) Tryz.func4 F rfl az aA ?_;have e:=Nat.mod_lt l z;have b:Ext w w:=Ext.refl w;refine gh ?_;refine bO (v:=.agg _) (.inl F) F ?_;intro h x a J;have e:bg h w.heap.size 24 #[.int .u8 (l:Int),.int .u8 (kd:Int),.slice A q g,.slice H m f]:=x;obtain⟨Q,A⟩ : ∃g,g=w.heap.size:=⟨_,F⟩;rw[<-A]at e⊢;have g:w.heap.size<=Q:=by have:=b.size;omega
 replace b:=b.trans a;clear x J A a;obtain⟨J,A,x,g⟩:=M7 e;refine gh ?_;refine q_ aw Em F J A x g ?_;clear J A x g;refine gh ?_;refine aJ (Cm _ l kd q m c K G h (S h b) z I) ?_;rintro _ h ⟨a,h,h,M,rfl,_,z,h,h0,t,x⟩;replace e:=e.Y a;replace b:=b.trans a;clear a;obtain⟨n,A⟩ : ∃n,n=1+l%c:=⟨_,F⟩;rw[<-A]at h h0 t x z⊢;have k:1<=n:=aq;have c:n<=8:=aq;have y:kF n (λ_=>n)=true:=cD.2 ⟨⟨k,aq,k,aq⟩,λ_ _=>rfl⟩;have L:∀i j,i<n->j<n->Bd 1 (M i j):=λi j d _=>by
  have:=x i j d;unfold Bd B;omega
 refine gh ?_;refine b_ [(0,3),(2,3),(3,0),(4,3),(5,3),(1,1),(6,1),(7,1),(8,1),(9,3)] mixed az λc a _=>?_;replace e:=e.Y a;replace h:=h.Y a;replace b:=b.trans a;clear a;obtain⟨_,_,_,g⟩:=M7 e;replace g:_=some (Value.slice H m f):=g;refine gh ?_;refine aV Ki F ?_;refine gh ?_;clear g;refine aM (wU _ n (λ_=>n) M c (h.read (λi j d _=>by have:=x i j d;omega) aq aq)) ?_;intro u P o;obtain⟨D,c,c,rfl,_,_,r⟩:=o.get y;clear o;refine⟨D,?_⟩;replace b:=b.trans D;refine gh ?_;refine gh ?_;refine aM (um H m f n G P (C.Y b) k aq) ?_;rintro _ c ⟨a,e,e,U,rfl,_,_,hU,bU,O⟩;refine⟨a,?_⟩;replace r:=r.Y a;replace b:=b.trans a;clear a;have E:∀i j,i<n->j<n->Bd 1 (U i j):=λi j d p=>by
  have:=bU i j d p;unfold Bd B;omega
 refine gh ?_;refine aM (wU _ n (λ_=>n) U c (hU.read (λi j d p=>by have:=bU i j d p;omega) aq aq)) ?_;intro u a o;obtain⟨s,a,a,rfl,_,_,hV⟩:=o.get y;clear o;refine⟨s,?_⟩;replace b:=b.trans s;replace r:=r.Y s;refine gh ?_;refine aM (uE (N:=1) (N2:=3) (r.rd L aD aq aq) (hV.rd E aD aq aq) k aq aw F) ?_;rintro _ a ⟨a,k,f,rfl,c,c,hP⟩;refine⟨a,?_⟩;have e:=b.size;have e:aO n (λi j=>U j i)=1\/aO n (λi j=>U j i)=-1:=by
  rw[show aO n (λi j=>U j i)=aO n U from Go.aW.cY n U];exact O
 obtain⟨h,g⟩:=AN h0 e;refine gh ?_;exact bF (v:=.slice _ _ _) F rfl ⟨b.trans a,k,f,_,F,aq,λi d=>by have:=c i d;omega,hP,h,by rw[g];exact t,λi j d p=>(Cs (N:=1) aq L E i j d p).mono aq⟩
theorem EL{n N:Nat}{G T:Nat->Nat->Int}(b:dQ n (λ_=>n) G=0)(d:aO n G<=10000)(h:Found n N G T):Ja n (λ_=>n) G n (λ_=>n) (gr n T G) n (λ_=>n) (λi j=>T j i)=0:=by
 obtain⟨a,e,_⟩:=dF.1 b;obtain⟨c,f,_⟩:=dj.1 a;unfold Ja;rw[ab b,ab (Hy h c e d),ab ⟨F,a,F⟩,ab];refine⟨?_,λi j _ _=>rfl⟩;rw[show aO n (λi j=>T j i)=aO n T from Go.aW.cY n T];exact h.BK
end
section
open Go Go.cW Go.c7 Go.Proofs
open Go.aW (aO)
def Pm(r:Nat)(len:Nat->Nat)(L:Nat->Nat->Nat):Prop:=r<=100/\∀i,i<r->len i<=100/\∀j,j<len i->L i j<=100
theorem Pm.e{w:World}{v:Value}{r:Nat}{len:Nat->Nat}{M:Nat->Nat->Int}{L:Nat->Nat->Nat}(h:Pm r len L)(a:Lm w v r len M L):cB (EI 100) w v r len M:=a.e λi b j a=>(h.2 i b).2 j a
end
end Go.Proofs.Qq




namespace Go.Proofs.Qq
section
open Go Go.cW Go.c7 Go.Proofs
open Go.aW (aO fY PM Sy)
theorem cB.LC{w:World}{N N' r:Nat}{len:Nat->Nat}{v:Value}{M:Nat->Nat->Int}(h:cB (EC N) w v r len M)(b:N<=N'):cB (EC N') w v r len M:=
 h.imp (λ_ _ a=>a) λ_ _ _ a=>⟨a.1,a.2.mono b⟩
end
section
open Go Go.cW Go.c7 Go.Proofs
open Go.aW (aO)
def BF(r:Nat)(M T:Nat->Nat->Int):Nat->Nat->Int:=mulM r (λi j=>T j i) (mulM r M T)
end
end Go.Proofs.Qq

namespace Go.Proofs.Qq
section
open Go Go.cW Go.c7 Go.Proofs
open Go.aW (aO)
def xH(M:Nat->Int)(a:Nat):Nat->Nat
 |0=>a
 |j+1=>Int.gcd ((xH M a j:Nat):Int) (M j)
def nh(n:Nat)(M:Nat->Nat->Int):Nat->Nat
 |0=>0
 |i+1=>xH (M i) (nh n M i) n
theorem Kf{N:Nat}{a:Nat}{b:Int}(h1:Bd N (a:Int))(c:Bd N b):Bd N ((Int.gcd (a:Int) b:Nat):Int):=by
 unfold Bd at*;rw[Int.natAbs_natCast]at*;by_cases e:b=0
 ·subst e;rw[Int.gcd_zero_right];simpa using h1
 ·have c:Int.gcd (a:Int) b<=b.natAbs:=Nat.gcd_le_right _ (Int.natAbs_pos.2 e);omega
theorem xG{N:Nat}{M:Nat->Int}{a:Nat}(h:Bd N (a:Int)):∀j,(∀k,k<j->Bd N (M k))->Bd N ((xH M a j:Nat):Int)
 |0,_=>h
 |j+1,b=>Kf (xG h j λk c=>b k aq) (b j aq)
theorem xI{N n:Nat}{M:Nat->Nat->Int}:∀i,(∀k j,k<i->j<n->Bd N (M k j))->Bd N ((nh n M i:Nat):Int)
 |0,_=>Bd.zero N
 |i+1,b=>xG (xI i λk j a a=>b k j aq a) n λj a=>b i j aq a
theorem Bx.un{w:World}{g N:Nat}{cn:Bool}{z:Int}(h:Bx w g N cn z):Bx w g N false z:=by
 obtain⟨x,y,b,a⟩:=h;exact⟨x,y,b,a.1,λe=>by cases e⟩
def PL(w:World)(e:Nat)(d:Nat)(v:Value)(w':World):Prop:=
 Ext w w'/\∃x y,v=.tuple #[.agg #[x,y],.int .i64 (e:Int)]/\CV w' x y (if e=0 then(d:Int)else 0)
theorem tu(R:Value)(r N:Nat)(len:Nat->Nat)(M:Nat->Nat->Int)(w:World)(J:cB (EI N) w R r len M)(ae:1<=N)(hN:N<1048576):
 aT Tryz.prog 14 #[R] w (PL w (dQ r len M) (nh r M r)):=by
 refine bo (n:=35) Tryz.func14 F rfl az aA ?_;have X:=J;have c:Ext w w:=Ext.refl w;refine gg ?_;refine aS (.inl F) a_ ?_;intro Y k d s;have l:=Bx.zero (N:=1) true k;obtain⟨D,z⟩ : ∃g,g=w.heap.size:=⟨_,F⟩;rw[<-z]at l⊢;have Q:w.heap.size<=D:=by have:=c.size;omega
 replace J:=J.Y d;replace c:=c.trans d;clear k s z d;refine gg ?_;refine aN ?_;refine gg ?_;refine gg ?_;refine aJ (jb R r N len M Y J ae hN) ?_;rintro _ R ⟨d,rfl⟩;replace J:=J.Y d;replace l:=l.Y d;replace c:=c.trans d;clear d;have Y:=mf r len M;by_cases U:dQ r len M=0;rotate_left
 ·refine gg ?_;refine dR fm ?_;refine gg ?_;refine gg ?_;refine aL ag F rfl l ((CV.zero R).ev true (Bd.zero 1)) ?_;intro Y l o p s;clear J;replace c:=o.aK c λb T=>aq;clear o p s;obtain⟨u,v,hU,hV⟩:=l;refine gg ?_;refine mY (v:=.int _ _) F aQ F hU F ⟨c,u,v,F,?_⟩;rw[aa U];exact hV.2 F
 obtain⟨ae,Y,_⟩:=dF.1 U;obtain⟨Y,Y,Y⟩:=dj.1 ae;have hM:=X.sq Y;have bM:∀i j,i<r->j<r->Bd N (M i j):=λi j hi S=>hM.bd hi S;refine gg ?_;refine dR fm ?_;refine gg ?_;refine gg ?_;refine aS (.inl F) a_ ?_;intro ae k d s;have q:=Bx.zero (N:=1) true k;obtain⟨E,z⟩ : ∃g,g=R.heap.size:=⟨_,F⟩;rw[<-z]at q⊢;have R:w.heap.size<=E:=by have:=c.size;omega
 have Y:D<E:=by have:=l.lt;omega
 replace J:=J.Y d;replace l:=l.Y d;replace c:=c.trans d;clear k s z d;refine gg ?_;refine gg ?_;refine aL ag F rfl q ((CV.zero ae).ev true (Bd.zero N)) ?_;intro Y q o p s;clear J;replace l:=l.kp p o ah;replace c:=o.aK c λb T=>aq;clear o p s;refine gg ?_;have J:w.heap.size<=D:=Q;have J:w.heap.size<=E/\D≠E:=⟨R,aq⟩;refine aY (λf t=>f 2=.pointer (some ⟨D,0,none⟩)/\f 5=.pointer (some ⟨E,0,none⟩)/\Ext w t/\Bx t D 1 true 0/\Bx t E N true ((nh r M r:Nat):Int)) ?_ ?_
 ·obtain⟨ad,P,_,rfl,_,_⟩:=hM.at (show 0<r by omega);clear X;refine gg ?_;refine aU (λm f t=>∃i,m=r-i/\i<=r/\f 2=.pointer (some ⟨D,0,none⟩)/\f 5=.pointer (some ⟨E,0,none⟩)/\f 17=.slice (some ad) r P/\f 18=.int .i64 (r:Int)/\f 19=.int .i64 ((i:Nat):Int)/\Ext w t/\Bx t D 1 true 0/\Bx t E N true ((nh r M i:Nat):Int))
   r ⟨0,F,aE,F,F,F,F,F,c,l,q⟩ ?_
  clear c l q;rintro m f t ⟨i,rfl,hi,B,A,I,H,G,c,l,q⟩;rw[ui B,ui A,ui I,ui H,ui G];clear B A I H G;by_cases W:i<r
  ·obtain⟨_,_,J,e,Z,V⟩:=hM.at W;cases e;obtain⟨Q,J,_,_,rfl,_,_,_⟩:=V.at (show 0<r by omega);replace Z:=aP c Z;refine gg ?_;clear Z;refine aU (λm f t=>∃j,m=r-j/\j<=r/\f 2=.pointer (some ⟨D,0,none⟩)/\f 5=.pointer (some ⟨E,0,none⟩)/\f 17=.slice (some ad) r P/\f 18=.int .i64 (r:Int)/\f 19=.int .i64 (i:Int)/\f 23=.slice (some Q) r J/\f 24=.int .i64 (r:Int)/\f 25=.int .i64 ((j:Nat):Int)/\Ext w t/\Bx t D 1 true 0/\Bx t E N true ((xH (M i) (nh r M i) j:Nat):Int))
    r ⟨0,F,aE,F,F,F,F,F,F,F,F,c,l,q⟩ ?_
   clear c l q;rintro m f t ⟨j,rfl,S,B,A,I,H,G,P,J,m,c,l,q⟩;rw[ui B,ui A,ui I,ui H,ui G,ui P,ui J,ui m];clear B A I H G P J m;by_cases m:j<r
   ·obtain⟨_,_,x,y,e,hx,hy,C⟩:=V.at m;cases e;replace hx:=aP c hx;replace hy:=aP c hy;replace C:=C.Y c;refine gg ?_;refine gg ?_;refine aS (.inl F) a_ ?_;intro m k d s;have K:=Bx.zero (N:=1) true k;obtain⟨m,z⟩ : ∃g,g=t.heap.size:=⟨_,F⟩;rw[<-z]at K⊢;have g:w.heap.size<=m:=by have:=c.size;omega
    have g:D<m:=by have:=l.lt;omega
    have g:E<m:=by have:=q.lt;omega
    replace l:=l.Y d;replace q:=q.Y d;replace C:=C.Y d;replace c:=c.trans d;clear k s z d;refine gg ?_;replace K:=K.un;refine gg ?_;refine aL ag F rfl K (⟨C,λe=>by cases e⟩) ?_;intro m K o p s;replace l:=l.kp p o ah;replace q:=q.kp p o ah;replace C:=C.kp p;replace c:=o.aK c λb T=>aq;clear o p s;refine gg ?_;obtain⟨g,g,k,g⟩:=id K;obtain⟨z,z⟩:=bh k;obtain⟨a6,a1,O,L⟩:=id q;obtain⟨a8,a7⟩:=bh O;refine gg ?_;have D:Bd N ((xH (M i) (nh r M i) (j+1):Nat):Int):=xG (xI i λk j z S=>bM k j aq S) (j+1) λk z=>bM i k W aq;refine gg ?_;refine aJ (MI _ _ _ _ _ _ N m L.1 g.1 aq) ?_;rintro _ g ⟨d,a,b,rfl,g⟩;replace l:=l.Y d;replace q:=q.Y d;replace C:=C.Y d;replace K:=K.Y d;replace c:=c.trans d;clear d;refine gg ?_;refine gg ?_;refine aL ag F rfl q (g.ev true D) ?_;intro d q o p s;replace l:=l.kp p o ah;replace C:=C.kp p;replace K:=K.kp p o ah;replace g:=g.kp p;replace c:=o.aK c λb T=>aq;clear o p s;refine gg ?_;refine⟨_,?_,j+1,F,aq,F,F,F,F,F,F,F,F,c,l,q⟩;omega
   ·refine gg ?_;obtain rfl:j=r:=aq;refine⟨_,?_,i+1,F,aq,F,F,F,F,F,c,l,q⟩;omega
  ·refine gg ?_;obtain rfl:i=r:=aq;exact⟨F,F,c,l,q⟩
 clear c l q;rintro f t ⟨B,A,c,l,q⟩;rw[ui B,ui A];clear B A;refine gg ?_;obtain⟨a6,a1,O,L⟩:=id q;obtain⟨a8,a7⟩:=bh O;refine gg ?_;refine gg ?_;refine aL ag F rfl l (L) ?_;intro d l o p s;replace q:=q.kp p o ah;replace c:=o.aK c λb T=>aq;clear o p s;obtain⟨u,v,hU,hV⟩:=l;refine gg ?_;refine mY (v:=.int _ _) F aQ F hU F ⟨c,u,v,by rw[U],?_⟩;rw[ab U];exact hV.2 F
open Classical in
def OI(w:World)(e r:Nat)(M:Nat->Nat->Int)(v:Value)(w':World):Prop:=
 Ext w w'/\v=.tuple #[.bool (decide (e=0/\∀i,i<r->M i i%2=0)),.int .i64 (e:Int)]
theorem JA{w w':World}{e r:Nat}{M:Nat->Nat->Int}(h:Ext w w')(a:e≠0):OI w e r M (.tuple #[.bool false,.int .i64 (e:Int)]) w':=
 ⟨h,by rw[decide_eq_false (λh=>a h.1)]⟩
theorem Mh{w w':World}{r i:Nat}{M:Nat->Nat->Int}(h:Ext w w')(b:i<r)(a:M i i%2≠0):OI w 0 r M (.tuple #[.bool false,.int .i64 ((0:Nat):Int)]) w':=
 ⟨h,by rw[decide_eq_false (λh=>a (h.2 i b))]⟩
theorem Jz{w w':World}{r:Nat}{M:Nat->Nat->Int}(h:Ext w w')(a:∀i,i<r->M i i%2=0):OI w 0 r M (.tuple #[.bool true,.int .i64 ((0:Nat):Int)]) w':=
 ⟨h,by rw[decide_eq_true ⟨F,a⟩]⟩
theorem D6(j:Value)(r N:Nat)(len:Nat->Nat)(M:Nat->Nat->Int)(w:World)(s:cB (EI N) w j r len M)(J:1<=N)(m:N<1048576):
 aT Tryz.prog 15 #[j] w (OI w (dQ r len M) r M):=by
 refine bo (n:=36) Tryz.func15 F rfl az aA ?_;have a:=s;have d:Ext w w:=Ext.refl w;refine gg ?_;refine aN ?_;refine gg ?_;refine gg ?_;refine aJ (jb j r N len M w s J m) ?_;rintro _ j ⟨c,rfl⟩;replace s:=s.Y c;replace d:=d.trans c;clear c;have j:=mf r len M;by_cases m:dQ r len M=0;rotate_left
 ·refine gg ?_;exact cU (v:=.bool _) (v':=.int _ _) F rfl rfl (JA d m)
 obtain⟨U,z,_⟩:=dF.1 m;obtain⟨j,j,j⟩:=dj.1 U;have x:=a.sq j;have W:∀i j,i<r->j<r->Bd N (M i j):=λi j y j=>x.bd y j;rw[m];refine gg ?_;obtain⟨U,j,_,rfl,_,_⟩:=x.at (show 0<r by omega);clear a s;refine gg ?_;refine aY (λf u=>Ext w u/\∀i,i<r->M i i%2=0) ?_ ?_
 ·refine gg ?_;refine aU (λm f u=>∃i,m=r-i/\i<=r/\f 15=.slice (some U) r j/\f 16=.int .i64 (r:Int)/\f 17=.int .i64 ((i:Nat):Int)/\Ext w u/\∀k,k<i->M k k%2=0)
   r ⟨0,F,aE,F,F,F,d,λk P=>absurd P aq⟩ ?_
  clear d;rintro m f u ⟨i,rfl,y,m,j,a,d,t⟩;rw[ui m,ui j,ui a];clear m j a;by_cases A:i<r
  ·skip;obtain⟨_,_,a,e,O,T⟩:=x.at A;cases e;obtain⟨a,a,x,y,rfl,L,K,l⟩:=T.at A;replace O:=aP d O;refine gg ?_;clear O;refine gg ?_;refine ib [(0,3),(1,3),(2,3),(3,0)] [(4,[],[]),(10,[],[]),(11,[],[]),(5,[(6,3),(7,3),(8,3),(9,3)],[4])] [(12,2),(13,2),(14,3)] mixed az λI c _=>?_;replace d:=d.trans c;clear c;replace L:=aP d L;replace K:=aP d K;replace l:=l.Y d;refine gg ?_;refine dN [(4,[]),(5,[(6,3),(7,3),(8,3),(9,3)])] [fA 10 7 44 (.agg #[.bool false,.slice none 0 0]),fA 11 8 44 (.agg #[.bool false,.slice none 0 0])] [27,28,22,29,30,31,7,8] az (λa s R u _ _=>by
    rcases List.mem_cons.1 s with rfl|s
    ·exact cm a_ F R u
    ·skip;rcases List.mem_singleton.1 s with rfl;exact cm a_ F R u) ?_
   have Q:=d.size;refine gg ?_;refine cS λa c=>?_;replace l:=l.Y c;replace d:=d.trans c;clear c;refine gg ?_;refine aM (du 2 a aw aw) ?_;rintro _ a ⟨c,a0,a,rfl,g⟩;refine⟨c,?_⟩;replace l:=l.Y c;replace d:=d.trans c;clear c;have S:Bd N 2:=Bd.mono (N:=1) (by unfold Bd;decide) J;refine gg ?_;refine cS λa c=>?_;replace l:=l.Y c;replace g:=g.Y c;replace d:=d.trans c;clear c;refine gg ?_;refine aM (jd _ _ _ _ _ _ N a l (g.iv S) aq aw) ?_;rintro _ a ⟨c,d0,d1,d2,d3,rfl,q,p⟩;refine⟨c,?_⟩;replace l:=l.Y c;replace g:=g.Y c;replace d:=d.trans c;clear c;refine gg ?_;refine eW λa c o E G=>?_;replace l:=l.Y c;replace g:=g.Y c;replace q:=q.Y c;replace p:=p.Y c;replace d:=d.trans c;clear c;obtain⟨h,C⟩:=E _ aG;have h:I.heap.size<=o 7:=h;have D:Bx a (o 7) 1 true 0:=Bx.zero true C;obtain⟨b,B⟩:=E _ (List.mem_cons_of_mem _ aG);have b:I.heap.size<=o 8:=b;have z:Bx a (o 8) 1 true 0:=Bx.zero true B;have a:o 8≠o 7:=G _ _ (List.mem_cons_of_mem _ aG) aG (show(8:Nat)≠7 by decide);show Ro _ _ _ _ _ _ (cg (cg _ 8 (.pointer (some ⟨o 8,0,none⟩))) 7 (.pointer (some ⟨o 7,0,none⟩))) _;generalize o 7=g7 at*;generalize o 8=g8 at*;have a:w.heap.size<=g7:=aq;have a:w.heap.size<=g8:=aq;clear E G Q C h B b;refine gg ?_;refine aL ag F rfl D (q.ev true (W i i A A).ediv) ?_;intro a D j a m;replace l:=l.kp a;replace g:=g.kp a;replace q:=q.kp a;replace p:=p.kp a;replace z:=z.kp a j ah;replace d:=j.aK d λb o=>aq;clear j a m;refine gg ?_;refine aL ag F rfl z (p.ev true (S.emod aw)) ?_;intro h z j a m;replace l:=l.kp a;replace g:=g.kp a;replace q:=q.kp a;replace p:=p.kp a;replace D:=D.kp a j ah;replace d:=j.aK d λb o=>aq;clear j a m;clear L K;refine gg ?_;obtain⟨a,a,b,a⟩:=id z;obtain⟨j,j⟩:=bh b;refine gg ?_;refine gg ?_;refine aJ (pK _ _ _ _ h a.1 aq) ?_;rintro _ a ⟨c,rfl⟩;replace l:=l.Y c;replace g:=g.Y c;replace q:=q.Y c;replace p:=p.Y c;replace D:=D.Y c;replace z:=z.Y c;replace d:=d.trans c;clear c;by_cases H:M i i%2=0
   ·have V:(M i i%2).sign=0:=by rw[H];rfl
    refine gg ?_;refine⟨_,?_,i+1,F,aq,F,F,F,d,λk P=>?_⟩
    ·omega
    ·by_cases e:k=i
     ·subst e;exact H
     ·exact t k aq
   ·have V:¬(M i i%2).sign=0:=λe=>H (Int.sign_eq_zero_iff_zero.1 e);refine gg ?_;exact cU (v:=.bool _) (v':=.int _ _) F rfl rfl (Mh d A H)
  ·refine gg ?_;exact⟨d,λk P=>t k aq⟩
 clear d;rintro f u ⟨d,t⟩;refine gg ?_;exact cU (v:=.bool _) (v':=.int _ _) F rfl rfl (Jz d t)
end
end Go.Proofs.Qq
namespace Go.uN
section
open Go.Lib
theorem yS{c:UInt8}(h:iH c=false)(d:c≠45)(z:Int):c∉zt z:=by
 have b:∀n,c∉nt n:=λn a=>by have:=Cf n c a;rw[h]at this;cases this
 unfold zt;split
 ·intro a;rw[List.mem_singleton.1 a]at h;exact absurd h aw
 ·split
  ·intro a;rcases List.mem_cons.1 a with e|e
   ·exact d e
   ·exact b _ e
  ·exact b _
theorem DM{c:UInt8}(h:iH c=false)(b:c≠45)(a:c≠32)(M:Nat->Nat->Int)(i:Nat):∀j,c∉jm M i j
 |0=>by simp[jm]
 |j+1=>by
  simp only[jm,List.mem_append,not_or];refine⟨⟨DM h b a M i j,?_⟩,yS h b _⟩;split
  ·simp
  ·simpa using a
theorem yV(M:Nat->Nat->Int):∀(i:Nat) (r:List UInt8),wd 10 (iu M i++r)=(List.range i).map (λk=>jm M k (k+1))++wd 10 r
 |0,r=>by simp[iu]
 |i+1,r=>by
  rw[show iu M (i+1)++r=iu M i++(jm M i (i+1)++10::r) by simp[iu]];rw[yV M i,oR (DM aw aw aw M i (i+1)),List.range_succ];simp
theorem pB{n:Nat}(M:Nat->Nat->Int)(h1:1<=n)(a:n<=8):wd 10 (j5 n M)=([102,111,114,109,32]++[ch n])::((List.range n).map (λk=>jm M k (k+1))++[[]]):=by
 have a:ch n≠10:=λe=>by
  have:=nQ (d:=n) aq;rw[e]at this;have b:(10:UInt8).toNat=10:=F;omega
 rw[show j5 n M=([102,111,114,109,32]++[ch n])++10::(iu M n++[]) by simp[j5,oO]];rw[oR (by simp[a.symm]),yV];rfl
theorem Dw(M:Nat->Nat->Int)(i:Nat):∀(j:Nat) (r:List UInt8),wd 32 (jm M i (j+1)++32::r)=(List.range (j+1)).map (λk=>zt (M i k))++wd 32 r
 |0,r=>by
  rw[show jm M i 1=zt (M i 0) by simp[jm],oR (yS aw aw _)];rfl
 |j+1,r=>by
  rw[show jm M i (j+1+1)++32::r=jm M i (j+1)++32::(zt (M i (j+1))++32::r) by rw[jm,aa aq];simp];rw[Dw M i j,oR (yS aw aw _),List.range_succ (n:=j+1)];simp
theorem Gk(M:Nat->Nat->Int)(i j:Nat):wd 32 (jm M i (j+1))=(List.range (j+1)).map (λk=>zt (M i k)):=by
 cases j with
 |zero=>
  rw[show jm M i 1=zt (M i 0) by simp[jm],pA (yS aw aw _)];rfl
 |succ j=>
  rw[show jm M i (j+1+1)=jm M i (j+1)++32::zt (M i (j+1)) by rw[jm,aa aq];simp];rw[Dw,pA (yS aw aw _),List.range_succ (n:=j+1)];simp
theorem E_{M:Nat->Nat->Int}{i:Nat}(h:∀k,k<=i->fu (M i k)):pW i (jm M i (i+1)):=by
 unfold pW;rw[Gk];refine⟨aA,λw a=>?_⟩;obtain⟨k,b,rfl⟩:=List.mem_map.1 a;exact G9 (h k (by have:=List.mem_range.1 b;omega))
theorem Am{n i:Nat}(M:Nat->Nat->Int)(h1:1<=n)(b:n<=8)(a:i<n):(wd 10 (j5 n M)).getD (i+1) []=jm M i (i+1):=by
 rw[pB M h1 b];simp[List.getD,List.getElem?_append_left,a]
theorem Ao{n:Nat}(M:Nat->Nat->Int)(h1:1<=n)(a:n<=8):(wd 10 (j5 n M)).length=n+2:=by
 rw[pB M h1 a];simp
theorem Ap{n:Nat}(M:Nat->Nat->Int)(h1:1<=n)(a:n<=8):tj ((wd 10 (j5 n M)).getD 0 [])=n:=by
 rw[pB M h1 a];unfold tj;have:=nQ (d:=n) aq;simp[List.getD,this]
theorem vH{n:Nat}{M:Nat->Nat->Int}(h1:1<=n)(a:n<=8)(h:Mp n M):∀k i,i+k=n->oX (wd 10 (j5 n M)) k i=0
 |0,_,_=>rfl
 |k+1,i,e=>by
  rw[oX,ab ⟨by rw[Ao M h1 a];omega,by rw[Am M h1 a aq];exact E_ λq b=>h i q aq b⟩];exact vH h1 a h k (i+1) aq
theorem Ft{n:Nat}{M:Nat->Nat->Int}(h1:1<=n)(a:n<=8)(h:Mp n M):sT (wd 10 (j5 n M))=0:=by
 have b:xw ((wd 10 (j5 n M)).getD 0 []):=by
  rw[pB M h1 a];have:=nQ (d:=n) aq;refine⟨by simp[List.getD],by simp[List.getD],?_,?_⟩<;>simp[List.getD,this]<;>omega
 unfold sT;rw[ab ⟨by rw[Ao M h1 a];omega,b⟩,Ap M h1 a,vH h1 a h n 0 aq,aa aA,ab];rw[pB M h1 a];simp
theorem Hz{n:Nat}{M:Nat->Nat->Int}(h1:1<=n)(e:n<=8)(c:∀i j,i<n->j<n->M i j=M j i):∀i j,i<n->j<n->nf (wd 10 (j5 n M)) i j=M i j:=by
 have d:∀i j,i<n->j<=i->nN (wd 10 (j5 n M)) i j=M i j:=λi j a b=>by
  unfold nN;rw[Am M h1 e a,Gk];rw[show((List.range (i+1)).map λk=>zt (M i k)).getD j []=zt (M i j) by simp[List.getD,show j<i+1 by omega],JG]
 intro i j a b;unfold nf;rw[d _ _ aq aq];by_cases h:j<=i
 ·rw[Nat.max_eq_left h,Nat.min_eq_right h]
 ·rw[Nat.max_eq_right aq,Nat.min_eq_left aq];exact c j i b a
theorem An{n:Nat}{M:Nat->Nat->Int}(a:n<=8)(h:Mp n M):(j5 n M).length<=200000:=by
 have:=sX (M:=M) a λa k c b=>h a k c b;unfold j5 oO;simp only[List.length_append,List.length_cons,List.length_nil];omega
end
end Go.uN
namespace Go.Proofs.Qq
section
open Go Go.cW Go.c7 Go.uN Go.Proofs
open Go.aW (aO)
theorem G_{z:Int}(h:Bd 5 z):uN.fu z:=by
 unfold Bd at h;unfold uN.fu;have:j2 z.natAbs<=50:=D7 (Nat.lt_of_lt_of_le h aw);omega
theorem Mo{n:Nat}{M:Nat->Nat->Int}(h:∀i j,i<n->j<n->Bd 5 (M i j)):Mp n M:=λi j a b=>G_ (h i j a (by omega))
theorem EM{n:Nat}{M M':Nat->Nat->Int}(h:dQ n (λ_=>n) M=0)(e:∀i j,i<n->j<n->M' i j=M i j):dQ n (λ_=>n) M'=0:=by
 obtain⟨a,b,c,f⟩:=dF.1 h;refine nq ⟨a,b⟩ (λi j a b=>?_) λq d=>?_
 ·rw[e i j a aq,e j i aq a];exact c i j a b
 ·rw[Go.aW.bk (C:=M) λi j a b=>e i j aq aq];exact f q d
end
end Go.Proofs.Qq
namespace Go.Sm
section
open Go.aW
theorem dSm{e:Int}:∀{n:Nat} {f:Nat->Int},(∀i,i<n->e∣f i)->e∣sm n f:=by
 intro n;induction n with
 |zero=>intro f _;exact⟨0,by simp[sm]⟩
 |succ n a=>intro f h;exact Int.dvd_add (a λi a=>h i aq) (h n aq)
theorem FD{e:Int}:∀(n k:Nat) (A:Mt),k<n->(∀i j,i<=k->k<=j->j<n->e∣A i j)->e∣aO n A:=by
 intro n;induction n with
 |zero=>intro k A d _;omega
 |succ n c=>
  intro k A d h;refine dSm λj d=>?_;by_cases b:k<=j
  ·exact Int.dvd_trans (h 0 j aq b d) ⟨jl j*aO n (minor A 0 j),aC⟩
  ·have b:e∣aO n (minor A 0 j):=by
    refine c (k-1) (minor A 0 j) aq λi c d d o6=>?_;have d:minor A 0 j i c=A (i+1) (c+1):=by
     simp only[minor,fp];have:skip j c=c+1:=by simp only[skip];rw[aa aq]
     rw[this]
    rw[d];exact h (i+1) (c+1) aq aq aq
   exact Int.dvd_trans b ⟨jl j*A 0 j,aC⟩
structure Inv(n:Nat)(X X':Mt):Prop where
 r:∀i j,i<n->j<n->mul n X X' i j=one i j
 l:∀i j,i<n->j<n->mul n X' X i j=one i j
theorem mul_congr{n:Nat}{A A' C C':Mt}{i j:Nat}(h:∀k,k<n->A i k=A' i k)(h':∀k,k<n->C k j=C' k j):mul n A C i j=mul n A' C' i j:=aR λk a=>by rw[h k a,h' k a]
theorem Inv.symm{n:Nat}{X a:Mt}(h:Inv n X a):Inv n a X:=⟨h.l,h.r⟩
theorem Inv.one(n:Nat):Inv n one one:=⟨λi j _ a=>mul_one n _ i j a,λi j _ a=>mul_one n _ i j a⟩
theorem Inv.mul{n:Nat}{X b Y f:Mt}(h:Inv n X b)(g:Inv n Y f):Inv n (Go.aW.mul n X Y) (Go.aW.mul n f b):=by
 refine⟨λi j e d=>?_,λi j e d=>?_⟩
 ·rw[mul_assoc];rw[mul_congr (A':=X) (C':=b) (λk _=>rfl) λk a=>by
   rw[<-mul_assoc,mul_congr (A':=Go.aW.one) (C':=b) (λt c=>g.r k t a c) λt _=>rfl,one_mul n b k j a]]
  exact h.r i j e d
 ·rw[mul_assoc];rw[mul_congr (A':=f) (C':=Y) (λk _=>rfl) λk a=>by
   rw[<-mul_assoc,mul_congr (A':=Go.aW.one) (C':=Y) (λt c=>h.l k t a c) λt _=>rfl,one_mul n Y k j a]]
  exact g.l i j e d
theorem Inv.aO{n:Nat}{X a:Mt}(h:Inv n X a):Go.aW.aO n X*Go.aW.aO n a=1:=by
 rw[<-iU,bk h.r,qi]
theorem Inv.qT{n:Nat}{X:Mt}(a:Go.aW.aO (n+1) X=1\/Go.aW.aO (n+1) X=-1):Inv (n+1) X (λi j=>Go.aW.aO (n+1) X*fY n X i j):=by
 have c:Go.aW.aO (n+1) X*Go.aW.aO (n+1) X=1:=by rcases a with h|h<;>rw[h]<;>rfl
 refine⟨λi j b a=>?_,λi j b a=>?_⟩
 ·have:Go.aW.mul (n+1) X (λi j=>Go.aW.aO (n+1) X*fY n X i j) i j=Go.aW.aO (n+1) X*Go.aW.mul (n+1) X (fY n X) i j:=by
   simp only[Go.aW.mul];rw[<-dL];exact aR λk _=>aC
  rw[this,mA n X i j b a];simp only[Go.aW.one];by_cases e:i=j
  ·rw[ab e,ab e,c]
  ·rw[aa e,aa e,Int.mul_zero]
 ·have:Go.aW.mul (n+1) (λi j=>Go.aW.aO (n+1) X*fY n X i j) X i j=Go.aW.aO (n+1) X*Go.aW.mul (n+1) (fY n X) X i j:=by
   simp only[Go.aW.mul];rw[<-dL];exact aR λk _=>aC
  rw[this,mM n X i j b a];simp only[Go.aW.one];by_cases e:i=j
  ·rw[ab e,ab e,c]
  ·rw[aa e,aa e,Int.mul_zero]
def iM(n:Nat)(A B:Mt):Prop:=∃X b Y a,Inv n X b/\Inv n Y a/\∀i j,i<n->j<n->mul n B Y i j=mul n X A i j
theorem iM.symm{n:Nat}{A B:Mt}(h:iM n A B):iM n B A:=by
 obtain⟨X,d,Y,b,l,g,h⟩:=h;refine⟨d,X,b,Y,l.symm,g.symm,λi j f e=>?_⟩;have m:mul n (mul n d (mul n X A)) b i j=mul n A b i j:=mul_congr (λk c=>by
  rw[<-mul_assoc,mul_congr (A':=one) (C':=A) (λt a=>l.l i t f a) λt _=>rfl,one_mul n A i k f]) λk _=>rfl
 rw[<-m,mul_congr (A':=mul n d (mul n B Y)) (C':=b) (λk c=>mul_congr (λt _=>rfl) λt a=>(h t k a c).symm) λk _=>rfl];rw[mul_assoc];refine mul_congr (λk _=>rfl) λk c=>?_;rw[mul_assoc,mul_congr (A':=B) (C':=one) (λt _=>rfl) λt a=>g.r t j a e,mul_one n B k j e]
theorem iM.trans{n:Nat}{A B C:Mt}(h:iM n A B)(g:iM n B C):iM n A C:=by
 obtain⟨X,i,Y,f,c,b,h⟩:=h;obtain⟨Z,e,W,j,a,d,g⟩:=g;refine⟨mul n Z X,mul n i e,mul n W Y,mul n f j,a.mul c,d.mul b,λi j c b=>?_⟩;rw[<-mul_assoc,mul_congr (A':=mul n Z B) (C':=Y) (λk a=>g i k c a) λk _=>rfl,mul_assoc,mul_assoc];exact mul_congr (λk _=>rfl) λk a=>h k j a b
theorem iM.congr{n:Nat}{A B C:Mt}(h:iM n A B)(e:∀i j,i<n->j<n->B i j=C i j):iM n A C:=by
 obtain⟨X,d,Y,c,b,a,h⟩:=h;exact⟨X,d,Y,c,b,a,λi j a b=>by rw[<-h i j a b];exact mul_congr (λk b=>(e i k a b).symm) λ_ _=>rfl⟩
theorem iM.left{n:Nat}{A B X a:Mt}(b:Inv n X a)(h:∀i j,i<n->j<n->B i j=mul n X A i j):iM n A B:=⟨X,a,one,one,b,Inv.one n,λi j b a=>by rw[mul_one n B i j a,h i j b a]⟩
theorem iM.right{n:Nat}{A B Y a:Mt}(b:Inv n Y a)(h:∀i j,i<n->j<n->B i j=mul n A Y i j):iM n A B:=by
 refine iM.symm ⟨one,one,Y,a,Inv.one n,b,λi j a b=>by rw[one_mul n B i j a,h i j a b]⟩
theorem iM.tr{n:Nat}{A B:Mt}(h:iM n A B):iM n (Go.aW.tr A) (Go.aW.tr B):=by
 obtain⟨X,a,Y,l,d,k,h⟩:=h;have e:∀{X a:Mt},Inv n X a->Inv n (Go.aW.tr a) (Go.aW.tr X)/\Inv n (Go.aW.tr X) (Go.aW.tr a):=by
  intro X a d;have g:∀i j,i<n->j<n->mul n (Go.aW.tr a) (Go.aW.tr X) i j=one i j:=λi j c b=>by
   rw[<-nA];simp only[Go.aW.tr];rw[d.r j i b c];simp only[one,eq_comm]
  have f:∀i j,i<n->j<n->mul n (Go.aW.tr X) (Go.aW.tr a) i j=one i j:=λi j c b=>by
   rw[<-nA];simp only[Go.aW.tr];rw[d.l j i b c];simp only[one,eq_comm]
  exact⟨⟨g,f⟩,⟨f,g⟩⟩
 refine iM.symm ⟨Go.aW.tr Y,Go.aW.tr l,Go.aW.tr X,Go.aW.tr a,(e k).2,(e d).2,λi j c b=>?_⟩;rw[<-nA,<-nA];exact(h j i b c).symm
theorem Jm{n i k:Nat}(b:i<n)(d:k<n)(a:Int)(aI:Nat->Int):(sm n λt=>((if i=t then(1:Int)else 0)+if t=k then a else 0)*aI t)=aI i+a*aI k:=by
 have:(sm n λt=>((if i=t then(1:Int)else 0)+if t=k then a else 0)*aI t)=sm n λt=>(if i=t then(1:Int)else 0)*aI t+(if t=k then a else 0)*aI t:=aR λt _=>aC;rw[this,oV,dc (c:=i) b λt _ b=>by rw[aa (Ne.symm b),Int.zero_mul],dc (c:=k) d λt _ b=>by rw[aa b,Int.zero_mul],ab F,ab F,Int.one_mul]
def pM(k:Nat)(g:Nat->Int):Mt:=λi t=>(if i=t then 1 else 0)+if t=k then g i else 0
theorem qO{n k i j:Nat}(a:k<n)(b:i<n)(g:Nat->Int)(A:Mt):mul n (pM k g) A i j=A i j+g i*A k j:=Jm b a (g i) λt=>A t j
theorem u4{n k:Nat}(c:k<n)(g:Nat->Int)(a:g k=0):Inv n (pM k g) (pM k λi=>- g i):=by
 have b:∀(g:Nat->Int),g k=0->∀i j,i<n->j<n->mul n (pM k g) (pM k λi=>- g i) i j=one i j:=by
  intro g a i j d f;rw[qO c d];simp only[pM,one];by_cases e:j=k
  ·subst e;simp only[a];grind
  ·rw[aa e,aa e,aa (Ne.symm e)];grind
 refine⟨b g a,?_⟩;have:=b (λi=>- g i) (by rw[a];rfl);simpa using this
theorem iM.rows{n k:Nat}{A B:Mt}(a:k<n)(g:Nat->Int)(b:g k=0)(h:∀i j,i<n->j<n->B i j=A i j+g i*A k j):iM n A B:=iM.left (u4 a g b) λi j b c=>by rw[qO a b,h i j b c]
theorem iM.perm{n:Nat}{A B:Mt}(s:Nat->Nat)(b:∀i,i<n->s i<n/\s (s i)=i)(h:∀i j,i<n->j<n->B i j=A (s i) j):iM n A B:=by
 have d:∀(C:Mt) i j,i<n->mul n (λi t=>if t=s i then 1 else 0) C i j=C (s i) j:=by
  intro C i j a;simp only[mul];rw[dc (c:=s i) (b i a).1 λt _ e=>by rw[aa e,Int.zero_mul],ab F,Int.one_mul]
 have f:∀i j,i<n->j<n->mul n (λi t=>if t=s i then 1 else 0) (λi t=>if t=s i then 1 else 0) i j=one i j:=by
  intro i j a e;rw[d _ i j a];simp only[(b i a).2,one,eq_comm]
 exact iM.left ⟨f,f⟩ λi j a e=>by rw[d A i j a,h i j a e]
theorem iM.N5{n:Nat}{A B:Mt}(s:Nat->Nat)(a:∀i,i<n->s i<n/\s (s i)=i)(h:∀i j,i<n->j<n->B i j=A i (s j)):iM n A B:=(iM.perm (A:=Go.aW.tr A) (B:=Go.aW.tr B) s a λi j b a=>h j i a b).tr
theorem iM.GG{n:Nat}{A B:Mt}(s:Nat->Int)(k:∀i,i<n->s i*s i=1)(h:∀i j,i<n->j<n->B i j=s i*A i j):iM n A B:=by
 have d:∀(C:Mt) i j,i<n->mul n (λi t=>if t=i then s i else 0) C i j=s i*C i j:=by
  intro C i j a;simp only[mul];rw[dc (c:=i) a λt _ b=>by rw[aa b,Int.zero_mul],ab F]
 have g:∀i j,i<n->j<n->mul n (λi t=>if t=i then s i else 0) (λi t=>if t=i then s i else 0) i j=one i j:=by
  intro i j a f;rw[d _ i j a];simp only[one];by_cases e:i=j
  ·subst e;rw[ab F,ab F,k i a]
  ·rw[aa e,aa (Ne.symm e),Int.mul_zero]
 exact iM.left ⟨g,g⟩ λi j a f=>by rw[d A i j a,h i j a f]
structure gN(n:Nat)(D:Mt):Prop where
 off:∀i j,i<n->j<n->i≠j->D i j=0
 dv:∀i,i+1<n->D i i∣D (i+1) (i+1)
 nn:∀i,i<n->0<=D i i
theorem gN.dvd{n:Nat}{D:Mt}(h:gN n D){i:Nat}:∀k,i+k<n->D i i∣D (i+k) (i+k)
 |0,_=>Int.dvd_refl _
 |k+1,a=>Int.dvd_trans (h.dvd k aq) (h.dv (i+k) a)
theorem gN.Oa{n:Nat}{D:Mt}(h:gN n D){i k:Nat}(a:i<=k)(b:k<n):D i i∣D k k:=by
 have:=h.dvd (i:=i) (k-i) aq;rwa[Nat.add_sub_cancel' a]at this
theorem uZ{n:Nat}{D E:Mt}(y:gN n D)(x:gN n E)(h:iM n E D){k:Nat}(v:k<n):E k k∣D k k:=by
 obtain⟨X,d,Y,d,d,G,h⟩:=h;have z:∀i j,i<n->j<n->D i i*Y i j=X i j*E j j:=by
  intro i j o l;have:=h i j o l;simp only[mul]at this;rw[dc (c:=i) o λt g d=>by rw[y.off i t o g (Ne.symm d),Int.zero_mul],dc (c:=j) l λt g d=>by rw[x.off t j g l d,Int.mul_zero]]at this;exact this
 by_cases h:Int.gcd (D k k) (E k k)=0
 ·rw[Int.gcd_eq_zero_iff]at h;rw[h.1,h.2];exact Int.dvd_refl _
 ·obtain⟨d,w⟩:=Int.gcd_dvd_left (a:=D k k) (b:=E k k);obtain⟨e,q⟩:=Int.gcd_dvd_right (a:=D k k) (b:=E k k);have B:((Int.gcd (D k k) (E k k):Nat):Int)≠0:=aq;have u:Int.gcd e d=1:=by
   have p:Int.gcd (D k k) (E k k)=Int.gcd (D k k) (E k k)*Int.gcd d e:=by
    have f:=Int.gcd_mul_left (m:=((Int.gcd (D k k) (E k k):Nat):Int)) (n:=d) (k:=e);rw[<-w,<-q]at f;simpa using f
   have r:Int.gcd d e=1:=Nat.eq_of_mul_eq_mul_left (Nat.pos_of_ne_zero h) aq;rw[Int.gcd_comm];exact r
  have C:∀i j,i<=k->k<=j->j<n->e∣Y i j:=by
   intro i j o l h;obtain⟨s,A⟩:=y.Oa o v;obtain⟨t,g⟩:=x.Oa l h;have p:=z i j aq h;have f:((Int.gcd (D k k) (E k k):Nat):Int)*(d*Y i j)=((Int.gcd (D k k) (E k k):Nat):Int)*(e*(s*X i j*t)):=by
    have:D k k*Y i j=E k k*(s*X i j*t):=by
     rw[A];have:D i i*s*Y i j=s*(D i i*Y i j):=aC;rw[this,p,g];grind
    calc ((Int.gcd (D k k) (E k k):Nat):Int)*(d*Y i j)=D k k*Y i j:=by rw[<-Int.mul_assoc,<-w]
     _=E k k*(s*X i j*t):=this
     _=((Int.gcd (D k k) (E k k):Nat):Int)*(e*(s*X i j*t)):=by rw[<-Int.mul_assoc ((Int.gcd (D k k) (E k k):Nat):Int) e,<-q]
   have r:d*Y i j=e*(s*X i j*t):=Int.eq_of_mul_eq_mul_left B f;have g:e.natAbs∣d.natAbs*(Y i j).natAbs:=by rw[<-Int.natAbs_mul,r];exact Int.natAbs_dvd_natAbs.2 ⟨_,F⟩
   exact Int.natAbs_dvd_natAbs.1 (Nat.Coprime.dvd_of_dvd_mul_left u g)
  have p:e∣aO n Y:=FD n k Y v C;have f:e∣1:=Int.dvd_trans p ⟨_,G.aO.symm⟩;obtain⟨u,d⟩:=f;have g:E k k*u=((Int.gcd (D k k) (E k k):Nat):Int):=by
   calc E k k*u=((Int.gcd (D k k) (E k k):Nat):Int)*(e*u):=by rw[<-Int.mul_assoc,<-q]
    _=_:=by rw[<-d,Int.mul_one]
  exact Int.dvd_trans ⟨_,g.symm⟩ (Int.gcd_dvd_left ..)
theorem wM{n:Nat}{D E:Mt}(c:gN n D)(b:gN n E)(h:iM n D E){k:Nat}(a:k<n):D k k=E k k:=
 Int.dvd_antisymm (c.nn k a) (b.nn k a) (uZ b c h a) (uZ c b h.symm a)
def sx(k p i:Nat):Nat:=if i=k then p else if i=p then k else i
theorem lF{n k p i:Nat}(a:k<n)(a:p<n)(a:i<n):sx k p i<n:=by unfold sx;split;omega;split<;>omega
theorem uU{k p i:Nat}(a:k<=p)(a:k<=i):k<=sx k p i:=by unfold sx;split;omega;split<;>omega
theorem NP(k p i:Nat):sx k p (sx k p i)=i:=by
 unfold sx;by_cases b:i=k
 ·rw[ab b];by_cases a:p=k
  ·rw[ab a];omega
  ·rw[aa a,ab F];omega
 ·rw[aa b];by_cases a:i=p
  ·rw[ab a,ab F];omega
  ·rw[aa a,aa b,aa a]
theorem Jf(k p:Nat):sx k p k=p:=ab F
theorem Je(k i:Nat):sx k k i=i:=by unfold sx;split;omega;rfl
def swp(M:Mt)(k p c:Nat):Mt:=λi j=>M (sx k p i) (sx k c j)
def cR(M:Mt)(k m:Nat):Mt:=λi j=>if k<i/\i<m then M i j-M i k/M k k*M k j else M i j
def h_(M:Mt)(k m:Nat):Mt:=λi j=>if k<j/\j<m then M i j-M k j/M k k*M i k else M i j
def red(M:Mt)(k n:Nat):Mt:=h_ (cR M k n) k n
def eK(M:Mt)(k a:Nat):Mt:=λi j=>if i=k then M k j+M a j else M i j
theorem qY(M:Mt)(k a j:Nat):eK M k a k j=M k j+M a j:=ab F
theorem mod_eq(a x:Int):a-a/x*x=a%x:=by rw[Int.emod_def,Int.mul_comm]
theorem iK(M:Mt)(k m j:Nat):cR M k m k j=M k j:=aa (by omega)
theorem wY(M:Mt)(k n:Nat):red M k n k k=M k k:=by
 simp only[red,h_];rw[aa aq,iK]
theorem GQ(M:Mt){k n i:Nat}(b:k<i)(a:i<n):red M k n i k=M i k%M k k:=by
 simp only[red,h_];rw[aa aq];simp only[cR];rw[ab ⟨b,a⟩,mod_eq]
theorem w_(M:Mt){k n j:Nat}(b:k<j)(a:j<n):red M k n k j=M k j%M k k:=by
 simp only[red,h_];rw[ab ⟨b,a⟩,iK,iK,mod_eq]
theorem qd{z x:Int}{P:Nat}(h:x.natAbs=P)(a:0<P):0<=z%x/\z%x<P:=by
 refine⟨Int.emod_nonneg _ aq,?_⟩;have:=Int.emod_lt z (b:=x) aq;omega
structure uM(n k:Nat)(M:Mt)(p c:Nat):Prop where
 hp:k<=p
 kO:p<n
 hc:k<=c
 o6:c<n
 nz:M p c≠0
 mn:∀i j,k<=i->i<n->k<=j->j<n->M i j≠0->(M p c).natAbs<=(M i j).natAbs
 fst:∀i j,k<=i->i<n->k<=j->j<n->i<p\/i=p/\j<c->M i j≠0->(M p c).natAbs<(M i j).natAbs
def CLN(n k:Nat)(C:Mt):Prop:=(∀i,k<i->i<n->C i k=0)/\∀j,k<j->j<n->C k j=0
def ins(Q:Nat->Bool)(k:Nat):Nat->Bool:=λi=>Q i || i == k
