import Derived.Test.YtmfndnlifgphjaaGreatQzm
set_option maxHeartbeats 64000000
open Go.Proofs.YtmfndnlifgphjaaGreat
namespace Go.Proofs.Qq
section
open Go Go.cU Go.cV Go.Proofs
theorem zv(a x:Nat)(b:a<4294967296)(b:x<=4294967296):(a+(18446744073709551616-x))%18446744073709551616%4294967296+x=a+4294967296*(if a<x then 1 else 0):=by
 split<;>omega
theorem jt(D u:Option Addr)(m y C A:Nat)(a c:List Nat)(w:World)(h1:eP w D a)(H:eP w u c)(J:a.length=m)(I:c.length=y)(R:m<1099511627776)(R:y<=m)(R:val c<=val a):
 aT Tryz.prog 80 #[.slice D m C,.slice u y A] w λv b=>Ext w b/\FB b v m (val a-val c):=by
 subst J I;refine bF (n:=46) Tryz.func80 F rfl aw aA ?_;refine gg ?_;refine aP ?_;refine gg ?_;refine aU (λm f b=>∃i v l d,m=a.length-i/\i<=a.length/\f 0=.slice D a.length C/\f 1=.slice u c.length A/\f 5=v/\f 6=.int .u64 ((d:Nat):Int)/\f 7=.int .i64 ((i:Nat):Int)/\Ext w b/\tU b w.heap.size v l/\l.length=i/\d<=1/\
  val l+val (c.take i)=val (a.take i)+d*B^i) a.length ⟨0,_,[],0,F,aq,F,F,F,F,F,Ext.refl _,tU.nil _ _,F,aq,by simp[val]⟩ ?_
 rintro m f M ⟨i,v,l,d,rfl,m,o,k,g,m,e,q,t,p,y,G⟩;rw[ui o,ui k,ui g,ui m,ui e];clear o k g m e;refine aP ?_;have O:=h1.e_.getD i;have m:=H.e_.getD i;by_cases m:i<a.length
 ·obtain⟨Q,rfl,m⟩:=(h1.Y q).at (j:=i) aq;have y:=m i aq;refine gg ?_;refine aX (λf b=>M=b/\f 0=.slice (some Q) a.length C/\f 1=.slice u c.length A/\f 5=v/\f 7=.int .i64 (i:Int)/\f 8=.int .u64 ((d+c.getD i 0:Nat):Int)) ?_ ?_
  ·refine aP ?_;by_cases K:i<c.length
   ·obtain⟨m,rfl,m⟩:=(H.Y q).at (j:=i) aq;have u:=m i aq;refine gg ?_;exact⟨F,F,F,F,F,F⟩
   ·have:c.getD i 0=0:=by simp[List.getD,K]
    refine gg ?_;exact⟨F,F,F,F,F,by rw[this];rfl⟩
  rintro f b ⟨rfl,o,k,g,e,b⟩;rw[ui o,ui k,ui g,ui e,ui b];clear o k g e b;refine gg ?_;refine fz F rfl aq ?_;refine gg ?_;refine eM di F (.inl F) F rfl ?_;intro b e b f;refine gg ?_;refine lZ F rfl (t.Y b) F e (Nat.mod_lt _ ar) aq (by have:=q.size;omega) ?_;intro E f x e;have r:Ext w f:=e.aK (q.trans b) λb s=>t.qd s;obtain⟨b,z,L⟩:=(h1.Y r).at (j:=i) aq;injection z with z;subst z;have b:=L i aq;have g:=zv (a.getD i 0) (d+c.getD i 0) O aq;have e:∀b,b=(if a.getD i 0<d+c.getD i 0 then 1 else 0)->val (l++[(a.getD i 0+(18446744073709551616-(d+c.getD i 0)))%18446744073709551616%4294967296])+val (c.take (i+1))=val (a.take (i+1))+b*B^(i+1):=λb f=>by
   rw[<-f]at g;rw[jW,p,eu a,eu c,Nat.pow_succ];exact pk (B^i) (val l) (val (c.take i)) (val (a.take i)) (a.getD i 0) (c.getD i 0) d _ b G (by show _=_+4294967296*b;omega)
  by_cases s:a.getD i 0<d+c.getD i 0
  ·refine gg ?_;refine⟨_,?_,i+1,E,_,1,F,aq,F,F,F,F,F,r,x,by simp[p],aq,e 1 (by rw[ae s])⟩;omega
  ·refine gg ?_;refine⟨_,?_,i+1,E,_,0,F,aq,F,F,F,F,F,r,x,by simp[p],aq,e 0 (by rw[aa s])⟩;omega
 ·refine gg ?_;have:i=a.length:=aq;subst this;rw[cM a _ aq,cM c _ aq]at G;have P:=fY l t.1;have:d=0:=by
   rcases Nat.lt_or_ge 0 d with h|h
   ·have:B^a.length<=d*B^a.length:=Nat.le_mul_of_pos_left _ h;rw[p]at P;omega
   ·omega
  subst this;refine cI (v:=v) F rfl ⟨q,?_⟩;have:=t.GD (N:=a.length) aq;rw[show val l=val a-val c by omega]at this;exact this
theorem sE(x1 y1 x2 y2:Value)(z1 g:Int)(N:Nat)(w:World)(h1:IV w N x1 y1 z1)(h2:IV w N x2 y2 g)(hN:N<137438953472):
 aT Tryz.prog 57 #[.agg #[x1,y1],.agg #[x2,y2]] w (RI w (z1+g)):=by
 obtain⟨k,g,l1,g,rfl,rfl,an,g,a6,g,rfl⟩:=h1;obtain⟨p,g,l2,g,rfl,rfl,K,g,a5,g,rfl⟩:=h2;refine bF (n:=40) Tryz.func57 F rfl aw aA ?_;refine gg ?_;refine aZ (v:=.agg _) (.inl F) F ?_;intro g X V ak;refine gg ?_;refine aZ (v:=.agg _) (.inl F) F ?_;intro w2 W H aj;refine gg ?_;refine aR (.inl F) a_ ?_;intro g a7 r ai;have U:Bx g w2.heap.size 1 true 0:=Bx.zero true a7;obtain⟨gR,a3⟩ : ∃g,g=w2.heap.size:=⟨_,F⟩;rw[<-a3]at U⊢;have t:=V.trans (H.trans r);refine gg ?_;refine b7 [(0,3),(1,0),(3,3),(4,0),(2,1),(5,1),(6,3),(7,3)] mixed aw λg q _=>?_;have a0:=X.Y (H.trans (r.trans q));have Z:=W.Y (r.trans q);have f1:=fG a0;have f3:=fG Z;refine gg ?_;refine aM (fS _ _ _ _ g (a6.Y (t.trans q)) F an aq) ?_;rintro _ g ⟨M,a4⟩;refine⟨M,?_⟩;refine gg ?_;refine aM (fS _ _ _ _ g (a5.Y ((t.trans q).trans M)) F K aq) ?_;rintro _ w6 ⟨L,au⟩;refine⟨L,?_⟩;obtain⟨g,z,g,rfl,g,g,G,S,ct⟩:=a4.Y L;obtain⟨g,u,g,rfl,g,g,E,R,fg⟩:=au;have g:z.length<=N:=by have:=fw a6.e_ S (Nat.le_of_eq ct);omega
 have g:u.length<=N:=by have:=fw a5.e_ R (Nat.le_of_eq fg);omega
 have g:=q.trans (M.trans L);have I:=t.trans g;have a6:=X.Y (H.trans (r.trans g));have a5:=W.Y (r.trans g);have T:=U.Y g;have an:w.heap.size<=gR:=by have:=(V.trans H).size;omega
 clear f1 f3 a0 Z q M L g t r H V X W a7 U ak aj ai a3 a4;have f0:=jy a6;have f2:=jy a5;refine gg ?_;by_cases B:k=p
 ·have e0:(k == p)=true:=by simpa using B
  refine aP ?_;refine gg ?_;rw[e0];refine gg ?_;refine b7 [(0,3),(1,0),(2,3),(3,3),(4,1),(5,1),(6,2)] mixed aw λw7 h _=>?_;have O:=aS h f0;refine gg ?_;refine aM (DN _ _ _ _ _ _ z u w7 (G.Y h) (E.Y h) F rfl aq aq) ?_;rintro _ P ⟨j,A,l,c,rfl,D,K,Q,a2,hv⟩;refine⟨j,?_⟩;refine gg ?_;refine aM (ib k _ _ _ l P Q F D aq) ?_;rintro _ w9 ⟨f,x,y,rfl,d⟩;refine⟨f,?_⟩;refine gg ?_;obtain⟨ox,oy,m,C⟩:=T.Y (h.trans (j.trans f));refine aV aN (.inl F) F rfl d.db d.de m aA ?_;intro a1 g Y q;refine gg ?_;refine dO F aN F g ⟨Y.aK (I.trans (h.trans (j.trans f))) λb B=>aq,x,y,F,?_⟩;have e:sg k (val l)=sg k (val l1)+sg p (val l2):=by
   rw[hv,ct,fg,<-B];cases k<;>simp[sg];omega
  rw[<-e];exact d.kp (cK m C.1.jn Y)
 ·have e0:(k == p)=false:=by simpa using B
  refine aP ?_;refine gg ?_;rw[e0];refine gg ?_;refine aP ?_;refine gg ?_;refine aJ (sD _ _ _ _ _ _ z u w6 G E F rfl aq aq S R) ?_;rintro _ w7 ⟨h,rfl⟩;by_cases s:val u<=val z
  ·have al:(0:Int)<=dX (val z) (val u):=by unfold dX;rw[aa aq];split<;>decide
   have O:=aS h f0;refine gg ?_;refine b7 [(0,3),(1,0),(2,3),(3,3),(4,1),(5,1),(6,2)] mixed aw λP j _=>?_;have O:=aS j O;have a:=h.trans j;refine gg ?_;refine aM (jt _ _ _ _ _ _ z u P (G.Y a) (E.Y a) F rfl aq (fw G.e_ R s) s) ?_;rintro _ w9 ⟨f,A,l,c,rfl,D,K,Q,a2,hv⟩;refine⟨f,?_⟩;refine gg ?_;refine aM (ib k _ _ _ l w9 Q F D aq) ?_;rintro _ a1 ⟨i,x,y,rfl,d⟩;refine⟨i,?_⟩;refine gg ?_;obtain⟨ox,oy,m,C⟩:=T.Y (a.trans (f.trans i));refine aV aN (.inl F) F rfl d.db d.de m aA ?_;intro ad J o ab;refine gg ?_;refine dO F aN F J ⟨o.aK (I.trans (a.trans (f.trans i))) λb B=>aq,x,y,F,?_⟩;have e:sg k (val l)=sg k (val l1)+sg p (val l2):=by
    rw[hv,ct,fg];rw[ct,fg]at s;cases k<;>cases p<;>simp[sg]at B⊢<;>omega
   rw[<-e];exact d.kp (cK m C.1.jn o)
  ·have al:¬(0:Int)<=dX (val z) (val u):=by unfold dX;rw[ae aq];decide
   have O:=aS h f2;refine gg ?_;refine b7 [(0,3),(1,0),(2,3),(3,3),(4,1),(5,1),(6,2)] mixed aw λP j _=>?_;have O:=aS j O;have a:=h.trans j;refine gg ?_;refine aM (jt _ _ _ _ _ _ u z P (E.Y a) (G.Y a) F rfl aq (fw E.e_ S aq) aq) ?_;rintro _ w9 ⟨f,A,l,c,rfl,D,K,Q,a2,hv⟩;refine⟨f,?_⟩;refine gg ?_;refine aM (ib p _ _ _ l w9 Q F D aq) ?_;rintro _ a1 ⟨i,x,y,rfl,d⟩;refine⟨i,?_⟩;refine gg ?_;obtain⟨ox,oy,m,C⟩:=T.Y (a.trans (f.trans i));refine aV aN (.inl F) F rfl d.db d.de m aA ?_;intro ad J o ab;refine gg ?_;refine dO F aN F J ⟨o.aK (I.trans (a.trans (f.trans i))) λb B=>aq,x,y,F,?_⟩;have e:sg p (val l)=sg k (val l1)+sg p (val l2):=by
    rw[hv,ct,fg];rw[ct,fg]at s;cases k<;>cases p<;>simp[sg]at B⊢<;>omega
   rw[<-e];exact d.kp (cK m C.1.jn o)
theorem yi(g e f d:Value)(c b:Int)(N:Nat)(w:World)(h1:IV w N g e c)(i:IV w N f d b)(m:N<137438953472):
 aT Tryz.prog 31 #[.agg #[g,e],.agg #[f,d]] w (RI w (c-b)):=by
 refine bF (n:=9) Tryz.func31 F rfl aw aA ?_;refine gg ?_;refine aZ (v:=.agg _) (.inl F) F ?_;intro b l k b;refine gg ?_;refine aZ (v:=.agg _) (.inl F) F ?_;intro c f h b;refine gg ?_;refine aR (.inl F) a_ ?_;intro e d b g;have j:Bx e c.heap.size 1 true 0:=Bx.zero true d;obtain⟨d,d⟩ : ∃g,g=c.heap.size:=⟨_,F⟩;rw[<-d]at j⊢;have d:=k.trans (h.trans b);refine gg ?_;refine b7 [(0,0),(1,0),(2,1),(3,1),(4,2)] mixed aw λg e _=>?_;obtain⟨c,c⟩:=a9 (l.Y (h.trans (b.trans e)));obtain⟨c,c⟩:=a9 (f.Y (b.trans e));have c:=d.trans e;refine gg ?_;refine aM (oV _ _ _ N g (i.Y c) aq) ?_;rintro _ f ⟨d,a,b,rfl,hc⟩;refine⟨d,?_⟩;refine gg ?_;refine aM (sE _ _ _ _ _ _ N f (h1.Y (c.trans d)) (hc.iv (IV.bd i).neg) m) ?_;rintro _ f ⟨g,x,y,rfl,f⟩;refine⟨g,?_⟩;refine gg ?_;obtain⟨i,i,i,l⟩:=j.Y (e.trans (d.trans g));refine aV aN (.inl F) F rfl f.db f.de i aA ?_;intro e j e m;refine gg ?_;refine dO F aN F j ⟨e.aK (c.trans (d.trans g)) (λb b=>by have:=(k.trans h).size;omega),x,y,F,?_⟩;rw[Int.sub_eq_add_neg];exact f.kp (cK i l.1.jn e)
theorem yt(x y:Value)(z:Int)(N:Nat)(w:World)(h:IV w N x y z)(a:N<1099511627776):
 aT Tryz.prog 81 #[.agg #[x,y]] w (RI w (z.natAbs:Int)):=by
 obtain⟨a,A,l,c,rfl,rfl,e,a,g,a,rfl⟩:=h;refine bF (n:=6) Tryz.func81 F rfl aw aA ?_;refine gg ?_;refine aZ (v:=.agg _) (.inl F) F ?_;intro a a d b;refine gg ?_;refine aR (.inl F) a_ ?_;intro c f b i;have i:=fG (a.Y b);refine gg ?_;refine aJ (ib false _ _ _ l c (g.Y (d.trans b)) F e aq) ?_;rintro _ a ⟨c,x,y,rfl,a⟩;refine gg ?_;refine aV aN (.inl F) F rfl a.db a.de (f.Y c) ar ?_;intro e g e i;refine gg ?_;refine dO F aN F g ⟨e.aK ((d.trans b).trans c) (λb b=>by have:=d.size;omega),_,_,F,?_⟩;rw[jM];exact a.dj (f.Y c) cN e
theorem h_(x y:Value)(z:Int)(N:Nat)(w:World)(h:IV w N x y z)(c:N<1099511627776):
 aT Tryz.prog 8 #[.agg #[x,y]] w λv c=>Ext w c/\v=.int .i64 z.sign:=by
 obtain⟨e,A,l,c,rfl,rfl,m,c,o,c,rfl⟩:=h;refine bF (n:=12) Tryz.func8 F rfl aw aA ?_;refine gg ?_;refine aZ (v:=.agg _) (.inl F) F ?_;intro k c b i;have i:=jy c;have p:=fG c;refine gg ?_;refine aJ (fS _ _ _ _ k (o.Y b) F m aq) ?_;rintro _ c ⟨a,T,t,d,rfl,c,c,hT,j,f⟩;have i:=aS a i;by_cases g:t.length=0
 ·refine gg ?_;refine cI (v:=.int _ _) F rfl ⟨b.trans a,?_⟩;have:val l=0:=by rw[<-f,List.eq_nil_of_length_eq_zero g];rfl
  rw[this];cases e<;>rfl
 ·have c:0<val l:=by
   rcases Nat.eq_zero_or_pos (val l)with h|h
   ·exact absurd (by rw[val_zero j (f.trans h)];rfl) g
   ·exact h
  cases e
  ·refine gg ?_;refine cI (v:=.int _ _) F rfl ⟨b.trans a,?_⟩;rw[fc,Int.sign_eq_one_of_pos aq];rfl
  ·refine gg ?_;refine cI (v:=.int _ _) F rfl ⟨b.trans a,?_⟩;rw[e9,Int.sign_eq_neg_one_of_neg aq]
theorem oW(x1 y1 x2 y2:Value)(V g:Int)(N:Nat)(w:World)(h1:IV w N x1 y1 V)(h2:IV w N x2 y2 g)(hN:N<137438953472):
 aT Tryz.prog 32 #[.agg #[x1,y1],.agg #[x2,y2]] w (RI w (V*g)):=by
 obtain⟨g1,A1,a,Y,rfl,rfl,g,g,b4,g,rfl⟩:=h1;obtain⟨g2,A2,c,c2,rfl,rfl,g,g,aH,g,rfl⟩:=h2;refine bF (n:=77) Tryz.func32 F rfl aw aA ?_;refine gg ?_;refine aZ (v:=.agg _) (.inl F) F ?_;intro w1 al b5 bu;refine gg ?_;refine aZ (v:=.agg _) (.inl F) F ?_;intro V ak aj bt;refine gg ?_;refine aR (.inl F) a_ ?_;intro w3 bg a5 bs;have ai:bh w3 V.heap.size 35 #[.bool false,.slice none 0 0]:=bg;obtain⟨K,av⟩ : ∃g,g=w.heap.size:=⟨_,F⟩;obtain⟨J,au⟩ : ∃g,g=w1.heap.size:=⟨_,F⟩;obtain⟨M,ax⟩ : ∃g,g=V.heap.size:=⟨_,F⟩;rw[<-ax]at ai⊢;rw[<-au]at ak⊢;rw[<-av]at al⊢;have an:=al.Y (aj.trans a5);have a2:=ak.Y a5;have a1:=fG an;have R:=fG a2;refine gg ?_;refine cF di (.inl F) F rfl aD aq aq ?_;intro I X V bl;rw[fZ]at X;obtain⟨O,ay⟩ : ∃g,g=w3.heap.size:=⟨_,F⟩;rw[<-ay]at X⊢;have Z:=b5.trans (aj.trans (a5.trans V));have a6:=an.Y V;have Q:=a2.Y V;have ab:=ai.Y V;have g:K<J/\J<M/\M<O/\w.heap.size<=K:=aq;obtain⟨bA,bA,bA,bA⟩:=g;clear an a2 bg al ak b5 aj a5 V bu bt bs bl ax au av ay a1 R ai;have a1:=fG a6;have R:=fG Q;refine gg ?_;refine aX (λf d=>∃L,f 2=.pointer (some ⟨K,0,none⟩)/\f 3=.pointer (some ⟨J,0,none⟩)/\f 4=.pointer (some ⟨M,0,none⟩)/\f 5=.slice (some ⟨O,0,none⟩) (a.length+c.length) (a.length+c.length)/\Ext w d/\
  bh d K 35 #[.bool g1,.slice A1 a.length Y]/\bh d J 35 #[.bool g2,.slice A2 c.length c2]/\bh d M 35 #[.bool false,.slice none 0 0]/\bh d O 90 (cells L)/\L.length=a.length+c.length/\fm L/\val L=val a*val c) ?_ ?_
 ·refine gg ?_;refine aU (λm f d=>∃i L,m=a.length-i/\i<=a.length/\f 2=.pointer (some ⟨K,0,none⟩)/\f 3=.pointer (some ⟨J,0,none⟩)/\f 4=.pointer (some ⟨M,0,none⟩)/\f 5=.slice (some ⟨O,0,none⟩) (a.length+c.length) (a.length+c.length)/\f 20=.slice A1 a.length Y/\
   f 21=.int .i64 (a.length:Int)/\f 22=.int .i64 (i:Int)/\Ext w d/\bh d K 35 #[.bool g1,.slice A1 a.length Y]/\bh d J 35 #[.bool g2,.slice A2 c.length c2]/\bh d M 35 #[.bool false,.slice none 0 0]/\
   bh d O 90 (cells L)/\L.length=a.length+c.length/\fm L/\val L=val (a.take i)*val c/\∀j,i+c.length<=j->L.getD j 0=0)
   a.length ⟨0,_,F,aE,F,F,F,F,F,F,F,Z,a6,Q,ab,X,aA,d_ _,by simp[val,nQ],λj _=>lj _ _⟩ ?_
  clear Z a6 Q ab X a1 R I;rintro m f I ⟨i,L,rfl,g,r,p,o,l,u,t,s,C,H,h,D,E,hL,P,hv,hz⟩;rw[ui r,ui p,ui o,ui l,ui u,ui t,ui s];clear r p o l u t s;by_cases g:i<a.length
  ·obtain⟨ad,rfl,hc⟩:=(b4.Y C).at (j:=i) aq;have hx:=hc i aq;have bx:=b4.e_.getD i;have R:=fG h;refine gg ?_;refine aX (λf d=>∃G k,f 2=.pointer (some ⟨K,0,none⟩)/\f 3=.pointer (some ⟨J,0,none⟩)/\f 4=.pointer (some ⟨M,0,none⟩)/\f 5=.slice (some ⟨O,0,none⟩) (a.length+c.length) (a.length+c.length)/\f 6=.int .i64 (i:Int)/\f 8=.int .u64 ((G:Nat):Int)/\f 20=.slice (some ad) a.length Y/\
    f 21=.int .i64 (a.length:Int)/\f 22=.int .i64 (i:Int)/\Ext w d/\bh d K 35 #[.bool g1,.slice (some ad) a.length Y]/\bh d J 35 #[.bool g2,.slice A2 c.length c2]/\bh d M 35 #[.bool false,.slice none 0 0]/\bh d O 90 (cells k)/\k.length=a.length+c.length/\fm k/\G<4294967296/\
    val k+G*B^(i+c.length)=val L+B^i*(a.getD i 0*val c)/\∀j,i+c.length<=j->k.getD j 0=0) ?_ ?_
   ·refine gg ?_;refine aU (λm f d=>∃j G k,m=c.length-j/\j<=c.length/\f 2=.pointer (some ⟨K,0,none⟩)/\f 3=.pointer (some ⟨J,0,none⟩)/\f 4=.pointer (some ⟨M,0,none⟩)/\f 5=.slice (some ⟨O,0,none⟩) (a.length+c.length) (a.length+c.length)/\f 6=.int .i64 (i:Int)/\f 7=.int .u32 ((a.getD i 0:Nat):Int)/\f 8=.int .u64 ((G:Nat):Int)/\f 20=.slice (some ad) a.length Y/\
     f 21=.int .i64 (a.length:Int)/\f 22=.int .i64 (i:Int)/\f 28=.slice A2 c.length c2/\f 29=.int .i64 (c.length:Int)/\f 30=.int .i64 (j:Int)/\
     Ext w d/\bh d K 35 #[.bool g1,.slice (some ad) a.length Y]/\bh d J 35 #[.bool g2,.slice A2 c.length c2]/\bh d M 35 #[.bool false,.slice none 0 0]/\bh d O 90 (cells k)/\k.length=a.length+c.length/\fm k/\G<4294967296/\
     val k+G*B^(i+j)=val L+B^i*(a.getD i 0*val (c.take j))/\(∀q,i+j<=q->k.getD q 0=L.getD q 0))
     c.length ⟨0,0,L,F,aE,F,F,F,F,F,F,F,F,F,F,F,F,F,C,H,h,D,E,hL,P,aq,by simp[val],λ_ _=>rfl⟩ ?_
    clear E C H h D hx hc R I f;rintro m f I ⟨j,G,k,rfl,d,r,p,o,l,U,J,T,u,t,s,m,g,d,C,H,h,D,E,a4,A,a3,S,a7⟩;rw[ui r,ui p,ui o,ui l,ui U,ui J,ui T,ui u,ui t,ui s,ui m,ui g,ui d];clear r p o l U J T u t s m g d;by_cases d:j<c.length
    ·obtain⟨d,rfl,d⟩:=(aH.Y C).at (j:=j) aq;have g:=d j aq;have d:=aH.e_.getD j;have g:I.cell? ⟨O,0+(i+j)*1,none⟩=some (.int .u32 ((k.getD (i+j) 0:Nat):Int)):=nE E aq;have g:=A.getD (i+j);have g:=j8 _ _ bx d;refine gg ?_;refine jC F rfl aq ?_;refine gg ?_;refine cg (aW F) (.inl F) F rfl E (by rw[cB];omega) ?_;intro w5 W z bj;rw[dG]at W;refine gg ?_;refine⟨_,?_,j+1,_,_,F,aq,F,F,F,F,F,F,F,F,F,F,F,F,F,z.aK C (λb hb=>aq),H.ch z aq,h.ch z aq,D.ch z aq,W,by simpa using a4,A.set (Nat.mod_lt _ ar),?_,?_,λq hq=>by rw[cV.getD_set_ne aq];exact a7 q aq⟩
     ·omega
     ·omega
     ·have e:=uI _ _ _ (a.getD i 0) (c.getD j 0) (k.getD (i+j) 0) _ S _ (mT k (i+j) _ aq);rw[a8 c j aq,Nat.mul_add,Nat.mul_add,<-Nat.add_assoc i j 1,Nat.pow_succ];refine e.trans ?_;rw[Nat.pow_add,Nat.add_assoc];congr 2;rw[Nat.mul_assoc,Nat.mul_left_comm (a.getD i 0)]
    ·refine gg ?_;have:j=c.length:=aq;subst this;rw[dc]at S;exact⟨G,k,F,F,F,F,F,F,F,F,F,C,H,h,D,E,a4,A,a3,S,λq hq=>by rw[a7 q hq];exact hz q hq⟩
   ·clear E C H h D hx hc R I f;rintro f I ⟨G,k,r,p,o,l,U,T,u,t,s,C,H,h,D,E,a4,A,a3,S,d⟩;rw[ui r,ui p,ui o,ui l,ui U,ui T,ui u,ui t,ui s];clear r p o l U T u t s;have R:=fG h;refine gg ?_;refine cg (aW F) (.inl F) F rfl E (by rw[cB];omega) ?_;intro w5 W z bj;rw[dG]at W;refine gg ?_;refine⟨_,?_,i+1,_,F,aq,F,F,F,F,F,F,F,z.aK C (λb hb=>aq),H.ch z aq,h.ch z aq,D.ch z aq,W,by simpa using a4,A.set (Nat.mod_lt _ ar),?_,λq hq=>by rw[cV.getD_set_ne aq];exact d q aq⟩
    ·omega
    ·have e:=mT k (i+c.length) (G%4294967296) aq;rw[d _ aD,Nat.mod_eq_of_lt a3]at e;rw[Nat.mod_eq_of_lt a3,a8 a i aq,Nat.add_mul,<-hv,Nat.mul_assoc,<-S,Nat.mul_comm G];omega
  ·refine gg ?_;have:i=a.length:=aq;subst this;rw[dc]at hv;exact⟨L,F,F,F,F,C,H,h,D,E,hL,P,hv⟩
 ·clear Z a6 Q ab X a1 R I;rintro f I ⟨L,r,p,o,l,C,H,h,D,E,hL,P,hv⟩;rw[ui r,ui p,ui o,ui l];clear r p o l;have a:=jy H;have a:=jy h;refine gg ?_;refine aJ (ib (g1 != g2) _ _ _ L I (c7 E P) hL aD aq) ?_;rintro _ w5 ⟨c,x,y,rfl,a⟩;refine gg ?_;refine aV aN (.inl F) F rfl a.db a.de (D.Y c) ar ?_;intro d e d f;refine gg ?_;refine dO F aN F e ⟨d.aK (C.trans c) λb hb=>aq,x,y,F,?_⟩;rw[<-AV,<-hv];exact a.dj (D.Y c) cN d
def iM(a b:Int):Int:=if a<b then -1 else if b<a then 1 else 0
theorem A_(q k l j:Value)(a b:Int)(N:Nat)(w:World)(h1:IV w N q k a)(m:IV w N l j b)(W:N<137438953472):
 aT Tryz.prog 35 #[.agg #[q,k],.agg #[l,j]] w λv j=>Ext w j/\v=.int .i64 (iM a b):=by
 have T:=h1;have S:=m;obtain⟨j,j,C,j,rfl,rfl,L,j,x,j,I⟩:=h1;obtain⟨j,j,B,j,rfl,rfl,K,j,u,j,H⟩:=m;refine bF (n:=26) Tryz.func35 F rfl aw aA ?_;refine gg ?_;refine aZ (v:=.agg _) (.inl F) F ?_;intro j A j k;refine gg ?_;refine aZ (v:=.agg _) (.inl F) F ?_;intro k z r k;have k:=j.trans r;refine gg ?_;refine b7 [(0,0),(2,0),(1,1),(3,1),(4,3),(5,3)] mixed aw λq l _=>?_;obtain⟨j,V⟩:=a9 (A.Y (r.trans l));obtain⟨j,U⟩:=a9 (z.Y l);have j:=k.trans l;refine gg ?_;refine aM (h_ _ _ _ N q (T.Y j) aq) ?_;rintro _ q ⟨k,rfl⟩;refine⟨k,?_⟩;refine gg ?_;refine aM (h_ _ _ _ N q (S.Y (j.trans k)) aq) ?_;rintro _ q ⟨q,rfl⟩;refine⟨q,?_⟩;have i:=j.trans (k.trans q);have s:=l.trans (k.trans q);have D:a.sign=-1/\a<0\/a.sign=0/\a=0\/a.sign=1/\0<a:=by
  rcases Int.lt_trichotomy a 0 with h|h|h
  ·exact .inl ⟨Int.sign_eq_neg_one_of_neg h,h⟩
  ·exact .inr (.inl ⟨by rw[h];rfl,h⟩)
  ·exact .inr (.inr ⟨Int.sign_eq_one_of_pos h,h⟩)
 have R:b.sign=-1/\b<0\/b.sign=0/\b=0\/b.sign=1/\0<b:=by
  rcases Int.lt_trichotomy b 0 with h|h|h
  ·exact .inl ⟨Int.sign_eq_neg_one_of_neg h,h⟩
  ·exact .inr (.inl ⟨by rw[h];rfl,h⟩)
  ·exact .inr (.inr ⟨Int.sign_eq_one_of_pos h,h⟩)
 refine gg ?_;by_cases E:a.sign=b.sign
 ·refine aP ?_;refine gg ?_;refine b7 [(0,3),(1,3),(2,0),(4,3),(5,0),(3,1),(6,1),(7,1),(8,3),(9,3)] mixed aw λj h _=>?_;have V:=fG (A.Y (r.trans (s.trans h)));have U:=fG (z.Y (s.trans h));have g:=i.trans h;refine gg ?_;refine aM (fS _ _ _ _ j (x.Y g) F L aq) ?_;rintro _ h ⟨p,O⟩;refine⟨p,?_⟩;refine gg ?_;refine aM (fS _ _ _ _ h (u.Y (g.trans p)) F K aq) ?_;rintro _ Q ⟨o,M⟩;refine⟨o,?_⟩;obtain⟨h,d,h,rfl,_,_,P,t,ct⟩:=O.Y o;obtain⟨h,c,h,rfl,_,_,j,h,fg⟩:=M;have k:d.length<=N:=by have:=fw x.e_ t (Nat.le_of_eq ct);omega
  have k:c.length<=N:=by have:=fw u.e_ h (Nat.le_of_eq fg);omega
  refine gg ?_;refine aM (sD _ _ _ _ _ _ d c Q P j F rfl aq aq t h) ?_;rintro _ h ⟨y,rfl⟩;refine⟨y,?_⟩;have J:dX (val d) (val c)=-1\/dX (val d) (val c)=0\/dX (val d) (val c)=1:=by
   unfold dX;split
   ·exact .inl F
   ·split
    ·exact .inr (.inr F)
    ·exact .inr (.inl F)
  have G:-9223372036854775808<=a.sign*dX (val d) (val c)/\a.sign*dX (val d) (val c)<9223372036854775808:=by
   rcases D with⟨e,_⟩|⟨e,_⟩|⟨e,_⟩<;>rcases J with f|f|f<;>rw[e,f]<;>decide
  refine gg ?_;refine vV F rfl G.1 G.2 ?_;refine gg ?_;refine cI (v:=.int _ _) F rfl ⟨g.trans (p.trans (o.trans y)),?_⟩;congr 1;rw[ct,fg];have c:a.natAbs=val C:=by rw[I,jM]
  have c:b.natAbs=val B:=by rw[H,jM]
  unfold iM dX;rcases D with⟨e,h1⟩|⟨e,h1⟩|⟨e,h1⟩<;>rcases R with⟨f,m⟩|⟨f,m⟩|⟨f,m⟩<;>rw[e,f]at E<;>first|(exfalso;revert E;decide)|(rw[e];by_cases d:val C<val B<;>by_cases c:val B<val C<;>simp only[d,c,if_true,if_false]<;>by_cases d:a<b<;>by_cases c:b<a<;>simp only[d,c,if_true,if_false]<;>omega)
 ·refine aP ?_;by_cases c:a.sign<b.sign
  ·refine gg ?_;refine aP ?_;refine gg ?_;refine cI (v:=.int _ _) F rfl ⟨i,?_⟩;unfold iM;rw[ae aq]
  ·refine gg ?_;refine aP ?_;refine gg ?_;refine cI (v:=.int _ _) F rfl ⟨i,?_⟩;unfold iM;rw[aa aq,ae aq];rfl
theorem Bt(A:Option Addr)(n c:Nat)(l:List Nat)(w:World)(h:eP w A l)(f:l.length=n)(g:n<1099511627776):
 aT Tryz.prog 108 #[.slice A n c] w λv a=>w=a/\v=.int .u64 ((val (l.take 2):Nat):Int):=by
 subst f;refine bF (n:=26) Tryz.func108 F rfl aw aA ?_;refine gg ?_;refine aP ?_;refine gg ?_;refine aU (λm f a=>∃i,m=2-i/\i<=2/\i<=l.length/\f 0=.slice A l.length c/\f 3=.int .u64 ((val (l.take i):Nat):Int)/\f 4=.int .i64 ((i:Nat):Int)/\w=a)
  2 ⟨0,F,aq,aq,F,F,F,F⟩ ?_
 rintro m f a ⟨i,rfl,a,a,e,d,b,rfl⟩;rw[ui e,ui d,ui b];refine aP ?_;by_cases a:i<l.length
 ·by_cases a:i<2
  ·obtain⟨a,rfl,a⟩:=h.at (j:=i) aq;have b:=a i aq;have b:=h.e_.getD i;have a:=yv i (val (l.take i)) (l.getD i 0) aq (eT h.e_ i) b;refine gg ?_;refine kH F rfl aq ?_;refine gg ?_;refine iB F rfl a.2.2 (Nat.mod_lt _ ar) ?_;refine gg ?_;refine⟨_,?_,i+1,F,aq,aq,F,?_,F,F⟩
   ·omega
   ·rw[a8 l i aq,<-a.1];rfl
  ·refine gg ?_;refine cI (v:=.int _ _) F rfl ⟨F,?_⟩;rw[show i=2 by omega]
 ·refine gg ?_;refine cI (v:=.int _ _) F rfl ⟨F,?_⟩;rw[List.take_of_length_le aq,List.take_of_length_le aq]
theorem Gu(y b:Nat)(a:b<=1):(y*2^1)%4294967296 ||| b=(y*2)%4294967296+b:=by
 have e:(y*2^1)%4294967296=2^1*(y%2147483648):=aq;rw[e,<-Nat.two_pow_add_eq_or_of_lt (i:=1) aq]
theorem zN(A:Option Addr)(n c b:Nat)(l:List Nat)(w:World)(h:eP w A l)(f:l.length=n)(m:n<1099511627776)(g:b<=1):
 aT Tryz.prog 109 #[.slice A n c,.int .u32 (b:Int)] w λv e=>Ext w e/\FB e v (n+1) (2*val l+b):=by
 subst f;refine bF (n:=28) Tryz.func109 F rfl aw aA ?_;refine gg ?_;refine aP ?_;refine gg ?_;refine aU (λm f e=>∃i v r a,m=l.length-i/\i<=l.length/\f 1=.int .u32 ((a:Nat):Int)/\f 5=v/\f 8=.slice A l.length c/\f 9=.int .i64 (l.length:Int)/\f 10=.int .i64 ((i:Nat):Int)/\Ext w e/\tU e w.heap.size v r/\r.length=i/\a<=1/\
  val r+a*B^i=2*val (l.take i)+b) l.length ⟨0,_,[],b,F,aq,F,F,F,F,F,Ext.refl _,tU.nil _ _,F,g,by simp[val]⟩ ?_
 rintro m f e ⟨i,v,r,a,rfl,e,u,t,m,f,e,k,s,y,E,z⟩;rw[ui u,ui t,ui m,ui f,ui e];clear u t m f e;by_cases D:i<l.length
 ·obtain⟨e,rfl,e⟩:=(h.Y k).at (j:=i) aq;have f:=e i aq;have e:=h.e_.getD i;have e:=Gu (l.getD i 0) a E;refine gg ?_;refine tB F ar ?_;refine gg ?_;refine rT F rfl (Nat.mod_lt _ ar) aq ?_;refine gg ?_;refine eM di F (.inl F) F rfl ?_;intro H q d C;refine gg ?_;refine lZ F rfl (s.Y d) F q (by rw[show(OfNat.ofNat 1:Nat)=1 from F,e];omega) aq (by have:=k.size;omega) ?_;intro x G o p;refine gg ?_;refine kG F ar ?_;refine gg ?_;refine⟨_,?_,i+1,x,_,_,F,aq,F,F,F,F,F,p.aK (k.trans d) (λb g=>s.qd g),o,by simp[y],?_,?_⟩
  ·omega
  ·have:(2:Nat)^(OfNat.ofNat 31)=2147483648:=F;rw[this];omega
  ·have f:(2:Nat)^(OfNat.ofNat 31)=2147483648:=F;rw[f,show(OfNat.ofNat 1:Nat)=1 from F,e,jW,y,a8 l i D,Nat.pow_succ];have e:=lE (B^i) (val r) a _ (l.getD i 0) (l.getD i 0) z;have m:(a+(l.getD i 0+l.getD i 0))%B=l.getD i 0*2%4294967296+a:=by show _%4294967296=_;omega
   have f:(a+(l.getD i 0+l.getD i 0))/B=l.getD i 0/2147483648:=by show _/4294967296=_;omega
   rw[m,f]at e;rw[e];omega
 ·refine gg ?_;have:i=l.length:=aq;subst this;refine eM di F (.inl F) F rfl ?_;intro H q d C;refine gg ?_;refine lZ F rfl (s.Y d) F q aq aq (by have:=k.size;omega) ?_;intro x G o p;refine gg ?_;refine cI (v:=x) F rfl ⟨p.aK (k.trans d) λb g=>s.qd g,?_⟩;have:=o.GD (N:=l.length+1) (by simp;omega);rw[jW,y,Nat.mul_comm,z,dc]at this;exact this
theorem uO{l:List Nat}(a:fm l){j:Nat}(b:j<l.length):l.getD j 0=val l/B^j%B:=by
 rw[ew l j aq,drop_cons l j b];have c:=eT a j;have b:0<B^j:=Nat.pow_pos ar;rw[Nat.add_mul_div_left _ _ b,Nat.div_eq_of_lt c,Nat.zero_add];simp only[val];rw[Nat.add_mul_mod_self_left];exact(Nat.mod_eq_of_lt (a.getD j)).symm
theorem y6(j:Nat):B^j=2^(32*j):=by rw[Nat.pow_mul];rfl
theorem G3{l:List Nat}(a:fm l){i:Nat}(b:i/32<l.length):l.getD (i/32) 0/2^(i%32)%2=val l/2^i%2:=by
 rw[uO a b];have e:B=2^(i%32)*2^(32-i%32):=by rw[<-Nat.pow_add,show i%32+(32-i%32)=32 by omega];rfl
 have b:2^(32-i%32)=2*2^(31-i%32):=by rw[<-Nat.pow_succ',show(31-i%32).succ=32-i%32 by omega]
 have a:val l/B^(i/32)%B/2^(i%32)=val l/B^(i/32)/2^(i%32)%2^(32-i%32):=by
  conv=>lhs;rw[show(val l/B^(i/32)%B)=val l/B^(i/32)%(2^(i%32)*2^(32-i%32)) by rw[<-e]]
  rw[Nat.mod_mul_right_div_self]
 rw[a,b,Nat.mod_mul_right_mod,Nat.div_div_eq_div_mul,y6,<-Nat.pow_add,show 32*(i/32)+i%32=i by omega]
theorem AD(L:List Nat)(j x d:Nat)(b:j<L.length)(a:x=L.getD j 0+d):val (L.set j x)=val L+B^j*d:=by
 have e:=mT L j x b;rw[a,Nat.mul_add]at e;rw[a];omega
theorem D6{L:List Nat}(b:fm L){i q:Nat}(d:i/32<L.length)(c:val L=q*2^(i+1)):
 L.getD (i/32) 0 ||| (1*2^(i%32))%4294967296=L.getD (i/32) 0+2^(i%32)/\L.getD (i/32) 0+2^(i%32)<4294967296:=by
 have e:=b.getD (i/32);have e:val L/B^(i/32)=q*2^(i%32+1):=by
  rw[c,y6,show i+1=32*(i/32)+(i%32+1) by omega,Nat.pow_add,<-Nat.mul_assoc,Nat.mul_comm q,Nat.mul_assoc,Nat.mul_div_cancel_left _ (Nat.pow_pos ar)]
 have c:L.getD (i/32) 0=2^(i%32+1)*(q%2^(31-i%32)):=by
  rw[uO b d,e];have b:B=2^(i%32+1)*2^(31-i%32):=by rw[<-Nat.pow_add,show i%32+1+(31-i%32)=32 by omega];rfl
  rw[b,Nat.mul_comm q,Nat.mul_mod_mul_left]
 have d:2^(i%32)<2^(i%32+1):=Nat.pow_lt_pow_right ar aq;have g:(1*2^(i%32))%4294967296=2^(i%32):=by
  rw[Nat.one_mul];exact Nat.mod_eq_of_lt (Nat.lt_of_lt_of_le (Nat.pow_lt_pow_right (a:=2) (n:=32) ar (Nat.mod_lt _ ar)) ar)
 have f:q%2^(31-i%32)+1<=2^(31-i%32):=Nat.mod_lt _ (Nat.pow_pos ar);have e:2^(i%32+1)*2^(31-i%32)=4294967296:=by rw[<-Nat.pow_add,show i%32+1+(31-i%32)=32 by omega]
 have b:=Nat.mul_le_mul_left (2^(i%32+1)) f;rw[Nat.mul_add,Nat.mul_one,e]at b;refine⟨?_,aq⟩;rw[g];conv=>lhs;rw[c]
 rw[<-Nat.two_pow_add_eq_or_of_lt d,<-c]
theorem pW(X V b r:Nat)(a:0<V)(c:r=X%V):(2*X+b)/V=2*(X/V)+(2*r+b)/V/\(2*X+b)%V=(2*r+b)%V:=by
 have e:=Nat.div_add_mod X V;have c:2*X+b=(2*r+b)+V*(2*(X/V)):=by
  have:V*(2*(X/V))=2*(V*(X/V)):=Nat.mul_left_comm _ _ _;omega
 rw[c,Nat.add_mul_div_left _ _ a,Nat.add_mul_mod_self_left];exact⟨aq,F⟩
theorem CV.HR{w:World}{x y:Value}{m:Nat}(h:CV w x y (m:Int)):iV w y m:=by
 obtain⟨a,A,l,c,rfl,rfl,f,e,d,b,a,a⟩:=h;refine⟨A,l,c,F,f,e,d,b,?_⟩;have:=congrArg Int.natAbs a;rw[jM]at this;simpa using this.symm
theorem qW{l:List Nat}(h:l.length<=2):val (l.take 2)=val l:=by rw[List.take_of_length_le h]
theorem oQ{l:List Nat}(b:fm l)(h:l.length<=2):val l<18446744073709551616:=by
 have a:=fY l b;have b:B^l.length<=B^2:=Nat.pow_le_pow_right ar h;have c:B^2=18446744073709551616:=ar;omega
theorem zP(Z Y:Option Addr)(r h c1 c2:Nat)(a d:List Nat)(w:World)(h1:eP w Z a)(Q:eP w Y d)(a4:a.length=r)(s:d.length=h)(ab:r<137438953472)(ab:h<137438953472)(t2:dw d)(O:0<val d):
 aT Tryz.prog 78 #[.slice Z r c1,.slice Y h c2] w λv z=>Ext w z/\∃q r,v=.tuple #[q,r]/\iV z q (val a/val d)/\iV z r (val a%val d):=by
 subst a4 s;refine bF (n:=75) Tryz.func78 F rfl aw aA ?_;refine gg ?_;by_cases g:a.length<=2/\d.length<=2
 ·obtain⟨r,s2⟩:=g;have h:=oQ h1.e_ r;have s:=oQ Q.e_ s2;refine aP ?_;refine gg ?_;refine aJ (Bt _ _ _ a w h1 F aq) ?_;rintro _ _ ⟨rfl,rfl⟩;rw[qW r];refine gg ?_;refine aJ (Bt _ _ _ d w Q F aq) ?_;rintro _ _ ⟨rfl,rfl⟩;rw[qW s2];refine gg ?_;refine b7 [(0,3),(1,3),(2,3),(5,3),(6,3),(7,3),(3,1),(4,3),(8,1),(9,3),(10,3),(11,3)] mixed aw λH a4 _=>?_;refine gg ?_;refine kI F rfl h O ?_;refine gg ?_;refine jB F rfl O ?_;refine gg ?_;refine aM (na false _ H (Nat.lt_of_le_of_lt (Nat.div_le_self _ _) h)) ?_;rintro _ W ⟨p,x,y,rfl,s⟩;refine⟨p,?_⟩;refine gg ?_;refine yX F ?_;refine gg ?_;refine aM (na false _ W (Nat.lt_of_le_of_lt (Nat.mod_le _ _) h)) ?_;rintro _ w3 ⟨G,h,y',rfl,h⟩;refine⟨G,?_⟩;refine gg ?_;refine yX F ?_;refine gg ?_;rw[fc]at s h;exact fK (v:=y) (v':=y') F rfl rfl ⟨a4.trans (p.trans G),y,y',F,(s.HR).Y G,h.HR⟩
 ·refine aX (λf z=>w=z/\f 0=.slice Z a.length c1/\f 1=.slice Y d.length c2/\f 5=.slice none 0 0) ?_ ?_
  ·refine aP ?_;by_cases r:a.length<=2
   ·have s2:¬d.length<=2:=λh=>g ⟨r,h⟩;refine gg ?_;exact⟨F,F,F,F⟩
   ·refine gg ?_;exact⟨F,F,F,F⟩
  rintro f z ⟨rfl,o,k,b⟩;rw[ui o,ui k,ui b];clear o k b g;refine gg ?_;refine cF di (.inl F) F rfl aD aq aq ?_;intro H C B h;rw[fZ]at C;obtain⟨X,r⟩ : ∃g,g=w.heap.size:=⟨_,F⟩;rw[<-r]at C⊢;have g:val a/2^(32*a.length)=0:=Nat.div_eq_of_lt (by rw[<-y6];exact fY a h1.e_);refine gg ?_;refine aP ?_;refine gg ?_;refine aU (λm f z=>∃s R L,m=s/\s<=32*a.length/\f 0=.slice Z a.length c1/\f 1=.slice Y d.length c2/\f 4=.slice (some ⟨X,0,none⟩) a.length a.length/\f 5=R/\f 8=.int .i64 ((s:Int)-1)/\
   Ext w z/\bh z X 90 (cells L)/\L.length=a.length/\fm L/\iV z R (val a/2^s%val d)/\val L=val a/2^s/val d*2^s)
   (32*a.length) ⟨32*a.length,_,_,F,aD,F,F,F,F,?_,B,C,aA,d_ _,by rw[g,Nat.zero_mod];exact nh H,by rw[g,Nat.zero_div,Nat.zero_mul,nQ]⟩ ?_
  ·rfl
  clear C B h g H;rintro m f H ⟨s,R,L,rfl,g,o,k,M,b,K,B,C,hL,t,hR,P⟩;rcases m with _|i
  ·rw[ui o,ui k,ui M,ui b,ui K];clear o k M b K;refine aP ?_;refine gg ?_;refine aJ (fS _ _ _ L H (c7 C t) hL aD aq) ?_;rintro q W ⟨p,hq⟩;refine gg ?_;rw[Nat.pow_zero,Nat.div_one]at hR P;rw[P,Nat.mul_one]at hq;exact fK (v:=q) (v':=R) F rfl rfl ⟨B.trans p,q,R,F,hq,hR.Y p⟩
  ·have g:f 8=.int .i64 (i:Int):=by rw[K];congr 1;omega
   rw[ui o,ui k,ui M,ui b,ui g];clear o k M b K g;have J:i/32<a.length:=aq;obtain⟨ad,rfl,b⟩:=(h1.Y B).at (j:=i/32) J;have f:=b (i/32) J;have b:=h1.e_.getD (i/32);have b:=G3 h1.e_ J;have hX:val a/2^i=2*(val a/2^(i+1))+val a/2^i%2:=by
    rw[Nat.pow_succ,<-Nat.div_div_eq_div_mul];omega
   have f:=Nat.div_le_self (a.getD (i/32) 0) (2^(i%32));refine aP ?_;refine gg ?_;refine nN F aq ar ?_;refine gg ?_;refine jg F ar ?_;refine gg ?_;refine qm F rfl (Nat.mod_lt _ ar) ?_;refine gg ?_;refine tO F (by show a.getD (i/32) 0/2^(i%32)<_;omega) ar ?_;have f:(a.getD (i/(OfNat.ofNat 32)) 0/2^(i%(OfNat.ofNat 32)) &&& (OfNat.ofNat 1):Nat)=val a/2^i%2:=by
    rw[<-b];exact Nat.and_one_is_mod _
   rw[f];obtain⟨b,tr,b,rfl,b,b,f,b,a0⟩:=hR;have g:tr.length<=d.length:=fw Q.e_ b (by rw[a0];exact Nat.le_of_lt (Nat.mod_lt _ O));refine gg ?_;refine aJ (zN _ _ _ _ tr H f F aq aq) ?_;rintro _ W ⟨p,A,l,c,rfl,b,f,hM,f,hv⟩;refine gg ?_;refine aJ (fS _ _ _ l W hM F b aq) ?_;rintro _ w3 ⟨G,a7⟩;obtain⟨T3,D,d3,rfl,a3,a2,N,S,I⟩:=a7;have b:D.length<=d.length+1:=by have:=fw hM.e_ S (Nat.le_of_eq I);omega
   rw[hv,a0]at I;have E:=pW (val a/2^(i+1)) (val d) (val a/2^i%2) (val a/2^(i+1)%val d) O F;rw[<-hX]at E;have b:=p.trans G;have f:2*(val a/2^(i+1)%val d)+val a/2^i%2<2*val d:=by
    have:=Nat.mod_lt (val a/2^(i+1)) O;have:=Nat.mod_lt (val a/2^i) (show 0<2 by decide);omega
   refine gg ?_;refine aJ (sD _ _ _ _ _ _ D d w3 N (Q.Y (B.trans b)) F rfl aq aq S t2) ?_;rintro _ f ⟨U,rfl⟩;have u:=b.trans U;by_cases g:val d<=val D
   ·have a5:(0:Int)<=dX (val D) (val d):=by unfold dX;rw[aa aq];split<;>decide
    refine gg ?_;refine aJ (jt _ _ _ _ _ _ D d f (N.Y U) (Q.Y (B.trans u)) F rfl aq (fw N.e_ t2 g) g) ?_;rintro _ h ⟨a1,b,p,b,rfl,b,f,f,k,r⟩;refine gg ?_;refine aJ (q9 _ _ _ p h f F b aq) ?_;rintro H b ⟨f,s,V⟩;have b:=u.trans (a1.trans f);refine gg ?_;refine c8 [(0,3),(1,3),(2,3),(3,3),(4,0),(5,3),(6,3),(7,3),(8,3),(9,3),(10,2)] mixed aw λo h _=>?_;have f:=C.Y (b.trans h);have m:=nE f (j:=i/32) aq;have k:=D6 t (i:=i) (q:=val a/2^(i+1)/val d) aq P;have z:=t.getD (i/32);have hq:o.cell? ⟨X,0+i/(OfNat.ofNat 32)*1,none⟩=some (.int .u32 ((L.getD (i/32) 0:Nat):Int)):=m;refine gg ?_;refine nN F aq ar ?_;have m:i/(OfNat.ofNat 32)<a.length:=J;refine gg ?_;refine jg F ar ?_;refine gg ?_;refine tz F (Nat.mod_lt _ ar) ?_;refine gg ?_;refine rT F rfl z (Nat.mod_lt _ ar) ?_;have m:(L.getD (i/32) 0 ||| (OfNat.ofNat 1*2^(i%(OfNat.ofNat 32)))%4294967296:Nat)=L.getD (i/32) 0+2^(i%32):=k.1;rw[m];refine gg ?_;refine cg (aW F) (.inl F) F rfl f (by rw[cB];show 0+i/32*1<_;omega) ?_;intro o f m z;have f:bh o X 90 ((cells L).setIfInBounds (0+i/32*1) (.int .u32 ((L.getD (i/32) 0+2^(i%32):Nat):Int))):=f;rw[dG]at f;have z:Ext w o:=m.aK (B.trans (b.trans h)) λb G=>aq;refine gg ?_;have T:(2*(val a/2^(i+1)%val d)+val a/2^i%2)/val d=1:=by
     refine Nat.div_eq_of_lt_le aq aq
    refine⟨i,aq,i,H,_,F,aq,F,F,F,F,F,z,f,by simpa using hL,t.set k.2,?_,?_⟩
    ·have e:val a/2^i%val d=val p:=by
      rw[r,E.2,<-I,Nat.mod_eq_sub_mod g];exact Nat.mod_eq_of_lt aq
     rw[e];have p:=s.Y h;obtain⟨s,o,r,e6,k,h,g,f,b⟩:=p;refine⟨s,o,r,e6,k,h,g.ch m λad a6 G=>?_,f,b⟩;subst a6;have:=V ad.block (by rw[e6];rfl);have:=C.lt;have:=(u.trans a1).size;omega
    ·rw[AD L (i/32) _ (2^(i%32)) aq F,P,E.1,T];generalize val a/2^(i+1)/val d=q;rw[Nat.add_mul,Nat.one_mul,y6,<-Nat.pow_add,show 32*(i/32)+i%32=i by omega,Nat.pow_succ,Nat.mul_comm (2^i) 2,<-Nat.mul_assoc,Nat.mul_comm q 2]
   ·have a5:¬(0:Int)<=dX (val D) (val d):=by unfold dX;rw[ae aq];decide
    refine gg ?_;have T:(2*(val a/2^(i+1)%val d)+val a/2^i%2)/val d=0:=Nat.div_eq_of_lt aq;refine⟨i,aq,i,_,L,F,aq,F,F,F,F,F,B.trans u,C.Y u,hL,t,?_,?_⟩
    ·have e:val a/2^i%val d=val D:=by rw[E.2,<-I];exact Nat.mod_eq_of_lt aq
     rw[e];exact⟨T3,D,d3,F,a3,a2,N.Y U,S,F⟩
    ·rw[P,E.1,T];generalize val a/2^(i+1)/val d=q;rw[Nat.add_zero (2*q),Nat.pow_succ,Nat.mul_comm (2^i) 2,<-Nat.mul_assoc,Nat.mul_comm q 2]
