import Derived.Test.YtmfndnlifgphjaaGreatDoorQzm
set_option maxHeartbeats 64000000
open Go.Proofs.YtmfndnlifgphjaaGreatDoor
namespace Go.Proofs.Qq
section
open Go Go.cW Go.c7 Go.Proofs
theorem r4(x1 y1 x2 y2:Value)(V g:Int)(N:Nat)(w:World)(h1:IV w N x1 y1 V)(h2:IV w N x2 y2 g)(hN:N<137438953472):
 aT Tryz.prog 99 #[.agg #[x1,y1],.agg #[x2,y2]] w (RI w (V*g)):=by
 obtain⟨g1,A1,a,Y,rfl,rfl,g,g,b6,g,rfl⟩:=h1;obtain⟨g2,A2,c,c2,rfl,rfl,g,g,b5,g,rfl⟩:=h2;refine bo (n:=77) Tryz.func99 F rfl az aA ?_;refine gg ?_;refine bO (v:=.agg _) (.inl F) F ?_;intro w1 au b7 bt;refine gg ?_;refine bO (v:=.agg _) (.inl F) F ?_;intro V ar an bs;refine gg ?_;refine aS (.inl F) a_ ?_;intro w3 b8 ae bl;have al:bg w3 V.heap.size 44 #[.bool false,.slice none 0 0]:=b8;obtain⟨K,ay⟩ : ∃g,g=w.heap.size:=⟨_,F⟩;obtain⟨J,ax⟩ : ∃g,g=w1.heap.size:=⟨_,F⟩;obtain⟨M,aH⟩ : ∃g,g=V.heap.size:=⟨_,F⟩;rw[<-aH]at al⊢;rw[<-ax]at ar⊢;rw[<-ay]at au⊢;have av:=au.Y (an.trans ae);have a6:=ar.Y ae;have a1:=fG av;have R:=fG a6;refine gg ?_;refine cJ dM (.inl F) F rfl aD aq aq ?_;intro I X V bj;rw[iW]at X;obtain⟨O,b4⟩ : ∃g,g=w3.heap.size:=⟨_,F⟩;rw[<-b4]at X⊢;have Z:=b7.trans (an.trans (ae.trans V));have ai:=av.Y V;have Q:=a6.Y V;have ak:=al.Y V;have g:K<J/\J<M/\M<O/\w.heap.size<=K:=aq;obtain⟨bu,bu,bu,bu⟩:=g;clear av a6 b8 au ar b7 an ae V bt bs bl bj aH ax ay b4 a1 R al;have a1:=fG ai;have R:=fG Q;refine gg ?_;refine aY (λf d=>∃L,f 2=.pointer (some ⟨K,0,none⟩)/\f 3=.pointer (some ⟨J,0,none⟩)/\f 4=.pointer (some ⟨M,0,none⟩)/\f 5=.slice (some ⟨O,0,none⟩) (a.length+c.length) (a.length+c.length)/\Ext w d/\
  bg d K 44 #[.bool g1,.slice A1 a.length Y]/\bg d J 44 #[.bool g2,.slice A2 c.length c2]/\bg d M 44 #[.bool false,.slice none 0 0]/\bg d O 153 (cells L)/\L.length=a.length+c.length/\fH L/\val L=val a*val c) ?_ ?_
 ·refine gg ?_;refine aU (λm f d=>∃i L,m=a.length-i/\i<=a.length/\f 2=.pointer (some ⟨K,0,none⟩)/\f 3=.pointer (some ⟨J,0,none⟩)/\f 4=.pointer (some ⟨M,0,none⟩)/\f 5=.slice (some ⟨O,0,none⟩) (a.length+c.length) (a.length+c.length)/\f 20=.slice A1 a.length Y/\
   f 21=.int .i64 (a.length:Int)/\f 22=.int .i64 (i:Int)/\Ext w d/\bg d K 44 #[.bool g1,.slice A1 a.length Y]/\bg d J 44 #[.bool g2,.slice A2 c.length c2]/\bg d M 44 #[.bool false,.slice none 0 0]/\
   bg d O 153 (cells L)/\L.length=a.length+c.length/\fH L/\val L=val (a.take i)*val c/\∀j,i+c.length<=j->L.getD j 0=0)
   a.length ⟨0,_,F,aE,F,F,F,F,F,F,F,Z,ai,Q,ak,X,aA,fz _,by simp[val,qH],λj _=>nJ _ _⟩ ?_
  clear Z ai Q ak X a1 R I;rintro m f I ⟨i,L,rfl,g,r,p,o,l,u,t,s,C,H,h,D,E,hL,P,hv,hz⟩;rw[ui r,ui p,ui o,ui l,ui u,ui t,ui s];clear r p o l u t s;by_cases g:i<a.length
  ·obtain⟨ad,rfl,hc⟩:=(b6.Y C).at (j:=i) aq;have hx:=hc i aq;have bx:=b6.fD.getD i;have R:=fG h;refine gg ?_;refine aY (λf d=>∃G k,f 2=.pointer (some ⟨K,0,none⟩)/\f 3=.pointer (some ⟨J,0,none⟩)/\f 4=.pointer (some ⟨M,0,none⟩)/\f 5=.slice (some ⟨O,0,none⟩) (a.length+c.length) (a.length+c.length)/\f 6=.int .i64 (i:Int)/\f 8=.int .u64 ((G:Nat):Int)/\f 20=.slice (some ad) a.length Y/\
    f 21=.int .i64 (a.length:Int)/\f 22=.int .i64 (i:Int)/\Ext w d/\bg d K 44 #[.bool g1,.slice (some ad) a.length Y]/\bg d J 44 #[.bool g2,.slice A2 c.length c2]/\bg d M 44 #[.bool false,.slice none 0 0]/\bg d O 153 (cells k)/\k.length=a.length+c.length/\fH k/\G<4294967296/\
    val k+G*B^(i+c.length)=val L+B^i*(a.getD i 0*val c)/\∀j,i+c.length<=j->k.getD j 0=0) ?_ ?_
   ·refine gg ?_;refine aU (λm f d=>∃j G k,m=c.length-j/\j<=c.length/\f 2=.pointer (some ⟨K,0,none⟩)/\f 3=.pointer (some ⟨J,0,none⟩)/\f 4=.pointer (some ⟨M,0,none⟩)/\f 5=.slice (some ⟨O,0,none⟩) (a.length+c.length) (a.length+c.length)/\f 6=.int .i64 (i:Int)/\f 7=.int .u32 ((a.getD i 0:Nat):Int)/\f 8=.int .u64 ((G:Nat):Int)/\f 20=.slice (some ad) a.length Y/\
     f 21=.int .i64 (a.length:Int)/\f 22=.int .i64 (i:Int)/\f 28=.slice A2 c.length c2/\f 29=.int .i64 (c.length:Int)/\f 30=.int .i64 (j:Int)/\
     Ext w d/\bg d K 44 #[.bool g1,.slice (some ad) a.length Y]/\bg d J 44 #[.bool g2,.slice A2 c.length c2]/\bg d M 44 #[.bool false,.slice none 0 0]/\bg d O 153 (cells k)/\k.length=a.length+c.length/\fH k/\G<4294967296/\
     val k+G*B^(i+j)=val L+B^i*(a.getD i 0*val (c.take j))/\(∀q,i+j<=q->k.getD q 0=L.getD q 0))
     c.length ⟨0,0,L,F,aE,F,F,F,F,F,F,F,F,F,F,F,F,F,C,H,h,D,E,hL,P,aq,by simp[val],λ_ _=>rfl⟩ ?_
    clear E C H h D hx hc R I f;rintro m f I ⟨j,G,k,rfl,d,r,p,o,l,U,J,T,u,t,s,m,g,d,C,H,h,D,E,a8,A,a7,S,aj⟩;rw[ui r,ui p,ui o,ui l,ui U,ui J,ui T,ui u,ui t,ui s,ui m,ui g,ui d];clear r p o l U J T u t s m g d;by_cases d:j<c.length
    ·obtain⟨d,rfl,d⟩:=(b5.Y C).at (j:=j) aq;have g:=d j aq;have d:=b5.fD.getD j;have g:I.cell? ⟨O,0+(i+j)*1,none⟩=some (.int .u32 ((k.getD (i+j) 0:Nat):Int)):=qo E aq;have g:=A.getD (i+j);have g:=lU _ _ bx d;refine gg ?_;refine jO F rfl aq ?_;refine gg ?_;refine bZ (aX F) (.inl F) F rfl E (by rw[cN];omega) ?_;intro w5 W z bc;rw[dV]at W;refine gg ?_;refine⟨_,?_,j+1,_,_,F,aq,F,F,F,F,F,F,F,F,F,F,F,F,F,z.aK C (λb hb=>aq),H.ch z aq,h.ch z aq,D.ch z aq,W,by simpa using a8,A.set (Nat.mod_lt _ aw),?_,?_,λq hq=>by rw[c7.getD_set_ne aq];exact aj q aq⟩
     ·omega
     ·omega
     ·have e:=zN _ _ _ (a.getD i 0) (c.getD j 0) (k.getD (i+j) 0) _ S _ (pC k (i+j) _ aq);rw[bN c j aq,Nat.mul_add,Nat.mul_add,<-Nat.add_assoc i j 1,Nat.pow_succ];refine e.trans ?_;rw[Nat.pow_add,Nat.add_assoc];congr 2;rw[Nat.mul_assoc,Nat.mul_left_comm (a.getD i 0)]
    ·refine gg ?_;have:j=c.length:=aq;subst this;rw[dK]at S;exact⟨G,k,F,F,F,F,F,F,F,F,F,C,H,h,D,E,a8,A,a7,S,λq hq=>by rw[aj q hq];exact hz q hq⟩
   ·clear E C H h D hx hc R I f;rintro f I ⟨G,k,r,p,o,l,U,T,u,t,s,C,H,h,D,E,a8,A,a7,S,d⟩;rw[ui r,ui p,ui o,ui l,ui U,ui T,ui u,ui t,ui s];clear r p o l U T u t s;have R:=fG h;refine gg ?_;refine bZ (aX F) (.inl F) F rfl E (by rw[cN];omega) ?_;intro w5 W z bc;rw[dV]at W;refine gg ?_;refine⟨_,?_,i+1,_,F,aq,F,F,F,F,F,F,F,z.aK C (λb hb=>aq),H.ch z aq,h.ch z aq,D.ch z aq,W,by simpa using a8,A.set (Nat.mod_lt _ aw),?_,λq hq=>by rw[c7.getD_set_ne aq];exact d q aq⟩
    ·omega
    ·have e:=pC k (i+c.length) (G%4294967296) aq;rw[d _ aD,Nat.mod_eq_of_lt a7]at e;rw[Nat.mod_eq_of_lt a7,bN a i aq,Nat.add_mul,<-hv,Nat.mul_assoc,<-S,Nat.mul_comm G];omega
  ·refine gg ?_;have:i=a.length:=aq;subst this;rw[dK]at hv;exact⟨L,F,F,F,F,C,H,h,D,E,hL,P,hv⟩
 ·clear Z ai Q ak X a1 R I;rintro f I ⟨L,r,p,o,l,C,H,h,D,E,hL,P,hv⟩;rw[ui r,ui p,ui o,ui l];clear r p o l;have a:=iR H;have a:=iR h;refine gg ?_;refine aJ (jv (g1 != g2) _ _ _ L I (dE E P) hL aD aq) ?_;rintro _ w5 ⟨c,x,y,rfl,a⟩;refine gg ?_;refine aZ aQ (.inl F) F rfl a.ep a.eN (D.Y c) aw ?_;intro d e d f;refine gg ?_;refine eZ F aQ F e ⟨d.aK (C.trans c) λb hb=>aq,x,y,F,?_⟩;rw[<-GI,<-hv];exact a.dT (D.Y c) dn d
def e_(a b:Int):Int:=if a<b then -1 else if b<a then 1 else 0
theorem sQ(q k l j:Value)(a b:Int)(N:Nat)(w:World)(h1:IV w N q k a)(m:IV w N l j b)(W:N<137438953472):
 aT Tryz.prog 93 #[.agg #[q,k],.agg #[l,j]] w λv j=>Ext w j/\v=.int .i64 (e_ a b):=by
 have T:=h1;have S:=m;obtain⟨j,j,C,j,rfl,rfl,L,j,x,j,I⟩:=h1;obtain⟨j,j,B,j,rfl,rfl,K,j,u,j,H⟩:=m;refine bo (n:=26) Tryz.func93 F rfl az aA ?_;refine gg ?_;refine bO (v:=.agg _) (.inl F) F ?_;intro j A j k;refine gg ?_;refine bO (v:=.agg _) (.inl F) F ?_;intro k z r k;have k:=j.trans r;refine gg ?_;refine b_ [(0,0),(2,0),(1,1),(3,1),(4,3),(5,3)] mixed az λq l _=>?_;obtain⟨j,V⟩:=bh (A.Y (r.trans l));obtain⟨j,U⟩:=bh (z.Y l);have j:=k.trans l;refine gg ?_;refine aM (lL _ _ _ N q (T.Y j) aq) ?_;rintro _ q ⟨k,rfl⟩;refine⟨k,?_⟩;refine gg ?_;refine aM (lL _ _ _ N q (S.Y (j.trans k)) aq) ?_;rintro _ q ⟨q,rfl⟩;refine⟨q,?_⟩;have i:=j.trans (k.trans q);have s:=l.trans (k.trans q);have D:a.sign=-1/\a<0\/a.sign=0/\a=0\/a.sign=1/\0<a:=by
  rcases Int.lt_trichotomy a 0 with h|h|h
  ·exact .inl ⟨Int.sign_eq_neg_one_of_neg h,h⟩
  ·exact .inr (.inl ⟨by rw[h];rfl,h⟩)
  ·exact .inr (.inr ⟨Int.sign_eq_one_of_pos h,h⟩)
 have R:b.sign=-1/\b<0\/b.sign=0/\b=0\/b.sign=1/\0<b:=by
  rcases Int.lt_trichotomy b 0 with h|h|h
  ·exact .inl ⟨Int.sign_eq_neg_one_of_neg h,h⟩
  ·exact .inr (.inl ⟨by rw[h];rfl,h⟩)
  ·exact .inr (.inr ⟨Int.sign_eq_one_of_pos h,h⟩)
 refine gg ?_;by_cases E:a.sign=b.sign
 ·refine aN ?_;refine gg ?_;refine b_ [(0,3),(1,3),(2,0),(4,3),(5,0),(3,1),(6,1),(7,1),(8,3),(9,3)] mixed az λj h _=>?_;have V:=fG (A.Y (r.trans (s.trans h)));have U:=fG (z.Y (s.trans h));have g:=i.trans h;refine gg ?_;refine aM (iO _ _ _ _ j (x.Y g) F L aq) ?_;rintro _ h ⟨p,O⟩;refine⟨p,?_⟩;refine gg ?_;refine aM (iO _ _ _ _ h (u.Y (g.trans p)) F K aq) ?_;rintro _ Q ⟨o,M⟩;refine⟨o,?_⟩;obtain⟨h,d,h,rfl,_,_,P,t,cQ⟩:=O.Y o;obtain⟨h,c,h,rfl,_,_,j,h,fc⟩:=M;have k:d.length<=N:=by have:=iw x.fD t (Nat.le_of_eq cQ);omega
  have k:c.length<=N:=by have:=iw u.fD h (Nat.le_of_eq fc);omega
  refine gg ?_;refine aM (r5 _ _ _ _ _ _ d c Q P j F rfl aq aq t h) ?_;rintro _ h ⟨y,rfl⟩;refine⟨y,?_⟩;have J:fl (val d) (val c)=-1\/fl (val d) (val c)=0\/fl (val d) (val c)=1:=by
   unfold fl;split
   ·exact .inl F
   ·split
    ·exact .inr (.inr F)
    ·exact .inr (.inl F)
  have G:-9223372036854775808<=a.sign*fl (val d) (val c)/\a.sign*fl (val d) (val c)<9223372036854775808:=by
   rcases D with⟨e,_⟩|⟨e,_⟩|⟨e,_⟩<;>rcases J with f|f|f<;>rw[e,f]<;>decide
  refine gg ?_;refine fg F rfl G.1 G.2 ?_;refine gg ?_;refine bF (v:=.int _ _) F rfl ⟨g.trans (p.trans (o.trans y)),?_⟩;congr 1;rw[cQ,fc];have c:a.natAbs=val C:=by rw[I,iq]
  have c:b.natAbs=val B:=by rw[H,iq]
  unfold e_ fl;rcases D with⟨e,h1⟩|⟨e,h1⟩|⟨e,h1⟩<;>rcases R with⟨f,m⟩|⟨f,m⟩|⟨f,m⟩<;>rw[e,f]at E<;>first|(exfalso;revert E;decide)|(rw[e];by_cases d:val C<val B<;>by_cases c:val B<val C<;>simp only[d,c,if_true,if_false]<;>by_cases d:a<b<;>by_cases c:b<a<;>simp only[d,c,if_true,if_false]<;>omega)
 ·refine aN ?_;by_cases c:a.sign<b.sign
  ·refine gg ?_;refine aN ?_;refine gg ?_;refine bF (v:=.int _ _) F rfl ⟨i,?_⟩;unfold e_;rw[ab aq]
  ·refine gg ?_;refine aN ?_;refine gg ?_;refine bF (v:=.int _ _) F rfl ⟨i,?_⟩;unfold e_;rw[aa aq,ab aq];rfl
theorem He(A:Option Addr)(n c:Nat)(l:List Nat)(w:World)(h:fM w A l)(f:l.length=n)(g:n<1099511627776):
 aT Tryz.prog 201 #[.slice A n c] w λv a=>w=a/\v=.int .u64 ((val (l.take 2):Nat):Int):=by
 subst f;refine bo (n:=26) Tryz.func201 F rfl az aA ?_;refine gg ?_;refine aN ?_;refine gg ?_;refine aU (λm f a=>∃i,m=2-i/\i<=2/\i<=l.length/\f 0=.slice A l.length c/\f 3=.int .u64 ((val (l.take i):Nat):Int)/\f 4=.int .i64 ((i:Nat):Int)/\w=a)
  2 ⟨0,F,aq,aq,F,F,F,F⟩ ?_
 rintro m f a ⟨i,rfl,a,a,e,d,b,rfl⟩;rw[ui e,ui d,ui b];refine aN ?_;by_cases a:i<l.length
 ·by_cases a:i<2
  ·obtain⟨a,rfl,a⟩:=h.at (j:=i) aq;have b:=a i aq;have b:=h.fD.getD i;have a:=DT i (val (l.take i)) (l.getD i 0) aq (fX h.fD i) b;refine gg ?_;refine mQ F rfl aq ?_;refine gg ?_;refine jN F rfl a.2.2 (Nat.mod_lt _ aw) ?_;refine gg ?_;refine⟨_,?_,i+1,F,aq,aq,F,?_,F,F⟩
   ·omega
   ·rw[bN l i aq,<-a.1];rfl
  ·refine gg ?_;refine bF (v:=.int _ _) F rfl ⟨F,?_⟩;rw[show i=2 by omega]
 ·refine gg ?_;refine bF (v:=.int _ _) F rfl ⟨F,?_⟩;rw[List.take_of_length_le aq,List.take_of_length_le aq]
theorem Mm(y b:Nat)(a:b<=1):(y*2^1)%4294967296 ||| b=(y*2)%4294967296+b:=by
 have e:(y*2^1)%4294967296=2^1*(y%2147483648):=aq;rw[e,<-Nat.two_pow_add_eq_or_of_lt (i:=1) aq]
theorem Fx(A:Option Addr)(n c b:Nat)(l:List Nat)(w:World)(h:fM w A l)(f:l.length=n)(m:n<1099511627776)(g:b<=1):
 aT Tryz.prog 202 #[.slice A n c,.int .u32 (b:Int)] w λv e=>Ext w e/\Ln e v (n+1) (2*val l+b):=by
 subst f;refine bo (n:=28) Tryz.func202 F rfl az aA ?_;refine gg ?_;refine aN ?_;refine gg ?_;refine aU (λm f e=>∃i v r a,m=l.length-i/\i<=l.length/\f 1=.int .u32 ((a:Nat):Int)/\f 5=v/\f 8=.slice A l.length c/\f 9=.int .i64 (l.length:Int)/\f 10=.int .i64 ((i:Nat):Int)/\Ext w e/\oQ e w.heap.size v r/\r.length=i/\a<=1/\
  val r+a*B^i=2*val (l.take i)+b) l.length ⟨0,_,[],b,F,aq,F,F,F,F,F,Ext.refl _,oQ.nil _ _,F,g,by simp[val]⟩ ?_
 rintro m f e ⟨i,v,r,a,rfl,e,u,t,m,f,e,k,s,y,E,z⟩;rw[ui u,ui t,ui m,ui f,ui e];clear u t m f e;by_cases D:i<l.length
 ·obtain⟨e,rfl,e⟩:=(h.Y k).at (j:=i) aq;have f:=e i aq;have e:=h.fD.getD i;have e:=Mm (l.getD i 0) a E;refine gg ?_;refine ys F aw ?_;refine gg ?_;refine wh F rfl (Nat.mod_lt _ aw) aq ?_;refine gg ?_;refine dp dM F (.inl F) F rfl ?_;intro H q d C;refine gg ?_;refine mS F rfl (s.Y d) F q (by rw[show(OfNat.ofNat 1:Nat)=1 from F,e];omega) aq (by have:=k.size;omega) ?_;intro x G o p;refine gg ?_;refine mP F aw ?_;refine gg ?_;refine⟨_,?_,i+1,x,_,_,F,aq,F,F,F,F,F,p.aK (k.trans d) (λb g=>s.mb g),o,by simp[y],?_,?_⟩
  ·omega
  ·have:(2:Nat)^(OfNat.ofNat 31)=2147483648:=F;rw[this];omega
  ·have f:(2:Nat)^(OfNat.ofNat 31)=2147483648:=F;rw[f,show(OfNat.ofNat 1:Nat)=1 from F,e,lB,y,bN l i D,Nat.pow_succ];have e:=nW (B^i) (val r) a _ (l.getD i 0) (l.getD i 0) z;have h:(a+(l.getD i 0+l.getD i 0))%B=l.getD i 0*2%4294967296+a:=by show _%4294967296=_;omega
   have f:(a+(l.getD i 0+l.getD i 0))/B=l.getD i 0/2147483648:=by show _/4294967296=_;omega
   rw[h,f]at e;rw[e];omega
 ·refine gg ?_;have:i=l.length:=aq;subst this;refine dp dM F (.inl F) F rfl ?_;intro H q d C;refine gg ?_;refine mS F rfl (s.Y d) F q aq aq (by have:=k.size;omega) ?_;intro x G o p;refine gg ?_;refine bF (v:=x) F rfl ⟨p.aK (k.trans d) λb g=>s.mb g,?_⟩;have:=o.My (N:=l.length+1) (by simp;omega);rw[lB,y,Nat.mul_comm,z,dK]at this;exact this
theorem Aj{l:List Nat}(a:fH l){j:Nat}(b:j<l.length):l.getD j 0=val l/B^j%B:=by
 rw[fP l j aq,drop_cons l j b];have c:=fX a j;have b:0<B^j:=Nat.pow_pos aw;rw[Nat.add_mul_div_left _ _ b,Nat.div_eq_of_lt c,Nat.zero_add];simp only[val];rw[Nat.add_mul_mod_self_left];exact(Nat.mod_eq_of_lt (a.getD j)).symm
theorem ED(j:Nat):B^j=2^(32*j):=by rw[Nat.pow_mul];rfl
theorem M8{l:List Nat}(a:fH l){i:Nat}(b:i/32<l.length):l.getD (i/32) 0/2^(i%32)%2=val l/2^i%2:=by
 rw[Aj a b];have e:B=2^(i%32)*2^(32-i%32):=by rw[<-Nat.pow_add,show i%32+(32-i%32)=32 by omega];rfl
 have b:2^(32-i%32)=2*2^(31-i%32):=by rw[<-Nat.pow_succ',show(31-i%32).succ=32-i%32 by omega]
 have a:val l/B^(i/32)%B/2^(i%32)=val l/B^(i/32)/2^(i%32)%2^(32-i%32):=by
  conv=>lhs;rw[show(val l/B^(i/32)%B)=val l/B^(i/32)%(2^(i%32)*2^(32-i%32)) by rw[<-e]]
  rw[Nat.mod_mul_right_div_self]
 rw[a,b,Nat.mod_mul_right_mod,Nat.div_div_eq_div_mul,ED,<-Nat.pow_add,show 32*(i/32)+i%32=i by omega]
theorem Gm(L:List Nat)(j x d:Nat)(b:j<L.length)(a:x=L.getD j 0+d):val (L.set j x)=val L+B^j*d:=by
 have e:=pC L j x b;rw[a,Nat.mul_add]at e;rw[a];omega
theorem JR{L:List Nat}(b:fH L){i q:Nat}(d:i/32<L.length)(c:val L=q*2^(i+1)):
 L.getD (i/32) 0 ||| (1*2^(i%32))%4294967296=L.getD (i/32) 0+2^(i%32)/\L.getD (i/32) 0+2^(i%32)<4294967296:=by
 have e:=b.getD (i/32);have e:val L/B^(i/32)=q*2^(i%32+1):=by
  rw[c,ED,show i+1=32*(i/32)+(i%32+1) by omega,Nat.pow_add,<-Nat.mul_assoc,Nat.mul_comm q,Nat.mul_assoc,Nat.mul_div_cancel_left _ (Nat.pow_pos aw)]
 have c:L.getD (i/32) 0=2^(i%32+1)*(q%2^(31-i%32)):=by
  rw[Aj b d,e];have b:B=2^(i%32+1)*2^(31-i%32):=by rw[<-Nat.pow_add,show i%32+1+(31-i%32)=32 by omega];rfl
  rw[b,Nat.mul_comm q,Nat.mul_mod_mul_left]
 have d:2^(i%32)<2^(i%32+1):=Nat.pow_lt_pow_right aw aq;have g:(1*2^(i%32))%4294967296=2^(i%32):=by
  rw[Nat.one_mul];exact Nat.mod_eq_of_lt (Nat.lt_of_lt_of_le (Nat.pow_lt_pow_right (a:=2) (n:=32) aw (Nat.mod_lt _ aw)) aw)
 have f:q%2^(31-i%32)+1<=2^(31-i%32):=Nat.mod_lt _ (Nat.pow_pos aw);have e:2^(i%32+1)*2^(31-i%32)=4294967296:=by rw[<-Nat.pow_add,show i%32+1+(31-i%32)=32 by omega]
 have b:=Nat.mul_le_mul_left (2^(i%32+1)) f;rw[Nat.mul_add,Nat.mul_one,e]at b;refine⟨?_,aq⟩;rw[g];conv=>lhs;rw[c]
 rw[<-Nat.two_pow_add_eq_or_of_lt d,<-c]
theorem ti(X V b r:Nat)(a:0<V)(c:r=X%V):(2*X+b)/V=2*(X/V)+(2*r+b)/V/\(2*X+b)%V=(2*r+b)%V:=by
 have e:=Nat.div_add_mod X V;have c:2*X+b=(2*r+b)+V*(2*(X/V)):=by
  have:V*(2*(X/V))=2*(V*(X/V)):=Nat.mul_left_comm _ _ _;omega
 rw[c,Nat.add_mul_div_left _ _ a,Nat.add_mul_mod_self_left];exact⟨aq,F⟩
theorem CV.JZ{w:World}{x y:Value}{m:Nat}(h:CV w x y (m:Int)):jX w y m:=by
 obtain⟨a,A,l,c,rfl,rfl,f,e,d,b,a,a⟩:=h;refine⟨A,l,c,F,f,e,d,b,?_⟩;have:=congrArg Int.natAbs a;rw[iq]at this;simpa using this.symm
theorem uR{l:List Nat}(h:l.length<=2):val (l.take 2)=val l:=by rw[List.take_of_length_le h]
theorem rY{l:List Nat}(b:fH l)(h:l.length<=2):val l<18446744073709551616:=by
 have a:=g_ l b;have b:B^l.length<=B^2:=Nat.pow_le_pow_right aw h;have c:B^2=18446744073709551616:=aw;omega
theorem Fz(Z Y:Option Addr)(r h c1 c2:Nat)(a d:List Nat)(w:World)(h1:fM w Z a)(Q:fM w Y d)(ae:a.length=r)(s:d.length=h)(al:r<137438953472)(al:h<137438953472)(t2:dz d)(O:0<val d):
 aT Tryz.prog 176 #[.slice Z r c1,.slice Y h c2] w λv z=>Ext w z/\∃q r,v=.tuple #[q,r]/\jX z q (val a/val d)/\jX z r (val a%val d):=by
 subst ae s;refine bo (n:=75) Tryz.func176 F rfl az aA ?_;refine gg ?_;by_cases g:a.length<=2/\d.length<=2
 ·obtain⟨r,s2⟩:=g;have h:=rY h1.fD r;have s:=rY Q.fD s2;refine aN ?_;refine gg ?_;refine aJ (He _ _ _ a w h1 F aq) ?_;rintro _ _ ⟨rfl,rfl⟩;rw[uR r];refine gg ?_;refine aJ (He _ _ _ d w Q F aq) ?_;rintro _ _ ⟨rfl,rfl⟩;rw[uR s2];refine gg ?_;refine b_ [(0,3),(1,3),(2,3),(5,3),(6,3),(7,3),(3,1),(4,3),(8,1),(9,3),(10,3),(11,3)] mixed az λH ae _=>?_;refine gg ?_;refine mR F rfl h O ?_;refine gg ?_;refine kJ F rfl O ?_;refine gg ?_;refine aM (pP false _ H (Nat.lt_of_le_of_lt (Nat.div_le_self _ _) h)) ?_;rintro _ W ⟨p,x,y,rfl,s⟩;refine⟨p,?_⟩;refine gg ?_;refine Ew F ?_;refine gg ?_;refine aM (pP false _ W (Nat.lt_of_le_of_lt (Nat.mod_le _ _) h)) ?_;rintro _ w3 ⟨G,h,y',rfl,h⟩;refine⟨G,?_⟩;refine gg ?_;refine Ew F ?_;refine gg ?_;rw[eY]at s h;exact cU (v:=y) (v':=y') F rfl rfl ⟨ae.trans (p.trans G),y,y',F,(s.JZ).Y G,h.JZ⟩
 ·refine aY (λf z=>w=z/\f 0=.slice Z a.length c1/\f 1=.slice Y d.length c2/\f 5=.slice none 0 0) ?_ ?_
  ·refine aN ?_;by_cases r:a.length<=2
   ·have s2:¬d.length<=2:=λh=>g ⟨r,h⟩;refine gg ?_;exact⟨F,F,F,F⟩
   ·refine gg ?_;exact⟨F,F,F,F⟩
  rintro f z ⟨rfl,o,k,b⟩;rw[ui o,ui k,ui b];clear o k b g;refine gg ?_;refine cJ dM (.inl F) F rfl aD aq aq ?_;intro H C B h;rw[iW]at C;obtain⟨X,r⟩ : ∃g,g=w.heap.size:=⟨_,F⟩;rw[<-r]at C⊢;have g:val a/2^(32*a.length)=0:=Nat.div_eq_of_lt (by rw[<-ED];exact g_ a h1.fD);refine gg ?_;refine aN ?_;refine gg ?_;refine aU (λm f z=>∃s R L,m=s/\s<=32*a.length/\f 0=.slice Z a.length c1/\f 1=.slice Y d.length c2/\f 4=.slice (some ⟨X,0,none⟩) a.length a.length/\f 5=R/\f 8=.int .i64 ((s:Int)-1)/\
   Ext w z/\bg z X 153 (cells L)/\L.length=a.length/\fH L/\jX z R (val a/2^s%val d)/\val L=val a/2^s/val d*2^s)
   (32*a.length) ⟨32*a.length,_,_,F,aD,F,F,F,F,?_,B,C,aA,fz _,by rw[g,Nat.zero_mod];exact pX H,by rw[g,Nat.zero_div,Nat.zero_mul,qH]⟩ ?_
  ·rfl
  clear C B h g H;rintro m f H ⟨s,R,L,rfl,g,o,k,M,b,K,B,C,hL,t,hR,P⟩;rcases m with _|i
  ·rw[ui o,ui k,ui M,ui b,ui K];clear o k M b K;refine aN ?_;refine gg ?_;refine aJ (iO _ _ _ L H (dE C t) hL aD aq) ?_;rintro q W ⟨p,hq⟩;refine gg ?_;rw[Nat.pow_zero,Nat.div_one]at hR P;rw[P,Nat.mul_one]at hq;exact cU (v:=q) (v':=R) F rfl rfl ⟨B.trans p,q,R,F,hq,hR.Y p⟩
  ·have g:f 8=.int .i64 (i:Int):=by rw[K];congr 1;omega
   rw[ui o,ui k,ui M,ui b,ui g];clear o k M b K g;have J:i/32<a.length:=aq;obtain⟨ad,rfl,b⟩:=(h1.Y B).at (j:=i/32) J;have f:=b (i/32) J;have b:=h1.fD.getD (i/32);have b:=M8 h1.fD J;have hX:val a/2^i=2*(val a/2^(i+1))+val a/2^i%2:=by
    rw[Nat.pow_succ,<-Nat.div_div_eq_div_mul];omega
   have f:=Nat.div_le_self (a.getD (i/32) 0) (2^(i%32));refine aN ?_;refine gg ?_;refine qC F aq aw ?_;refine gg ?_;refine jB F aw ?_;refine gg ?_;refine tN F rfl (Nat.mod_lt _ aw) ?_;refine gg ?_;refine yK F (by show a.getD (i/32) 0/2^(i%32)<_;omega) aw ?_;have f:(a.getD (i/(OfNat.ofNat 32)) 0/2^(i%(OfNat.ofNat 32)) &&& (OfNat.ofNat 1):Nat)=val a/2^i%2:=by
    rw[<-b];exact Nat.and_one_is_mod _
   rw[f];obtain⟨b,tr,b,rfl,b,b,f,b,a1⟩:=hR;have g:tr.length<=d.length:=iw Q.fD b (by rw[a1];exact Nat.le_of_lt (Nat.mod_lt _ O));refine gg ?_;refine aJ (Fx _ _ _ _ tr H f F aq aq) ?_;rintro _ W ⟨p,A,l,c,rfl,b,f,hM,f,hv⟩;refine gg ?_;refine aJ (iO _ _ _ l W hM F b aq) ?_;rintro _ w3 ⟨G,ak⟩;obtain⟨T3,D,d3,rfl,a8,a7,N,S,I⟩:=ak;have b:D.length<=d.length+1:=by have:=iw hM.fD S (Nat.le_of_eq I);omega
   rw[hv,a1]at I;have E:=ti (val a/2^(i+1)) (val d) (val a/2^i%2) (val a/2^(i+1)%val d) O F;rw[<-hX]at E;have b:=p.trans G;have f:2*(val a/2^(i+1)%val d)+val a/2^i%2<2*val d:=by
    have:=Nat.mod_lt (val a/2^(i+1)) O;have:=Nat.mod_lt (val a/2^i) (show 0<2 by decide);omega
   refine gg ?_;refine aJ (r5 _ _ _ _ _ _ D d w3 N (Q.Y (B.trans b)) F rfl aq aq S t2) ?_;rintro _ f ⟨U,rfl⟩;have u:=b.trans U;by_cases g:val d<=val D
   ·have ai:(0:Int)<=fl (val D) (val d):=by unfold fl;rw[aa aq];split<;>decide
    refine gg ?_;refine aJ (kD _ _ _ _ _ _ D d f (N.Y U) (Q.Y (B.trans u)) F rfl aq (iw N.fD t2 g) g) ?_;rintro _ h ⟨a6,b,p,b,rfl,b,f,f,k,r⟩;refine gg ?_;refine aJ (u9 _ _ _ p h f F b aq) ?_;rintro H b ⟨f,s,V⟩;have b:=u.trans (a6.trans f);refine gg ?_;refine cP [(0,3),(1,3),(2,3),(3,3),(4,0),(5,3),(6,3),(7,3),(8,3),(9,3),(10,2)] mixed az λo h _=>?_;have f:=C.Y (b.trans h);have m:=qo f (j:=i/32) aq;have k:=JR t (i:=i) (q:=val a/2^(i+1)/val d) aq P;have z:=t.getD (i/32);have hq:o.cell? ⟨X,0+i/(OfNat.ofNat 32)*1,none⟩=some (.int .u32 ((L.getD (i/32) 0:Nat):Int)):=m;refine gg ?_;refine qC F aq aw ?_;have m:i/(OfNat.ofNat 32)<a.length:=J;refine gg ?_;refine jB F aw ?_;refine gg ?_;refine yp F (Nat.mod_lt _ aw) ?_;refine gg ?_;refine wh F rfl z (Nat.mod_lt _ aw) ?_;have m:(L.getD (i/32) 0 ||| (OfNat.ofNat 1*2^(i%(OfNat.ofNat 32)))%4294967296:Nat)=L.getD (i/32) 0+2^(i%32):=k.1;rw[m];refine gg ?_;refine bZ (aX F) (.inl F) F rfl f (by rw[cN];show 0+i/32*1<_;omega) ?_;intro o f m z;have f:bg o X 153 ((cells L).setIfInBounds (0+i/32*1) (.int .u32 ((L.getD (i/32) 0+2^(i%32):Nat):Int))):=f;rw[dV]at f;have z:Ext w o:=m.aK (B.trans (b.trans h)) λb G=>aq;refine gg ?_;have T:(2*(val a/2^(i+1)%val d)+val a/2^i%2)/val d=1:=by
     refine Nat.div_eq_of_lt_le aq aq
    refine⟨i,aq,i,H,_,F,aq,F,F,F,F,F,z,f,by simpa using hL,t.set k.2,?_,?_⟩
    ·have e:val a/2^i%val d=val p:=by
      rw[r,E.2,<-I,Nat.mod_eq_sub_mod g];exact Nat.mod_eq_of_lt aq
     rw[e];have p:=s.Y h;obtain⟨s,o,r,e6,k,h,g,f,b⟩:=p;refine⟨s,o,r,e6,k,h,g.ch m λad aj G=>?_,f,b⟩;subst aj;have:=V ad.block (by rw[e6];rfl);have:=C.lt;have:=(u.trans a6).size;omega
    ·rw[Gm L (i/32) _ (2^(i%32)) aq F,P,E.1,T];generalize val a/2^(i+1)/val d=q;rw[Nat.add_mul,Nat.one_mul,ED,<-Nat.pow_add,show 32*(i/32)+i%32=i by omega,Nat.pow_succ,Nat.mul_comm (2^i) 2,<-Nat.mul_assoc,Nat.mul_comm q 2]
   ·have ai:¬(0:Int)<=fl (val D) (val d):=by unfold fl;rw[ab aq];decide
    refine gg ?_;have T:(2*(val a/2^(i+1)%val d)+val a/2^i%2)/val d=0:=Nat.div_eq_of_lt aq;refine⟨i,aq,i,_,L,F,aq,F,F,F,F,F,B.trans u,C.Y u,hL,t,?_,?_⟩
    ·have e:val a/2^i%val d=val D:=by rw[E.2,<-I];exact Nat.mod_eq_of_lt aq
     rw[e];exact⟨T3,D,d3,F,a8,a7,N.Y U,S,F⟩
    ·rw[P,E.1,T];generalize val a/2^(i+1)/val d=q;rw[Nat.add_zero (2*q),Nat.pow_succ,Nat.mul_comm (2^i) 2,<-Nat.mul_assoc,Nat.mul_comm q 2]
section
variable {P:Program}{n:Nat}{S:World->World->Prop}{k:Nat}{K:Fr->World->Prop}{f:Fr}{w:World}
 {d ty t t2:Nat} {x y:Operand} {pos:String} {aft:Array Edge} {gd:Option (Nat×Bool)}
theorem jE{g:FuncId}{l:List Operand}{c:Array TypeId}{b:Value->World->Prop}(e:aT P g (l.map (ev n f)).toArray w b)
 (h:∀v a,b v a->S w a/\K (cg f d v) a):R1 P n S 1 ⟨some d,.call { callee:=.value (.func g),args:=l.toArray,argTypes:=c },ty,pos,aft,gd⟩ K f w:=
 se (.inr F) aA e λv a b=>⟨λ_=>(h v a b).1,(h v a b).2⟩
theorem fW{M:Nat->Prop}{g T:Nat}{u v:Value}(i:k≠3)(l:eP P t 2=true)(j:ev n f x=.pointer (some ⟨g,0,none⟩))(c:bg w g T #[u,v])(m:¬M g)(h:K (cg f d (.agg #[u,v])) w):
 R1 P n (Ch M) k ⟨some d,.load t x,ty,pos,aft,gd⟩ K f w:=by
 refine iD i (v:=.agg #[u,v]) (λi b=>?_) h;have e:bg i g T #[u,v]:=by
  rcases b with b|rfl
  ·exact c.ch b m
  ·exact c
 obtain⟨c,b⟩:=bh e;simp only[execOp,j,Sem.run_bind,dB l c b,Result.andThen_ok,Sem.run_pure]
theorem BB(M:Nat->Prop):∀a b c:World,Ch M a b->Ch M b c->Ch M a c:=λ_ _ _ h k=>h.trans k
theorem kX{Q:Exit->Fr->World->Prop}{i:Nat}{a:Array Oper}{c:Code}(M:Nat->Prop)(b:List (Nat×Nat))(j:P.follows .mixedOrders=true)
 (g:(b.length == a.size&&Region.noSelect a&&jI a (uh b) b (Array.replicate a.size false))=true)
 (h:∀e,Ext w e->e.heap=w.heap->Ro P n a (Ch M) (W P n c Q) b f e):W P n (.seq (.region i a true) c) Q f w:=
 aN (tE (Ch M) (BB M) b j g (by rw[kg];exact h _ (mI w) F))
end
def Oy(w:World)(b a:Int)(v:Value)(w':World):Prop:=
 if a=0 then Ext w w'/\v=.tuple #[.agg #[.bool false,.slice none 0 0],.agg #[.bool false,.slice none 0 0],.bool false]else RD w b a v w'
theorem B4{w w':World}{b a:Int}{v:Value}(h:¬a=0)(h':RD w b a v w'):Oy w b a v w':=by unfold Oy;rw[aa h];exact h'
theorem Po(e c:Bool)(a b:Nat)(g:0<b):
 (¬sg e (a%b)<0->sg e a/sg c b=sg (e != c) (a/b)/\sg e a%sg c b=sg e (a%b))/\
 (sg e (a%b)<0->sg e a%sg c b=sg e (a%b)+sg false b/\(sg c b<0->sg e a/sg c b=sg (e != c) (a/b)+1)/\(¬sg c b<0->sg e a/sg c b=sg (e != c) (a/b)-1)):=by
 have h:=Nat.div_add_mod a b;have h:=Nat.mod_lt a g;cases e
 ·have h:=HW c a b g;refine⟨λ_=>?_,λe=>absurd e (by simp[sg];omega)⟩;simp only[eY,Bool.false_bne];exact h
 ·refine⟨λe=>?_,λe=>?_⟩
  ·have j:a%b=0:=by simp[sg]at e;omega
   have h:=xQ c a b (a/b) 0 g g (by rw[Nat.mul_comm];omega);rw[fb,j,fb,Bool.true_bne];exact h
  ·have j:0<a%b:=by simp[sg]at e;omega
   have h:=xQ c a b (a/b+1) (b-a%b) g aq (by rw[Nat.add_mul,Nat.one_mul,Nat.mul_comm];omega);rw[fb,Bool.true_bne,h.1,h.2];refine⟨?_,λi=>?_,λi=>?_⟩
   ·rw[fb,eY];omega
   ·cases c
    ·simp[sg]at i;omega
    ·simp[sg]
   ·cases c
    ·simp[sg];omega
    ·simp[sg]at i;omega
theorem B5(x1 y1 x2 y2:Value)(g e:Int)(N:Nat)(w:World)(h1:IV w N x1 y1 g)(h2:IV w N x2 y2 e)(hN:N<68719476736):
 aT Tryz.prog 145 #[.agg #[x1,y1],.agg #[x2,y2]] w (Oy w g e):=by
 have i2:=h2;obtain⟨V,e,E,e,rfl,rfl,eX,e,G,e4,rfl⟩:=h1;obtain⟨I,e,p,e,rfl,rfl,eV,e,ca,eU,rfl⟩:=h2;refine bo (n:=61) Tryz.func145 F rfl az aA ?_;refine gg ?_;refine bO (v:=.agg _) (.inl F) F ?_;intro w1 cd ek eS;refine gg ?_;refine bO (v:=.agg _) (.inl F) F ?_;intro w2 cc cb eR;refine gg ?_;refine aS (.inl F) a_ ?_;intro w3 eo bt eL;refine gg ?_;refine aS (.inl F) a_ ?_;intro w4 en e eH;obtain⟨ga,e8⟩ : ∃g,g=w.heap.size:=⟨_,F⟩;obtain⟨gb,e7⟩ : ∃g,g=w1.heap.size:=⟨_,F⟩;obtain⟨gq,e6⟩ : ∃g,g=w2.heap.size:=⟨_,F⟩;obtain⟨gr,e5⟩ : ∃g,g=w3.heap.size:=⟨_,F⟩;have c9:Bx w4 w2.heap.size 1 true 0:=(Bx.zero true eo).Y e;have c5:Bx w4 w3.heap.size 1 true 0:=Bx.zero true en;rw[<-e5]at c5⊢;rw[<-e6]at c9⊢;rw[<-e7]at cc⊢;rw[<-e8]at cd⊢;have cf:=cd.Y (cb.trans (bt.trans e));have b6:=cc.Y (bt.trans e);have b4:=ek.trans (cb.trans (bt.trans e));have g:ga<gb/\gb<gq/\gq<gr/\w.heap.size<=ga:=aq;obtain⟨fC,fC,fC,fC⟩:=g;clear cd cc eo en ek cb bt e eS eR eL eH e5 e6 e7 e8;refine gg ?_;refine b_ [(0,3),(1,0),(3,3),(4,0),(2,1),(5,1),(6,3),(7,3)] mixed az λe Q _=>?_;have f1:=fG (cf.Y Q);have f3:=fG (b6.Y Q);have aH:=b4.trans Q;refine gg ?_;refine aM (iO _ _ _ _ e (G.Y aH) F eX aq) ?_;rintro _ e ⟨bl,e9⟩;refine⟨bl,?_⟩;refine gg ?_;refine aM (iO _ _ _ _ e (ca.Y (aH.trans bl)) F eV aq) ?_;rintro _ w7 ⟨bj,fs⟩;refine⟨bj,?_⟩;obtain⟨e,t1,e,rfl,_,_,fx,eE,cQ⟩:=e9.Y bj;obtain⟨T2,t2,e,rfl,eB,e,c4,bK,fc⟩:=fs;have e:t1.length<=N:=by have:=iw G.fD eE (Nat.le_of_eq cQ);omega
 have e:t2.length<=N:=by have:=iw ca.fD bK (Nat.le_of_eq fc);omega
 have e:=Q.trans (bl.trans bj);have dd:=b4.trans e;have er:=cf.Y e;have ds:=b6.Y e;have c6:=c9.Y e;have bc:=c5.Y e;clear Q bl bj e b4 aH cf b6 c9 c5 f1 f3 e9;refine gg ?_;by_cases hz:t2.length=0
 ·have W:val p=0:=by rw[<-fc,List.eq_nil_of_length_eq_zero hz];rfl
  have e0:sg I (val p)=0:=by rw[W];cases I<;>rfl
  refine aN ?_;refine gg ?_;refine dR fm ?_;refine gg ?_;refine dR fm ?_;refine gg ?_;obtain⟨qx,qy,s,L⟩:=c6;refine aZ aQ (.inl F) F rfl rfl rfl s aA ?_;intro w8 aH e g;have g:=c8 s L.1.lh e;obtain⟨rx,ry,A,X⟩:=bc.kp g e aq;refine gg ?_;refine aZ aQ (.inl F) F rfl rfl rfl A aA ?_;intro w9 Q g b4;refine gg ?_;refine oY (v:=.bool _) F aQ F rfl rfl (aH.ch g aq) Q ?_;unfold Oy;rw[ab e0];exact⟨g.aK (e.aK dd λb U=>aq) λb U=>aq,F⟩
 ·have ew:0<val t2:=by
   rcases Nat.eq_zero_or_pos (val t2)with h|h
   ·exact absurd (by rw[val_zero bK h];rfl) hz
   ·exact h
  have W:¬sg I (val p)=0:=λe=>by
   have:=congrArg Int.natAbs e;rw[iq,<-fc]at this;simp at this;omega
  have e3:=Po V I (val E) (val p) aq;refine aN ?_;refine gg ?_;refine aJ (Fz _ _ _ _ _ _ t1 t2 w7 fx c4 F rfl aq aq bK ew) ?_;rintro _ w8 ⟨M,q,r,rfl,hq,hr⟩;obtain⟨e,tq,e,rfl,eA,e,ej,eD,bI⟩:=hq;obtain⟨e,tr,e,rfl,ey,e,eg,e,bG⟩:=hr;rw[cQ,fc]at bI bG;have g:tq.length<=N:=by have:=iw G.fD eD (by rw[bI];exact Nat.div_le_self _ _);omega
  have g:tr.length<=N:=by have:=iw G.fD e (by rw[bG];exact Nat.mod_le _ _);omega
  have bu:=er.Y M;have b5:=ds.Y M;have cL:=dd.trans M;refine gg ?_;refine ib [(0,3),(1,0),(2,3),(3,0),(4,3),(5,3),(7,3),(8,0),(9,3)] [(6,[],[]),(11,[],[]),(12,[],[]),(10,[],[6])] [(13,2),(14,2)] mixed az λw9 H _=>?_;have f0:=iR (bu.Y H);have f2:=iR (b5.Y H);refine gg ?_;refine dN [(6,[]),(10,[])] [fA 11 11 44 (.agg #[.bool false,.slice none 0 0]),fA 12 12 44 (.agg #[.bool false,.slice none 0 0])] [36,40,11,12] az (λa ha f' w' _ _=>by
   rcases List.mem_cons.1 ha with rfl|ha
   ·exact cm a_ F f' w'
   ·rcases List.mem_singleton.1 ha with rfl;exact cm a_ F f' w') ?_
  refine cS λe a8=>?_;refine gg ?_;refine aM (jv (V != I) _ _ _ tq e (ej.Y (H.trans a8)) F eA aq) ?_;rintro _ e ⟨a7,e,e,rfl,bW⟩;refine⟨a7,?_⟩;refine gg ?_;refine cS λe a6=>?_;refine gg ?_;refine aM (jv V _ _ _ tr e (eg.Y (H.trans (a8.trans (a7.trans a6)))) F ey aq) ?_;rintro _ e ⟨a1,e,e,rfl,bS⟩;refine⟨a1,?_⟩;refine gg ?_;refine eW λe Z D bY cu=>?_;obtain⟨ai,dy⟩:=bY _ aG;obtain⟨ae,dx⟩:=bY _ (List.mem_cons_of_mem _ aG);have bM:D 11≠D 12:=cu _ _ aG (List.mem_cons_of_mem _ aG) (show(11:Nat)≠12 by decide);have cA:Bx e (D 11) 1 true 0:=Bx.zero true dy;have cy:Bx e (D 12) 1 true 0:=Bx.zero true dx;have ai:w9.heap.size<=D 11:=ai;have ae:w9.heap.size<=D 12:=ae;show Ro _ _ _ _ _ _ (cg (cg _ 12 (.pointer (some ⟨D 12,0,none⟩))) 11 (.pointer (some ⟨D 11,0,none⟩))) _;generalize D 11=g11 at*;generalize D 12=g12 at*;clear dy dx bY cu;rw[bI]at bW;rw[bG]at bS;have e:Bd N (sg (V != I) (val E/val p)):=by
   unfold Bd;rw[iq];have a:=g_ E G.fD;have b:B^E.length<=B^N:=Nat.pow_le_pow_right aw e4;have:=Nat.div_le_self (val E) (val p);omega
  have b6:Bd N (sg V (val E%val p)):=by
   unfold Bd;rw[iq];have a:=g_ E G.fD;have b:B^E.length<=B^N:=Nat.pow_le_pow_right aw e4;have:=Nat.mod_le (val E) (val p);omega
  refine gg ?_;refine aL (.inl F) F rfl cA ((bW.Y (a6.trans (a1.trans Z))).ev true e) ?_;intro e an D G bl;refine gg ?_;refine aL (.inl F) F rfl (cy.kp G D bM.symm) (((bS.Y Z).kp G).ev true b6) ?_;intro b4 al g Q bj;have an:=an.kp Q g bM;have e:=H.trans (a8.trans (a7.trans (a6.trans (a1.trans Z))));have bI:=bu.lt;have bY:gr<w9.heap.size:=by have:=(bc.Y (M.trans H)).lt;omega
  have bG:=((bu.Y e).ch D aq).ch g aq;have aH:=((b5.Y e).ch D aq).ch g aq;have au:=((c6.Y (M.trans e)).kp G D aq).kp Q g aq;have ar:=((bc.Y (M.trans e)).kp G D aq).kp Q g aq;have bK:=(cL.trans H).size;have av:Ext w b4:=g.aK (D.aK (cL.trans e) λb U=>aq) λb U=>aq;have bt:fM b4 T2 t2:=((c4.Y (M.trans e)).kp G).kp Q;have M:gr<g11:=aq;have M:gr<g12:=aq;clear e bI bY bu b5 c6 bc G D Q g bl bj cA cy Z a1 a6 a7 a8 H bK ai ae er ds bW bS ej eg c4 f0 f2;obtain⟨G,D,Z,Q⟩:=id al;obtain⟨s0,s1⟩:=bh Z;refine gg ?_;refine aN ?_;refine gg ?_;refine aJ (lL _ _ _ N b4 Q.1 aq) ?_;rintro _ e ⟨C,rfl⟩;by_cases Y:sg V (val E%val p)<0
  ·have eG:(sg V (val E%val p)).sign<0:=by rw[Int.sign_eq_neg_one_of_neg Y];decide
   obtain⟨k1,k2,k3⟩:=e3.2 Y;refine gg ?_;refine b_ [(0,0),(1,3),(2,1),(3,1),(4,2)] mixed az λg a6 _=>?_;have e:=C.trans a6;obtain⟨G,D,Z,Q⟩:=al.Y e;obtain⟨s0,s1⟩:=bh Z;refine gg ?_;refine aM (jv false _ _ _ t2 g (bt.Y e) F eB aq) ?_;rintro _ G ⟨g,D,D,rfl,o6⟩;refine⟨g,?_⟩;rw[fc]at o6;have D:Bd N (sg false (val p)):=by
    unfold Bd;rw[iq];have a:=g_ p ca.fD;have b:B^p.length<=B^N:=Nat.pow_le_pow_right aw eU;omega
   refine gg ?_;refine aM (r6 _ _ _ _ _ _ N G (Q.Y g).1 (o6.iv D) aq) ?_;rintro _ a ⟨H,a,a,rfl,M⟩;refine⟨H,?_⟩;rw[<-k1]at M;have a:Bd (N+1) (sg V (val E)%sg I (val p)):=by rw[k1];exact b6.add D
   refine gg ?_;refine aL (.inl F) F rfl (al.Y (e.trans (g.trans H))) (M.ev true a) ?_;intro a8 b5 a G ae;have D:=e.trans (g.trans H);have a7:=(aH.Y D).ch a aq;have b4:=(au.Y D).kp G a aq;have ai:=(ar.Y D).kp G a aq;have b6:=(an.Y D).kp G a bM;have a1:Ext w a8:=a.aK (av.trans D) λb U=>aq;clear D e H g a6 C M o6 G a ae Z Q s0 s1 al an au ar aH bG av;obtain⟨a,a⟩:=bh a7;refine gg ?_;refine aN ?_;refine gg ?_;refine aJ (lL _ _ _ N a8 (i2.Y a1) aq) ?_;rintro _ a ⟨a,rfl⟩;have cx:=b4.Y a;have cv:=ai.Y a;have bC:=b6.Y a;have bB:=b5.Y a;have bA:=a1.trans a;by_cases b8:sg I (val p)<0
   ·have a:(sg I (val p)).sign<0:=by rw[Int.sign_eq_neg_one_of_neg b8];decide
    refine gg ?_;refine kX (λb=>b=gq) [(0,0),(3,0),(1,1),(2,1),(4,1),(5,2),(6,3)] mixed az λb7 c _=>?_;obtain⟨ax,ay,ak,O⟩:=bC.Y c;obtain⟨bx,et,aj,u⟩:=bB.Y c;refine gg ?_;refine fW aw aQ F ak aq ?_;refine gg ?_;refine fW aw aQ F aj aq ?_;refine gg ?_;refine jE (kl 1 b7 aw aw) ?_;rintro _ bD ⟨i,o1,o2,rfl,bX⟩;refine⟨i.ch,?_⟩;refine gg ?_;refine jE (r6 _ _ _ _ _ _ (N+1) bD (O.Y i |>.mono (Nat.le_succ N)).1 (bX.iv (Bd.mono (N:=1) (show(1:Int).natAbs<B^1 by decide) aq)) aq) ?_;rintro _ eC ⟨l,o3,o4,rfl,J⟩;refine⟨l.ch,?_⟩;refine gg ?_;obtain⟨qx,qy,s,L⟩:=cx.Y (c.trans (i.trans l));refine aZ aQ (.inr ⟨F,λ_ h=>h⟩) rfl rfl J.ep J.eN s aA ?_;intro e2 T o cq;have j:=c8 s L.1.lh o;obtain⟨rx,ry,A,X⟩:=(cv.Y (c.trans (i.trans l))).kp j o aq;refine gg ?_;refine aZ aQ (.inl F) F rfl u.1.ep u.1.eN A aA ?_;intro e1 R m ck;have z:=c8 A X.1.lh m;refine gg ?_;refine oY (v:=.bool _) F aQ F rfl rfl (T.ch m aq) R (B4 W ⟨m.aK (o.aK (bA.trans (c.trans (i.trans l))) λb U=>aq) λb U=>aq,_,_,_,_,F,?_,?_⟩)
    ·rw[k2 b8];exact(J.kp j).kp z
    ·exact(((u.2 F).Y (i.trans l)).kp j).kp z
   ·have a:¬(sg I (val p)).sign<0:=by
     rcases Int.lt_trichotomy (sg I (val p)) 0 with h|h|h
     ·exact absurd h b8
     ·exact absurd h W
     ·rw[Int.sign_eq_one_of_pos h];decide
    refine gg ?_;refine kX (λb=>b=gq) [(0,0),(3,0),(1,1),(2,1),(4,1),(5,2),(6,3)] mixed az λb7 c _=>?_;obtain⟨ax,ay,ak,O⟩:=bC.Y c;obtain⟨bx,et,aj,u⟩:=bB.Y c;refine gg ?_;refine fW aw aQ F ak aq ?_;refine gg ?_;refine fW aw aQ F aj aq ?_;refine gg ?_;refine jE (kl 1 b7 aw aw) ?_;rintro _ bD ⟨i,o1,o2,rfl,bX⟩;refine⟨i.ch,?_⟩;refine gg ?_;refine jE (DK _ _ _ _ _ _ (N+1) bD (O.Y i |>.mono (Nat.le_succ N)).1 (bX.iv (Bd.mono (N:=1) (show(1:Int).natAbs<B^1 by decide) aq)) aq) ?_;rintro _ eC ⟨l,o3,o4,rfl,J⟩;refine⟨l.ch,?_⟩;refine gg ?_;obtain⟨qx,qy,s,L⟩:=cx.Y (c.trans (i.trans l));refine aZ aQ (.inr ⟨F,λ_ h=>h⟩) rfl rfl J.ep J.eN s aA ?_;intro e2 T o cq;have j:=c8 s L.1.lh o;obtain⟨rx,ry,A,X⟩:=(cv.Y (c.trans (i.trans l))).kp j o aq;refine gg ?_;refine aZ aQ (.inl F) F rfl u.1.ep u.1.eN A aA ?_;intro e1 R m ck;have z:=c8 A X.1.lh m;refine gg ?_;refine oY (v:=.bool _) F aQ F rfl rfl (T.ch m aq) R (B4 W ⟨m.aK (o.aK (bA.trans (c.trans (i.trans l))) λb U=>aq) λb U=>aq,_,_,_,_,F,?_,?_⟩)
    ·rw[k3 b8];exact(J.kp j).kp z
    ·exact(((u.2 F).Y (i.trans l)).kp j).kp z
  ·have eG:¬(sg V (val E%val p)).sign<0:=by
    rcases Int.lt_trichotomy (sg V (val E%val p)) 0 with h|h|h
    ·exact absurd h Y
    ·rw[h];decide
    ·rw[Int.sign_eq_one_of_pos h];decide
   obtain⟨k1,k2⟩:=e3.1 Y;refine gg ?_;refine kX (λb=>b=gq) [(0,0),(1,0),(2,1),(3,2),(4,3)] mixed az λb7 c _=>?_;obtain⟨ax,ay,ak,O⟩:=an.Y (C.trans c);obtain⟨bx,et,aj,u⟩:=al.Y (C.trans c);refine gg ?_;refine fW aw aQ F ak aq ?_;refine gg ?_;refine fW aw aQ F aj aq ?_;refine gg ?_;obtain⟨qx,qy,s,L⟩:=au.Y (C.trans c);refine aZ aQ (.inr ⟨F,λ_ h=>h⟩) rfl rfl O.1.ep O.1.eN s aA ?_;intro e2 T o cq;have j:=c8 s L.1.lh o;obtain⟨rx,ry,A,X⟩:=(ar.Y (C.trans c)).kp j o aq;refine gg ?_;refine aZ aQ (.inl F) F rfl u.1.ep u.1.eN A aA ?_;intro e1 R m ck;have z:=c8 A X.1.lh m;refine gg ?_;refine oY (v:=.bool _) F aQ F rfl rfl (T.ch m aq) R (B4 W ⟨m.aK (o.aK (av.trans (C.trans c)) λb U=>aq) λb U=>aq,_,_,_,_,F,?_,?_⟩)
   ·rw[k1];exact((O.2 F).kp j).kp z
   ·rw[k2];exact((u.2 F).kp j).kp z
theorem Jv(X V W U:Value)(o G:Int)(N:Nat)(w:World)(h1:IV w N X V o)(h2:IV w N W U G)(hN:N<68719476736):
 aT Tryz.prog 101 #[.agg #[X,V],.agg #[W,U]] w (RI w (o/G)):=by
 refine bo (n:=16) Tryz.func101 F rfl az aA ?_;refine gg ?_;refine bO (v:=.agg _) (.inl F) F ?_;intro w1 an L b8;refine gg ?_;refine bO (v:=.agg _) (.inl F) F ?_;intro Z al C b7;refine gg ?_;refine aS (.inl F) a_ ?_;intro O ak A b6;have j:Bx O Z.heap.size 1 true 0:=Bx.zero true ak;obtain⟨gR,a7⟩ : ∃g,g=Z.heap.size:=⟨_,F⟩;rw[<-a7]at j⊢;have e:=L.trans (C.trans A);obtain⟨f0,f1⟩:=bh (an.Y (C.trans A));obtain⟨f2,f3⟩:=bh (al.Y A);refine gg ?_;refine aJ (B5 _ _ _ _ _ _ N O (h1.Y e) (h2.Y e) hN) ?_;intro v H m;obtain⟨i,s,r,q,p,b,rfl,Q,u⟩ : Ext O H/\∃s r q p b,v=.tuple #[.agg #[s,r],.agg #[q,p],.bool b]/\CV H s r (o/G)/\∃M,CV H q p M/\Bd N M:=by
  unfold Oy at m;split at m
  ·rename_i I;obtain⟨R,rfl⟩:=m;exact⟨R,_,_,_,_,_,F,by rw[I,Int.ediv_zero];exact CV.zero _,0,CV.zero _,Bd.zero _⟩
  ·rename_i I;obtain⟨R,s,r,q,p,rfl,Q,u⟩:=m;refine⟨R,s,r,q,p,true,F,Q,_,u,?_⟩;have a:=Int.emod_nonneg o I;have b:=Int.emod_lt o I;have c:G.natAbs<B^N:=IV.bd h2;unfold Bd;omega
 obtain⟨M,u,a6⟩:=u;refine gg ?_;refine aS (.inl F) a_ ?_;intro w5 aj l b5;refine gg ?_;refine aS (.inl F) a_ ?_;intro Y ai h b4;have h5:Bx Y H.heap.size 1 true 0:=(Bx.zero true aj).Y h;have h6:Bx Y w5.heap.size 1 true 0:=Bx.zero true ai;refine gg ?_;refine aL (.inl F) F rfl h5 ((Q.Y (l.trans h)).ev true (Bd.ediv (IV.bd h1))) ?_;intro w7 h7 E z b1;refine gg ?_;refine aL (.inl F) F rfl (h6.kp z E aq) (((u.Y (l.trans h)).kp z).ev true a6) ?_;intro w8 h8 D J b0;obtain⟨ax,ay,au,ar⟩:=h7.kp J D aq;obtain⟨a0,a1⟩:=bh au;have a8:=((j.Y (i.trans (l.trans h))).kp z E (by have:=j.lt;have:=i.size;omega)).kp J D (by have:=j.lt;have:=i.size;omega);have av:=(e.trans i).size;have T:Ext w w8:=D.aK (E.aK (e.trans (i.trans (l.trans h))) λb hb=>aq) λb hb=>aq;refine gg ?_;refine aL (.inl F) F rfl a8 ar ?_;intro w9 h9 ae bc aH;refine gg ?_;obtain⟨x,y,hB,m⟩:=h9;exact eZ F aQ F hB ⟨ae.aK T (λb hb=>by have:=(L.trans C).size;omega),x,y,F,m.2 F⟩
