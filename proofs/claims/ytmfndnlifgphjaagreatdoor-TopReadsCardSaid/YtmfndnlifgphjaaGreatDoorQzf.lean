import Derived.Test.YtmfndnlifgphjaaGreatDoorQze
set_option maxHeartbeats 64000000
open Go.Proofs.YtmfndnlifgphjaaGreatDoor
namespace Go.Proofs.Qq
section
open Go Go.cW Go.c7 Go.Proofs
theorem qV(i j:Nat):0+i*1+j*1=0+(i+j)*1:=by omega
theorem Fe(R E:Option Addr)(V U N K:Nat)(c a:List Nat)(w:World)(h1:fM w R c)(Q:fM w E a)(a7:c.length=V)(a6:a.length=U)(ae:V<17592186044416)(ae:U<17592186044416):
 aT Tryz.prog 148 #[.slice R V N,.slice E U K] w λv k=>Ext w k/\jX k v (val c*val a):=by
 subst a7 a6;refine bo (n:=86) Tryz.func148 F rfl az aA ?_;refine gg ?_;by_cases T:c.length<=1/\a.length<=1
 ·obtain⟨U,s2⟩:=T;have v1:=val_one c h1.fD U;have V:=val_one a Q.fD s2;have v3:=lU _ _ v1 V;refine aN ?_;refine gg ?_;refine aJ (mc _ _ _ _ w h1 F aq) ?_;rintro _ u ⟨rfl,rfl⟩;refine gg ?_;refine aJ (mc _ _ _ _ w Q F aq) ?_;rintro _ u ⟨rfl,rfl⟩;refine gg ?_;refine jO F rfl aq ?_;refine gg ?_;refine aJ (ix _ w aq) ?_;rintro v u ⟨d,V⟩;refine gg ?_;exact bF (v:=v) F rfl ⟨d,V⟩
 ·refine aY (λf k=>w=k/\f 0=.slice R c.length N/\f 1=.slice E a.length K) ?_ ?_
  ·by_cases U:c.length<=1
   ·refine gg ?_;exact⟨F,F,F⟩
   ·refine gg ?_;exact⟨F,F,F⟩
  rintro f k ⟨rfl,U,l⟩;rw[ui U,ui l];clear U l T;refine gg ?_;refine cJ dM (.inl F) F rfl aD aq aq ?_;intro u g d S;rw[iW]at g;refine gg ?_;refine aY (λf k=>∃L,f 5=.slice (some ⟨w.heap.size,0,none⟩) (c.length+a.length) (c.length+a.length)/\Ext w k/\bg k w.heap.size 153 (cells L)/\L.length=c.length+a.length/\fH L/\val L=val c*val a) ?_ ?_
  ·refine gg ?_;refine aU (λm f k=>∃i L,m=c.length-i/\i<=c.length/\f 1=.slice E a.length K/\f 5=.slice (some ⟨w.heap.size,0,none⟩) (c.length+a.length) (c.length+a.length)/\f 32=.slice R c.length N/\
    f 33=.int .i64 (c.length:Int)/\f 34=.int .i64 (i:Int)/\Ext w k/\bg k w.heap.size 153 (cells L)/\L.length=c.length+a.length/\fH L/\val L=val (c.take i)*val a/\∀j,i+a.length<=j->L.getD j 0=0)
    c.length ⟨0,_,F,aE,F,F,F,F,F,d,g,aA,fz _,by simp[val,qH],λj _=>nJ _ _⟩ ?_
   clear g d S u f;rintro m f u ⟨i,L,rfl,R,l,s,r,p,o,d,g,M,x,J,X⟩;rw[ui l,ui s,ui r,ui p,ui o];clear l s r p o;by_cases R:i<c.length
   ·obtain⟨Z,rfl,W⟩:=(h1.Y d).at (j:=i) aq;have Y:=W i aq;have bx:=h1.fD.getD i;refine gg ?_;by_cases R:c.getD i 0=0
    ·refine aN ?_;refine gg ?_;refine⟨_,?_,i+1,L,F,aq,F,F,F,F,F,d,g,M,x,?_,λj hj=>X j aq⟩
     ·omega
     ·rw[bN c i aq,R,J];simp
    ·refine aN ?_;refine gg ?_;refine rO dM F rfl rfl aq aq aq ?_;refine gg ?_;refine aY (λf k=>∃y h,f 1=.slice E a.length K/\f 5=.slice (some ⟨w.heap.size,0,none⟩) (c.length+a.length) (c.length+a.length)/\f 8=.slice (some ⟨w.heap.size,0+i*1,none⟩) (i+a.length+1-i) (c.length+a.length-i)/\f 9=.int .u64 ((y:Nat):Int)/\
      f 32=.slice (some Z) c.length N/\f 33=.int .i64 (c.length:Int)/\f 34=.int .i64 (i:Int)/\Ext w k/\bg k w.heap.size 153 (cells h)/\h.length=c.length+a.length/\fH h/\y<4294967296/\
      val h+y*B^(i+a.length)=val L+B^i*(c.getD i 0*val a)/\∀j,i+a.length<=j->h.getD j 0=0) ?_ ?_
     ·refine gg ?_;refine aU (λm f k=>∃j y h,m=a.length-j/\j<=a.length/\f 1=.slice E a.length K/\f 5=.slice (some ⟨w.heap.size,0,none⟩) (c.length+a.length) (c.length+a.length)/\f 7=.int .u32 ((c.getD i 0:Nat):Int)/\f 8=.slice (some ⟨w.heap.size,0+i*1,none⟩) (i+a.length+1-i) (c.length+a.length-i)/\f 9=.int .u64 ((y:Nat):Int)/\
       f 32=.slice (some Z) c.length N/\f 33=.int .i64 (c.length:Int)/\f 34=.int .i64 (i:Int)/\f 49=.slice E a.length K/\f 50=.int .i64 (a.length:Int)/\f 51=.int .i64 (j:Int)/\
       Ext w k/\bg k w.heap.size 153 (cells h)/\h.length=c.length+a.length/\fH h/\y<4294967296/\
       val h+y*B^(i+j)=val L+B^i*(c.getD i 0*val (a.take j))/\(∀q,i+j<=q->h.getD q 0=L.getD q 0))
       a.length ⟨0,0,L,F,aE,F,F,F,F,F,F,F,F,F,F,F,d,g,M,x,aq,by simp[val],λ_ _=>rfl⟩ ?_
      clear g d u f Y W;rintro m f u ⟨j,y,h,rfl,hj,l,s,N,C,A,r,p,o,K,E,k,d,g,H,t,G,z,I⟩;rw[ui l,ui s,ui N,ui C,ui A,ui r,ui p,ui o,ui K,ui E,ui k];clear l s N C A r p o K E k;by_cases k:j<a.length
      ·obtain⟨k,rfl,k⟩:=(Q.Y d).at (j:=j) aq;have E:=k j aq;have k:=Q.fD.getD j;have E:u.cell? ⟨w.heap.size,0+i*1+j*1,none⟩=some (.int .u32 ((h.getD (i+j) 0:Nat):Int)):=by rw[qV];exact qo g aq
       have E:=t.getD (i+j);have E:=lU _ _ bx k;refine gg ?_;refine jO F rfl aq ?_;refine gg ?_;refine bZ (aX F) (.inl F) F rfl g (by rw[cN];omega) ?_;intro w3 D O a1;rw[qV,dV]at D;refine gg ?_;refine⟨_,?_,j+1,_,_,F,aq,F,F,F,F,F,F,F,F,F,F,F,O.aK d (λb hb=>aq),D,by simpa using H,t.set (Nat.mod_lt _ aw),?_,?_,λq P=>by rw[c7.getD_set_ne aq];exact I q aq⟩
       ·omega
       ·omega
       ·have e:=zN _ _ _ (c.getD i 0) (a.getD j 0) (h.getD (i+j) 0) _ z _ (pC h (i+j) _ aq);rw[bN a j aq,Nat.mul_add,Nat.mul_add,<-Nat.add_assoc i j 1,Nat.pow_succ];refine e.trans ?_;rw[Nat.pow_add,Nat.add_assoc];congr 2;rw[Nat.mul_assoc,Nat.mul_left_comm (c.getD i 0)]
      ·refine gg ?_;have:j=a.length:=aq;subst this;rw[dK]at z;exact⟨y,h,F,F,F,F,F,F,F,d,g,H,t,G,z,λq P=>by rw[I q P];exact X q P⟩
     ·clear g d u f Y W;rintro f u ⟨y,h,l,s,C,A,r,p,o,d,g,H,t,G,z,k⟩;rw[ui l,ui s,ui C,ui A,ui r,ui p,ui o];clear l s C A r p o;refine gg ?_;refine bZ (aX F) (.inl F) F rfl g (by rw[cN];omega) ?_;intro w3 D O a1;rw[qV,dV]at D;refine gg ?_;refine⟨_,?_,i+1,_,F,aq,F,F,F,F,F,O.aK d (λb hb=>aq),D,by simpa using H,t.set (Nat.mod_lt _ aw),?_,λq P=>by rw[c7.getD_set_ne aq];exact k q aq⟩
      ·omega
      ·have e:=pC h (i+a.length) (y%4294967296) aq;rw[k _ aD,Nat.mod_eq_of_lt G]at e;rw[Nat.mod_eq_of_lt G,bN c i aq,Nat.add_mul,<-J,Nat.mul_assoc,<-z,Nat.mul_comm y];omega
   ·refine gg ?_;have:i=c.length:=aq;subst this;rw[dK]at J;exact⟨L,F,d,g,M,x,J⟩
  ·clear g d S u;rintro f u ⟨L,s,d,g,M,x,J⟩;rw[ui s];refine gg ?_;refine aJ (dA _ _ _ _ u (dE g x) M aD aq) ?_;rintro v a ⟨rfl,m,a8,rfl,b,a⟩;refine gg ?_;exact bF (v:=.slice _ _ _) F rfl ⟨d,iA (dE g x) a8 aq aq b a J⟩
theorem m_(g n c b:Nat)(L:List Nat)(w:World)(B:Lb w g L)(x:fH L)(f:L.length=n)(m:n<17592186044416)(o:0<b)(m:b<4294967296):
 aT Tryz.prog 128 #[.slice (some ⟨g,0,none⟩) n c,.int .u32 (b:Int)] w λv e=>∃r a,v=.int .u32 ((r:Nat):Int)/\Ch (λq=>q=g) w e/\e.heap.size=w.heap.size/\Lb e g a/\a.length=n/\fH a/\val L=val a*b+r/\r<b:=by
 subst f;refine bo (n:=36) Tryz.func128 F rfl az aA ?_;refine gg ?_;refine aN ?_;refine gg ?_;refine aU (λm f e=>∃r a,m<=L.length/\f 0=.slice (some ⟨g,0,none⟩) L.length c/\f 1=.int .u32 (b:Int)/\f 5=.int .u64 ((r:Nat):Int)/\f 6=.int .i64 ((m:Int)-1)/\Ch (λq=>q=g) w e/\e.heap.size=w.heap.size/\Lb e g a/\a.length=L.length/\fH a/\r<b/\(∀j,j<m->a.getD j 0=L.getD j 0)/\val (L.drop m)=val (a.drop m)*b+r)
  L.length ⟨0,L,aD,F,F,F,F,Ch.refl _ _,F,B,F,x,o,λ_ _=>rfl,by simp[val]⟩ ?_
 rintro m f e ⟨r,a,e,u,t,s,h,A,p,k,l,d,z,i,y⟩;rw[ui u,ui t,ui s];rcases m with _|j
 ·rw[ui h];refine aN ?_;refine gg ?_;refine bF (v:=.int _ _) F rfl ⟨r%4294967296,a,F,A,p,k,l,d,?_,?_⟩
  ·rw[Nat.mod_eq_of_lt aq];simpa using y
  ·rw[Nat.mod_eq_of_lt aq];exact z
 ·have e:(((j+1:Nat):Int)-1)=(j:Int):=aq;rw[e]at h;rw[ui h];clear u t s h;have e:=k.at (j:=j) aq;have h:=d.getD j;have f:=wO r (a.getD j 0) aq h;have e:=ti b r (a.getD j 0) _ _ o z h y;have h:(r*4294967296+a.getD j 0)/b<4294967296:=e.1;refine aN ?_;refine gg ?_;refine jN F rfl (Nat.mod_lt _ aw) aq ?_;rw[show r*2^(OfNat.ofNat 32)%18446744073709551616 ||| a.getD j 0=r*4294967296+a.getD j 0 from f.1];refine gg ?_;refine mR F rfl f.2 o ?_;refine gg ?_;obtain⟨f,f⟩:=k;refine bZ (aX F) (.inl F) F rfl f (by rw[Array.size_append,cN];omega) ?_;intro f m k f;refine gg ?_;refine kJ F rfl o ?_;refine gg ?_;refine⟨j,aq,(r*4294967296+a.getD j 0)%b,a.set j ((r*4294967296+a.getD j 0)/b%4294967296),aq,F,F,F,F,A.trans k,f.trans p,Lb.set aq m,by simpa using l,d.set (Nat.mod_lt _ aw),e.2.1,λq h=>by rw[c7.getD_set_ne aq];exact i q aq,?_⟩;rw[Nat.mod_eq_of_lt h,drop_set _ _ _ aq,drop_cons L j aq,<-i j aq];exact e.2.2
theorem pL(A:Option Addr)(n c s:Nat)(l:List Nat)(w:World)(h:fM w A l)(f:l.length=n)(m:n<17592186044416)(E:s<32):
 aT Tryz.prog 150 #[.slice A n c,.int .i64 (s:Int)] w λv k=>∃L,v=.slice (some ⟨w.heap.size,0,none⟩) (n+1) (n+1)/\Ext w k/\bg k w.heap.size 153 (cells L)/\L.length=n+1/\fH L/\val L=val l*2^s/\L.getD n 0<2^s:=by
 subst f;refine bo (n:=41) Tryz.func150 F rfl az aA ?_;refine gg ?_;refine cJ dM (.inl F) F rfl aD aq aq ?_;intro q g e r;rw[iW]at g;refine gg ?_;refine aN ?_;refine gg ?_;refine aU (λm f k=>∃i d L,m=l.length-i/\i<=l.length/\f 0=.slice A l.length c/\f 1=.int .i64 (s:Int)/\f 5=.slice (some ⟨w.heap.size,0,none⟩) (l.length+1) (l.length+1)/\f 6=.int .u64 ((d:Nat):Int)/\f 13=.slice A l.length c/\
  f 14=.int .i64 (l.length:Int)/\f 15=.int .i64 (i:Int)/\Ext w k/\bg k w.heap.size 153 (cells L)/\L.length=l.length+1/\fH L/\d<2^s/\val (L.take i)+d*B^i=val (l.take i)*2^s)
  l.length ⟨0,0,_,F,aE,F,F,F,F,F,F,F,e,g,aA,fz _,Nat.two_pow_pos s,by simp[val]⟩ ?_
 clear g e r q;rintro m f q ⟨i,d,L,rfl,f,u,t,r,q,m,k,f,e,g,z,p,x,y⟩;rw[ui u,ui t,ui r,ui q,ui m,ui k,ui f];clear u t r q m k f;have f:2^s<=2147483648:=Nat.pow_le_pow_right (n:=2) aw (show s<=31 by omega);by_cases f:i<l.length
 ·obtain⟨f,rfl,f⟩:=(h.Y e).at (j:=i) aq;have k:=f i aq;have k:=h.fD.getD i;have f:=Jp s d (l.getD i 0) E x k;refine gg ?_;refine mQ F rfl aq ?_;refine gg ?_;refine jN F rfl aq (Nat.mod_lt _ aw) ?_;rw[f.1];refine gg ?_;refine bZ (aX F) (.inl F) F rfl g (by rw[cN];omega) ?_;intro D a o C;rw[dV]at a;refine gg ?_;refine⟨_,?_,i+1,_,_,F,aq,F,F,F,F,F,F,F,o.aK e (λb G=>aq),a,by simpa using z,p.set (Nat.mod_lt _ aw),f.2.2,?_⟩
  ·omega
  ·rw[ft _ _ _ aq,bN l i aq,Nat.pow_succ];exact GH _ _ _ _ _ _ y
 ·refine gg ?_;have:i=l.length:=aq;subst this;refine bZ (aX F) (.inl F) F rfl g (by rw[cN];omega) ?_;intro D a o C;rw[dV]at a;refine gg ?_;refine bF (v:=.slice _ _ _) F rfl ⟨_,F,o.aK e (λb G=>aq),a,by simpa using z,p.set (Nat.mod_lt _ aw),?_,?_⟩
  ·have e:L.set l.length (d%4294967296)=(L.set l.length (d%4294967296)).take (l.length+1):=by rw[List.take_of_length_le];simp;omega
   rw[e,ft _ _ _ aq,Nat.mod_eq_of_lt aq,Nat.mul_comm,y,dK]
  ·have a:l.length<L.length:=aq;rw[Nat.mod_eq_of_lt aq];simpa[List.getD,a]using x
theorem uz(g n c s:Nat)(L:List Nat)(w:World)(H:Lb w g L)(x:fH L)(f:L.length=n)(m:n<35184372088832)(m:s<32):
 aT Tryz.prog 152 #[.slice (some ⟨g,0,none⟩) n c,.int .i64 (s:Int)] w λ_ k=>Ch (λq=>q=g) w k/\k.heap.size=w.heap.size/\Lb k g (sr s L):=by
 subst f;refine bo (n:=38) Tryz.func152 F rfl az aA ?_;refine gg ?_;refine aU (λm f k=>∃i d,m=L.length-i/\i<=L.length/\f 0=.slice (some ⟨g,0,none⟩) L.length c/\f 1=.int .i64 (s:Int)/\f 7=.int .i64 (L.length:Int)/\f 8=.int .i64 ((i:Nat):Int)/\
  Ch (λq=>q=g) w k/\k.heap.size=w.heap.size/\Lb k g d/\d.length=L.length/\(∀j,j<i->d.getD j 0=(sr s L).getD j 0)/\(∀j,i<=j->d.getD j 0=L.getD j 0))
  L.length ⟨0,L,F,aE,F,F,F,F,Ch.refl _ _,F,H,F,λj o=>absurd o aq,λ_ _=>rfl⟩ ?_
 rintro m f f ⟨i,d,rfl,f,q,m,k,f,A,p,h,l,b,a⟩;rw[ui q,ui m,ui k,ui f];clear q m k f;by_cases D:i<L.length
 ·have f:=h.at (j:=i) aq;rw[a i (Nat.le_refl i)]at f;have C:=x.getD i;refine gg ?_;by_cases y:i+1<L.length
  ·have f:=h.at (j:=i+1) aq;rw[a (i+1) aq]at f;have k:=x.getD (i+1);have f:=wO (L.getD (i+1) 0) (L.getD i 0) k C;have z:=Ji s L i y;refine aN ?_;refine gg ?_;refine jN F rfl aq (Nat.mod_lt _ aw) ?_;rw[Nat.or_comm,show L.getD (i+1) 0*2^(OfNat.ofNat 32)%18446744073709551616 ||| L.getD i 0=L.getD (i+1) 0*4294967296+L.getD i 0 from f.1];refine gg ?_;refine pf F rfl aq ?_;refine gg ?_;obtain⟨G,B⟩:=h;refine bZ (aX F) (.inl F) F rfl B (by rw[Array.size_append,cN];omega) ?_;intro E v u r;refine gg ?_;refine⟨_,?_,i+1,_,F,aq,F,F,F,F,A.trans u,r.trans p,Lb.set aq v,by simpa using l,λj o=>?_,λj o=>by rw[c7.getD_set_ne aq];exact a j aq⟩
   ·omega
   ·by_cases e:j=i
    ·subst e;have t:j<d.length:=aq;rw[z,fE t]
    ·rw[c7.getD_set_ne aq];exact b j aq
  ·have z:=Jj s L i D y;refine aN ?_;refine gg ?_;refine pf F rfl aq ?_;refine gg ?_;obtain⟨G,B⟩:=h;refine bZ (aX F) (.inl F) F rfl B (by rw[Array.size_append,cN];omega) ?_;intro E v u r;refine gg ?_;refine⟨_,?_,i+1,_,F,aq,F,F,F,F,A.trans u,r.trans p,Lb.set aq v,by simpa using l,λj o=>?_,λj o=>by rw[c7.getD_set_ne aq];exact a j aq⟩
   ·omega
   ·by_cases e:j=i
    ·subst e;have t:j<d.length:=aq;have a:L.getD j 0/2^s<4294967296:=Nat.lt_of_le_of_lt (Nat.div_le_self _ _) C;rw[z,Nat.mod_eq_of_lt a,fE t]
    ·rw[c7.getD_set_ne aq];exact b j aq
 ·refine gg ?_;have:i=L.length:=aq;subst this;have e:d=sr s L:=qc (by rw[wK,l]) (λj o=>b j aq);subst e;exact lP F ⟨A,p,h⟩
theorem Bk{P:Program}{n:Nat}{S:World->World->Prop}{k:Nat}{K:Fr->World->Prop}{f:Fr}{w:World}{d ty t:Nat}{x y:Operand}{c:String}{e:Array Edge}{o:Option (Nat×Bool)}{s:ByteArray}{a:IntKind}{j:Nat}
 (m:jV P t .string) (i:ev n f x=.string s) (g:ev n f y=.int a (j:Int)) (a:Lx s=true) (l:j<256) (h:∀b:Nat,fu j b=true->b<=8->K (cg f d (.int .u8 (b:Int))) w):
 R1 P n S k ⟨some d,.index t x y,ty,c,e,o⟩ K f w:=by
 obtain⟨b,b,e,c⟩:=L4 a l;exact rP m i g b (h _ e c)
theorem Hj(x:Nat)(w:World)(o:x<4294967296):
 aT Tryz.prog 179 #[.int .u32 (x:Int)] w λv c=>w=c/\∃b:Nat,v=.int .i64 (b:Int)/\fu x b=true/\b<=32:=by
 refine bo (n:=19) Tryz.func179 F rfl az aA ?_;refine gg ?_;refine aY (λf c=>w=c/\∃y k:Nat,f 0=.int .u32 (y:Int)/\f 2=.int .i64 (k:Int)/\(k=0\/k=16)/\y<65536/\y=x/2^k/\(k=16->2^k<=x)) ?_ ?_
 ·by_cases h:65536<=x
  ·refine gg ?_;refine ka F ?_;refine gg ?_;refine mP F aq ?_;refine gg ?_;exact⟨F,_,16,F,F,.inr F,aq,F,λ_=>aq⟩
  ·refine gg ?_;refine ka F ?_;refine gg ?_;exact⟨F,x,0,F,F,.inl F,aq,aA,λh=>absurd h aq⟩
 ·rintro f c ⟨rfl,y,k,g,e,l,i,a,d⟩;rw[ui g,ui e];refine aY (λf c=>w=c/\∃y k:Nat,f 0=.int .u32 (y:Int)/\f 2=.int .i64 (k:Int)/\k<=24/\y<256/\y=x/2^k/\(k≠0->2^k<=x)) ?_ ?_
  ·by_cases h:256<=y
   ·refine gg ?_;refine ka F ?_;refine gg ?_;refine mP F aq ?_;refine gg ?_;refine⟨F,_,k+8,F,F,aq,aq,?_,λ_=>?_⟩
    ·subst a;rw[Nat.pow_add,Nat.div_div_eq_div_mul]
    ·subst a;have o:0<2^k:=Nat.two_pow_pos k;have:=(Nat.le_div_iff_mul_le o).1 h;rw[Nat.pow_add,Nat.mul_comm];exact this
   ·refine gg ?_;refine ka F ?_;refine gg ?_;exact⟨F,y,k,F,F,aq,aq,a,λh=>d aq⟩
  ·clear g e l i a d f y k;rintro f c ⟨rfl,y,k,g,e,l,i,a,d⟩;rw[ui g,ui e];refine gg ?_;refine vX wF yX F ?_;rw[Nat.mod_eq_of_lt i];refine gg ?_;refine Bk jo F rfl az i ?_;intro b m c;refine gg ?_;refine bF (v:=.int _ _) F rfl ⟨F,_,F,?_,aq⟩;by_cases j:k=0
   ·subst j;simp at a;subst a;simpa using m
   ·exact zG x k b (d j) (by rw[<-a];exact m)
theorem rT(x:Nat)(w:World)(c:x<4294967296)(a:0<x):
 aT Tryz.prog 149 #[.int .u32 (x:Int)] w λv a=>w=a/\∃s:Nat,v=.int .i64 (s:Int)/\s<32/\2147483648<=x*2^s/\x*2^s<4294967296:=by
 refine bo (n:=6) Tryz.func149 F rfl az aA ?_;refine gg ?_;refine aJ (Hj x w c) ?_;rintro v a ⟨rfl,b,rfl,a,c⟩;refine gg ?_;unfold fu at a;rw[aa aq]at a;simp only[decide_eq_true_eq]at a;refine bF (v:=.int _ _) F rfl ⟨F,_,F,?_,?_,?_⟩
 ·show 32-b<32;omega
 ·show 2147483648<=x*2^(32-b);have:2^(b-1)*2^(32-b)<=x*2^(32-b):=Nat.mul_le_mul_right _ a.2.1;rw[<-Nat.pow_add,show b-1+(32-b)=31 by omega]at this;exact this
 ·show x*2^(32-b)<4294967296;have:x*2^(32-b)<2^b*2^(32-b):=Nat.mul_lt_mul_of_pos_right a.2.2 (Nat.two_pow_pos _);rw[<-Nat.pow_add,show b+(32-b)=32 by omega]at this;exact this
end
end Go.Proofs.Qq
namespace Go.c7
section
variable {D vl v2 v1 ul u3 u2 u1 U V g r:Nat}
structure x_(D vl v2 v1 ul u3 u2 u1 U V:Nat):Prop where
 hV:V=vl+D*(v2+B*v1)
 hU:U=ul+D*(u3+B*(u2+B*u1))
 Ob:0<D
 O6:vl<D
 Pj:ul<D
 fc:v2<B
 cQ:v1<B
 O7:u3<B
 z_:u2<B
 pn:u1<B
 norm:B<=2*v1
 lt:U<B*V
theorem x_.yW(h:x_ D vl v2 v1 ul u3 u2 u1 U V):0<v1:=by have:=h.norm;unfold B at this;omega
theorem x_.Om(h:x_ D vl v2 v1 ul u3 u2 u1 U V):D*B*v1<=V:=by
 rw[h.hV,Nat.mul_add,Nat.mul_assoc];omega
theorem x_.Lu(h:x_ D vl v2 v1 ul u3 u2 u1 U V):u1<=v1:=by
 rcases Nat.lt_or_ge v1 u1 with a|b
 ·exfalso;have c:D*(B*(B*(v1+1)))<=U:=by
   rw[h.hU];have:B*(B*(v1+1))<=u3+B*(u2+B*u1):=by
    have:B*(v1+1)<=u2+B*u1:=Nat.le_trans (Nat.mul_le_mul_left _ a) aq;exact Nat.le_trans (Nat.mul_le_mul_left _ this) aq
   exact Nat.le_trans (Nat.mul_le_mul_left _ this) aq
  have a:V<D*(B*(v1+1)):=by
   rw[h.hV];have:v2+B*v1+1<=B*(v1+1):=by rw[Nat.mul_succ];have:=h.fc;omega
   have:=Nat.mul_le_mul_left D this;rw[Nat.mul_succ]at this;have:=h.O6;omega
  have c:=Nat.mul_le_mul_left B (Nat.le_of_lt a);have e:B*(D*(B*(v1+1)))=D*(B*(B*(v1+1))):=by rw[Nat.mul_left_comm]
  have:=h.lt;omega
 ·exact b
theorem x_.On(h:x_ D vl v2 v1 ul u3 u2 u1 U V):U<D*(u3+B*(u2+B*u1)+1):=by
 rw[h.hU,Nat.mul_succ];have:=h.Pj;omega
theorem x_.start(h:x_ D vl v2 v1 ul u3 u2 u1 U V):U<((u1*B+u2)/v1+1)*V/\(u1*B+u2)/v1<=B+1/\(u1*B+u2)/v1*v1+(u1*B+u2)%v1=u1*B+u2:=by
 have c:=h.yW;have e:=Nat.div_add_mod (u1*B+u2) v1;have a:=Nat.mod_lt (u1*B+u2) c;refine⟨?_,?_,by rw[Nat.mul_comm];exact e⟩
 ·generalize a:(u1*B+u2)/v1=q at*;generalize (u1*B+u2)%v1=s at*;have b:u1*B+u2+1<=(q+1)*v1:=by rw[Nat.add_mul,Nat.one_mul,Nat.mul_comm q v1];omega
  have a:u3+B*(u2+B*u1)+1<=B*((q+1)*v1):=by
   have:=Nat.mul_le_mul_left B b;rw[Nat.mul_succ]at this;have d:B*(u1*B+u2)=B*(u2+B*u1):=by rw[Nat.add_comm,Nat.mul_comm u1]
   have:=h.O7;omega
  have d:=Nat.mul_le_mul_left D a;have d:=Nat.mul_le_mul_left (q+1) h.Om;have d:(q+1)*(D*B*v1)=D*(B*((q+1)*v1)):=by
   rw[Nat.mul_assoc,Nat.mul_left_comm,Nat.mul_left_comm (q+1) B]
  have:=h.On;omega
 ·have b:=h.Lu;have a:u1*B+u2<(B+2)*v1:=by
   have:=Nat.mul_le_mul_right B b;rw[Nat.add_mul,Nat.mul_comm B v1];have:=h.norm;have:=h.z_;omega
  have:=(Nat.div_lt_iff_lt_mul c).2 a;omega
theorem x_.Pv(h:x_ D vl v2 v1 ul u3 u2 u1 U V)(a:B<=g):U<g*V:=Nat.lt_of_lt_of_le h.lt (Nat.mul_le_mul_right _ a)
theorem x_.second(h:x_ D vl v2 v1 ul u3 u2 u1 U V)(a:g*v1+r=u1*B+u2)(b:r*B+u3<g*v2):U<g*V:=by
 have b:u3+B*(u2+B*u1)+1<=g*(v2+B*v1):=by
  have e:B*(u2+B*u1)=B*(g*v1)+B*r:=by rw[<-Nat.mul_add,a,Nat.add_comm,Nat.mul_comm u1]
  have a:g*(v2+B*v1)=g*v2+B*(g*v1):=by rw[Nat.mul_add,Nat.mul_left_comm]
  have a:r*B=B*r:=Nat.mul_comm _ _;omega
 have a:=Nat.mul_le_mul_left D b;have a:D*(g*(v2+B*v1))<=g*V:=by
  rw[h.hV,Nat.mul_left_comm];exact Nat.mul_le_mul_left _ aq
 have:=h.On;omega
theorem x_.stop(h:x_ D vl v2 v1 ul u3 u2 u1 U V)(a:g*v1+r=u1*B+u2)(c:g<B)(b:g*v2<=r*B+u3):g*V<U+V:=by
 have b:g*V=g*vl+D*(g*v2+B*(g*v1)):=by
  rw[h.hV,Nat.mul_add,Nat.mul_left_comm g D,Nat.mul_add g,Nat.mul_left_comm g B]
 have b:g*v2+B*(g*v1)<=u3+B*(u2+B*u1):=by
  have e:B*(u2+B*u1)=B*(g*v1)+B*r:=by rw[<-Nat.mul_add,a,Nat.add_comm,Nat.mul_comm u1]
  have a:r*B=B*r:=Nat.mul_comm _ _;omega
 have a:=Nat.mul_le_mul_left D b;have a:g*vl<D*B*v1:=by
  have a:g*vl<=g*D:=Nat.mul_le_mul_left _ (Nat.le_of_lt h.O6);have b:g*D<B*D:=Nat.mul_lt_mul_of_pos_right c h.Ob;have c:D*B*1<=D*B*v1:=Nat.mul_le_mul_left _ h.yW;rw[Nat.mul_comm B D]at b;omega
 have:=h.Om;have:=h.hU;omega
theorem x_.Pu(h:x_ D vl v2 v1 ul u3 u2 u1 U V)(f:g*v1+r=u1*B+u2)(d:B<=r):g<B/\g*v2<=r*B+u3:=by
 have e:=h.Lu;have c:g<B:=by
  rcases Nat.lt_or_ge g B with a|b
  ·exact a
  ·exfalso;have a:=Nat.mul_le_mul_right v1 b;have b:=Nat.mul_le_mul_right B e;rw[Nat.mul_comm B v1]at a;have:=h.z_;omega
 refine⟨c,?_⟩;have a:g*v2<=B*B:=Nat.mul_le_mul (Nat.le_of_lt c) (Nat.le_of_lt h.fc);have b:B*B<=r*B:=Nat.mul_le_mul_right _ d;omega
end
def k_(R:List Nat)(o i:Nat):List Nat:=(R.drop o).take i
theorem zd(R:List Nat)(o:Nat):k_ R o 0=[]:=by simp[k_]
theorem ee(R:List Nat)(o i:Nat)(h:o+i<R.length):val (k_ R o (i+1))=val (k_ R o i)+B^i*R.getD (o+i) 0:=by
 unfold k_;rw[bN _ _ (by rw[List.length_drop];omega)];simp[List.getD]
theorem n6{R R':List Nat}(o i:Nat)(a:R.length=R'.length)(h:∀q,o<=q->q<o+i->R.getD q 0=R'.getD q 0):k_ R o i=k_ R' o i:=by
 unfold k_;apply qc
 ·simp[a]
 ·intro j a;rw[List.length_take,List.length_drop]at a;have:=h (o+j) aq aq;have a:j<i:=aq;simp only[List.getD,List.getElem?_take,a,if_true,List.getElem?_drop]at this⊢;exact this
theorem J3{R:List Nat}(h:fH R)(o i:Nat):fH (k_ R o i):=λx a=>h x (List.mem_of_mem_drop (List.mem_of_mem_take a))
theorem me{R:List Nat}(h:fH R)(o i:Nat):val (k_ R o i)<B^i:=by
 have a:=g_ _ (J3 h o i);refine Nat.lt_of_lt_of_le a (Nat.pow_le_pow_right aw ?_);unfold k_;exact List.length_take_le _ _
theorem Ff(p d i v c f q y x a b:Nat)(h:d+i=v+(c+f)*p)(j:x+(c+q*y)%B+f=a+B*b):d+p*x+(i+p*(q*y))=v+p*a+((c+q*y)/B+b)*(p*B):=by
 have e:=Nat.div_add_mod (c+q*y) B;generalize (c+q*y)/B=k at*;generalize (c+q*y)%B=s at*;have i:p*(x+s+f)=p*(a+B*b):=by rw[j]
 have h:p*(B*k+s)=p*(c+q*y):=by rw[e]
 simp only[Nat.mul_add]at i h;have e:(k+b)*(p*B)=p*(B*k)+p*(B*b):=by
  rw[Nat.add_mul,Nat.mul_comm k,Nat.mul_comm b,Nat.mul_assoc,Nat.mul_assoc]
 have b:(c+f)*p=p*c+p*f:=by rw[Nat.mul_comm,Nat.mul_add]
 omega
theorem Fg(a l b:Nat)(c:a<4294967296)(c:l<4294967296)(c:b<=1):
 ((a+(18446744073709551616-l))%18446744073709551616+(18446744073709551616-b))%18446744073709551616%4294967296+l+b
  = a+4294967296*(((a+(18446744073709551616-l))%18446744073709551616+(18446744073709551616-b))%18446744073709551616/9223372036854775808)/\
 ((a+(18446744073709551616-l))%18446744073709551616+(18446744073709551616-b))%18446744073709551616/9223372036854775808<=1:=aq
theorem sn{l:List Nat}{k:Nat}(b:k<=l.length)(h:val l<B^k):val (l.take k)=val l/\val (l.drop k)=0:=by
 have e:=fP l k b;rcases Nat.eq_zero_or_pos (val (l.drop k))with a|a
 ·rw[a]at e;exact⟨aq,a⟩
 ·have:=Nat.mul_le_mul_left (B^k) a;omega
theorem L3{V:List Nat}{k p:Nat}(c:fH V)(d:V.length=k+2)(h:p*B^(k+1)<=val V):p<=V.getD (k+1) 0:=by
 have e:val V=val (V.take (k+1))+B^(k+1)*V.getD (k+1) 0:=by
  rw[<-bN V (k+1) aq,dk V _ aq]
 have d:=fX c (k+1);rcases Nat.lt_or_ge (V.getD (k+1) 0) p with a|b
 ·exfalso;have:=Nat.mul_le_mul_left (B^(k+1)) a;rw[Nat.mul_succ]at this;rw[Nat.mul_comm p]at h;omega
 ·exact b
theorem zb(l:List Nat)(k s:Nat)(j:fH l)(a:l.length=k+2)(a:s<32)(h:2147483648<=l.getD (k+1) 0*2^s)(c:l.getD (k+1) 0*2^s<4294967296):
 val l*2^s<B^(k+2)/\2147483648*B^(k+1)<=val l*2^s:=by
 have d:0<2^s:=Nat.two_pow_pos s;have m:B=2^s*2^(32-s):=by rw[<-Nat.pow_add,show s+(32-s)=32 by omega];rfl
 have e:val l=val (l.take (k+1))+B^(k+1)*l.getD (k+1) 0:=by
  rw[<-bN l (k+1) aq,dk l _ aq]
 have a:=fX j (k+1);have b:l.getD (k+1) 0*2^s<B:=c;generalize l.getD (k+1) 0=x at*;generalize val (l.take (k+1))=y at*;generalize i:B^(k+1)=q at*;have f:(x+1)*2^s<=B:=by
  rw[m,Nat.mul_comm]at*;refine Nat.mul_le_mul_left _ ?_;exact Nat.lt_of_mul_lt_mul_left b
 refine⟨?_,?_⟩
 ·have b:val l<q*(x+1):=by rw[Nat.mul_succ];omega
  have c:=Nat.mul_lt_mul_of_pos_right b d;have d:=Nat.mul_le_mul_left q f;rw[<-Nat.mul_assoc]at d;have a:B^(k+2)=q*B:=by rw[Nat.pow_succ,i]
  omega
 ·have f:q*x<=val l:=aq;have g:=Nat.mul_le_mul_right (2^s) f;have i:=Nat.mul_le_mul_left q h;rw[<-Nat.mul_assoc]at i;rw[Nat.mul_comm _ q];omega
theorem Fu(R V:List Nat)(d k:Nat)(b:fH R)(a:R.length=d+(k+2))(a:V.length=k+2)(c:R.getD (d+(k+1)) 0+1<=V.getD (k+1) 0):val (R.drop d)<val V:=by
 have a:(R.drop d).length=k+2:=by rw[List.length_drop];omega
 have f:val (R.drop d)=val ((R.drop d).take (k+1))+B^(k+1)*(R.drop d).getD (k+1) 0:=by
  rw[<-bN _ (k+1) aq,dk _ _ aq]
 have a:val V=val (V.take (k+1))+B^(k+1)*V.getD (k+1) 0:=by
  rw[<-bN V (k+1) aq,dk V _ aq]
 have e:(R.drop d).getD (k+1) 0=R.getD (d+(k+1)) 0:=by simp[List.getD]
 have a:val ((R.drop d).take (k+1))<B^(k+1):=fX (λx a=>b x (List.mem_of_mem_drop a)) _;have b:=Nat.mul_le_mul_left (B^(k+1)) c;rw[Nat.mul_succ]at b;rw[e]at f;omega
theorem J4{R R' V Q:List Nat}{j k q W:Nat}(o:fH R)(b:j+(k+3)<=R.length)(d:R'.length=R.length)(m:V.length=k+2)(c:fH V)(p:j<Q.length)
 (h1:val (R.drop (j+1))<val V) (s:W=val (Q.drop (j+1))*(B^(j+1)*val V)+val R) (b:∀i,i<j\/j+k+3<=i->R'.getD i 0=R.getD i 0)
 (h:val (k_ R j (k+3))=q*val V+val (k_ R' j (k+3))) (f:val (k_ R' j (k+3))<val V):
 val (R'.drop j)<val V/\W=val ((Q.set j q).drop j)*(B^j*val V)+val R':=by
 have e:val (R.drop j)=R.getD j 0+B*val (R.drop (j+1)):=by rw[drop_cons R j aq,val]
 have e:=g_ V c;rw[m]at e;have n:=o.getD j;have m:val (R.drop j)<B^(k+3):=by
  have:B*val (R.drop (j+1))+B<=B*val V:=by rw[<-Nat.mul_succ];exact Nat.mul_le_mul_left _ h1
  have c:B*val V<=B*B^(k+2):=Nat.mul_le_mul_left _ (Nat.le_of_lt e);have e:B*B^(k+2)=B^(k+3):=by rw[Nat.mul_comm,<-Nat.pow_succ]
  have c:R.getD j 0<B:=n;omega
 obtain⟨o,n⟩:=sn (l:=R.drop j) (k:=k+3) (by rw[List.length_drop];omega) m;have c:(R'.drop j).drop (k+3)=(R.drop j).drop (k+3):=by
  rw[List.drop_drop,List.drop_drop];apply qc (by simp[d]);intro i _;have:=b (j+(k+3)+i) aq;simp only[List.getD,List.getElem?_drop]at this⊢;exact this
 have e:R'.take j=R.take j:=by
  apply qc (by simp[d]);intro i d;rw[List.length_take]at d;have d:i<j:=aq;have:=b i aq;simp only[List.getD,List.getElem?_take,d,if_true]at this⊢;exact this
 have d:val (R'.drop j)=val (k_ R' j (k+3)):=by
  rw[fP (R'.drop j) (k+3) (by rw[List.length_drop];omega),c,n,Nat.mul_zero,Nat.add_zero,k_]
 have i:val (R.drop j)=val (k_ R j (k+3)):=o.symm;refine⟨by rw[d];exact f,?_⟩;have c:=fP R j aq;have b:=fP R' j aq;rw[e,d]at b;rw[i,h]at c;rw[drop_set Q j q p];simp only[val];rw[s,c,b,Nat.pow_succ,Nat.add_mul,Nat.mul_add];have b:val (Q.drop (j+1))*(B^j*B*val V)=B*val (Q.drop (j+1))*(B^j*val V):=by
  rw[Nat.mul_assoc (B^j),Nat.mul_left_comm (B^j) B,<-Nat.mul_assoc,Nat.mul_comm _ B]
 have b:B^j*(q*val V)=q*(B^j*val V):=Nat.mul_left_comm _ _ _;omega
theorem zP{a b s Q R:Nat}(h:a*2^s=Q*(b*2^s)+R)(f:R<b*2^s):Q=a/b/\R/2^s=a%b:=by
 have d:0<2^s:=Nat.two_pow_pos s;generalize 2^s=p at*;rw[<-Nat.mul_assoc]at h;have i:Q*b<=a:=by
  rcases Nat.lt_or_ge a (Q*b)with c|c
  ·have:=Nat.mul_lt_mul_of_pos_right c d;omega
  ·exact c
 obtain⟨r,rfl⟩ : ∃r,a=Q*b+r:=⟨a-Q*b,aq⟩;rw[Nat.add_mul]at h;have e:R=r*p:=aq;subst e;have c:r<b:=Nat.lt_of_mul_lt_mul_right f;have e:0<b:=aq;rw[Nat.mul_div_cancel _ d];refine⟨?_,?_⟩
 ·rw[Nat.mul_comm Q b,Nat.mul_add_div e,Nat.div_eq_of_lt c];omega
 ·rw[Nat.mul_comm Q b,Nat.mul_add_mod,Nat.mod_eq_of_lt c]
theorem HX{a b q r:Nat}(h:a=q*b+r)(c:r<b):q=a/b/\r=a%b:=by
 have:=zP (s:=0) (a:=a) (b:=b) (Q:=q) (R:=r) (by simpa using h) (by simpa using c);simpa using this
theorem MJ{U V g d p a x c:Nat}(h:d+g*V=U+c*p)(e:x+c=a)(b:U+p*a<(g+1)*V):d+p*x+g*V=U+p*a/\U+p*a=g*V+(d+p*x)/\d+p*x<V:=by
 subst e;have e:p*(x+c)=p*x+c*p:=by rw[Nat.mul_add,Nat.mul_comm c]
 rw[Nat.add_mul,Nat.one_mul]at b;omega
theorem HC{U V g d p a x c S:Nat}(e:0<g)(h:d+g*V=U+c*p)(l:x+c=a+B)(i:g*V<U+p*a+V)(e:S<p*B)(e:d+p*x<p*B)(e:V<p)(b:∃k,S+k*(p*B)=d+p*x+V):
 U+p*a=(g-1)*V+S/\S<V:=by
 obtain⟨k,b⟩:=b;have e:p*(x+c)=p*a+p*B:=by rw[l,Nat.mul_add]
 have e:p*(x+c)=p*x+c*p:=by rw[Nat.mul_add,Nat.mul_comm c]
 obtain⟨j,rfl⟩ : ∃j,g=j+1:=⟨g-1,aq⟩;rw[Nat.add_mul,Nat.one_mul]at h i;rw[Nat.add_sub_cancel];have e:2<=B:=aw;have h:p*2<=p*B:=Nat.mul_le_mul_left _ e;have e:0<p:=aq;have m:k=1:=by
  rcases Nat.lt_or_ge k 1 with e|e
  ·have:k=0:=aq;subst this;rw[Nat.zero_mul]at b;omega
  ·rcases Nat.lt_or_ge k 2 with f|f
   ·omega
   ·have:=Nat.mul_le_mul_right (p*B) f;omega
 subst m;rw[Nat.one_mul]at b;omega
