import Derived.Test.YtmfndnlifgphjaaGreatQzg
set_option maxHeartbeats 64000000
open Go.Proofs.YtmfndnlifgphjaaGreat
namespace Go.Proofs.Qq
section
open Go Go.cU Go.cV Go.Proofs
theorem oO(g n c b:Nat)(L:List Nat)(w:World)(B:Lb w g L)(x:fm L)(f:L.length=n)(m:n<17592186044416)(o:0<b)(mP:b<4294967296):
 aT Tryz.prog 92 #[.slice (some ⟨g,0,none⟩) n c,.int .u32 (b:Int)] w λv e=>∃r a,v=.int .u32 ((r:Nat):Int)/\Ch (λq=>q=g) w e/\e.heap.size=w.heap.size/\Lb e g a/\a.length=n/\fm a/\val L=val a*b+r/\r<b:=by
 subst f;refine bF (n:=36) Tryz.func92 F rfl aw aA ?_;refine gg ?_;refine aP ?_;refine gg ?_;refine aU (λm f e=>∃r a,m<=L.length/\f 0=.slice (some ⟨g,0,none⟩) L.length c/\f 1=.int .u32 (b:Int)/\f 5=.int .u64 ((r:Nat):Int)/\f 6=.int .i64 ((m:Int)-1)/\Ch (λq=>q=g) w e/\e.heap.size=w.heap.size/\Lb e g a/\a.length=L.length/\fm a/\r<b/\(∀j,j<m->a.getD j 0=L.getD j 0)/\val (L.drop m)=val (a.drop m)*b+r)
  L.length ⟨0,L,aD,F,F,F,F,Ch.refl _ _,F,B,F,x,o,λ_ _=>rfl,by simp[val]⟩ ?_
 rintro m f e ⟨r,a,e,u,t,s,h,A,p,k,l,d,z,i,y⟩;rw[ui u,ui t,ui s];rcases m with _|j
 ·rw[ui h];refine aP ?_;refine gg ?_;refine cI (v:=.int _ _) F rfl ⟨r%4294967296,a,F,A,p,k,l,d,?_,?_⟩
  ·rw[Nat.mod_eq_of_lt aq];simpa using y
  ·rw[Nat.mod_eq_of_lt aq];exact z
 ·have e:(((j+1:Nat):Int)-1)=(j:Int):=aq;rw[e]at h;rw[ui h];clear u t s h;have e:=k.at (j:=j) aq;have h:=d.getD j;have f:=sc r (a.getD j 0) aq h;have e:=pW b r (a.getD j 0) _ _ o z h y;have h:(r*4294967296+a.getD j 0)/b<4294967296:=e.1;refine aP ?_;refine gg ?_;refine iB F rfl (Nat.mod_lt _ ar) aq ?_;rw[show r*2^(OfNat.ofNat 32)%18446744073709551616 ||| a.getD j 0=r*4294967296+a.getD j 0 from f.1];refine gg ?_;refine kI F rfl f.2 o ?_;refine gg ?_;obtain⟨f,f⟩:=k;refine cg (aW F) (.inl F) F rfl f (by rw[Array.size_append,cB];omega) ?_;intro f m k f;refine gg ?_;refine jB F rfl o ?_;refine gg ?_;refine⟨j,aq,(r*4294967296+a.getD j 0)%b,a.set j ((r*4294967296+a.getD j 0)/b%4294967296),aq,F,F,F,F,A.trans k,f.trans p,Lb.set aq m,by simpa using l,d.set (Nat.mod_lt _ ar),e.2.1,λq h=>by rw[cV.getD_set_ne aq];exact i q aq,?_⟩;rw[Nat.mod_eq_of_lt h,drop_set _ _ _ aq,drop_cons L j aq,<-i j aq];exact e.2.2
theorem m5(A:Option Addr)(n c s:Nat)(l:List Nat)(w:World)(h:eP w A l)(f:l.length=n)(m:n<17592186044416)(E:s<32):
 aT Tryz.prog 94 #[.slice A n c,.int .i64 (s:Int)] w λv k=>∃L,v=.slice (some ⟨w.heap.size,0,none⟩) (n+1) (n+1)/\Ext w k/\bh k w.heap.size 90 (cells L)/\L.length=n+1/\fm L/\val L=val l*2^s/\L.getD n 0<2^s:=by
 subst f;refine bF (n:=41) Tryz.func94 F rfl aw aA ?_;refine gg ?_;refine cF di (.inl F) F rfl aD aq aq ?_;intro q g e r;rw[fZ]at g;refine gg ?_;refine aP ?_;refine gg ?_;refine aU (λm f k=>∃i d L,m=l.length-i/\i<=l.length/\f 0=.slice A l.length c/\f 1=.int .i64 (s:Int)/\f 5=.slice (some ⟨w.heap.size,0,none⟩) (l.length+1) (l.length+1)/\f 6=.int .u64 ((d:Nat):Int)/\f 13=.slice A l.length c/\
  f 14=.int .i64 (l.length:Int)/\f 15=.int .i64 (i:Int)/\Ext w k/\bh k w.heap.size 90 (cells L)/\L.length=l.length+1/\fm L/\d<2^s/\val (L.take i)+d*B^i=val (l.take i)*2^s)
  l.length ⟨0,0,_,F,aE,F,F,F,F,F,F,F,e,g,aA,d_ _,Nat.two_pow_pos s,by simp[val]⟩ ?_
 clear g e r q;rintro m f q ⟨i,d,L,rfl,f,u,t,r,q,m,k,f,e,g,z,p,x,y⟩;rw[ui u,ui t,ui r,ui q,ui m,ui k,ui f];clear u t r q m k f;have f:2^s<=2147483648:=Nat.pow_le_pow_right (n:=2) ar (show s<=31 by omega);by_cases f:i<l.length
 ·obtain⟨f,rfl,f⟩:=(h.Y e).at (j:=i) aq;have k:=f i aq;have k:=h.e_.getD i;have f:=DH s d (l.getD i 0) E x k;refine gg ?_;refine kH F rfl aq ?_;refine gg ?_;refine iB F rfl aq (Nat.mod_lt _ ar) ?_;rw[f.1];refine gg ?_;refine cg (aW F) (.inl F) F rfl g (by rw[cB];omega) ?_;intro D a o C;rw[dG]at a;refine gg ?_;refine⟨_,?_,i+1,_,_,F,aq,F,F,F,F,F,F,F,o.aK e (λb G=>aq),a,by simpa using z,p.set (Nat.mod_lt _ ar),f.2.2,?_⟩
  ·omega
  ·rw[eZ _ _ _ aq,a8 l i aq,Nat.pow_succ];exact AU _ _ _ _ _ _ y
 ·refine gg ?_;have:i=l.length:=aq;subst this;refine cg (aW F) (.inl F) F rfl g (by rw[cB];omega) ?_;intro D a o C;rw[dG]at a;refine gg ?_;refine cI (v:=.slice _ _ _) F rfl ⟨_,F,o.aK e (λb G=>aq),a,by simpa using z,p.set (Nat.mod_lt _ ar),?_,?_⟩
  ·have e:L.set l.length (d%4294967296)=(L.set l.length (d%4294967296)).take (l.length+1):=by rw[List.take_of_length_le];simp;omega
   rw[e,eZ _ _ _ aq,Nat.mod_eq_of_lt aq,Nat.mul_comm,y,dc]
  ·have a:l.length<L.length:=aq;rw[Nat.mod_eq_of_lt aq];simpa[List.getD,a]using x
theorem qL(g n c s:Nat)(L:List Nat)(w:World)(H:Lb w g L)(x:fm L)(f:L.length=n)(m:n<35184372088832)(m:s<32):
 aT Tryz.prog 96 #[.slice (some ⟨g,0,none⟩) n c,.int .i64 (s:Int)] w λ_ k=>Ch (λq=>q=g) w k/\k.heap.size=w.heap.size/\Lb k g (sr s L):=by
 subst f;refine bF (n:=38) Tryz.func96 F rfl aw aA ?_;refine gg ?_;refine aU (λm f k=>∃i d,m=L.length-i/\i<=L.length/\f 0=.slice (some ⟨g,0,none⟩) L.length c/\f 1=.int .i64 (s:Int)/\f 7=.int .i64 (L.length:Int)/\f 8=.int .i64 ((i:Nat):Int)/\
  Ch (λq=>q=g) w k/\k.heap.size=w.heap.size/\Lb k g d/\d.length=L.length/\(∀j,j<i->d.getD j 0=(sr s L).getD j 0)/\(∀j,i<=j->d.getD j 0=L.getD j 0))
  L.length ⟨0,L,F,aE,F,F,F,F,Ch.refl _ _,F,H,F,λj o=>absurd o aq,λ_ _=>rfl⟩ ?_
 rintro m f f ⟨i,d,rfl,f,q,m,k,f,A,p,h,l,b,a⟩;rw[ui q,ui m,ui k,ui f];clear q m k f;by_cases D:i<L.length
 ·have f:=h.at (j:=i) aq;rw[a i (Nat.le_refl i)]at f;have C:=x.getD i;refine gg ?_;by_cases y:i+1<L.length
  ·have f:=h.at (j:=i+1) aq;rw[a (i+1) aq]at f;have k:=x.getD (i+1);have f:=sc (L.getD (i+1) 0) (L.getD i 0) k C;have z:=Dz s L i y;refine aP ?_;refine gg ?_;refine iB F rfl aq (Nat.mod_lt _ ar) ?_;rw[Nat.or_comm,show L.getD (i+1) 0*2^(OfNat.ofNat 32)%18446744073709551616 ||| L.getD i 0=L.getD (i+1) 0*4294967296+L.getD i 0 from f.1];refine gg ?_;refine mK F rfl aq ?_;refine gg ?_;obtain⟨G,B⟩:=h;refine cg (aW F) (.inl F) F rfl B (by rw[Array.size_append,cB];omega) ?_;intro E v u r;refine gg ?_;refine⟨_,?_,i+1,_,F,aq,F,F,F,F,A.trans u,r.trans p,Lb.set aq v,by simpa using l,λj o=>?_,λj o=>by rw[cV.getD_set_ne aq];exact a j aq⟩
   ·omega
   ·by_cases e:j=i
    ·subst e;have t:j<d.length:=aq;rw[z,ee t]
    ·rw[cV.getD_set_ne aq];exact b j aq
  ·have z:=DA s L i D y;refine aP ?_;refine gg ?_;refine mK F rfl aq ?_;refine gg ?_;obtain⟨G,B⟩:=h;refine cg (aW F) (.inl F) F rfl B (by rw[Array.size_append,cB];omega) ?_;intro E v u r;refine gg ?_;refine⟨_,?_,i+1,_,F,aq,F,F,F,F,A.trans u,r.trans p,Lb.set aq v,by simpa using l,λj o=>?_,λj o=>by rw[cV.getD_set_ne aq];exact a j aq⟩
   ·omega
   ·by_cases e:j=i
    ·subst e;have t:j<d.length:=aq;have a:L.getD j 0/2^s<4294967296:=Nat.lt_of_le_of_lt (Nat.div_le_self _ _) C;rw[z,Nat.mod_eq_of_lt a,ee t]
    ·rw[cV.getD_set_ne aq];exact b j aq
 ·refine gg ?_;have:i=L.length:=aq;subst this;have e:d=sr s L:=nt (by rw[sa,l]) (λj o=>b j aq);subst e;exact n6 F ⟨A,p,h⟩
theorem vW{P:Program}{n:Nat}{S:World->World->Prop}{k:Nat}{K:Fr->World->Prop}{f:Fr}{w:World}{d ty t:Nat}{x y:Operand}{c:String}{e:Array Edge}{o:Option (Nat×Bool)}{s:ByteArray}{a:IntKind}{j:Nat}
 (m:lF P t .string) (i:ev n f x=.string s) (g:ev n f y=.int a (j:Int)) (a:FM s=true) (l:j<256) (h:∀b:Nat,oC j b=true->b<=8->K (bS f d (.int .u8 (b:Int))) w):
 R1 P n S k ⟨some d,.index t x y,ty,c,e,o⟩ K f w:=by
 obtain⟨b,b,e,c⟩:=Gj a l;exact vX m i g b (h _ e c)
theorem BB(x:Nat)(w:World)(o:x<4294967296):
 aT Tryz.prog 119 #[.int .u32 (x:Int)] w λv c=>w=c/\∃b:Nat,v=.int .i64 (b:Int)/\oC x b=true/\b<=32:=by
 refine bF (n:=19) Tryz.func119 F rfl aw aA ?_;refine gg ?_;refine aX (λf c=>w=c/\∃y k:Nat,f 0=.int .u32 (y:Int)/\f 2=.int .i64 (k:Int)/\(k=0\/k=16)/\y<65536/\y=x/2^k/\(k=16->2^k<=x)) ?_ ?_
 ·by_cases h:65536<=x
  ·refine gg ?_;refine jh F ?_;refine gg ?_;refine kG F aq ?_;refine gg ?_;exact⟨F,_,16,F,F,.inr F,aq,F,λ_=>aq⟩
  ·refine gg ?_;refine jh F ?_;refine gg ?_;exact⟨F,x,0,F,F,.inl F,aq,aA,λh=>absurd h aq⟩
 ·rintro f c ⟨rfl,y,k,g,e,l,i,a,d⟩;rw[ui g,ui e];refine aX (λf c=>w=c/\∃y k:Nat,f 0=.int .u32 (y:Int)/\f 2=.int .i64 (k:Int)/\k<=24/\y<256/\y=x/2^k/\(k≠0->2^k<=x)) ?_ ?_
  ·by_cases h:256<=y
   ·refine gg ?_;refine jh F ?_;refine gg ?_;refine kG F aq ?_;refine gg ?_;refine⟨F,_,k+8,F,F,aq,aq,?_,λ_=>?_⟩
    ·subst a;rw[Nat.pow_add,Nat.div_div_eq_div_mul]
    ·subst a;have o:0<2^k:=Nat.two_pow_pos k;have:=(Nat.le_div_iff_mul_le o).1 h;rw[Nat.pow_add,Nat.mul_comm];exact this
   ·refine gg ?_;refine jh F ?_;refine gg ?_;exact⟨F,y,k,F,F,aq,aq,a,λh=>d aq⟩
  ·clear g e l i a d f y k;rintro f c ⟨rfl,y,k,g,e,l,i,a,d⟩;rw[ui g,ui e];refine gg ?_;refine Ae wv FK F ?_;rw[Nat.mod_eq_of_lt i];refine gg ?_;refine vW Gf F rfl aw i ?_;intro b m c;refine gg ?_;refine cI (v:=.int _ _) F rfl ⟨F,_,F,?_,aq⟩;by_cases j:k=0
   ·subst j;simp at a;subst a;simpa using m
   ·exact uG x k b (d j) (by rw[<-a];exact m)
theorem oM(x:Nat)(w:World)(c:x<4294967296)(a:0<x):
 aT Tryz.prog 93 #[.int .u32 (x:Int)] w λv a=>w=a/\∃s:Nat,v=.int .i64 (s:Int)/\s<32/\2147483648<=x*2^s/\x*2^s<4294967296:=by
 refine bF (n:=6) Tryz.func93 F rfl aw aA ?_;refine gg ?_;refine aJ (BB x w c) ?_;rintro v a ⟨rfl,b,rfl,a,mP⟩;refine gg ?_;unfold oC at a;rw[aa aq]at a;simp only[decide_eq_true_eq]at a;refine cI (v:=.int _ _) F rfl ⟨F,_,F,?_,?_,?_⟩
 ·show 32-b<32;omega
 ·show 2147483648<=x*2^(32-b);have:2^(b-1)*2^(32-b)<=x*2^(32-b):=Nat.mul_le_mul_right _ a.2.1;rw[<-Nat.pow_add,show b-1+(32-b)=31 by omega]at this;exact this
 ·show x*2^(32-b)<4294967296;have:x*2^(32-b)<2^b*2^(32-b):=Nat.mul_lt_mul_of_pos_right a.2.2 (Nat.two_pow_pos _);rw[<-Nat.pow_add,show b+(32-b)=32 by omega]at this;exact this
end
end Go.Proofs.Qq
namespace Go.cV
section
variable {D vl v2 v1 ul u3 u2 u1 U V g r:Nat}
structure tf(D vl v2 v1 ul u3 u2 u1 U V:Nat):Prop where
 hV:V=vl+D*(v2+B*v1)
 hU:U=ul+D*(u3+B*(u2+B*u1))
 H5:0<D
 HW:vl<D
 Jj:ul<D
 fg:v2<B
 ct:v1<B
 IW:u3<B
 GI:u2<B
 Ay:u1<B
 norm:B<=2*v1
 lt:U<B*V
theorem tf.tX(h:tf D vl v2 v1 ul u3 u2 u1 U V):0<v1:=by have:=h.norm;unfold B at this;omega
theorem tf.Ig(h:tf D vl v2 v1 ul u3 u2 u1 U V):D*B*v1<=V:=by
 rw[h.hV,Nat.mul_add,Nat.mul_assoc];omega
theorem tf.FJ(h:tf D vl v2 v1 ul u3 u2 u1 U V):u1<=v1:=by
 rcases Nat.lt_or_ge v1 u1 with a|b
 ·exfalso;have c:D*(B*(B*(v1+1)))<=U:=by
   rw[h.hU];have:B*(B*(v1+1))<=u3+B*(u2+B*u1):=by
    have:B*(v1+1)<=u2+B*u1:=Nat.le_trans (Nat.mul_le_mul_left _ a) aq;exact Nat.le_trans (Nat.mul_le_mul_left _ this) aq
   exact Nat.le_trans (Nat.mul_le_mul_left _ this) aq
  have a:V<D*(B*(v1+1)):=by
   rw[h.hV];have:v2+B*v1+1<=B*(v1+1):=by rw[Nat.mul_succ];have:=h.fg;omega
   have:=Nat.mul_le_mul_left D this;rw[Nat.mul_succ]at this;have:=h.HW;omega
  have c:=Nat.mul_le_mul_left B (Nat.le_of_lt a);have e:B*(D*(B*(v1+1)))=D*(B*(B*(v1+1))):=by rw[Nat.mul_left_comm]
  have:=h.lt;omega
 ·exact b
theorem tf.Ih(h:tf D vl v2 v1 ul u3 u2 u1 U V):U<D*(u3+B*(u2+B*u1)+1):=by
 rw[h.hU,Nat.mul_succ];have:=h.Jj;omega
theorem tf.start(h:tf D vl v2 v1 ul u3 u2 u1 U V):U<((u1*B+u2)/v1+1)*V/\(u1*B+u2)/v1<=B+1/\(u1*B+u2)/v1*v1+(u1*B+u2)%v1=u1*B+u2:=by
 have c:=h.tX;have e:=Nat.div_add_mod (u1*B+u2) v1;have a:=Nat.mod_lt (u1*B+u2) c;refine⟨?_,?_,by rw[Nat.mul_comm];exact e⟩
 ·generalize a:(u1*B+u2)/v1=q at*;generalize (u1*B+u2)%v1=s at*;have b:u1*B+u2+1<=(q+1)*v1:=by rw[Nat.add_mul,Nat.one_mul,Nat.mul_comm q v1];omega
  have a:u3+B*(u2+B*u1)+1<=B*((q+1)*v1):=by
   have:=Nat.mul_le_mul_left B b;rw[Nat.mul_succ]at this;have d:B*(u1*B+u2)=B*(u2+B*u1):=by rw[Nat.add_comm,Nat.mul_comm u1]
   have:=h.IW;omega
  have d:=Nat.mul_le_mul_left D a;have d:=Nat.mul_le_mul_left (q+1) h.Ig;have d:(q+1)*(D*B*v1)=D*(B*((q+1)*v1)):=by
   rw[Nat.mul_assoc,Nat.mul_left_comm,Nat.mul_left_comm (q+1) B]
  have:=h.Ih;omega
 ·have b:=h.FJ;have a:u1*B+u2<(B+2)*v1:=by
   have:=Nat.mul_le_mul_right B b;rw[Nat.add_mul,Nat.mul_comm B v1];have:=h.norm;have:=h.GI;omega
  have:=(Nat.div_lt_iff_lt_mul c).2 a;omega
theorem tf.mQ(h:tf D vl v2 v1 ul u3 u2 u1 U V)(a:B<=g):U<g*V:=Nat.lt_of_lt_of_le h.lt (Nat.mul_le_mul_right _ a)
theorem tf.second(h:tf D vl v2 v1 ul u3 u2 u1 U V)(a:g*v1+r=u1*B+u2)(b:r*B+u3<g*v2):U<g*V:=by
 have b:u3+B*(u2+B*u1)+1<=g*(v2+B*v1):=by
  have e:B*(u2+B*u1)=B*(g*v1)+B*r:=by rw[<-Nat.mul_add,a,Nat.add_comm,Nat.mul_comm u1]
  have a:g*(v2+B*v1)=g*v2+B*(g*v1):=by rw[Nat.mul_add,Nat.mul_left_comm]
  have a:r*B=B*r:=Nat.mul_comm _ _;omega
 have a:=Nat.mul_le_mul_left D b;have a:D*(g*(v2+B*v1))<=g*V:=by
  rw[h.hV,Nat.mul_left_comm];exact Nat.mul_le_mul_left _ aq
 have:=h.Ih;omega
theorem tf.stop(h:tf D vl v2 v1 ul u3 u2 u1 U V)(a:g*v1+r=u1*B+u2)(c:g<B)(b:g*v2<=r*B+u3):g*V<U+V:=by
 have b:g*V=g*vl+D*(g*v2+B*(g*v1)):=by
  rw[h.hV,Nat.mul_add,Nat.mul_left_comm g D,Nat.mul_add g,Nat.mul_left_comm g B]
 have b:g*v2+B*(g*v1)<=u3+B*(u2+B*u1):=by
  have e:B*(u2+B*u1)=B*(g*v1)+B*r:=by rw[<-Nat.mul_add,a,Nat.add_comm,Nat.mul_comm u1]
  have a:r*B=B*r:=Nat.mul_comm _ _;omega
 have a:=Nat.mul_le_mul_left D b;have a:g*vl<D*B*v1:=by
  have a:g*vl<=g*D:=Nat.mul_le_mul_left _ (Nat.le_of_lt h.HW);have b:g*D<B*D:=Nat.mul_lt_mul_of_pos_right c h.H5;have c:D*B*1<=D*B*v1:=Nat.mul_le_mul_left _ h.tX;rw[Nat.mul_comm B D]at b;omega
 have:=h.Ig;have:=h.hU;omega
theorem tf.JO(h:tf D vl v2 v1 ul u3 u2 u1 U V)(f:g*v1+r=u1*B+u2)(d:B<=r):g<B/\g*v2<=r*B+u3:=by
 have e:=h.FJ;have c:g<B:=by
  rcases Nat.lt_or_ge g B with a|b
  ·exact a
  ·exfalso;have a:=Nat.mul_le_mul_right v1 b;have b:=Nat.mul_le_mul_right B e;rw[Nat.mul_comm B v1]at a;have:=h.GI;omega
 refine⟨c,?_⟩;have a:g*v2<=B*B:=Nat.mul_le_mul (Nat.le_of_lt c) (Nat.le_of_lt h.fg);have b:B*B<=r*B:=Nat.mul_le_mul_right _ d;omega
end
def jN(R:List Nat)(o i:Nat):List Nat:=(R.drop o).take i
theorem ur(R:List Nat)(o:Nat):jN R o 0=[]:=by simp[jN]
theorem dz(R:List Nat)(o i:Nat)(h:o+i<R.length):val (jN R o (i+1))=val (jN R o i)+B^i*R.getD (o+i) 0:=by
 unfold jN;rw[a8 _ _ (by rw[List.length_drop];omega)];simp[List.getD]
theorem lQ{R R':List Nat}(o i:Nat)(a:R.length=R'.length)(h:∀q,o<=q->q<o+i->R.getD q 0=R'.getD q 0):jN R o i=jN R' o i:=by
 unfold jN;apply nt
 ·simp[a]
 ·intro j a;rw[List.length_take,List.length_drop]at a;have:=h (o+j) aq aq;have a:j<i:=aq;simp only[List.getD,List.getElem?_take,a,if_true,List.getElem?_drop]at this⊢;exact this
theorem Eh{R:List Nat}(h:fm R)(o i:Nat):fm (jN R o i):=λx a=>h x (List.mem_of_mem_drop (List.mem_of_mem_take a))
theorem ks{R:List Nat}(h:fm R)(o i:Nat):val (jN R o i)<B^i:=by
 have a:=fY _ (Eh h o i);refine Nat.lt_of_lt_of_le a (Nat.pow_le_pow_right ar ?_);unfold jN;exact List.length_take_le _ _
theorem zF(p d i v c f q y x a b:Nat)(h:d+i=v+(c+f)*p)(j:x+(c+q*y)%B+f=a+B*b):d+p*x+(i+p*(q*y))=v+p*a+((c+q*y)/B+b)*(p*B):=by
 have e:=Nat.div_add_mod (c+q*y) B;generalize (c+q*y)/B=k at*;generalize (c+q*y)%B=s at*;have l:p*(x+s+f)=p*(a+B*b):=by rw[j]
 have i:p*(B*k+s)=p*(c+q*y):=by rw[e]
 simp only[Nat.mul_add]at l i;have e:(k+b)*(p*B)=p*(B*k)+p*(B*b):=by
  rw[Nat.add_mul,Nat.mul_comm k,Nat.mul_comm b,Nat.mul_assoc,Nat.mul_assoc]
 have b:(c+f)*p=p*c+p*f:=by rw[Nat.mul_comm,Nat.mul_add]
 omega
theorem zG(a l b:Nat)(c:a<4294967296)(c:l<4294967296)(c:b<=1):
 ((a+(18446744073709551616-l))%18446744073709551616+(18446744073709551616-b))%18446744073709551616%4294967296+l+b
  = a+4294967296*(((a+(18446744073709551616-l))%18446744073709551616+(18446744073709551616-b))%18446744073709551616/9223372036854775808)/\
 ((a+(18446744073709551616-l))%18446744073709551616+(18446744073709551616-b))%18446744073709551616/9223372036854775808<=1:=aq
theorem pj{l:List Nat}{k:Nat}(b:k<=l.length)(h:val l<B^k):val (l.take k)=val l/\val (l.drop k)=0:=by
 have e:=ew l k b;rcases Nat.eq_zero_or_pos (val (l.drop k))with a|a
 ·rw[a]at e;exact⟨aq,a⟩
 ·have:=Nat.mul_le_mul_left (B^k) a;omega
theorem Gi{V:List Nat}{k p:Nat}(c:fm V)(d:V.length=k+2)(h:p*B^(k+1)<=val V):p<=V.getD (k+1) 0:=by
 have e:val V=val (V.take (k+1))+B^(k+1)*V.getD (k+1) 0:=by
  rw[<-a8 V (k+1) aq,cM V _ aq]
 have d:=eT c (k+1);rcases Nat.lt_or_ge (V.getD (k+1) 0) p with a|b
 ·exfalso;have:=Nat.mul_le_mul_left (B^(k+1)) a;rw[Nat.mul_succ]at this;rw[Nat.mul_comm p]at h;omega
 ·exact b
theorem uo(l:List Nat)(k s:Nat)(j:fm l)(a:l.length=k+2)(a:s<32)(h:2147483648<=l.getD (k+1) 0*2^s)(c:l.getD (k+1) 0*2^s<4294967296):
 val l*2^s<B^(k+2)/\2147483648*B^(k+1)<=val l*2^s:=by
 have d:0<2^s:=Nat.two_pow_pos s;have m:B=2^s*2^(32-s):=by rw[<-Nat.pow_add,show s+(32-s)=32 by omega];rfl
 have e:val l=val (l.take (k+1))+B^(k+1)*l.getD (k+1) 0:=by
  rw[<-a8 l (k+1) aq,cM l _ aq]
 have a:=eT j (k+1);have b:l.getD (k+1) 0*2^s<B:=c;generalize l.getD (k+1) 0=x at*;generalize val (l.take (k+1))=y at*;generalize i:B^(k+1)=q at*;have f:(x+1)*2^s<=B:=by
  rw[m,Nat.mul_comm]at*;refine Nat.mul_le_mul_left _ ?_;exact Nat.lt_of_mul_lt_mul_left b
 refine⟨?_,?_⟩
 ·have b:val l<q*(x+1):=by rw[Nat.mul_succ];omega
  have c:=Nat.mul_lt_mul_of_pos_right b d;have d:=Nat.mul_le_mul_left q f;rw[<-Nat.mul_assoc]at d;have a:B^(k+2)=q*B:=by rw[Nat.pow_succ,i]
  omega
 ·have f:q*x<=val l:=aq;have g:=Nat.mul_le_mul_right (2^s) f;have i:=Nat.mul_le_mul_left q h;rw[<-Nat.mul_assoc]at i;rw[Nat.mul_comm _ q];omega
theorem zL(R V:List Nat)(d k:Nat)(b:fm R)(a:R.length=d+(k+2))(a:V.length=k+2)(c:R.getD (d+(k+1)) 0+1<=V.getD (k+1) 0):val (R.drop d)<val V:=by
 have a:(R.drop d).length=k+2:=by rw[List.length_drop];omega
 have f:val (R.drop d)=val ((R.drop d).take (k+1))+B^(k+1)*(R.drop d).getD (k+1) 0:=by
  rw[<-a8 _ (k+1) aq,cM _ _ aq]
 have a:val V=val (V.take (k+1))+B^(k+1)*V.getD (k+1) 0:=by
  rw[<-a8 V (k+1) aq,cM V _ aq]
 have e:(R.drop d).getD (k+1) 0=R.getD (d+(k+1)) 0:=by simp[List.getD]
 have a:val ((R.drop d).take (k+1))<B^(k+1):=eT (λx a=>b x (List.mem_of_mem_drop a)) _;have b:=Nat.mul_le_mul_left (B^(k+1)) c;rw[Nat.mul_succ]at b;rw[e]at f;omega
theorem Ei{R R' V Q:List Nat}{j k q W:Nat}(o:fm R)(b:j+(k+3)<=R.length)(d:R'.length=R.length)(m:V.length=k+2)(c:fm V)(p:j<Q.length)
 (h1:val (R.drop (j+1))<val V) (s:W=val (Q.drop (j+1))*(B^(j+1)*val V)+val R) (b:∀i,i<j\/j+k+3<=i->R'.getD i 0=R.getD i 0)
 (h:val (jN R j (k+3))=q*val V+val (jN R' j (k+3))) (f:val (jN R' j (k+3))<val V):
 val (R'.drop j)<val V/\W=val ((Q.set j q).drop j)*(B^j*val V)+val R':=by
 have e:val (R.drop j)=R.getD j 0+B*val (R.drop (j+1)):=by rw[drop_cons R j aq,val]
 have e:=fY V c;rw[m]at e;have n:=o.getD j;have m:val (R.drop j)<B^(k+3):=by
  have:B*val (R.drop (j+1))+B<=B*val V:=by rw[<-Nat.mul_succ];exact Nat.mul_le_mul_left _ h1
  have c:B*val V<=B*B^(k+2):=Nat.mul_le_mul_left _ (Nat.le_of_lt e);have e:B*B^(k+2)=B^(k+3):=by rw[Nat.mul_comm,<-Nat.pow_succ]
  have c:R.getD j 0<B:=n;omega
 obtain⟨o,n⟩:=pj (l:=R.drop j) (k:=k+3) (by rw[List.length_drop];omega) m;have c:(R'.drop j).drop (k+3)=(R.drop j).drop (k+3):=by
  rw[List.drop_drop,List.drop_drop];apply nt (by simp[d]);intro i _;have:=b (j+(k+3)+i) aq;simp only[List.getD,List.getElem?_drop]at this⊢;exact this
 have e:R'.take j=R.take j:=by
  apply nt (by simp[d]);intro i d;rw[List.length_take]at d;have d:i<j:=aq;have:=b i aq;simp only[List.getD,List.getElem?_take,d,if_true]at this⊢;exact this
 have d:val (R'.drop j)=val (jN R' j (k+3)):=by
  rw[ew (R'.drop j) (k+3) (by rw[List.length_drop];omega),c,n,Nat.mul_zero,Nat.add_zero,jN]
 have i:val (R.drop j)=val (jN R j (k+3)):=o.symm;refine⟨by rw[d];exact f,?_⟩;have c:=ew R j aq;have b:=ew R' j aq;rw[e,d]at b;rw[i,h]at c;rw[drop_set Q j q p];simp only[val];rw[s,c,b,Nat.pow_succ,Nat.add_mul,Nat.mul_add];have b:val (Q.drop (j+1))*(B^j*B*val V)=B*val (Q.drop (j+1))*(B^j*val V):=by
  rw[Nat.mul_assoc (B^j),Nat.mul_left_comm (B^j) B,<-Nat.mul_assoc,Nat.mul_comm _ B]
 have b:B^j*(q*val V)=q*(B^j*val V):=Nat.mul_left_comm _ _ _;omega
theorem uL{a b s Q R:Nat}(h:a*2^s=Q*(b*2^s)+R)(f:R<b*2^s):Q=a/b/\R/2^s=a%b:=by
 have d:0<2^s:=Nat.two_pow_pos s;generalize 2^s=p at*;rw[<-Nat.mul_assoc]at h;have i:Q*b<=a:=by
  rcases Nat.lt_or_ge a (Q*b)with c|c
  ·have:=Nat.mul_lt_mul_of_pos_right c d;omega
  ·exact c
 obtain⟨r,rfl⟩ : ∃r,a=Q*b+r:=⟨a-Q*b,aq⟩;rw[Nat.add_mul]at h;have e:R=r*p:=aq;subst e;have c:r<b:=Nat.lt_of_mul_lt_mul_right f;have e:0<b:=aq;rw[Nat.mul_div_cancel _ d];refine⟨?_,?_⟩
 ·rw[Nat.mul_comm Q b,Nat.mul_add_div e,Nat.div_eq_of_lt c];omega
 ·rw[Nat.mul_comm Q b,Nat.mul_add_mod,Nat.mod_eq_of_lt c]
theorem Cd{a b q r:Nat}(h:a=q*b+r)(c:r<b):q=a/b/\r=a%b:=by
 have:=uL (s:=0) (a:=a) (b:=b) (Q:=q) (R:=r) (by simpa using h) (by simpa using c);simpa using this
theorem GM{U V g d p a x c:Nat}(h:d+g*V=U+c*p)(e:x+c=a)(b:U+p*a<(g+1)*V):d+p*x+g*V=U+p*a/\U+p*a=g*V+(d+p*x)/\d+p*x<V:=by
 subst e;have e:p*(x+c)=p*x+c*p:=by rw[Nat.mul_add,Nat.mul_comm c]
 rw[Nat.add_mul,Nat.one_mul]at b;omega
theorem BN{U V g d p a x c S:Nat}(e:0<g)(h:d+g*V=U+c*p)(l:x+c=a+B)(i:g*V<U+p*a+V)(e:S<p*B)(e:d+p*x<p*B)(e:V<p)(b:∃k,S+k*(p*B)=d+p*x+V):
 U+p*a=(g-1)*V+S/\S<V:=by
 obtain⟨k,b⟩:=b;have e:p*(x+c)=p*a+p*B:=by rw[l,Nat.mul_add]
 have e:p*(x+c)=p*x+c*p:=by rw[Nat.mul_add,Nat.mul_comm c]
 obtain⟨j,rfl⟩ : ∃j,g=j+1:=⟨g-1,aq⟩;rw[Nat.add_mul,Nat.one_mul]at h i;rw[Nat.add_sub_cancel];have e:2<=B:=ar;have i:p*2<=p*B:=Nat.mul_le_mul_left _ e;have e:0<p:=aq;have m:k=1:=by
  rcases Nat.lt_or_ge k 1 with e|e
  ·have:k=0:=aq;subst this;rw[Nat.zero_mul]at b;omega
  ·rcases Nat.lt_or_ge k 2 with f|f
   ·omega
   ·have:=Nat.mul_le_mul_right (p*B) f;omega
 subst m;rw[Nat.one_mul]at b;omega
end Go.cV
namespace Go.Proofs.Qq
section
open Go Go.cU Go.cV Go.Proofs
theorem Gh(R V:List Nat)(o k:Nat)(a:fm R)(hV:fm V)(c:V.length=k+2)(b:o+k+3<=R.length)(b:2147483648<=V.getD (k+1) 0)(b:val (jN R o (k+3))<B*val V):
 tf (B^k) (val (V.take k)) (V.getD k 0) (V.getD (k+1) 0) (val (jN R o k)) (R.getD (o+k) 0) (R.getD (o+(k+1)) 0) (R.getD (o+(k+2)) 0) (val (jN R o (k+3))) (val V) where
 hV:=by
  rw[<-dc V,c,a8 _ _ aq,a8 _ _ aq,Nat.pow_succ,Nat.mul_add,Nat.mul_assoc];omega
 hU:=by
  rw[dz _ _ _ aq,dz _ _ _ aq,dz _ _ _ aq];simp only[Nat.pow_succ,Nat.mul_add,Nat.mul_assoc];omega
 H5:=Nat.pow_pos ar
 HW:=eT hV k
 Jj:=ks a o k
 fg:=hV.getD k
 ct:=hV.getD (k+1)
 IW:=a.getD _
 GI:=a.getD _
 Ay:=a.getD _
 norm:=by unfold B;omega
 lt:=b
theorem qU(g o k n nu cu cv:Nat)(N:Addr)(R V:List Nat)(w:World)(hR:Lb w g R)(a1:fm R)(hV:eP w (some N) V)(bs:N.block≠g)(hk:V.length=k+2)(hn:n=k+2)(c4:nu=k+3)(ho:o+k+3<=R.length)(cx:R.length<35184372088832)
 (bD:2147483648<=V.getD (k+1) 0) (c5:val (jN R o (k+3))<B*val V):
 aT Tryz.prog 95 #[.slice (some ⟨g,0+o*1,none⟩) nu cu,.slice (some N) n cv] w λv c=>∃q R',v=.int .u32 ((q:Nat):Int)/\q<4294967296/\Ch (λb=>b=g) w c/\c.heap.size=w.heap.size/\Lb c g R'/\R'.length=R.length/\fm R'/\
  (∀j,j<o\/o+k+3<=j->R'.getD j 0=R.getD j 0)/\val (jN R o (k+3))=q*val V+val (jN R' o (k+3))/\val (jN R' o (k+3))<val V:=by
 subst hn c4;have hT:=Gh R V o k a1 hV.e_ hk ho bD c5;have c4:=a1.getD (o+(k+2));have bD:=a1.getD (o+(k+1));have cq:=a1.getD (o+k);have ck:=hV.e_.getD (k+1);have cf:=hV.e_.getD k;have Z:=sc _ _ c4 bD;have a5:=hT.start;have ak:=Nat.mod_lt (R.getD (o+(k+2)) 0*B+R.getD (o+(k+1)) 0) hT.tX;refine bF (n:=171) Tryz.func95 F rfl aw aA ?_;refine gg ?_;refine b7 [(0,3),(1,3),(2,3),(3,0),(4,3),(5,3),(6,3),(7,3),(8,3),(9,3),(10,0),(11,3),(12,3),(13,3)] mixed aw λw1 a2 cc=>?_;have ax:=hR.Y a2;have K:=ax.at (j:=o+(k+2)) aq;have hy:=ax.at (j:=o+(k+1)) aq;rw[<-oc]at K hy;refine gg ?_;refine iB F rfl (Nat.mod_lt _ ar) aq ?_;rw[show R.getD (o+(k+2)) 0*2^(OfNat.ofNat 32)%18446744073709551616 ||| R.getD (o+(k+1)) 0=R.getD (o+(k+2)) 0*4294967296+R.getD (o+(k+1)) 0 from Z.1];refine gg ?_;refine b7 [(0,3),(1,3),(2,3),(3,3),(4,3),(5,0),(6,3),(7,3),(8,3),(9,3),(10,3),(11,3),(12,3),(13,0),(14,3),(15,3),(16,3),(17,3)] mixed aw λw2 ab cb=>?_;have au:=hV.Y (a2.trans ab);obtain⟨_,D,hc⟩:=au.at (j:=k+1) aq;injection D with D;subst D;have hz:=hc (k+1) aq;refine gg ?_;refine kI F rfl Z.2 hT.tX ?_;refine gg ?_;refine jB F rfl hT.tX ?_;refine gg ?_;have b5:Ch (λb=>b=g) w w2:=(a2.trans ab).ch;have bl:w2.heap.size=w.heap.size:=by rw[cb,cc]
 refine aX (λf c=>∃C,f 0=.slice (some ⟨g,0+o*1,none⟩) (k+3) cu/\f 1=.slice (some N) (k+2) cv/\f 5=.int .i64 ((k+2:Nat):Int)/\f 7=.int .u64 ((C:Nat):Int)/\
  Ch (λb=>b=g) w c/\c.heap.size=w.heap.size/\Lb c g R/\eP c (some N) V/\C<4294967296/\val (jN R o (k+3))<(C+1)*val V/\C*val V<val (jN R o (k+3))+val V) ?_ ?_
 ·refine kF ?_;refine aU (λm f c=>∃r,f 0=.slice (some ⟨g,0+o*1,none⟩) (k+3) cu/\f 1=.slice (some N) (k+2) cv/\f 5=.int .i64 ((k+2:Nat):Int)/\f 7=.int .u64 ((m:Nat):Int)/\f 8=.int .u64 ((r:Nat):Int)/\
   Ch (λb=>b=g) w c/\c.heap.size=w.heap.size/\Lb c g R/\eP c (some N) V/\r<4294967296/\m<=4294967297/\m*V.getD (k+1) 0+r=R.getD (o+(k+2)) 0*B+R.getD (o+(k+1)) 0/\val (jN R o (k+3))<(m+1)*val V)
   _ ⟨_,F,F,F,F,F,b5,bl,hR.Y (a2.trans ab),au,Nat.lt_trans ak ck,a5.2.1,a5.2.2,a5.1⟩ ?_
  clear hc hz au ab K hy ax a2 ak a5 Z b5 bl;rintro m f w3 ⟨r,p,s,l,d,a6,M,z,I,H,hr,hm,bt,T⟩;rw[ui p,ui s,ui l,ui d,ui a6];clear p s l d a6;refine aX (λf c=>f 0=.slice (some ⟨g,0+o*1,none⟩) (k+3) cu/\f 1=.slice (some N) (k+2) cv/\f 5=.int .i64 ((k+2:Nat):Int)/\f 7=.int .u64 (m:Int)/\f 8=.int .u64 (r:Int)/\
   Ch (λb=>b=g) w c/\c.heap.size=w.heap.size/\Lb c g R/\eP c (some N) V/\val (jN R o (k+3))<m*val V) ?_ ?_
  ·refine b7 [(0,3),(1,3),(2,3),(3,3),(4,3),(5,3),(6,3),(7,3),(8,3),(9,0),(10,3),(11,3),(12,3),(13,3),(14,3),(15,3),(16,3),(17,3),(18,0),(19,3),(20,3),(21,3),(22,3)] mixed aw λw4 bD c4=>?_;have bI:Ch (λb=>b=g) w w4:=M.trans bD.ch;have bj:w4.heap.size=w.heap.size:=by rw[c4,z]
   have b0:=I.Y bD;have ay:=H.Y bD;by_cases bD:m/4294967296=0
   ·obtain⟨_,D,hc⟩:=ay.at (j:=k) aq;injection D with D;subst D;have hz:=hc k aq;have K:=b0.at (j:=o+k) aq;rw[<-oc]at K;have bD:=j8 m _ aq cf;have Z:=sc r _ hr cq;refine gg ?_;refine jC F rfl aq ?_;refine gg ?_;refine iB F rfl (Nat.mod_lt _ ar) aq ?_;rw[show r*2^(OfNat.ofNat 32)%18446744073709551616 ||| R.getD (o+k) 0=r*4294967296+R.getD (o+k) 0 from Z.1];by_cases bD:r*4294967296+R.getD (o+k) 0<m*V.getD k 0
    ·refine gg ?_;exact⟨F,F,F,F,F,bI,bj,b0,ay,hT.second bt bD⟩
    ·refine gg ?_;exact⟨m,F,F,F,F,bI,bj,b0,ay,aq,T,hT.stop bt (show m<B by unfold B;omega) (show _<=r*4294967296+_ by omega)⟩
   ·refine gg ?_;exact⟨F,F,F,F,F,bI,bj,b0,ay,hT.mQ (show B<=m by unfold B;omega)⟩
  ·clear M z I H f w3;rintro f w3 ⟨p,s,l,d,a6,M,z,I,H,T⟩;rw[ui p,ui s,ui l,ui d,ui a6];clear p s l d a6;have a6:0<m:=by
    rcases Nat.eq_zero_or_pos m with h|h
    ·subst h;simp at T
    ·exact h
   obtain⟨j,rfl⟩ : ∃j,m=j+1:=⟨m-1,aq⟩;have al:j*V.getD (k+1) 0+(r+V.getD (k+1) 0)=R.getD (o+(k+2)) 0*B+R.getD (o+(k+1)) 0:=by rw[<-bt,Nat.add_mul];omega
   obtain⟨_,D,hc⟩:=H.at (j:=k+1) aq;injection D with D;subst D;have hz:=hc (k+1) aq;by_cases a6:(r+V.getD (k+1) 0)/4294967296=0
   ·refine gg ?_;exact⟨j,aq,_,F,F,F,F,F,M,z,I,H,aq,aq,al,T⟩
   ·refine gg ?_;have hb:=hT.JO al (show B<=r+V.getD (k+1) 0 by unfold B;omega);exact⟨j,F,F,F,F,M,z,I,H,hb.1,T,hT.stop al hb.1 hb.2⟩
 ·clear hc hz au ab K hy ax a2 ak a5 Z b5 bl;rintro f w3 ⟨C,p,s,l,d,M,z,I,H,bM,T,c6⟩;rw[ui p,ui s,ui l,ui d];clear p s l d;refine gg ?_;refine aX (λf c=>∃u J R',f 0=.slice (some ⟨g,0+o*1,none⟩) (k+3) cu/\f 1=.slice (some N) (k+2) cv/\f 5=.int .i64 ((k+2:Nat):Int)/\f 7=.int .u64 (C:Int)/\f 9=.int .u64 ((u:Nat):Int)/\f 10=.int .u64 ((J:Nat):Int)/\
   Ch (λb=>b=g) w c/\c.heap.size=w.heap.size/\Lb c g R'/\eP c (some N) V/\R'.length=R.length/\fm R'/\u<4294967296/\J<=1/\
   val (jN R' o (k+2))+C*val V=val (jN R o (k+2))+(u+J)*B^(k+2)/\(∀q,q<o\/o+(k+2)<=q->R'.getD q 0=R.getD q 0)) ?_ ?_
  ·refine gg ?_;refine aU (λm f c=>∃i u J R',m=k+2-i/\i<=k+2/\f 0=.slice (some ⟨g,0+o*1,none⟩) (k+3) cu/\f 1=.slice (some N) (k+2) cv/\f 5=.int .i64 ((k+2:Nat):Int)/\f 7=.int .u64 (C:Int)/\f 9=.int .u64 ((u:Nat):Int)/\f 10=.int .u64 ((J:Nat):Int)/\f 82=.int .i64 ((k+2:Nat):Int)/\f 83=.int .i64 ((i:Nat):Int)/\
    Ch (λb=>b=g) w c/\c.heap.size=w.heap.size/\Lb c g R'/\eP c (some N) V/\R'.length=R.length/\fm R'/\u<4294967296/\J<=1/\
    val (jN R' o i)+C*val (V.take i)=val (jN R o i)+(u+J)*B^i/\(∀q,q<o\/o+i<=q->R'.getD q 0=R.getD q 0))
    (k+2) ⟨0,0,0,R,F,aE,F,F,F,F,F,F,F,F,M,z,I,H,F,a1,aq,aq,by simp[ur,val],λ_ _=>rfl⟩ ?_
   clear M z I H f w3;rintro m f w3 ⟨i,u,J,R',rfl,hi,p,s,l,d,G,Y,Z,r,M,z,I,H,X,O,bW,bx,hv,E⟩;rw[ui p,ui s,ui l,ui d,ui G,ui Y,ui Z,ui r];clear p s l d G Y Z r;by_cases c9:i<k+2
   ·obtain⟨_,D,hc⟩:=H.at (j:=i) aq;injection D with D;subst D;have hz:=hc i aq;have K:=I.at (j:=o+i) aq;rw[<-oc,E (o+i) aq]at K;have bu:=a1.getD (o+i);have bv:=hV.e_.getD i;have r:=j8 C _ bM bv;have r:(u+C*V.getD i 0)%4294967296<4294967296:=Nat.mod_lt _ ar;refine gg ?_;refine jC F rfl aq ?_;refine gg ?_;refine fz F rfl aq ?_;refine gg ?_;refine fz F rfl aq ?_;refine gg ?_;obtain⟨sp,hB⟩:=I;refine cg (aW F) (.inl F) F rfl hB (by rw[Array.size_append,cB];omega) ?_;intro w5 U P a0;rw[oc]at U;refine gg ?_;have hs:=zG (R.getD (o+i) 0) _ J bu r bx;refine⟨_,?_,i+1,_,_,_,F,aq,F,F,F,F,F,F,F,F,M.trans P,a0.trans z,Lb.set aq U,H.ch P (λad e=>by injection e with e;subst e;exact bs),by simpa using X,O.set (Nat.mod_lt _ ar),aq,hs.2,?_,λq hq=>by rw[cV.getD_set_ne aq];exact E q aq⟩
    ·omega
    ·rw[dz _ _ _ (by simp;omega),dz _ _ _ aq,ee aq,a8 _ _ aq,Nat.mul_add,Nat.mul_left_comm C,Nat.pow_succ];rw[lQ (R:=R'.set (o+i) _) (R':=R') o i aA λq _ h2=>cV.getD_set_ne aq];exact zF _ _ _ _ _ _ _ _ _ _ _ hv hs.1
   ·refine gg ?_;have:i=k+2:=aq;subst this;rw[<-hk,dc,hk]at hv;exact⟨u,J,R',F,F,F,F,F,F,M,z,I,H,X,O,bW,bx,hv,E⟩
  ·clear M z I H f w3;rintro f w3 ⟨u,J,R',p,s,l,d,G,Y,M,z,I,H,X,O,bW,bx,hv,E⟩;rw[ui p,ui s,ui l,ui d,ui G,ui Y];clear p s l d G Y;have K:=I.at (j:=o+(k+2)) aq;rw[<-oc,E (o+(k+2)) aq]at K;refine gg ?_;refine fz F rfl aq ?_;refine gg ?_;refine fz F rfl aq ?_;refine gg ?_;obtain⟨sp,hB⟩:=I;refine cg (aW F) (.inl F) F rfl hB (by rw[Array.size_append,cB];omega) ?_;intro w5 U P a0;rw[oc]at U;have bB:=H.ch P (λad e=>by injection e with e;subst e;exact bs);have aH:=Lb.set (L:=R') aq U;have hU:=dz R o (k+2) aq;have aj:∀x,val (jN (R'.set (o+(k+2)) x) o (k+3))=val (jN R' o (k+2))+B^(k+2)*x:=λx=>by
    rw[dz _ _ _ (by simp;omega),ee aq,lQ (R:=R'.set (o+(k+2)) x) (R':=R') o (k+2) aA (λq _ h2=>cV.getD_set_ne aq)]
   generalize c3:((R.getD (o+(k+2)) 0+(18446744073709551616-u))%18446744073709551616+(18446744073709551616-J))%18446744073709551616=t at*;have a3:t%4294967296+(u+J)=R.getD (o+(k+2)) 0/\t/9223372036854775808=0\/R.getD (o+(k+2)) 0<u+J/\t%4294967296+(u+J)=R.getD (o+(k+2)) 0+4294967296/\t/9223372036854775808=1:=aq;clear c3;have bA:fm (R'.set (o+(k+2)) (t%4294967296)):=O.set (Nat.mod_lt _ ar);refine gg ?_;rcases a3 with⟨a3,r⟩|⟨H,a3,r⟩
   ·refine aP ?_;refine gg ?_;have hf:=GM (a:=R.getD (o+(k+2)) 0) hv a3 (by rw[<-hU];exact T);refine cI (v:=.int _ _) F rfl ⟨C%4294967296,_,F,Nat.mod_lt _ ar,M.trans P,a0.trans z,aH,by simpa using X,bA,λj hj=>by rw[cV.getD_set_ne aq];exact E j aq,?_,?_⟩
    ·rw[Nat.mod_eq_of_lt bM,aj,hU];exact hf.2.1
    ·rw[aj];exact hf.2.2
   ·refine aP ?_;refine gg ?_;have cd:0<C:=by
     rcases Nat.eq_zero_or_pos C with h|h
     ·exfalso;subst h;rw[Nat.zero_mul,Nat.add_zero]at hv;have:=ks O o (k+2);have h2:1*B^(k+2)<=(u+J)*B^(k+2):=Nat.mul_le_mul_right _ aq;omega
     ·exact h
    have bY:val V<B^(k+2):=by have:=fY V hV.e_;rw[hk]at this;exact this
    refine aX (λf c=>∃u y,f 0=.slice (some ⟨g,0+o*1,none⟩) (k+3) cu/\f 5=.int .i64 ((k+2:Nat):Int)/\f 7=.int .u64 (C:Int)/\f 9=.int .u64 ((u:Nat):Int)/\
     Ch (λb=>b=g) w c/\c.heap.size=w.heap.size/\Lb c g y/\y.length=R.length/\fm y/\u<=1/\
     val (jN y o (k+2))+u*B^(k+2)=val (jN R' o (k+2))+val V/\y.getD (o+(k+2)) 0=t%4294967296/\(∀q,q<o\/o+(k+3)<=q->y.getD q 0=R.getD q 0)) ?_ ?_
    ·refine gg ?_;refine aU (λm f c=>∃i u y,m=k+2-i/\i<=k+2/\f 0=.slice (some ⟨g,0+o*1,none⟩) (k+3) cu/\f 1=.slice (some N) (k+2) cv/\f 5=.int .i64 ((k+2:Nat):Int)/\f 7=.int .u64 (C:Int)/\f 9=.int .u64 ((u:Nat):Int)/\f 135=.int .i64 ((k+2:Nat):Int)/\f 136=.int .i64 ((i:Nat):Int)/\
      Ch (λb=>b=g) w c/\c.heap.size=w.heap.size/\Lb c g y/\eP c (some N) V/\y.length=R.length/\fm y/\u<=1/\
      val (jN y o i)+u*B^i=val (jN R' o i)+val (V.take i)/\(∀q,q<o\/o+i<=q->y.getD q 0=(R'.set (o+(k+2)) (t%4294967296)).getD q 0))
      (k+2) ⟨0,0,_,F,aE,F,F,F,F,F,F,F,M.trans P,a0.trans z,aH,bB,by simpa using X,bA,aq,by simp[ur,val],λ_ _=>rfl⟩ ?_
     clear hB U aH bB a0 P w5 K f;rintro m f w6 ⟨i,W,y,rfl,hi,p,s,l,d,G,c,b,b4,an,a7,h,S,Q,bK,a4,A⟩;rw[ui p,ui s,ui l,ui d,ui G,ui c,ui b];clear p s l d G c b;by_cases c9:i<k+2
     ·refine gg ?_;refine b7 [(0,3),(1,3),(2,3),(3,3),(4,0),(5,3),(6,3),(7,3),(8,3),(9,0),(10,3),(11,3),(12,3),(13,3)] mixed aw λb bC ca=>?_;have bX:=h.Y bC;obtain⟨_,D,hc⟩:=bX.at (j:=i) aq;injection D with D;subst D;have hz:=hc i aq;have b:=a7.Y bC;have K:=b.at (j:=o+i) aq;have c:y.getD (o+i) 0=R'.getD (o+i) 0:=by rw[A (o+i) aq,cV.getD_set_ne aq]
      rw[<-oc,c]at K;have bu:=O.getD (o+i);have bv:=hV.e_.getD i;refine gg ?_;obtain⟨c,c⟩:=b;refine cg (aW F) (.inl F) F rfl c (by rw[Array.size_append,cB];omega) ?_;intro w8 ai b1 bg;rw[oc]at ai;refine gg ?_;refine⟨_,?_,i+1,_,_,F,aq,F,F,F,F,F,F,F,(b4.trans bC.ch).trans b1,by rw[bg,ca,an],Lb.set aq ai,bX.ch b1 (λad e=>by injection e with e;subst e;exact bs),by simpa using S,Q.set (Nat.mod_lt _ ar),aq,?_,λq hq=>by rw[cV.getD_set_ne aq];exact A q aq⟩
      ·omega
      ·rw[dz _ _ _ (by simp;omega),dz _ _ _ aq,ee aq,a8 _ _ aq,Nat.pow_succ];rw[lQ (R:=y.set (o+i) _) (R':=y) o i aA λq _ h2=>cV.getD_set_ne aq];exact(lE _ _ _ _ _ _ a4).trans aq
     ·refine gg ?_;have:i=k+2:=aq;subst this;rw[<-hk,dc,hk]at a4;exact⟨W,y,F,F,F,F,b4,an,a7,S,Q,bK,a4,by rw[A _ aq,ee aq],λq hq=>by rw[A q aq,cV.getD_set_ne aq];exact E q aq⟩
    ·clear hB U aH bB a0 P w5 K f;rintro f w6 ⟨W,y,p,l,d,G,b4,an,a7,S,Q,bK,a4,b,A⟩;rw[ui p,ui l,ui d,ui G];clear p l d G;have K:=a7.at (j:=o+(k+2)) aq;rw[<-oc,b]at K;refine gg ?_;refine we F rfl ?_;refine gg ?_;obtain⟨b,b⟩:=a7;refine cg (aW F) (.inl F) F rfl b (by rw[Array.size_append,cB];omega) ?_;intro w8 ai b1 bg;rw[oc]at ai;refine gg ?_;have b:∀x,val (jN (y.set (o+(k+2)) x) o (k+3))=val (jN y o (k+2))+B^(k+2)*x:=λx=>by
      rw[dz _ _ _ (by simp;omega),ee aq,lQ (R:=y.set (o+(k+2)) x) (R':=y) o (k+2) aA (λq _ h2=>cV.getD_set_ne aq)]
     have c:fm (y.set (o+(k+2)) ((t%4294967296+W%4294967296)%4294967296)):=Q.set (Nat.mod_lt _ ar);have f:=ks c o (k+3);have d:=ks bA o (k+3);rw[b,Nat.pow_succ]at f;rw[aj,Nat.pow_succ]at d;have hf:=BN (a:=R.getD (o+(k+2)) 0) (x:=t%4294967296) cd hv a3 (by rw[<-hU];exact c6) f d bY ⟨(t%4294967296+W)/4294967296,by
      have e:=lY (B^(k+2)) (val (jN y o (k+2))) W _ (t%4294967296) a4;rw[Nat.mod_eq_of_lt (show W<4294967296 by omega),Nat.add_comm (t%4294967296) W];exact e.trans aq⟩
     refine cI (v:=.int _ _) F rfl ⟨(C-1)%4294967296,_,F,Nat.mod_lt _ ar,b4.trans b1,bg.trans an,Lb.set aq ai,by simpa using S,c,λj hj=>by rw[cV.getD_set_ne aq];exact A j aq,?_,?_⟩
     ·rw[Nat.mod_eq_of_lt (show C-1<4294967296 by omega),b,hU];exact hf.1
     ·rw[b];exact hf.2
