import Derived.Test.YtmfndnlifgphjaaGreatDoorQzg
set_option maxHeartbeats 64000000
open Go.Proofs.YtmfndnlifgphjaaGreatDoor
namespace Go.Proofs.Qq
section
open Go Go.cW Go.c7 Go.Proofs
theorem iw{b a:List Nat}(f:fH a)(e:dz b)(h:val b<=val a):b.length<=a.length:=by
 rcases Nat.lt_or_ge a.length b.length with c|d
 ·have:=il f e c;omega
 ·exact d
theorem CG(a:Bool)(o m:Option Addr)(l k A z:Nat)(f d:List Nat)(w:World)(h1:fM w o f)(x:fM w m d)(q:f.length=l)(p:d.length=k)(s:l<17592186044416)(r:k<17592186044416):
 aT Tryz.prog 147 #[.bool a,.slice o l A,.bool a,.slice m k z] w (RI w (sg a (val f)+sg a (val d))):=by
 subst q p;refine bo (n:=33) Tryz.func147 F rfl az aA ?_;refine gg ?_;refine aS (.inl F) a_ ?_;intro v j b k;have e:(a == a)=true:=by cases a<;>rfl
 refine gg ?_;refine x8 (by show Value.bool (a == a)=_;rw[e]) ?_;refine gg ?_;refine aJ (vW _ _ _ _ _ _ v (h1.Y b) (x.Y b) s r) ?_;rintro v e ⟨h,k⟩;refine gg ?_;refine aJ (fa a v _ e k) ?_;rintro _ e ⟨g,e,e,rfl,c⟩;refine gg ?_;refine aZ aQ (.inl F) F rfl c.ep c.eN (j.Y (h.trans g)) aw ?_;intro e u i k;refine gg ?_;have t:Ext w e:=i.aK ((b.trans h).trans g) λb b=>aq;have y:sg a (val f+val d)=sg a (val f)+sg a (val d):=by cases a<;>simp[sg];omega
 rw[y]at c;exact eZ F aQ F u ⟨t,_,_,F,c.dT (j.Y (h.trans g)) dn i⟩
theorem CH(a:Bool)(I H:Option Addr)(A z T S:Nat)(f d:List Nat)(w:World)(h1:fM w I f)(s:fM w H d)(L:f.length=A)(K:d.length=z)(u:A<17592186044416)(t:z<17592186044416)(G:dz f)(E:dz d):
 aT Tryz.prog 147 #[.bool a,.slice I A T,.bool (!a),.slice H z S] w (RI w (sg a (val f)+sg (!a) (val d))):=by
 subst L K;refine bo (n:=33) Tryz.func147 F rfl az aA ?_;refine gg ?_;refine aS (.inl F) a_ ?_;intro P o q z;have e:(a == !a)=false:=by cases a<;>rfl
 refine gg ?_;refine sc (by show Value.bool (a == !a)=_;rw[e]) ?_;refine gg ?_;refine aJ (lp _ _ _ _ _ _ _ _ P (h1.Y q) (s.Y q) F rfl u t G E) ?_;rintro _ D ⟨k,rfl⟩;have g:=q.trans k;by_cases j:val f<val d
 ·have R:¬0<=fl (val f) (val d):=by rw[fl,ab j];decide
  have m:=iw s.fD G (Nat.le_of_lt j);generalize fl (val f) (val d)=cz at*;refine gg ?_;refine aJ (qM _ _ _ _ _ _ _ _ D (s.Y g) (h1.Y g) F rfl t m (Nat.le_of_lt j)) ?_;rintro v y ⟨i,B⟩;refine gg ?_;refine aJ (fa (!a) v _ y B) ?_;rintro _ O ⟨h,N,M,rfl,c⟩;refine gg ?_;refine aZ aQ (.inl F) F rfl c.ep c.eN (o.Y ((k.trans i).trans h)) aw ?_;intro x r l J;refine gg ?_;have p:Ext w x:=l.aK ((g.trans i).trans h) λb Q=>aq;have C:sg (!a) (val d-val f)=sg a (val f)+sg (!a) (val d):=by cases a<;>simp[sg]<;>omega
  rw[C]at c;exact eZ F aQ F r ⟨p,_,_,F,c.dT (o.Y ((k.trans i).trans h)) dn l⟩
 ·have R:0<=fl (val f) (val d):=by rw[fl,aa j];split<;>decide
  have m:=iw h1.fD E (Nat.le_of_not_lt j);generalize fl (val f) (val d)=cz at*;refine gg ?_;refine aJ (qM _ _ _ _ _ _ _ _ D (h1.Y g) (s.Y g) F rfl u m (Nat.le_of_not_lt j)) ?_;rintro v y ⟨i,B⟩;refine gg ?_;refine aJ (fa a v _ y B) ?_;rintro _ O ⟨h,N,M,rfl,c⟩;refine gg ?_;refine aZ aQ (.inl F) F rfl c.ep c.eN (o.Y ((k.trans i).trans h)) aw ?_;intro x r l J;refine gg ?_;have p:Ext w x:=l.aK ((g.trans i).trans h) λb Q=>aq;have C:sg a (val f-val d)=sg a (val f)+sg (!a) (val d):=by cases a<;>simp[sg]<;>omega
  rw[C]at c;exact eZ F aQ F r ⟨p,_,_,F,c.dT (o.Y ((k.trans i).trans h)) dn l⟩
theorem qw(d c:Bool)(i h:Option Addr)(g f o n:Nat)(b a:List Nat)(w:World)(h1:fM w i b)(p:fM w h a)(k:b.length=g)(j:a.length=f)(m:g<17592186044416)(l:f<17592186044416)(r:dz b)(q:dz a):
 aT Tryz.prog 147 #[.bool d,.slice i g o,.bool c,.slice h f n] w (RI w (sg d (val b)+sg c (val a))):=by
 by_cases e:c=d
 ·subst e;exact CG c i h g f o n b a w h1 p k j m l
 ·obtain rfl:c=!d:=by cases d<;>cases c<;>simp_all
  exact CH d i h g f o n b a w h1 p k j m l r q
theorem qv(f d e c:Value)(b a:Int)(N:Nat)(w:World)(h1:IV w N f d b)(i:IV w N e c a)(j:N<17592186044416):
 aT Tryz.prog 107 #[.agg #[f,d],.agg #[e,c]] w (RI w (b+a)):=by
 obtain⟨a,a,a,a,rfl,rfl,m,l,h,a,rfl⟩:=h1;obtain⟨a,a,a,a,rfl,rfl,o,k,g,a,rfl⟩:=i;refine bo (n:=16) Tryz.func107 F rfl az aA ?_;refine gg ?_;refine bO (v:=.agg _) (.inl F) F ?_;intro a b i a;refine gg ?_;refine bO (v:=.agg _) (.inl F) F ?_;intro a e d a;refine gg ?_;refine aS (.inl F) a_ ?_;intro a p c a;refine gg ?_;refine b_ [(0,3),(1,0),(2,3),(3,0),(5,3),(6,0),(7,3),(8,0),(4,1),(9,1),(10,1),(11,2)] mixed az λj a _=>?_;have f:=b.Y ((d.trans c).trans a);have b:=e.Y (c.trans a);have e:=p.Y a;have p:=iR f;have p:=fG f;have f:=iR b;have f:=fG b;have b:=((i.trans d).trans c).trans a;refine gg ?_;refine aM (dA _ _ _ _ j (h.Y b) F m l) ?_;rintro _ _ ⟨rfl,m1,m,rfl,c,l⟩;refine⟨Ext.refl _,?_⟩;refine gg ?_;refine aM (dA _ _ _ _ j (g.Y b) F o k) ?_;rintro _ _ ⟨rfl,m2,f,rfl,a,k⟩;refine⟨Ext.refl _,?_⟩;refine gg ?_;refine aM (qw _ _ _ _ _ _ _ _ _ _ j ((h.Y b).take m1) ((g.Y b).take m2) (List.length_take_of_le m) (List.length_take_of_le f) aq aq c a) ?_;rintro _ a ⟨c,a,a,rfl,a⟩;refine⟨c,?_⟩;refine gg ?_;refine aZ aQ (.inl F) F rfl a.ep a.eN (e.Y c) aw ?_;intro j h f g;refine gg ?_;have g:Ext w j:=f.aK (b.trans c) (λb b=>by have:=i.size;have:=d.size;omega);rw[l,k]at a;exact eZ F aQ F h ⟨g,_,_,F,a.dT (e.Y c) dn f⟩
theorem kH(f d e c:Value)(b a:Int)(N:Nat)(w:World)(h1:IV w N f d b)(g:IV w N e c a)(h:N<1099511627776):
 aT Tryz.prog 107 #[.agg #[f,d],.agg #[e,c]] w (RI w (b+a)):=qv f d e c b a N w h1 g aq
theorem wJ(f d e c:Value)(b a:Int)(N:Nat)(w:World)(h1:IV w N f d b)(i:IV w N e c a)(j:N<17592186044416):
 aT Tryz.prog 140 #[.agg #[f,d],.agg #[e,c]] w (RI w (b-a)):=by
 obtain⟨a,a,a,a,rfl,rfl,m,l,h,a,rfl⟩:=h1;obtain⟨a,a,a,a,rfl,rfl,o,k,g,a,rfl⟩:=i;refine bo (n:=17) Tryz.func140 F rfl az aA ?_;refine gg ?_;refine bO (v:=.agg _) (.inl F) F ?_;intro a b i a;refine gg ?_;refine bO (v:=.agg _) (.inl F) F ?_;intro a e d a;refine gg ?_;refine aS (.inl F) a_ ?_;intro a p c a;refine gg ?_;refine b_ [(0,3),(1,0),(2,3),(3,0),(5,3),(6,0),(7,3),(8,3),(9,0),(4,1),(10,1),(11,1),(12,2)] mixed az λj a _=>?_;have f:=b.Y ((d.trans c).trans a);have b:=e.Y (c.trans a);have e:=p.Y a;have p:=iR f;have p:=fG f;have f:=iR b;have f:=fG b;have b:=((i.trans d).trans c).trans a;refine gg ?_;refine aM (dA _ _ _ _ j (h.Y b) F m l) ?_;rintro _ _ ⟨rfl,m1,m,rfl,c,l⟩;refine⟨Ext.refl _,?_⟩;refine gg ?_;refine aM (dA _ _ _ _ j (g.Y b) F o k) ?_;rintro _ _ ⟨rfl,m2,f,rfl,a,k⟩;refine⟨Ext.refl _,?_⟩;refine gg ?_;refine aM (qw _ _ _ _ _ _ _ _ _ _ j ((h.Y b).take m1) ((g.Y b).take m2) (List.length_take_of_le m) (List.length_take_of_le f) aq aq c a) ?_;rintro _ a ⟨c,a,a,rfl,a⟩;refine⟨c,?_⟩;refine gg ?_;refine aZ aQ (.inl F) F rfl a.ep a.eN (e.Y c) aw ?_;intro j h f g;refine gg ?_;have g:Ext w j:=f.aK (b.trans c) (λb b=>by have:=i.size;have:=d.size;omega);rw[l,k,BW,<-Int.sub_eq_add_neg]at a;exact eZ F aQ F h ⟨g,_,_,F,a.dT (e.Y c) dn f⟩
theorem mj(f d e c:Value)(b a:Int)(N:Nat)(w:World)(h1:IV w N f d b)(g:IV w N e c a)(h:N<1099511627776):
 aT Tryz.prog 140 #[.agg #[f,d],.agg #[e,c]] w (RI w (b-a)):=wJ f d e c b a N w h1 g aq
theorem GI(a b:Bool)(m n:Nat):sg (a != b) (m*n)=sg a m*sg b n:=by
 cases a<;>cases b<;>simp[sg,Int.neg_mul,Int.mul_neg]
theorem kT(f d e c:Value)(b a:Int)(N:Nat)(w:World)(h1:IV w N f d b)(i:IV w N e c a)(j:N<17592186044416):
 aT Tryz.prog 108 #[.agg #[f,d],.agg #[e,c]] w (RI w (b*a)):=by
 obtain⟨r,a,a,a,rfl,rfl,o,l,h,a,rfl⟩:=h1;obtain⟨q,a,a,a,rfl,rfl,m,k,g,a,rfl⟩:=i;refine bo (n:=18) Tryz.func108 F rfl az aA ?_;refine gg ?_;refine bO (v:=.agg _) (.inl F) F ?_;intro a b i a;refine gg ?_;refine bO (v:=.agg _) (.inl F) F ?_;intro a f e a;refine gg ?_;refine aS (.inl F) a_ ?_;intro a p c a;refine gg ?_;refine b_ [(0,3),(1,0),(2,3),(3,0),(4,3),(5,3),(6,0),(8,3),(9,0),(7,1),(10,1),(11,1),(12,1),(13,2)] mixed az λj a _=>?_;have d:=b.Y ((e.trans c).trans a);have b:=f.Y (c.trans a);have f:=p.Y a;have p:=iR d;have p:=fG d;have d:=iR b;have d:=fG b;have b:=((i.trans e).trans c).trans a;refine gg ?_;refine aM (dA _ _ _ _ j (h.Y b) F o l) ?_;rintro _ _ ⟨rfl,m1,c,rfl,a,l⟩;refine⟨Ext.refl _,?_⟩;refine gg ?_;refine aM (dA _ _ _ _ j (g.Y b) F m k) ?_;rintro _ _ ⟨rfl,m2,a,rfl,d,k⟩;refine⟨Ext.refl _,?_⟩;refine gg ?_;refine aM (Fe _ _ _ _ _ _ _ _ j ((h.Y b).take m1) ((g.Y b).take m2) (List.length_take_of_le c) (List.length_take_of_le a) aq aq) ?_;rintro v a ⟨d,c⟩;refine⟨d,?_⟩;refine gg ?_;refine aM (fa (r != q) v _ a c) ?_;rintro _ a ⟨a,c,c,rfl,c⟩;refine⟨a,?_⟩;refine gg ?_;refine aZ aQ (.inl F) F rfl c.ep c.eN (f.Y (d.trans a)) aw ?_;intro m j g h;refine gg ?_;have h:Ext w m:=g.aK ((b.trans d).trans a) (λb b=>by have:=i.size;have:=e.size;omega);rw[l,k,GI]at c;exact eZ F aQ F j ⟨h,_,_,F,c.dT (f.Y (d.trans a)) dn g⟩
theorem fy(f d e c:Value)(b a:Int)(N:Nat)(w:World)(h1:IV w N f d b)(g:IV w N e c a)(h:N<1099511627776):
 aT Tryz.prog 108 #[.agg #[f,d],.agg #[e,c]] w (RI w (b*a)):=kT f d e c b a N w h1 g aq
theorem oY{P:Program}{n:Nat}{f:Fr}{w:World}{e:Func}{t u s:Tmp}{T G H:Nat}{a:Value->World->Prop}{x y c b v:Value}(o:e.results=#[.cell t T,.cell u T,.tmp s])(i:eP P T 2=true)
 (l:ev n f (.tmp t)=.pointer (some ⟨G,0,none⟩)) (k:ev n f (.tmp u)=.pointer (some ⟨H,0,none⟩)) (m:ev n f (.tmp s)=v) (g:bg w G T #[x,y]) (d:bg w H T #[c,b]) (h:a (.tuple #[.agg #[x,y],.agg #[c,b],v]) w):
 bodyPost P e (Et a) .ret (act n f) w:=by
 refine bodyPost_ret (v:=.tuple #[.agg #[x,y],.agg #[c,b],v]) ?_ F ⟨_,F,h⟩;have e:=congrFun (cO n f) (.tmp t);have j:=congrFun (cO n f) (.tmp u);have h:=congrFun (cO n f) (.tmp s);simp only[Act.eval]at e j h;have p:w.cell? ⟨G,0,none⟩=some x:=by rw[g.cell];rfl
 have a:w.cell? ((⟨G,0,none⟩ : Addr).add 1)=some y:=by rw[add_lit,g.cell];rfl
 have g:w.cell? ⟨H,0,none⟩=some c:=by rw[d.cell];rfl
 have c:w.cell? ((⟨H,0,none⟩ : Addr).add 1)=some b:=by rw[add_lit,d.cell];rfl
 have b:=dB (P:=P) i p a;have a:=dB (P:=P) i g c;simp only[Instr.loadAt,Instr.sureAddr,Sem.run_bind,Sem.run_pure,Result.andThen_ok]at b a;have g:(act n f).tmps[t]?.getD undef=.pointer (some ⟨G,0,none⟩):=by rw[<-l,<-e];simp
 have d:(act n f).tmps[u]?.getD undef=.pointer (some ⟨H,0,none⟩):=by rw[<-k,<-j];simp
 have c:(act n f).tmps[s]?.getD undef=v:=by rw[<-m,<-h];simp
 simp[results,o,g,d,c,asAddr,b,a]
def RD(w:World)(b a:Int)(v:Value)(w':World):Prop:=Ext w w'/\∃x y d c,v=.tuple #[.agg #[x,y],.agg #[d,c],.bool true]/\CV w' x y (b/a)/\CV w' d c (b%a)
theorem HW(c:Bool)(a b:Nat)(_hb:0<b):(a:Int)/sg c b=sg c (a/b)/\(a:Int)%sg c b=((a%b:Nat):Int):=by
 cases c
 ·simp[sg]
 ·simp[sg,Int.ediv_neg]
theorem xQ(d:Bool)(a b q r:Nat)(e:0<b)(e:r<b)(h:a+r=q*b):(-(a:Int))/sg d b=sg (!d) q/\(-(a:Int))%sg d b=(r:Int):=by
 have c:(-(a:Int))/(b:Int)=-(q:Int)/\(-(a:Int))%(b:Int)=(r:Int):=by
  rw[Int.ediv_emod_unique aq];refine⟨?_,aq,aq⟩;have:(a:Int)+r=q*b:=by exact_mod_cast h
  rw[Int.mul_neg,Int.mul_comm];omega
 cases d
 ·simpa[sg]using c
 ·simp only[sg,if_true,Int.ediv_neg,Int.emod_neg];rw[c.1,c.2];simp
theorem eT(x1 y1 x2 Z:Value)(L a:Int)(N:Nat)(w:World)(h1:IV w N x1 y1 L)(h2:IV w N x2 Z a)(hN:N<17592186044416)(hz:a≠0):
 aT Tryz.prog 49 #[.agg #[x1,y1],.agg #[x2,Z]] w (RD w L a):=by
 obtain⟨g1,a,q,a,rfl,rfl,b0,ay,Y,a,rfl⟩:=h1;obtain⟨I,a,l,a,rfl,rfl,aH,ax,K,a,rfl⟩:=h2;have fc:0<val l:=by
  rcases Nat.eq_zero_or_pos (val l)with h|h
  ·exfalso;apply hz;rw[h];cases I<;>rfl
  ·exact h
 refine bo (n:=53) Tryz.func49 F rfl az aA ?_;refine gg ?_;refine bO (v:=.agg _) (.inl F) F ?_;intro a a7 an a;refine gg ?_;refine bO (v:=.agg _) (.inl F) F ?_;intro B b4 Z a;refine gg ?_;refine aS (.inl F) a_ ?_;intro A b1 L a;refine gg ?_;refine aS (.inl F) a_ ?_;intro M y a a8;have a8:=a7.Y ((Z.trans L).trans a);have a7:=b4.Y (L.trans a);have g:=b1.Y a;have f0:=iR a8;have f1:=fG a8;have k0:=iR a7;have k1:=fG a7;have C:=((an.trans Z).trans L).trans a;have a:=an.size;have a:=Z.size;have a:=L.size;refine gg ?_;refine aJ (dA _ _ _ _ M (K.Y C) F aH ax) ?_;rintro _ _ ⟨rfl,m2,V,rfl,ar,t⟩;have a:0<m2:=by
  rcases Nat.eq_zero_or_pos m2 with h|h
  ·subst h;simp[val]at t;omega
  ·exact h
 refine gg ?_;refine aN ?_;refine gg ?_;refine aJ (dA _ _ _ _ M (Y.Y C) F b0 ay) ?_;rintro _ _ ⟨rfl,m1,ak,rfl,a,a1⟩;refine gg ?_;refine aJ (vJ _ _ _ _ _ _ _ _ M ((Y.Y C).take m1) ((K.Y C).take m2) (List.length_take_of_le ak) (List.length_take_of_le V) aq aq a ar aq) ?_;rintro _ w5 ⟨vq,vr,rfl,m,P,hr⟩;rw[a1,t]at P hr;have f0:=aP m f0;have f1:=aP m f1;have k0:=aP m k0;have k1:=aP m k1;have au:=(((K.Y C).take m2).Y m);obtain⟨Ar,O,cr,rfl,al,a6,X,J,r⟩:=hr;have a:=C.trans m;have av:=Nat.div_add_mod (val q) (val l);have a:=Nat.mod_lt (val q) fc;cases g1
 ·refine gg ?_;refine aN ?_;refine aN ?_;refine gg ?_;refine aJ (fa I vq _ w5 P) ?_;rintro _ T ⟨p,xq,yq,rfl,x⟩;refine gg ?_;refine aJ (fa false _ _ T (jX.Y ⟨Ar,O,cr,F,al,a6,X,J,r⟩ p)) ?_;rintro _ S ⟨o,xr,yr,rfl,i⟩;have j:=x.Y o;have f:Ext M S:=(m.trans p).trans o;refine gg ?_;refine aZ aQ (.inl F) F rfl j.ep j.eN (g.Y f) aw ?_;intro R H c ai;refine gg ?_;refine aZ aQ (.inl F) F rfl i.ep i.eN ((y.Y f).ch c (show¬A.heap.size=B.heap.size by omega)) aw ?_;intro Q G d ae;refine gg ?_;have u:=H.ch d (show¬B.heap.size=A.heap.size by omega);have k:=(y.Y f).ch c (show¬A.heap.size=B.heap.size by omega);have E:Ext w R:=c.aK (C.trans f) λb U=>aq;have D:Ext w Q:=d.aK E λb U=>aq;have z:=(j.dT (g.Y f) dn c).dT k dn d;have s:=(i.dT (g.Y f) dn c).dT k dn d;have e:=HW I (val q) (val l) fc;refine oY F aQ F rfl (v:=.bool _) F u G ⟨D,_,_,_,_,F,?_,?_⟩
  ·rw[eY,e.1];exact z
  ·rw[eY,e.2];exact s
 ·by_cases aj:O.length=0
  ·have W:=List.eq_nil_of_length_eq_zero aj;have a:val q%val l=0:=by rw[<-r,W];rfl
   refine gg ?_;refine aN ?_;refine aN ?_;refine gg ?_;refine aJ (fa (!I) vq _ w5 P) ?_;rintro _ T ⟨p,xq,yq,rfl,x⟩;refine gg ?_;refine aJ (fa false _ _ T (jX.Y ⟨Ar,O,cr,F,al,a6,X,J,r⟩ p)) ?_;rintro _ S ⟨o,xr,yr,rfl,i⟩;have j:=x.Y o;have f:Ext M S:=(m.trans p).trans o;refine gg ?_;refine aZ aQ (.inl F) F rfl j.ep j.eN (g.Y f) aw ?_;intro R H c ai;refine gg ?_;refine aZ aQ (.inl F) F rfl i.ep i.eN ((y.Y f).ch c (show¬A.heap.size=B.heap.size by omega)) aw ?_;intro Q G d ae;refine gg ?_;have u:=H.ch d (show¬B.heap.size=A.heap.size by omega);have k:=(y.Y f).ch c (show¬A.heap.size=B.heap.size by omega);have E:Ext w R:=c.aK (C.trans f) λb U=>aq;have D:Ext w Q:=d.aK E λb U=>aq;have z:=(j.dT (g.Y f) dn c).dT k dn d;have s:=(i.dT (g.Y f) dn c).dT k dn d;have e:=xQ I (val q) (val l) (val q/val l) 0 fc fc (by rw[a]at av;rw[Nat.mul_comm];omega);rw[a]at s;refine oY F aQ F rfl (v:=.bool _) F u G ⟨D,_,_,_,_,F,?_,?_⟩
   ·rw[fb,e.1];exact z
   ·rw[fb,e.2];exact s
  ·have a:0<val q%val l:=by
    rcases Nat.eq_zero_or_pos (val q%val l)with h|h
    ·exact absurd (by rw[val_zero J (r.trans h)];rfl) aj
    ·exact h
   obtain⟨a,lq,a,rfl,a,a,a6,a,L⟩:=P;have Z:lq.length<17592186044416:=by
    have:val lq<=val (q.take m1):=by rw[L,a1];exact Nat.div_le_self _ _
    have:=iw ((Y.fD).take m1) a this;rw[List.length_take_of_le ak]at this;omega
   have W:O.length<=m2:=by
    have:val O<=val (l.take m2):=by rw[r,t];omega
    have:=iw ((K.fD).take m2) J this;rw[List.length_take_of_le V]at this;exact this
   refine gg ?_;refine aN ?_;refine aN ?_;refine gg ?_;refine dp (v0:=.int _ _) dM F (.inl F) F rfl ?_;intro J K h a;have a:bg J w5.heap.size 153 (cells [1]):=K;refine gg ?_;refine aJ (vW _ _ _ _ lq [1] J (a6.Y h) (dE a (by intro a a;simp at a;omega)) Z aw) ?_;rintro vq J ⟨a,P⟩;refine gg ?_;refine aJ (qM _ _ _ _ _ _ (l.take m2) O J (au.Y (h.trans a)) (X.Y (h.trans a)) (List.length_take_of_le V) F aq W (by rw[t,r];omega)) ?_;rintro vr K ⟨J,hr⟩;refine gg ?_;refine aJ (fa (!I) vq _ K (P.Y J)) ?_;rintro _ T ⟨p,xq,yq,rfl,x⟩;refine gg ?_;refine aJ (fa false _ _ T (hr.Y p)) ?_;rintro _ S ⟨o,xr,yr,rfl,i⟩;have j:=x.Y o;have f:Ext M S:=((((m.trans h).trans a).trans J).trans p).trans o;refine gg ?_;refine aZ aQ (.inl F) F rfl j.ep j.eN (g.Y f) aw ?_;intro R H c ai;refine gg ?_;refine aZ aQ (.inl F) F rfl i.ep i.eN ((y.Y f).ch c (show¬A.heap.size=B.heap.size by omega)) aw ?_;intro Q G d ae;refine gg ?_;have u:=H.ch d (show¬B.heap.size=A.heap.size by omega);have k:=(y.Y f).ch c (show¬A.heap.size=B.heap.size by omega);have E:Ext w R:=c.aK (C.trans f) λb U=>aq;have D:Ext w Q:=d.aK E λb U=>aq;have z:=(j.dT (g.Y f) dn c).dT k dn d;have s:=(i.dT (g.Y f) dn c).dT k dn d;rw[L,show val [1]=1 from F]at z;rw[t,r]at s;have e:=xQ I (val q) (val l) (val q/val l+1) (val l-val q%val l) fc aq (by rw[Nat.add_mul,Nat.mul_comm];omega);refine oY F aQ F rfl (v:=.bool _) F u G ⟨D,_,_,_,_,F,?_,?_⟩
   ·rw[fb,e.1];exact z
   ·rw[fb,e.2];exact s
theorem jd(f d e c:Value)(b a:Int)(N:Nat)(w:World)(h1:IV w N f d b)(h:IV w N e c a)(g:N<1099511627776)(g:a≠0):
 aT Tryz.prog 49 #[.agg #[f,d],.agg #[e,c]] w (RD w b a):=eT f d e c b a N w h1 h aq g
theorem Hc{w:World}{base:Nat}{v:Value}{l:List Nat}(b:fH l)(a:dz l)(h:w.ownsRow base 153 1 v l.length (l.map λx=>Value.int .u32 ((x:Nat):Int))):jX w v (val l):=by
 rcases sU h with⟨rfl,rfl⟩|⟨g,c,rfl,_,h1,h2,h3⟩
 ·exact pX w
 ·exact⟨_,l,c,F,h1,aq,h3.J2 b,a,F⟩
theorem u9(A:Option Addr)(n c:Nat)(l:List Nat)(w:World)(h:fM w A l)(k:l.length=n)(d:n<=c)(q:n<1099511627776):
 aT Tryz.prog 144 #[.slice A n c] w λv a=>Ext w a/\jX a v (val l)/\∀b,v.ownBlock=some b->w.heap.size<=b:=by
 subst k;refine bo (n:=22) Tryz.func144 F rfl az aA ?_;refine gg ?_;refine aY (λf a=>w=a/\∃m,m<=l.length/\f 0=.slice A l.length c/\f 3=.int .i64 ((m:Nat):Int)/\dz (l.take m)/\val (l.take m)=val l) ?_ ?_
 ·refine mO ?_;refine aU (λm f a=>w=a/\m<=l.length/\f 0=.slice A l.length c/\f 3=.int .i64 ((m:Nat):Int)/\val (l.take m)=val l) l.length ⟨rfl,aD,rfl,rfl,aA⟩ ?_;rintro m f a ⟨rfl,o,p,k,e⟩;rw[ui p,ui k];refine aN ?_;rcases m with _|m
  ·refine gg ?_;exact⟨F,0,aq,F,F,by simp[dz.nil],e⟩
  ·obtain⟨k,rfl,k⟩:=h.at (j:=m) aq;have q:=k m aq;refine gg ?_;refine tF F (λd=>?_) λd=>?_
   ·refine gg ?_;refine⟨m,aq,F,aq,F,F,?_⟩;have p:l.getD m 0=0:=by simpa using d
    rw[<-e,bN l m aq,p,Nat.mul_zero,Nat.add_zero]
   ·refine gg ?_;exact⟨F,m+1,aq,F,F,sl aq (by simpa using d),e⟩
 ·rintro f a ⟨rfl,m,o,f,d,p,e⟩;rw[ui f,ui d];refine gg ?_;refine ou (base:=w.heap.size) (m0:=0) (xs:=[]) (news:=(l.take m).map λx=>Value.int .u32 ((x:Nat):Int)) (v:=.slice _ _ _) dM F aw (.inl F) F (World.ownsRow_nil _ _ _ _) F (by rw[List.length_map,List.length_take_of_le o,Nat.mul_one]) (DX (h.take m)) (vC _) aq aq aD ?_;intro k a f q _;refine gg ?_;rw[Nat.zero_add,List.nil_append]at f;have d:a.ownsRow w.heap.size 153 1 k (l.take m).length ((l.take m).map λx=>Value.int .u32 ((x:Nat):Int)):=by rw[List.length_take_of_le o];exact f
  refine bF (v:=k) F rfl ⟨q.aK (Ext.refl _) (λb i=>by simp[Value.ownBlock]at i),?_,?_⟩
  ·rw[<-e];exact Hc (h.fD.take m) p d
  ·intro b i;rcases sU d with⟨rfl,_⟩|⟨g,a,rfl,h1,_⟩
   ·simp[Value.ownBlock]at i
   ·simp[Value.ownBlock]at i;omega
theorem iO(A:Option Addr)(n c:Nat)(l:List Nat)(w:World)(h:fM w A l)(b:l.length=n)(e:n<=c)(d:n<1099511627776):
 aT Tryz.prog 144 #[.slice A n c] w λv a=>Ext w a/\jX a v (val l):=
 (u9 A n c l w h b e d).mono λ_ _ a=>⟨a.1,a.2.1⟩
theorem jv(f:Bool)(A:Option Addr)(n c:Nat)(l:List Nat)(w:World)(h:fM w A l)(e:l.length=n)(v:n<=c)(s:n<1099511627776):
 aT Tryz.prog 109 #[.bool f,.slice A n c] w (RI w (sg f (val l))):=by
 subst e;refine bo (n:=16) Tryz.func109 F rfl az aA ?_;refine gg ?_;refine aS (.inl F) a_ ?_;intro e k t D;refine gg ?_;refine aJ (iO _ _ _ _ e (h.Y t) F v s) ?_;rintro v e ⟨a,z,j,y,rfl,q,p,r,o,m⟩;by_cases C:f=true/\0<j.length
 ·obtain⟨rfl,s⟩:=C;refine gg ?_;refine sf (v0:=.bool (decide _)) (v1:=.slice _ _ _) xZ F rfl rfl rfl ?_;rw[decide_eq_true s];refine gg ?_;refine aZ aQ (.inl F) F rfl rfl rfl (k.Y a) aw ?_;intro B i d u;refine gg ?_;have g:=d.aK (t.trans a) λb x=>aq;refine eZ F aQ F i ⟨g,_,_,F,true,z,j,y,F,F,q,p,r.dT (k.Y a) dn d,o,λe=>absurd s (by rw[e];simp),by rw[m]⟩
 ·have x:(f&&decide (0<j.length))=false:=by cases f<;>simp_all
  cases f
  ·refine gg ?_;refine sf (v0:=.bool _) (v1:=.slice _ _ _) xZ F rfl rfl rfl ?_;refine gg ?_;refine aZ aQ (.inl F) F rfl rfl rfl (k.Y a) aw ?_;intro B i d u;refine gg ?_;have g:=d.aK (t.trans a) λb x=>aq;refine eZ F aQ F i ⟨g,_,_,F,false,z,j,y,F,F,q,p,r.dT (k.Y a) dn d,o,λ_=>rfl,by rw[m]⟩
  ·have f:¬0<j.length:=λh=>C ⟨rfl,h⟩;have e:j=[]:=List.eq_nil_of_length_eq_zero aq;refine gg ?_;refine sf (v0:=.bool (decide _)) (v1:=.slice _ _ _) xZ F rfl rfl rfl ?_;rw[decide_eq_false f];refine gg ?_;refine aZ aQ (.inl F) F rfl rfl rfl (k.Y a) aw ?_;intro B i d u;refine gg ?_;have g:=d.aK (t.trans a) λb x=>aq;refine eZ F aQ F i ⟨g,_,_,F,false,z,j,y,F,F,q,p,r.dT (k.Y a) dn d,o,λ_=>rfl,?_⟩;rw[<-m,e];rfl
theorem oK(x y:Value)(z:Int)(N:Nat)(w:World)(h:IV w N x y z)(a:N<1099511627776):
 aT Tryz.prog 46 #[.agg #[x,y]] w (RI w z):=by
 obtain⟨e,A,l,c,rfl,rfl,i,a,j,a,rfl⟩:=h;refine bo (n:=8) Tryz.func46 F rfl az aA ?_;refine gg ?_;refine bO (v:=.agg _) (.inl F) F ?_;intro a c d a;refine gg ?_;refine aS (.inl F) a_ ?_;intro h f b a;have a:=c.Y b;have c:=iR a;have c:=fG a;have g:=d.trans b;refine gg ?_;refine aJ (jv e _ _ _ l h (j.Y g) F i aq) ?_;rintro _ a ⟨c,a,a,rfl,a⟩;refine gg ?_;refine aZ aQ (.inl F) F rfl a.ep a.eN (f.Y c) aw ?_;intro b i e h;refine gg ?_;have h:Ext w b:=e.aK (g.trans c) (λb b=>by have:=d.size;omega);exact eZ F aQ F i ⟨h,_,_,F,a.dT (f.Y c) dn e⟩
theorem wV(x y:Value)(z:Int)(N:Nat)(w:World)(h:IV w N x y z)(a:N<1099511627776):
 aT Tryz.prog 98 #[.agg #[x,y]] w (RI w (-z)):=by
 obtain⟨e,A,l,c,rfl,rfl,i,a,j,a,rfl⟩:=h;refine bo (n:=9) Tryz.func98 F rfl az aA ?_;refine gg ?_;refine bO (v:=.agg _) (.inl F) F ?_;intro a c d a;refine gg ?_;refine aS (.inl F) a_ ?_;intro h f b a;have a:=c.Y b;have c:=iR a;have c:=fG a;have g:=d.trans b;refine gg ?_;refine aJ (jv (!e) _ _ _ l h (j.Y g) F i aq) ?_;rintro _ a ⟨c,a,a,rfl,a⟩;refine gg ?_;refine aZ aQ (.inl F) F rfl a.ep a.eN (f.Y c) aw ?_;intro b i e h;refine gg ?_;have h:Ext w b:=e.aK (g.trans c) (λb b=>by have:=d.size;omega);rw[BW]at a;exact eZ F aQ F i ⟨h,_,_,F,a.dT (f.Y c) dn e⟩
theorem pP(a:Bool)(x:Nat)(w:World)(b:x<18446744073709551616):
 aT Tryz.prog 143 #[.bool a,.int .u64 (x:Int)] w (RI w (sg a x)):=by
 refine bo (n:=13) Tryz.func143 F rfl az aA ?_;refine gg ?_;refine aS (.inl F) a_ ?_;intro f g e b;refine gg ?_;refine wq (v0:=.int _ _) (v1:=.int _ _) dM F (.inl F) F rfl rfl rfl ?_;intro b h d c;have c:bg b f.heap.size 153 (cells [x%4294967296,x/2^32%4294967296]):=h;have h:fH [x%4294967296,x/2^32%4294967296]:=by
  intro y f;simp at f;omega
 refine gg ?_;refine aJ (jv a _ _ _ _ b (dE c h) F aD aw) ?_;rintro _ a ⟨c,a,a,rfl,a⟩;refine gg ?_;refine aZ aQ (.inl F) F rfl a.ep a.eN (g.Y (d.trans c)) aw ?_;intro b i f h;refine gg ?_;have h:Ext w b:=f.aK ((e.trans d).trans c) λb b=>aq;have e:val [x%4294967296,x/2^32%4294967296]=x:=by simp only[val,B];omega
 rw[e]at a;exact eZ F aQ F i ⟨h,_,_,F,a.dT (g.Y (d.trans c)) dn f⟩
theorem kl(z:Int)(w:World)(h1:-9223372036854775808<=z)(a:z<9223372036854775808):
 aT Tryz.prog 91 #[.int .i64 z] w (RI w z):=by
 refine bo (n:=12) Tryz.func91 F rfl az aA ?_;refine gg ?_;refine aS (.inl F) a_ ?_;intro k f i a;refine gg ?_;by_cases a:z<0
 ·refine aN ?_;refine gg ?_;refine mU nw mg F ?_;refine gg ?_;refine pj F aq ?_;refine gg ?_;refine aJ (pP true _ k (Nat.mod_lt _ aw)) ?_;rintro _ p ⟨c,o,m,rfl,a⟩;refine gg ?_;refine aZ aQ (.inl F) F rfl a.ep a.eN (f.Y c) aw ?_;intro j h d l;refine gg ?_;have g:Ext w j:=d.aK (i.trans c) λb q=>aq;have e:sg true ((18446744073709551616-(z%18446744073709551616).toNat)%18446744073709551616)=z:=by rw[fb];omega
  rw[e]at a;exact eZ F aQ F h ⟨g,_,_,F,a.dT (f.Y c) dn d⟩
 ·refine aN ?_;refine gg ?_;refine mU nw mg F ?_;refine gg ?_;refine aJ (pP false _ k aq) ?_;rintro _ p ⟨c,o,m,rfl,a⟩;refine gg ?_;refine aZ aQ (.inl F) F rfl a.ep a.eN (f.Y c) aw ?_;intro j h d l;refine gg ?_;have g:Ext w j:=d.aK (i.trans c) λb q=>aq;have e:sg false ((z%18446744073709551616).toNat)=z:=by rw[eY];omega
  rw[e]at a;exact eZ F aQ F h ⟨g,_,_,F,a.dT (f.Y c) dn d⟩
theorem r5(p o:Option Addr)(i f s r:Nat)(a b:List Nat)(w:World)(h1:fM w p a)(l:fM w o b)(t:a.length=i)(k:b.length=f)(z:i<1099511627776)(z:f<1099511627776)(y:dz a)(x:dz b):
 aT Tryz.prog 52 #[.slice p i s,.slice o f r] w λv h=>Ext w h/\v=.int .i64 (fl (val a) (val b)):=by
 subst t k;refine bo (n:=41) Tryz.func52 F rfl az aA ?_;refine gg ?_;by_cases f:a.length=b.length
 case neg=>
  refine aN ?_;refine gg ?_;refine aN ?_;by_cases i:a.length<b.length
  ·refine gg ?_;refine bF (v:=.int _ _) F rfl ⟨Ext.refl _,?_⟩;rw[fl,ab (il h1.fD x i)]
  ·refine gg ?_;refine bF (v:=.int _ _) F rfl ⟨Ext.refl _,?_⟩;have:=il l.fD y aq;rw[fl,aa aq,ab this];rfl
 refine aN ?_;refine gg ?_;refine aN ?_;refine gg ?_;have d:=f;refine aU (λm f h=>∃k,m=k/\k<=a.length/\f 0=.slice p a.length s/\f 1=.slice o b.length r/\f 5=.int .i64 ((k:Int)-1)/\Ext w h/\a.drop k=b.drop k) a.length ⟨_,rfl,aD,rfl,rfl,rfl,Ext.refl _,by rw[d];simp[<-d]⟩ ?_;rintro m f f ⟨k,rfl,f,h,f,e,q,g⟩;rw[ui h,ui f];rcases m with _|j
 ·rw[ui e];refine aN ?_;refine gg ?_;refine bF (v:=.int _ _) F rfl ⟨q,?_⟩;have:val a=val b:=by simp at g;rw[g]
  rw[fl,aa aq,aa aq];rfl
 ·have f:(((j+1:Nat):Int)-1)=(j:Int):=aq;rw[f]at e;rw[ui e];refine aN ?_;refine gg ?_;refine b_ [(0,3),(1,3),(2,3),(3,0),(4,3),(5,3),(6,3),(7,0),(8,3)] mixed az λe e _=>?_;have c:=q.trans e;obtain⟨e,rfl,u⟩:=(h1.Y c).at (j:=j) aq;obtain⟨e,rfl,e⟩:=(l.Y c).at (j:=j) aq;have h:=u j aq;have f:=e j aq;by_cases e:a.getD j 0=b.getD j 0
  ·refine gg ?_;refine⟨j,aq,j,F,aq,F,F,F,c,?_⟩;rw[drop_cons a j aq,drop_cons b j aq,g,e]
  ·refine gg ?_;refine aN ?_;refine b_ [(0,3),(1,3),(2,3),(3,0),(4,3),(5,3),(6,3),(7,0),(8,3)] mixed az λe e _=>?_;have h:=aP e h;have f:=aP e f;by_cases f:a.getD j 0<b.getD j 0
   ·refine gg ?_;refine bF (v:=.int _ _) F rfl ⟨c.trans e,?_⟩;rw[fl,ab (nY h1.fD d aq g f)]
   ·refine gg ?_;refine bF (v:=.int _ _) F rfl ⟨c.trans e,?_⟩;have:=nY l.fD d.symm aq g.symm (show b.getD j 0<a.getD j 0 by omega);rw[fl,aa aq,ab this];rfl
theorem val_inj{b a:List Nat}(h1:fH b)(f:fH a)(e:dz b)(d:dz a)(h:val b=val a):b.length=a.length:=by
 rcases Nat.lt_trichotomy b.length a.length with c|c|c
 ·have:=il h1 d c;omega
 ·exact c
 ·have:=il f e c;omega
theorem Mb{a b:Bool}{m n:Nat}(f:m=0->a=false)(d:n=0->b=false)(h:sg a m=sg b n):a=b/\m=n:=by
 have e:m=n:=by rw[<-iq a m,h,iq]
 subst e;refine⟨?_,F⟩;rcases Nat.eq_zero_or_pos m with c|c
 ·rw[f c,d c]
 ·cases a<;>cases b<;>simp[sg]at h⊢<;>omega
theorem sK(y u x t:Value)(q b:Int)(r N2:Nat)(w:World)(h1:CV w y u q)(C:CV w x t b)(H:r<1099511627776)(_hN2:N2<1099511627776)(I:q.natAbs<B^r)(H:b.natAbs<B^N2):
 aT Tryz.prog 17 #[.agg #[y,u],.agg #[x,t]] w λv t=>Ext w t/\v=.bool (decide (q=b)):=by
 have A:=h1.iv I;have z:=C.iv H;obtain⟨c,b,d,b,rfl,rfl,b,b,p,m,E,rfl⟩:=h1;obtain⟨g,b,f,b,rfl,rfl,b,b,o,k,D,rfl⟩:=C;have b:d.length<=r:=by
  obtain⟨_,_,l,_,_,e,_,_,_,b,_⟩:=A;injection e with _ e _;omega
 have q:f.length<=N2:=by
  obtain⟨_,_,l,_,_,e,_,_,_,b,_⟩:=z;injection e with _ e _;omega
 clear A z;refine bo (n:=27) Tryz.func17 F rfl az aA ?_;refine gg ?_;refine bO (v:=.agg _) (.inl F) F ?_;intro b u t b;refine gg ?_;refine bO (v:=.agg _) (.inl F) F ?_;intro x r q b;have b:=u.Y q;have u:=iR b;have u:=fG b;have b:=iR r;have b:=fG r;have j:=t.trans q;by_cases i:c=g
 ·have s:(c == g)=true:=by simpa using i
  refine gg ?_;rw[s];refine gg ?_;by_cases G:d.length=f.length
  ·refine gg ?_;refine aJ (r5 _ _ _ _ _ _ d f x (p.Y j) (o.Y j) F rfl aq aq m k) ?_;rintro _ b ⟨b,rfl⟩;refine gg ?_;refine bF (v:=.bool _) F rfl ⟨j.trans b,?_⟩;congr 1;apply decide_eq_decide.2;subst i;rw[fl];constructor
   ·intro h;have e:val d=val f:=by
     by_cases a:val d<val f
     ·rw[ab a]at h;cases h
     ·by_cases b:val f<val d
      ·rw[aa a,ab b]at h;cases h
      ·omega
    rw[e]
   ·intro h;have e:val d=val f:=by rw[<-iq c (val d),h,iq]
    rw[aa aq,aa aq]
  ·refine gg ?_;refine bF (v:=.bool _) F rfl ⟨j,?_⟩;congr 1;refine(decide_eq_false ?_).symm;intro h;subst i;exact G (val_inj p.fD o.fD m k (by rw[<-iq c (val d),h,iq]))
 ·have s:(c == g)=false:=by simpa using i
  refine gg ?_;rw[s];refine gg ?_;refine bF (v:=.bool _) F rfl ⟨j,?_⟩;congr 1;refine(decide_eq_false ?_).symm;intro h;exact i (Mb (λe=>E (val_zero m e)) (λe=>D (val_zero k e)) h).1
theorem fN(l:List Nat)(k:Nat):val (l.take (k+1))=val (l.take k)+B^k*l.getD k 0:=by
 by_cases h:k<l.length
 ·exact bN l k h
 ·rw[dk _ _ aq,dk _ _ aq];simp[List.getD,h]
theorem lB(l:List Nat)(x:Nat):val (l++[x])=val l+B^l.length*x:=by rw[jJ];simp[val]
theorem Hh{l:List Nat}(h:fH l){x:Nat}(c:x<4294967296):fH (l++[x]):=by
 intro y b;rcases List.mem_append.1 b with a|a
 ·exact h y a
 ·simp at a;rw[a];exact c
def oQ(w:World)(base:Nat)(v:Value)(l:List Nat):Prop:=fH l/\w.ownsRow base 153 1 v l.length (l.map λx=>Value.int .u32 ((x:Nat):Int))
theorem oQ.nil(w:World)(base:Nat):oQ w base (.slice none 0 0) []:=⟨(λ_ h=>by cases h),World.ownsRow_nil _ _ _ _⟩
theorem oQ.Y{w w':World}{base:Nat}{v:Value}{l:List Nat}(h:oQ w base v l)(e:Ext w w'):oQ w' base v l:=by
 refine⟨h.1,h.2.1,?_⟩;rcases h.2.2 with c|⟨g,b,a,o,m,j,i⟩
 ·exact .inl c
 ·have c:bg w g 153 a:=j;exact .inr ⟨g,b,a,o,m,c.Y e,i⟩
theorem oQ.mb{w:World}{base:Nat}{v:Value}{l:List Nat}(h:oQ w base v l){b:Nat}(a:some b=v.ownBlock):base<=b:=by
 rcases h.2.2 with⟨rfl,_⟩|⟨g,cap,cur,rfl,h2,_⟩
 ·simp[Value.ownBlock]at a
 ·simp[Value.ownBlock]at a;omega
def Ln(w:World)(v:Value)(N m:Nat):Prop:=∃A l c,v=.slice A l.length c/\l.length<=c/\c<9223372036854775808/\fM w A l/\l.length<=N/\val l=m
theorem oQ.My{w:World}{base N:Nat}{v:Value}{l:List Nat}(h:oQ w base v l)(a:l.length<=N):Ln w v N (val l):=by
 rcases sU h.2 with⟨rfl,rfl⟩|⟨g,c,rfl,_,h1,h2,h3⟩
 ·exact⟨none,[],0,F,aD,aq,fM.nil _ _,aA,F⟩
 ·exact⟨_,l,c,F,h1,aq,h3.J2 h.1,a,F⟩
section
variable {n:Nat}{S:World->World->Prop}{k:Nat}{K:Fr->World->Prop}{f:Fr}{w:World}
 {d ty t t2:Nat} {x y:Operand} {pos:String} {aft:Array Edge} {gd:Option (Nat×Bool)}
theorem mS{base g a:Nat}{v:Value}{l:List Nat}(u:k=2)(s:ev n f x=v)(i:oQ w base v l)(r:ev n f y=.slice (some ⟨g,0,none⟩) 1 1)(z:bg w g 153 #[.int .u32 (a:Int)])(A:a<4294967296)
 (b:l.length<4398046511104) (p:base<=w.heap.size)
 (h:∀o e,oQ e base o (l++[a])->Ch (λb=>some b=v.ownBlock) w e->K (cg f d o) e):
 R1 Tryz.prog n S k ⟨some d,.call { callee:=.builtin .append,args:=#[x,y],argTypes:=#[42,42] },ty,pos,aft,gd⟩ K f w:=by
 refine ou (base:=base) (m0:=l.length) (m:=1) (news:=[.int .u32 (a:Int)]) (v:=v) dM F aw (.inl u) s i.2 r F (λj u c=>?_) (λu q=>by simp at q;subst q;rfl) aq aq p ?_
 ·match j,c with
  |0,c=>simp at c;subst c;exact⟨_,F,by rw[add_lit,z.cell];rfl⟩
  |j+1,c=>simp at c
 ·intro o e b c _;refine h o e ⟨Hh i.1 A,?_⟩ c;rw[List.length_append,List.map_append];exact b
end
theorem Ju(W L:Option Addr)(O m Q P:Nat)(g a:List Nat)(w:World)(h1:fM w W g)(V:fM w L a)(a7:g.length=O)(a6:a.length=m)(ai:O<1099511627776)(ai:m<1099511627776):
 aT Tryz.prog 177 #[.slice W O Q,.slice L m P] w λv p=>Ext w p/\Ln p v (O+m+1) (val g+val a):=by
 subst a7 a6;refine bo (n:=54) Tryz.func177 F rfl az aA ?_;refine gg ?_;refine aY (λf p=>∃v l c,f 5=v/\f 6=.int .u64 ((c:Nat):Int)/\Ext w p/\oQ p w.heap.size v l/\l.length<=g.length+a.length/\c<=1/\val l+c*B^l.length=val g+val a) ?_ ?_
 ·refine gg ?_;refine aU (λm f p=>∃i v l c,m=g.length+a.length-i/\f 0=.slice W g.length Q/\f 1=.slice L a.length P/\f 5=v/\f 6=.int .u64 ((c:Nat):Int)/\f 7=.int .i64 ((i:Nat):Int)/\Ext w p/\oQ p w.heap.size v l/\l.length=i/\i<=g.length+a.length/\c<=1/\
   val l+c*B^i=val (g.take i)+val (a.take i)) (g.length+a.length) ⟨0,_,[],0,F,F,F,F,F,F,Ext.refl _,oQ.nil _ _,F,aq,aq,by simp[val]⟩ ?_
  rintro m f U ⟨i,v,l,c,rfl,s,r,o,h,q,z,A,H,m,Z,G⟩;rw[ui s,ui r,ui o,ui h,ui q];clear s r o h q;refine aN ?_;have m:=h1.fD.getD i;have m:=V.fD.getD i;by_cases m:i<g.length\/i<a.length
  ·by_cases a8:i<g.length
   ·obtain⟨ad,rfl,m⟩:=(h1.Y z).at (j:=i) aq;have hx:=m i aq;refine gg ?_;refine aY (λf p=>U=p/\f 0=.slice (some ad) g.length Q/\f 1=.slice L a.length P/\f 5=v/\f 6=.int .u64 ((c+g.getD i 0:Nat):Int)/\f 7=.int .i64 (i:Int)) ?_ ?_
    ·refine aN ?_;refine gg ?_;exact⟨F,F,F,F,F,F⟩
    rintro f p ⟨rfl,s,r,o,h,q⟩;rw[ui s,ui r,ui o,ui h,ui q];clear s r o h q hx;refine aY (λf p=>U=p/\f 0=.slice (some ad) g.length Q/\f 1=.slice L a.length P/\f 5=v/\f 6=.int .u64 ((c+g.getD i 0+a.getD i 0:Nat):Int)/\f 7=.int .i64 (i:Int)) ?_ ?_
    ·refine aN ?_;by_cases T:i<a.length
     ·obtain⟨ae,rfl,M⟩:=(V.Y z).at (j:=i) aq;have hy:=M i aq;refine gg ?_;exact⟨F,F,F,F,F,F⟩
     ·have:a.getD i 0=0:=by simp[List.getD,T]
      refine gg ?_;exact⟨F,F,F,F,by rw[this];rfl,F⟩
    rintro f p ⟨rfl,s,r,o,h,q⟩;rw[ui s,ui r,ui o,ui h,ui q];clear s r o h q;refine gg ?_;refine dp dM F (.inl F) F rfl ?_;intro Y E u R;refine gg ?_;refine mS F rfl (A.Y u) F E (Nat.mod_lt _ aw) aq (by have:=z.size;omega) ?_;intro I X C D;refine gg ?_;refine⟨_,?_,i+1,I,_,_,F,F,F,F,F,F,D.aK (z.trans u) (λb J=>A.mb J),C,by simp[H],aq,?_,?_⟩
    ·omega
    ·omega
    ·have e:=nW (B^i) (val l) c _ (g.getD i 0) (a.getD i 0) G;rw[lB,H,fN g,fN a,Nat.pow_succ,Nat.add_assoc c];refine e.trans ?_;omega
   ·have T:i<a.length:=aq;have a1:g.getD i 0=0:=by simp[List.getD,a8]
    obtain⟨ae,rfl,M⟩:=(V.Y z).at (j:=i) aq;have hy:=M i aq;refine gg ?_;refine aN ?_;refine aN ?_;refine gg ?_;refine aN ?_;refine aN ?_;refine gg ?_;refine dp dM F (.inl F) F rfl ?_;intro Y E u R;refine gg ?_;refine mS F rfl (A.Y u) F E (Nat.mod_lt _ aw) aq (by have:=z.size;omega) ?_;intro I X C D;refine gg ?_;refine⟨_,?_,i+1,I,_,_,F,F,F,F,F,F,D.aK (z.trans u) (λb J=>A.mb J),C,by simp[H],aq,?_,?_⟩
    ·omega
    ·omega
    ·have e:=oh (B^i) (val l) c _ (a.getD i 0) G;rw[lB,H,fN g,fN a,Nat.pow_succ,a1,Nat.mul_zero,Nat.add_zero];refine e.trans ?_;omega
  ·refine gg ?_;rw[dk g i aq,dk a i aq]at G;exact⟨v,l,c,F,F,z,A,aq,Z,by rw[H];exact G⟩
 ·rintro f U ⟨v,l,c,o,h,z,A,H,Z,G⟩;rw[ui o,ui h];clear o h;refine gg ?_;refine dp dM F (.inl F) F rfl ?_;intro Y E u R;refine gg ?_;refine mS F rfl (A.Y u) F E (Nat.mod_lt _ aw) aq (by have:=z.size;omega) ?_;intro I X C D;refine gg ?_;refine bF (v:=I) F rfl ⟨D.aK (z.trans u) λb J=>A.mb J,?_⟩;have:=C.My (N:=g.length+a.length+1) (by simp;omega);rw[lB,Nat.mod_eq_of_lt aq,Nat.mul_comm,G]at this;exact this
