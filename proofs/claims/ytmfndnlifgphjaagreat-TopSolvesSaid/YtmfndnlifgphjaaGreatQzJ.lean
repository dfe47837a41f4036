import Derived.Test.YtmfndnlifgphjaaGreatQzI
import Derived.Deep.Strs
import Derived.WideShapes
set_option maxHeartbeats 64000000
open Go.Proofs.YtmfndnlifgphjaaGreat
namespace Go.Proofs.Qq
section
open Go Go.cU Go.cV Go.Proofs Go.Se
open Go.bc (aQ)
open Go.Sm (fy gj)
section
variable {n:Nat}{S:World->World->Prop}{k:Nat}{K:Fr->World->Prop}{f:Fr}{w:World}{d ty:Nat}{x:Operand}{pos:String}{aft:Array Edge}{gd:Option (Nat×Bool)}
theorem xS{a b c e:Value}(g:ev n f x=.agg #[a,b,c,e])(h:K (bS f d (.agg #[c,e])) w):R1 Tryz.prog n S k ⟨some d,.field 42 x 1,ty,pos,aft,gd⟩ K f w:=by
 refine cD (v:=.agg #[c,e]) (λw=>?_) h;simp[execOp,g,Instr.field,run_underlying Tryz.underlying42,asAgg,part,fP aN,iG aN]
end
theorem By{n d a b:Int}(g:d≠0)(i:b≠0)(h:n*b=a*d):fL n d=1↔b∣a:=by
 constructor
 ·intro e;have c:=pN g h;rw[e,Int.mul_one]at c;exact⟨ic n d,by rw[<-c,Int.mul_comm]⟩
 ·rintro⟨k,e⟩;have c:n=k*d:=by
   refine Int.eq_of_mul_eq_mul_right i ?_;rw[h,e];grind
  have e:fF n d=d:=by
   have i:Int.gcd n d=d.natAbs:=by rw[c];exact Int.gcd_mul_left_left ..
   unfold fF;rw[i];split<;>omega
  unfold fL;rw[e];exact Int.ediv_self g
theorem mG(x y j i:Value)(a b:Int)(N:Nat)(w:World)(h:Qv w N x y j i a b)(t:1<=N)(A:N<68719476736)(z:b≠0):
 aT Tryz.prog 11 #[.agg #[x,y,j,i]] w λv c=>Ext w c/\v=.bool (decide (b∣a)):=by
 obtain⟨u,p,q,r,e,g,c,B⟩:=h;refine bF (n:=9) Tryz.func11 F rfl aw aA ?_;refine gg ?_;refine aZ (v:=.agg _) (.inl F) F ?_;intro l m c o;have s:bh l w.heap.size 42 #[x,y,j,i]:=m;obtain⟨o,m,j,i⟩:=vh s;refine gg ?_;refine kg ar dU F o m j i ?_;refine gg ?_;refine aJ (iQ _ _ _ _ u p N l ((q.Y c).iv e) ((r.Y c).iv g) A aq) ?_;rintro _ r ⟨q,l,l,l,l,rfl,l,l⟩;clear o m j i;have i:=pO e g;have j:=By (show p≠0 by omega) z B;refine gg ?_;refine xS F ?_;refine gg ?_;refine aJ (iy 1 r ar ar) ?_;rintro _ g ⟨e,m,s1,rfl,m⟩;refine gg ?_;refine aJ (A_ _ _ _ _ _ _ N g ((l.Y e).iv i.2) (m.iv (Bd.mono (N:=1) (by unfold Bd;decide) t)) aq) ?_;rintro _ g ⟨g,rfl⟩;refine gg ?_;refine cI (v:=.bool _) F rfl ⟨c.trans (q.trans (e.trans g)),?_⟩;congr 1;refine decide_eq_decide.2 ?_;rw[<-j];unfold iM;split
 ·omega
 ·split<;>omega
theorem oF(v:Value)(n N:Nat)(M:Nat->Nat->Int)(w:World)(h:cO (EI N) w v n (λ_=>n) M)(r:(aQ n M).natAbs<=4294967296)(m:1<=n)(B:n<=4)(E:2<=N)(G:N<=8):
 aT Tryz.prog 7 #[v] w λu a=>Ext w a/\∃x y,(aQ n M=0/\u=.tuple #[.agg #[x,y],.bool false]/\CV a x y 0)\/
  (aQ n M≠0/\∃D,fy n D/\gj n M D/\Bd 2 (D (n-1) (n-1))/\u=.tuple #[.agg #[x,y],.bool true]/\CV a x y (D (n-1) (n-1))):=by
 obtain⟨a,a,a,_⟩:=id h;have mP:Bd 2 (aQ n M):=by unfold Bd;exact Nat.lt_of_le_of_lt r ar
 refine bF (n:=32) Tryz.func7 F rfl aw aA ?_;refine gg ?_;refine aR (.inl F) a_ ?_;intro a u l b;have e:Bx a w.heap.size 1 true 0:=Bx.zero true u;obtain⟨a,a⟩ : ∃g,g=w.heap.size:=⟨_,F⟩;rw[<-a]at e⊢;refine gg ?_;refine aJ (yD (h.Y l) aq aq m aq) ?_;rintro _ j ⟨i,a,a,rfl,a⟩;rw[jw]at a;refine gg ?_;refine aR (.inl F) a_ ?_;intro o t b c;have c:Bx o j.heap.size 1 true 0:=Bx.zero true t;obtain⟨o,o⟩ : ∃g,g=j.heap.size:=⟨_,F⟩;rw[<-o]at c⊢;have j:=l.size;have j:=i.size;have q:=e.Y (i.trans b);refine gg ?_;refine aL (.inl F) F rfl c ((a.Y b).ev true mP) ?_;intro z o s C j;have j:Ext w z:=s.aK (l.trans (i.trans b)) λb A=>aq;have p:=q.kp C s aq;clear c q u t e a;obtain⟨a,a,l,e⟩:=id o;obtain⟨C,u⟩:=a9 l;have t:=h.Y j;refine gg ?_;refine aP ?_;refine gg ?_;refine aJ (cE _ _ _ 2 z e.1 aq) ?_;rintro _ q ⟨a,rfl⟩;have i:=p.Y a;have s:=t.Y a;have c:=j.trans a;clear C u l e o p t j;by_cases l:aQ n M=0
 ·have j:(aQ n M).sign=0:=by rw[l];rfl
  rw[j];refine gg ?_;refine fp ij ?_;refine gg ?_;refine aL (N':=1) (.inl F) F rfl i ((CV.zero q).ev true (Bd.zero 1)) ?_;intro u e t o o;refine gg ?_;obtain⟨x,y,p,o⟩:=e;exact uA (v:=.bool _) F aN F p F ⟨t.aK c λb A=>aq,x,y,.inl ⟨l,F,o.2 F⟩⟩
 ·have j:¬(aQ n M).sign=0:=by rw[Int.sign_eq_zero_iff_zero];exact l
  refine gg ?_;refine aJ (sI v n N M q s aq r m B E G) ?_;rintro _ u ⟨j,g,D,rfl,BI,q,g⟩;have e:=i.Y j;have m:=c.trans j;clear i c s a j;obtain⟨a,a,a,a,a⟩:=g.at (show n-1<n by omega);refine gg ?_;refine aL (.inl F) F rfl e a ?_;intro c c e g g;refine gg ?_;obtain⟨x,y,p,o⟩:=c;exact uA (v:=.bool _) F aN F p F ⟨e.aK m λb A=>aq,x,y,.inr ⟨l,D,BI,q,a.bd,F,o.2 F⟩⟩
end
section
open Go Go.cU Go.cV Go.Proofs
open Go.Hn (Hf)
theorem xe(O n N:Nat)(gh:Nat->Nat)(H:Nat->Nat->Int)(w:World)(R:bO w O gh (λ_=>n) n n true (λ_ _=>N) H)(V:Hf n H)(Y:1<=n)(hn:n<=16)(u:N<=1048576):
 aT Tryz.prog 40 #[.slice (some ⟨O,0,none⟩) n n] w λu g=>Ext w g/\∃A C,u=.tuple #[.slice A n C,.bool true]/\kq g (.slice A n C) n λk=>k:=by
 refine bF (n:=104) Tryz.func40 F rfl aw aA ?_;refine gp ?_;refine aJ (lP _ _ n (λ_=>n) H w (R.read aq aq)) ?_;rintro _ _ ⟨rfl,rfl⟩;have u:l_ n (λ_=>n)=true:=cX.2 ⟨⟨Y,hn,Y,hn⟩,λ_ _=>rfl⟩;rw[iJ u];refine gp ?_;refine aP ?_;refine gp ?_;refine aX (λf g=>∃A C,f 7=.slice A n C/\Ext w g/\kq g (.slice A n C) n λk=>k) ?_ ?_
 ·refine gp ?_;refine aU (λq f g=>∃c M L,q=n-c/\c<=n/\f 0=.slice (some ⟨O,0,none⟩) n n/\f 4=.int .i64 (n:Int)/\f 5=.int .i64 (n:Int)/\f 7=.slice M c L/\f 20=.int .i64 (n:Int)/\f 21=.int .i64 ((c:Nat):Int)/\Ext w g/\lJ 3 (.int .i64 0) g (.slice M c L) c (λk=>.int .i64 ((k:Nat):Int))/\∀b,some b=(Value.slice M c L).ownBlock->w.heap.size<=b)
   n ⟨0,none,0,F,aE,F,F,F,F,F,F,Ext.refl w,lJ.nil,λb E=>(by cases E)⟩ ?_
  rintro q f w1 ⟨c,M,L,rfl,u,o,m,l,i,d,a,x,K,a0⟩;rw[ui o,ui m,ui l,ui i,ui d,ui a];clear o m l i d a;refine aP ?_;by_cases t:c<n;rotate_left
  ·obtain rfl:c=n:=aq;refine gp ?_;exact⟨_,_,F,x,K.ints λ_ _=>rfl⟩
  refine gp ?_;refine aX (λf g=>f 0=.slice (some ⟨O,0,none⟩) n n/\f 4=.int .i64 (n:Int)/\f 5=.int .i64 (n:Int)/\f 7=.slice M c L/\f 20=.int .i64 (n:Int)/\f 21=.int .i64 (c:Int)/\f 8=.int .i64 (c:Int)/\f 9=.int .i64 (c:Int)/\Ext w1 g) ?_ ?_
  ·refine gp ?_;refine aU (λq f g=>∃j,q=n-j/\j<=c/\f 0=.slice (some ⟨O,0,none⟩) n n/\f 4=.int .i64 (n:Int)/\f 5=.int .i64 (n:Int)/\f 7=.slice M c L/\f 20=.int .i64 (n:Int)/\f 21=.int .i64 (c:Int)/\f 8=.int .i64 (c:Int)/\f 9=.int .i64 ((j:Nat):Int)/\Ext w1 g)
    n ⟨0,F,aE,F,F,F,F,F,F,F,F,Ext.refl _⟩ ?_
   rintro q f S ⟨j,rfl,hj,o,m,l,i,d,a,r,p,s⟩;rw[ui o,ui m,ui l,ui i,ui d,ui a,ui r,ui p];clear o m l i d a r p;refine aP ?_;have P:j<n:=aq;have y:=R.Y (x.trans s);have u:=y.at P;obtain⟨x0,y0,B,z,D⟩:=(y.row j P).at t;refine gp ?_;refine aJ (cE _ _ _ N S D.1 aq) ?_;rintro _ Q ⟨J,rfl⟩;by_cases a7:j=c
   ·subst a7;have u:¬(H j j).sign=0:=λh=>by have:=V.pos j P;have:=Int.sign_eq_zero_iff_zero.1 h;omega
    refine gp ?_;exact⟨F,F,F,F,F,F,F,F,s.trans J⟩
   ·have u:(H j c).sign=0:=by rw[V.up j c P t aq];rfl
    refine gp ?_;refine⟨_,?_,j+1,F,aq,F,F,F,F,F,F,F,F,s.trans J⟩;omega
  rintro f S ⟨o,m,l,i,d,a,r,p,s⟩;rw[ui o,ui m,ui l,ui i,ui d,ui a,ui r,ui p];clear o m l i d a r p;refine aP ?_;replace x:=x.trans s;replace K:=K.Y s;clear s;have y:=R.Y x;have G:=y.at t;obtain⟨x0,y0,B,z,D⟩:=(y.row c t).at t;refine gp ?_;have u:¬(H c c).sign<0:=λh=>by have T:=V.pos c t;rw[Int.sign_eq_one_of_pos T]at h;omega
  refine aX (λf g=>f 0=.slice (some ⟨O,0,none⟩) n n/\f 4=.int .i64 (n:Int)/\f 5=.int .i64 (n:Int)/\f 7=.slice M c L/\f 20=.int .i64 (n:Int)/\f 21=.int .i64 (c:Int)/\f 8=.int .i64 (c:Int)/\f 9=.int .i64 (c:Int)/\Ext S g) ?_ ?_
  ·by_cases ab:c=0
   ·subst ab;refine gp ?_;refine aJ (cE _ _ _ N S D.1 aq) ?_;rintro _ Q ⟨J,rfl⟩;refine gp ?_;exact⟨F,F,F,F,F,F,F,F,J⟩
   ·obtain⟨u,u,P,u⟩:=K.at (show c-1<c by omega);injection P with aj u u;subst aj;refine gp ?_;refine aJ (cE _ _ _ N S D.1 aq) ?_;rintro _ Q ⟨J,rfl⟩;refine gp ?_;exact⟨F,F,F,F,F,F,F,F,J⟩
  rintro f Q ⟨o,m,l,i,d,a,r,p,s⟩;rw[ui o,ui m,ui l,ui i,ui d,ui a,ui r,ui p];clear o m l i d a r p;replace x:=x.trans s;replace K:=K.Y s;clear s y G B z D;have y:=R.Y x;have G:=y.at t;refine aX (λf g=>f 0=.slice (some ⟨O,0,none⟩) n n/\f 4=.int .i64 (n:Int)/\f 5=.int .i64 (n:Int)/\f 7=.slice M c L/\f 20=.int .i64 (n:Int)/\f 21=.int .i64 (c:Int)/\f 8=.int .i64 (c:Int)/\f 9=.int .i64 (c:Int)/\Ext Q g) ?_ ?_
  ·refine gp ?_;refine rQ eE F rfl (show c<=n by omega) ?_;refine gp ?_;refine aU (λq f g=>∃j,q=c-j/\j<=c/\f 0=.slice (some ⟨O,0,none⟩) n n/\f 4=.int .i64 (n:Int)/\f 5=.int .i64 (n:Int)/\f 7=.slice M c L/\f 20=.int .i64 (n:Int)/\f 21=.int .i64 (c:Int)/\f 8=.int .i64 (c:Int)/\f 9=.int .i64 (c:Int)/\f 76=.slice (some ⟨gh c,0,none⟩) c n/\f 77=.int .i64 (c:Int)/\f 78=.int .i64 ((j:Nat):Int)/\Ext Q g)
    c ⟨0,F,aE,F,F,F,F,F,F,F,F,F,F,F,Ext.refl _⟩ ?_
   rintro q f w4 ⟨j,rfl,hj,o,m,l,i,d,a,r,p,u,q,g,s⟩;rw[ui o,ui m,ui l,ui i,ui d,ui a,ui r,ui p,ui u,ui q,ui g];clear o m l i d a r p u q g;by_cases a6:j<c;rotate_left
   ·obtain rfl:j=c:=aq;refine gp ?_;exact⟨F,F,F,F,F,F,F,F,s⟩
   have J:=R.Y (x.trans s);obtain⟨x0,y0,B,z,D⟩:=(J.row c t).at (show j<n by omega);refine gp ?_;refine aR (.inl F) a_ ?_;intro g L u M;have q:=Bx.zero (N:=N) true L;obtain⟨g,O⟩ : ∃g,g=w4.heap.size:=⟨_,F⟩;rw[<-O]at q⊢;refine gp ?_;refine aL (.inl F) F rfl q (D.Y u) ?_;intro w6 P g O W;have S:=s.size;have I:Ext Q w6:=g.aK (s.trans u) λb E=>aq;clear L u M q g O W J B z D s;refine gp ?_;refine b7 [(0,0),(1,2),(2,3),(3,3),(4,0),(5,3),(6,3),(7,3),(8,0),(9,3),(10,3),(11,0),(12,1),(13,3),(14,3)] mixed aw λw7 U _=>?_;have g:=R.Y (x.trans (I.trans U));obtain⟨q,q,q,Z⟩:=P.Y U;obtain⟨f0,f1⟩:=a9 q;have G:=g.at t;obtain⟨x0,y0,B,z,D⟩:=(g.row c t).at t;have X:=V.red c j t a6;have g:¬(H c j).sign<0:=λh=>by
    rcases Int.lt_or_eq_of_le X.1 with T|T
    ·rw[Int.sign_eq_one_of_pos T]at h;omega
    ·rw[<-T]at h;exact absurd h ar
   have q:iM (H c j) (H c c)=- 1:=by unfold iM;rw[ae X.2]
   refine gp ?_;refine aJ (cE _ _ _ N w7 Z.1 aq) ?_;rintro _ h ⟨g,rfl⟩;replace f0:=aS g f0;replace f1:=aS g f1;replace G:=aS g G;replace B:=aS g B;replace z:=aS g z;refine gp ?_;refine aM (yI _ _ _ _ _ _ N h (Z.1.Y g) (D.1.Y g) aq) ?_;rintro _ h ⟨h,rfl⟩;refine⟨h,?_⟩;rw[q];refine gp ?_;refine⟨_,?_,j+1,F,aq,F,F,F,F,F,F,F,F,F,F,F,I.trans (U.trans (g.trans h))⟩;omega
  rintro f w4 ⟨o,m,l,i,d,a,r,p,s⟩;rw[ui o,ui m,ui l,ui i,ui d,ui a,ui r,ui p];clear o m l i d a r p;replace x:=x.trans s;replace K:=K.Y s;clear s y G;refine gp ?_;refine eM (v0:=.int .i64 (c:Int)) iP F (.inl F) F rfl ?_;intro w6 d I W;have a:=ir d;refine gp ?_;refine pe iP F (.inl F) F rfl (K.Y I) a F aq ar (λ_ _ _=>aA) (λ_=>aA) ?_;intro v' w7 a1 a ai a5;obtain⟨a3,a2,rfl,_,_⟩:=a1.slice;have ad:Ext w w7:=ai.aK (x.trans I) λb E=>a0 b E;have a4:∀b,some b=(Value.slice a3 (c+1) a2).ownBlock->w.heap.size<=b:=λb E=>by
   rcases a5 with e|e
   ·rw[e]at E;exact a0 b E
   ·rw[e]at E;injection E with E;have:=(x.trans I).size;omega
  refine gp ?_;refine⟨_,?_,c+1,a3,a2,F,aq,F,F,F,F,F,F,ad,a1.congr λk a=>?_,a4⟩
  ·omega
  ·by_cases e:k=c
   ·rw[ae e,e]
   ·rw[aa e]
 ·rintro f w1 ⟨A,C,i,x,a⟩;rw[ui i];clear i;refine gp ?_;exact fK (v:=.slice _ _ _) (v':=.bool _) F rfl rfl ⟨x,A,C,F,a⟩
end
end Go.Proofs.Qq
namespace Go.Hn
section
open Go.bc
def kR(H:Mt)(b:Nat->Int):Nat->Nat->Int
 |0,i=>b i
 |c+1,i=>kR H b c i-kR H b c c/H c c*H i c
section
variable {n:Nat}{H:Mt}{b:Nat->Int}
theorem yj(H:Mt)(b:Nat->Int)(i:Nat):∀c,b i=kR H b c i+sm c λk=>H i k*(kR H b k k/H k k)
 |0=>by simp[kR,sm]
 |c+1=>by
  have h:=yj H b i c;simp only[kR,sm];rw[h];grind
theorem sj(a:Hf n H):∀c,c<=n->(∀k,k<c->H k k∣kR H b k k)->∀p,p<c->kR H b c p=0
 |0,_,_,p,hp=>aq
 |c+1,hc,d,p,hp=>by
  simp only[kR];by_cases e:p=c
  ·subst e;rw[Int.ediv_mul_cancel (d p aq)];omega
  ·rw[sj a c aq (λk e=>d k aq) p aq,a.up p c aq aq aq];omega
theorem uv(d:Hf n H){y:Nat->Int}(h:∀i,i<n->b i=sm n λk=>H i k*y k):∀c,c<=n->∀i,i<n->kR H b c i=sm n λk=>if k<c then 0 else H i k*y k
 |0,_,i,hi=>by
  simp only[kR];rw[h i hi];exact aO λk _=>by rw[aa aq]
 |c+1,hc,i,hi=>by
  have g:=uv d h c aq;have m:kR H b c c=H c c*y c:=by
   rw[g c aq,cG (c:=c) aq λk h a=>?_,aa aq];split
   ·rfl
   ·rw[d.up c k aq h aq,Int.zero_mul]
  have h:=d.pos c aq;have d:kR H b c c/H c c=y c:=by rw[m];exact Int.mul_ediv_cancel_left _ aq
  simp only[kR];rw[d,g i hi];have l:(sm n λk=>if k<c then 0 else H i k*y k)=sm n λk=>1*(if k<c+1 then 0 else H i k*y k)+1*(if k=c then y c*H i c else 0):=aO λk _=>by
   by_cases e:k<c
   ·rw[ae e,ae aq,aa aq];omega
   ·by_cases j:k=c
    ·subst j;rw[aa e,ae aq,ae F,Int.mul_comm];omega
    ·rw[aa e,aa aq,aa j];omega
  rw[l,e8,cG (c:=c) (f:=λk=>if k=c then y c*H i c else 0) aq λk _ a=>aa a,ae rfl];omega
theorem DO(d:Hf n H){y:Nat->Int}(e:∀i,i<n->b i=sm n λk=>H i k*y k){c:Nat}(a:c<n):H c c∣kR H b c c:=by
 rw[uv d e c aq c a,cG (c:=c) a λk e f=>?_,aa aq]
 ·exact Int.dvd_mul_right _ _
 ·split
  ·rfl
  ·rw[d.up c k a e aq,Int.zero_mul]
theorem yk(a:Hf n H):(∃y:Nat->Int,∀i,i<n->b i=sm n λk=>H i k*y k)↔∀c,c<n->H c c∣kR H b c c:=by
 constructor
 ·rintro⟨y,d⟩ c c;exact DO a d c
 ·intro e;refine⟨λk=>kR H b k k/H k k,λi d=>?_⟩;have c:=yj H b i n;rw[sj a n (Nat.le_refl n) e i d,Int.zero_add]at c;exact c
theorem Ej{M X:Mt}(f:aQ n X=1\/aQ n X=-1):(∃x:Nat->Int,∀i,i<n->b i=sm n λk=>M i k*x k)↔∃y:Nat->Int,∀i,i<n->b i=sm n λk=>mul n M X i k*y k:=by
 cases n with
 |zero=>exact⟨λ_=>⟨λ_=>0,λi d=>aq⟩,λ_=>⟨λ_=>0,λi d=>aq⟩⟩
 |succ m=>
  have o:=Go.Sm.Inv.sL f;have Dq:∀(A B:Mt) (y:Nat->Int) (i:Nat),(sm (m+1) λk=>mul (m+1) A B i k*y k)=sm (m+1) λl=>A i l*sm (m+1) λk=>B l k*y k:=λA B y i=>by
   have h:=mul_assoc (m+1) (m+1) A B (λk _=>y k) i 0;exact h
  constructor
  ·rintro⟨x,e⟩;refine⟨λk=>sm (m+1) λj=>aQ (m+1) X*fa m X k j*x j,λi d=>?_⟩;rw[e i d,Dq M X];refine aO λl e=>?_;congr 1;have f:=Dq X (λi j=>aQ (m+1) X*fa m X i j) x l;rw[<-f];rw[aO (g:=λk=>(if l=k then 1 else 0)*x k) λk f=>by rw[o.r l k e f];rfl,cG (c:=l) e λk _ e=>by rw[aa (Ne.symm e),Int.zero_mul],ae F,Int.one_mul]
  ·rintro⟨y,e⟩;exact⟨λl=>sm (m+1) λk=>X l k*y k,λi d=>by rw[e i d,Dq M X]⟩
end
end
end Go.Hn
namespace Go.Proofs.Qq
section
open Go Go.cU Go.cV Go.Proofs
open Go.bc (sm aQ mul)
open Go.Hn (Hf kR)
theorem mw.JM{w w':World}{v:Value}{c d n:Nat}{g:Nat->Int}{cn:Bool}{bn:Nat->Nat}{M:Nat->Int}(h:mw w v c g)(i:dk w d n cn bn M)(l:Ch (λb=>b=d) w w'):mw w' v c g:=by
 obtain⟨A,a,e,f,b,k⟩:=h;refine⟨A,a,e,f,b,λj f=>?_⟩;obtain⟨b,e,a⟩:=k j f;have f:(b.add (j*1)).block≠d:=λj=>by
  obtain⟨d,m,d⟩:=i;obtain⟨i,k⟩:=qc m j a;exact js d i _ _ k
 exact⟨b,e,(jK l (World.block_lt_of_cell? w _ a) f).trans a⟩
theorem u7(v u:Value)(n N:Nat)(M:Nat->Nat->Int)(b:Nat->Int)(w:World)(h:cO (EI N) w v n (λ_=>n) M)(T:iN (EI N) w u n b)(aj:aQ n M≠0)(al:Bd N (aQ n M))(ab:1<=n)(hn:n<=16)(b4:1<=N)(hN:N<=8):
 aT Tryz.prog 14 #[v,u] w λu o=>Ext w o/\∃r,u=.bool r/\(r=true↔∃x:Nat->Int,∀i,i<n->b i=sm n λk=>M i k*x k):=by
 obtain⟨u,u,rfl,_⟩:=id h;obtain⟨u,u,rfl,_⟩:=id T;refine bF (n:=105) Tryz.func14 F rfl aw aA ?_;refine gp ?_;refine aJ (pR _ n N M w h aj al ab hn b4 hN) ?_;rintro _ w1 ⟨x,gH,gh,u,u,X,rfl,u,-,-,-,s,-,U,u⟩;rw[Go.Hn.Ej u];obtain⟨H,u⟩ : ∃H,H=mul n M X:=⟨_,F⟩;rw[<-u]at s U⊢;clear u;refine gp ?_;refine aP ?_;refine gp ?_;refine cF eE (.inl F) F rfl aD aq aq ?_;intro u bB u bK;have aj:=ff false 0 bB;obtain⟨y,bg⟩ : ∃g,g=w1.heap.size:=⟨_,F⟩;rw[<-bg]at aj⊢;have bW:=s.lt;have b4:∀i,i<n->gh i<y:=λi K=>by have:=(s.row i K).lt;omega
 have au:¬gH=y:=aq;have an:∀i,i<n->¬gh i=y:=λi K=>by have:=b4 i K;omega
 have al:w.heap.size<=y:=by have:=x.size;omega
 refine gp ?_;refine v8 F rfl aj (T.Y (x.trans u)) aq ?_;intro w3 bu al b5 bI;have bl:Ext w w3:=al.aK (x.trans u) λb T=>aq;have ak:=(s.Y u).kp b5 al au an;clear aj bB al b5 u bK bI bg bW b4 s x h T;refine gp ?_;refine aJ (xe gH n (400+n) gh H w3 ak U ab hn aq) ?_;rintro _ u ⟨a1,A,cap,rfl,I⟩;have bj:=bl.trans a1;have bA:=ak.Y a1;have bt:=bu.Y a1;obtain⟨u,u,u,_,x,Z⟩:=id I;injection u with e1 a e3;subst e1 e3;obtain⟨ad,rfl,_⟩:=Z 0 ab;clear Z bl ak bu a1 a;refine gp ?_;refine aX (λf o=>f 8=.slice (some ⟨y,0,none⟩) n n/\Ext w o/\dk o y n false (λ_=>N+n*(401+n)) (kR H b n)/\∀k,k<n->H k k∣kR H b k k) ?_ ?_
 ·refine gp ?_;refine aU (λq f o=>∃c,q=n-c/\c<=n/\f 5=.slice (some ⟨gH,0,none⟩) n n/\f 8=.slice (some ⟨y,0,none⟩) n n/\f 46=.slice (some ad) n cap/\f 47=.int .i64 (n:Int)/\f 48=.int .i64 ((c:Nat):Int)/\Ext w o/\bO o gH gh (λ_=>n) n n true (λ_ _=>400+n) H/\kq o (.slice (some ad) n cap) n (λk=>k)/\dk o y n false (λ_=>N+c*(401+n)) (kR H b c)/\∀k,k<c->H k k∣kR H b k k)
   n ⟨0,F,aE,F,F,F,F,F,bj,bA,I,bt.congr λi _=>⟨aq,F⟩,λk hk=>absurd hk aq⟩ ?_
  clear bj bA I bt;rintro q f w5 ⟨c,rfl,u,Y,B,R,Q,P,m,s,I,j,hd⟩;rw[ui Y,ui B,ui R,ui Q,ui P];clear Y B R Q P;by_cases E:c<n;rotate_left
  ·obtain rfl:c=n:=aq;refine gp ?_;exact⟨F,m,j,hd⟩
  obtain⟨u,u,a,_,_,Z⟩:=id I;injection a with a _ _;subst a;obtain⟨u,a,V⟩:=Z c E;injection a with a;subst a;replace V:w5.cell? (ad.add (c*1))=some (.int .i64 (c:Int)):=V;have a:=U.pos c E;obtain⟨L,hL⟩ : ∃L,L=N+c*(401+n):=⟨_,F⟩;have a:N+(c+1)*(401+n)=L+(401+n):=by rw[Nat.add_mul];omega
  have bx:L+(401+n)<=8+16*417:=by
   have:=Nat.mul_le_mul (show c+1<=16 by omega) (show 401+n<=417 by omega);omega
  rw[<-hL]at j;refine gp ?_;clear Z V;have m:Ext w w5:=m;have p:Ext w5 w5:=Ext.refl _;refine gp ?_;refine gp ?_;refine iq [(0,3),(1,3),(2,3),(3,0),(4,3),(5,3),(6,3),(7,0),(8,3),(9,3),(10,0)] [(11,[(12,3),(13,3),(14,3),(15,3)],[]),(16,[],[]),(17,[],[])] [(18,2),(19,2),(20,3)] mixed aw λax d _=>?_;replace j:=j.Y d;replace p:=p.trans d;replace m:=m.trans d;clear d;have f0:=(s.Y p).at E;obtain⟨x0,y0,a7,a6,l⟩:=j.at E;obtain⟨x1,y1,aH,ay,ct⟩:=((s.Y p).row c E).at E;have br:Bd (400+n) (kR H b c c%H c c):=ct.1.bd.emod aq;have bq:Bd L (kR H b c c/H c c):=l.1.bd.ediv;replace l:=l.1.mono (show L<=L+(401+n) by omega);replace ct:=ct.1.mono (show 400+n<=L+(401+n) by omega);refine gp ?_;refine gp ?_;refine dT [(11,[(12,3),(13,3),(14,3),(15,3)])] [fA 16 13 35 (.agg #[.bool false,.slice none 0 0]),fA 17 14 35 (.agg #[.bool false,.slice none 0 0])] [65,53,66,67,68,13,14] aw (λa ha f' o _ _=>by
   rcases List.mem_cons.1 ha with rfl|ha
   ·exact b_ a_ F f' o
   ·skip;rcases List.mem_singleton.1 ha with rfl;exact b_ a_ F f' o) ?_
  have a4:=p.size;have a5:=j.lt;have bC:=m.size;refine gp ?_;refine cT λa d=>?_;replace j:=j.Y d;replace p:=p.trans d;replace l:=l.Y d;replace ct:=ct.Y d;replace m:=m.trans d;clear d;refine gp ?_;refine aM (dp _ _ _ _ _ _ (L+(401+n)) a l ct aq aq) ?_;rintro _ a ⟨d,c0,c1,c2,a,rfl,D,C⟩;refine⟨d,?_⟩;replace j:=j.Y d;replace p:=p.trans d;replace l:=l.Y d;replace ct:=ct.Y d;replace m:=m.trans d;clear d;refine gp ?_;refine fM λa d J ai av=>?_;replace j:=j.Y d;replace p:=p.trans d;replace l:=l.Y d;replace ct:=ct.Y d;replace D:=D.Y d;replace C:=C.Y d;replace m:=m.trans d;clear d;obtain⟨t,a2⟩:=ai _ aG;have t:ax.heap.size<=J 13:=t;have O:Bx a (J 13) 1 true 0:=Bx.zero true a2;obtain⟨S,a3⟩:=ai _ (List.mem_cons_of_mem _ aG);have S:ax.heap.size<=J 14:=S;have W:Bx a (J 14) 1 true 0:=Bx.zero true a3;have a:J 14≠J 13:=av _ _ (List.mem_cons_of_mem _ aG) aG (show(14:Nat)≠13 by decide);show Ro _ _ _ _ _ _ (bS (bS _ 14 (.pointer (some ⟨J 14,0,none⟩))) 13 (.pointer (some ⟨J 13,0,none⟩))) _;generalize J 13=gQ at*;generalize J 14=gM at*;have a:w.heap.size<=gQ:=aq;have a:gQ≠y:=aq;have a:w5.heap.size<=gQ:=aq;have a:w.heap.size<=gM:=aq;have a:gM≠y:=aq;have a:w5.heap.size<=gM:=aq;clear a4;clear ai av bC a2 t a3 S a5;refine gp ?_;refine aL ag F rfl O (D.ev true bq) ?_;intro a O t a u;replace j:=j.kp a t ah;replace p:=t.aK p λb T=>aq;replace l:=l.kp a;replace ct:=ct.kp a;replace D:=D.kp a;replace C:=C.kp a;replace W:=W.kp a t ah;replace m:=t.aK m λb T=>aq;clear t a u;refine gp ?_;refine aL ag F rfl W (C.ev true br) ?_;intro S W t a u;replace j:=j.kp a t ah;replace p:=t.aK p λb T=>aq;replace l:=l.kp a;replace ct:=ct.kp a;replace D:=D.kp a;replace C:=C.kp a;replace O:=O.kp a t ah;replace m:=t.aK m λb T=>aq;clear t a u;clear f0 a7 a6 aH ay l ct D C;refine gp ?_;refine aP ?_;obtain⟨a,a,t,a⟩:=id W;obtain⟨x,u⟩:=a9 t;refine gp ?_;refine gp ?_;refine aJ (cE _ _ _ (400+n) S a.1 aq) ?_;rintro _ a ⟨d,rfl⟩;replace j:=j.Y d;replace p:=p.trans d;replace O:=O.Y d;replace W:=W.Y d;replace m:=m.trans d;clear d;clear x u;by_cases a:kR H b c c%H c c=0;rotate_left
  ·have hs:¬(kR H b c c%H c c).sign=0:=λe=>a (Int.sign_eq_zero_iff_zero.1 e);refine gp ?_;exact cI F rfl ⟨m,false,F,aA,λh=>absurd (Int.emod_eq_zero_of_dvd ((Go.Hn.yk U).1 h c E)) a⟩
  have hs:(kR H b c c%H c c).sign=0:=by rw[a];rfl
  have bX:H c c∣kR H b c c:=Int.dvd_of_emod_eq_zero a;have bR:∀i,i<n->Bd L (kR H b c i):=λi K=>by
   obtain⟨_,_,_,_,hv⟩:=j.at K;exact hv.1.bd
  refine gp ?_;replace s:=s.Y p;replace I:=I.Y p;clear p W;refine aU (λq f o=>∃i,q=n-i/\i<=n/\f 5=.slice (some ⟨gH,0,none⟩) n n/\f 8=.slice (some ⟨y,0,none⟩) n n/\f 46=.slice (some ad) n cap/\f 47=.int .i64 (n:Int)/\f 48=.int .i64 (c:Int)/\f 11=.int .i64 (c:Int)/\f 13=.pointer (some ⟨gQ,0,none⟩)/\f 72=.slice (some ⟨gH,0,none⟩) n n/\f 73=.int .i64 (n:Int)/\f 74=.int .i64 ((i:Nat):Int)/\Ext w o/\bO o gH gh (λ_=>n) n n true (λ_ _=>400+n) H/\kq o (.slice (some ad) n cap) n (λk=>k)/\dk o y n false (λ_=>L+(401+n)) (λr=>if r<i then kR H b (c+1) r else kR H b c r)/\Bx o gQ L true (kR H b c c/H c c))
   n ⟨0,F,aE,F,F,F,F,F,F,F,F,F,F,m,s,I,j.congr (λi _=>⟨aq,by rw[aa aq]⟩),O⟩ ?_
  have bM:¬gQ=y:=aq;clear m s I j O;rintro q f w6 ⟨i,rfl,K,Y,B,R,Q,P,u,t,p,d,a,m,s,I,j,O⟩;rw[ui Y,ui B,ui R,ui Q,ui P,ui u,ui t,ui p,ui d,ui a];clear Y B R Q P u t p d a;by_cases z:i<n;rotate_left
  ·obtain rfl:i=n:=aq;refine gp ?_;refine⟨_,?_,c+1,F,aq,F,F,F,F,F,m,s,I,j.congr λi K=>⟨aq,by rw[ae K]⟩,λk hk=>?_⟩
   ·omega
   ·by_cases e:k=c
    ·rw[e];exact bX
    ·exact hd k aq
  have a:=s.at z;refine gp ?_;clear a;refine c8 [(0,3),(1,3),(2,3),(3,3),(4,3),(5,0),(6,0),(7,3),(8,3),(9,3),(10,0),(11,1),(12,1),(13,3),(14,2)] mixed aw λw7 G _=>?_;have a:=j.Y G;obtain⟨x0,y0,a7,a6,l⟩:=a.at z;obtain⟨x1,y1,aH,ay,ct⟩:=((s.Y G).row i z).at E;obtain⟨a,a,a,d⟩:=id (O.Y G);obtain⟨k,k⟩:=a9 a;simp only[Nat.lt_irrefl,if_false]at l;have a:Bd (L+(400+n)) (kR H b c c/H c c*H i c):=bq.mul ct.1.bd;have J:Bd (L+(401+n)) (kR H b c i-kR H b c c/H c c*H i c):=(((bR i z).mono (show L<=L+(400+n) by omega)).sub a).mono aq;refine gp ?_;refine aM (i_ _ _ _ _ _ _ (L+(401+n)) w7 (d.1.mono aq) (ct.1.mono aq) aq) ?_;rintro _ w8 ⟨c,d,m1,rfl,hm⟩;refine⟨c,?_⟩;refine gp ?_;refine aM (oR _ _ _ _ _ _ (L+(401+n)) w8 (l.1.Y c) (hm.iv (a.mono aq)) aq) ?_;rintro _ w9 ⟨a0,a,s1,rfl,d⟩;refine⟨a0,?_⟩;refine gp ?_;have a:=G.trans (c.trans a0);have k:=j.Y a;refine dW (.inl F) F rfl k z (d.ev false J) ?_;intro c p c d t;refine gp ?_;refine⟨_,?_,i+1,F,aq,F,F,F,F,F,F,F,F,F,F,c.aK (m.trans a) (λb T=>aq),(s.Y a).kp d c au an,mw.JM (I.Y a) k c,p.congr (λr _=>⟨by simp only[cZ];split<;>exact Nat.le_refl _,?_⟩),(O.Y a).kp d c bM⟩
  ·omega
  ·simp only[fR];by_cases e:r=i
   ·subst e;rw[ae F,ae aq];rfl
   ·rw[aa e];by_cases h:r<i
    ·rw[ae h,ae aq]
    ·rw[aa h,aa aq]
 rintro f w5 ⟨B,m,j,hd⟩;rw[ui B];clear B;have bD:=λi K=>Go.Hn.sj U n (Nat.le_refl n) hd i K;refine gp ?_;refine aX (λf o=>Ext w o) ?_ ?_
 ·refine gp ?_;refine aU (λq f o=>∃i,q=n-i/\i<=n/\f 95=.slice (some ⟨y,0,none⟩) n n/\f 96=.int .i64 (n:Int)/\f 97=.int .i64 ((i:Nat):Int)/\Ext w o/\dk o y n false (λ_=>N+n*(401+n)) (kR H b n))
   n ⟨0,F,aE,F,F,F,m,j⟩ ?_
  clear m j;rintro q f w6 ⟨i,rfl,K,d,c,a,m,j⟩;rw[ui d,ui c,ui a];clear d c a;by_cases z:i<n;rotate_left
  ·obtain rfl:i=n:=aq;refine gp ?_;exact m
  obtain⟨x0,y0,a7,a6,l⟩:=j.at z;have bx:N+n*(401+n)<=8+16*417:=by
   have:=Nat.mul_le_mul hn (show 401+n<=417 by omega);omega
  obtain⟨L,hL⟩ : ∃L,L=N+n*(401+n):=⟨_,F⟩;rw[<-hL]at l bx;refine gp ?_;refine aR (.inl F) a_ ?_;intro w7 c G a;have a:Bx w7 w6.heap.size 1 false 0:=Bx.zero false c;obtain⟨c,c⟩ : ∃g,g=w6.heap.size:=⟨_,F⟩;rw[<-c]at a⊢;refine gp ?_;refine aL (.inl F) F rfl a (l.Y G) ?_;intro w8 e a c d;have d:=m.size;have d:=j.lt;have d:Ext w w8:=a.aK (m.trans G) λb T=>aq;have g:=(j.Y G).kp c a aq;obtain⟨a,a,c,a⟩:=e;obtain⟨f0,e⟩:=a9 c;have hs:(kR H b n i).sign=0:=by rw[bD i z];rfl
  refine gp ?_;refine aJ (cE _ _ _ L w8 a.1 aq) ?_;rintro _ w9 ⟨a0,rfl⟩;refine gp ?_;refine⟨_,?_,i+1,F,aq,F,F,F,d.trans a0,g.Y a0⟩;omega
 rintro f w6 a;refine gp ?_;exact cI F rfl ⟨a,true,F,λ_=>(Go.Hn.yk U).2 hd,λ_=>rfl⟩
end
end Go.Proofs.Qq
namespace Go.Ts
section
open Go.bc
open Go.Sm (Inv gj fy mul_congr)
theorem Dq(n:Nat)(A C:Mt)(y:Nat->Int)(i:Nat):(sm n λk=>mul n A C i k*y k)=sm n λl=>A i l*sm n λk=>C l k*y k:=mul_assoc n n A C (λk _=>y k) i 0
theorem xc(n:Nat)(y:Nat->Int)(i:Nat)(a:i<n)(A:Mt)(h:∀k,k<n->A i k=if i=k then 1 else 0):(sm n λk=>A i k*y k)=y i:=by
 rw[cG (c:=i) a λk d b=>by rw[h k d,aa (Ne.symm b),Int.zero_mul],h i a,ae F,Int.one_mul]
theorem Ci(m:Nat)(P:Mt)(j c:Nat)(e:Int)(x:Nat->Int)(a:c<m+1)(h:∀q,q<m+1->e*P q j=sm (m+1) λk=>P q k*x k):e*cr (m+1) P c j=aQ (m+1) P*x c:=by
 rw[Cj _ _ _ _ a,<-dD];rw[aO (g:=λq=>fa m P c q*sm (m+1) λk=>P q k*x k) λq b=>by rw[<-h q b];grind];rw[<-Dq (m+1) (fa m P) P x c];rw[cG (c:=c) a λk d b=>by rw[jf m P c k a d,aa (Ne.symm b),Int.zero_mul],jf m P c c a a,ae F]
theorem DC(m:Nat)(P:Mt)(j:Nat)(e:aQ (m+1) P≠0):(∃x:Nat->Int,∀q,q<m+1->P q j=sm (m+1) λk=>P q k*x k)↔∀c,c<m+1->aQ (m+1) P∣cr (m+1) P c j:=by
 constructor
 ·rintro⟨x,d⟩ c b;have:=Ci m P j c 1 x b λq a=>by rw[Int.one_mul];exact d q a
  rw[Int.one_mul]at this;exact⟨x c,this⟩
 ·intro h;refine⟨λc=>cr (m+1) P c j/aQ (m+1) P,λq a=>?_⟩;refine Int.eq_of_mul_eq_mul_left e ?_;rw[<-p_ (m+1) P q j a,<-dD];refine aO λc b=>?_;have:=Int.mul_ediv_cancel' (h c b);rw[show aQ (m+1) P*(P q c*(cr (m+1) P c j/aQ (m+1) P))=P q c*(aQ (m+1) P*(cr (m+1) P c j/aQ (m+1) P)) by grind,this]
theorem Ew{n:Nat}{M D:Mt}(o:fy n D)(a:gj n M D)(d:1<=n)(b:Nat->Int):∃x:Nat->Int,∀q,q<n->D (n-1) (n-1)*b q=sm n λk=>M q k*x k:=by
 obtain⟨X,j,Y,d,m,v,h⟩:=a;obtain⟨e,l⟩ : ∃e,e=D (n-1) (n-1):=⟨_,F⟩;rw[<-l];obtain⟨z,r⟩ : ∃z:Nat->Int,∀i,z i=sm n λk=>X i k*b k:=⟨_,λ_=>rfl⟩;obtain⟨u,s⟩ : ∃u:Nat->Int,∀i,u i=e/D i i*z i:=⟨_,λ_=>rfl⟩;obtain⟨x,p⟩ : ∃x:Nat->Int,∀i,x i=sm n λk=>d i k*u k:=⟨_,λ_=>rfl⟩;refine⟨x,λq f=>?_⟩;have w:∀i,i<n->(sm n λk=>Y i k*x k)=u i:=λi a=>by
  rw[aO (g:=λk=>Y i k*sm n λt=>d k t*u t) λk _=>by rw[p k],<-Dq n Y d u i];exact xc n u i a _ λk d=>v.r i k a d
 have t:∀i,i<n->(sm n λk=>D i k*u k)=e*z i:=λi a=>by
  rw[cG (c:=i) a λk d p=>by rw[o.off i k a d (Ne.symm p),Int.zero_mul],s i,<-Int.mul_assoc];rw[Int.mul_ediv_cancel' (by rw[l];exact o.I4 aq aq)]
 have o:∀i,i<n->(sm n λl=>X i l*sm n λk=>M l k*x k)=e*z i:=λi a=>by
  rw[<-Dq n X M x i,<-t i a];rw[aO (g:=λk=>mul n D Y i k*x k) λk d=>by rw[<-h i k a d],Dq n D Y x i];exact aO λl h=>by rw[w l h]
 have h:(sm n λi=>j q i*sm n λl=>X i l*sm n λk=>M l k*x k)=sm n λk=>M q k*x k:=by
  rw[<-Dq n j X (λl=>sm n λk=>M l k*x k) q];exact xc n (λl=>sm n λk=>M l k*x k) q f _ λk d=>m.l q k f d
 rw[<-h,aO (g:=λi=>e*(j q i*sm n λk=>X i k*b k)) λi a=>by rw[o i a,r i];grind,dD,<-Dq n j X b q];rw[xc n b q f _ λk d=>m.l q k f d]
theorem DT{n:Nat}{M:Mt}(h:aQ n M=0):¬Rk n n M n:=by
 rintro⟨⟨I,J,d,b⟩,_⟩;apply b;have e:aQ n (λa b=>M (I a) (J b))=aQ n (mul n (mul n (λa t=>if I a=t then 1 else 0) M) λt b=>if t=J b then 1 else 0):=by
  refine aY λa b g f=>?_;obtain⟨i,_⟩:=d a g;obtain⟨_,h2⟩:=d b f;simp only[mul];rw[cG (c:=J b) h2 λk _ b=>by rw[aa b,Int.mul_zero],ae F,Int.mul_one];rw[cG (c:=I a) i λk _ b=>by rw[aa (Ne.symm b),Int.zero_mul],ae F,Int.one_mul]
 rw[e,fV,fV,h];grind
theorem nU(p q:Int):2*(p*q)<=p*p+q*q/\-(p*p+q*q)<=2*(p*q):=by
 have a:0<=(p-q)*(p-q):=by
  rcases Int.le_total 0 (p-q)with h|h
  ·exact Int.mul_nonneg h h
  ·exact Int.mul_nonneg_of_nonpos_of_nonpos h h
 have a:0<=(p+q)*(p+q):=by
  rcases Int.le_total 0 (p+q)with h|h
  ·exact Int.mul_nonneg h h
  ·exact Int.mul_nonneg_of_nonpos_of_nonpos h h
 constructor<;>grind
theorem uh{a:Int}{n:Nat}(h:a.natAbs<=n):0<=a*a/\a*a<=(n:Int)*n:=by
 have c:a*a=((a.natAbs*a.natAbs:Nat):Int):=by rw[Int.natAbs_mul_self]
 have b:=Nat.mul_le_mul h h;rw[c];generalize a.natAbs*a.natAbs=t at b;constructor
 ·omega
 ·exact_mod_cast b
theorem HV{d c b a h g f e:Int}(i:d*d+c*c+b*b+a*a<=65536)(j:h*h+g*g+f*f+e*e<=65536)(i:0<=d*d+c*c+b*b+a*a):
 (d*g-c*h)*(d*g-c*h)+(d*f-b*h)*(d*f-b*h)+(d*e-a*h)*(d*e-a*h)+(c*f-b*g)*(c*f-b*g)+(c*e-a*g)*(c*e-a*g)+(b*e-a*f)*(b*e-a*f)<=4294967296:=by
 have k:=(uh (Nat.le_refl (d*h+c*g+b*f+a*e).natAbs)).1;have k:(d*d+c*c+b*b+a*a)*(h*h+g*g+f*f+e*e)<=(d*d+c*c+b*b+a*a)*65536:=Int.mul_le_mul_of_nonneg_left j i;have i:(d*g-c*h)*(d*g-c*h)+(d*f-b*h)*(d*f-b*h)+(d*e-a*h)*(d*e-a*h)+(c*f-b*g)*(c*f-b*g)+(c*e-a*g)*(c*e-a*g)+(b*e-a*f)*(b*e-a*f)=(d*d+c*c+b*b+a*a)*(h*h+g*g+f*f+e*e)-(d*h+c*g+b*f+a*e)*(d*h+c*g+b*f+a*e):=aC;rw[i];generalize (d*h+c*g+b*f+a*e)*(d*h+c*g+b*f+a*e)=s at*;generalize (d*d+c*c+b*b+a*a)*(h*h+g*g+f*f+e*e)=t at*;generalize d*d+c*c+b*b+a*a=r at*;omega
theorem I5(A:Mt):aQ 4 A=
 (A 0 0*A 1 1-A 0 1*A 1 0)*(A 2 2*A 3 3-A 2 3*A 3 2)-(A 0 0*A 1 2-A 0 2*A 1 0)*(A 2 1*A 3 3-A 2 3*A 3 1)+(A 0 0*A 1 3-A 0 3*A 1 0)*(A 2 1*A 3 2-A 2 2*A 3 1)
 + (A 0 1*A 1 2-A 0 2*A 1 1)*(A 2 0*A 3 3-A 2 3*A 3 0)-(A 0 1*A 1 3-A 0 3*A 1 1)*(A 2 0*A 3 2-A 2 2*A 3 0)+(A 0 2*A 1 3-A 0 3*A 1 2)*(A 2 0*A 3 1-A 2 1*A 3 0):=by
 simp[aQ,sm,minor,skip,fq];grind
theorem sM{a b:Int}{m n:Nat}(d:a.natAbs<=m)(c:b.natAbs<=n):(a*b).natAbs<=m*n:=by
 rw[Int.natAbs_mul];exact Nat.mul_le_mul d c
theorem sl{d c b a:Int}(g:d.natAbs<=128)(h1:c.natAbs<=128)(f:b.natAbs<=128)(e:a.natAbs<=128):d*d+c*c+b*b+a*a<=65536/\0<=d*d+c*c+b*b+a*a:=by
 have:=uh g;have:=uh h1;have:=uh f;have:=uh e;omega
theorem IY{m p1 l k j i h g f c b a d:Int}(o:m*m+p1*p1+l*l+k*k+j*j+i*i<=4294967296)(n:h*h+g*g+f*f+c*c+b*b+a*a<=4294967296)
 (e:d=m*a-p1*b+l*c+k*f-j*g+i*h):d.natAbs<=4294967296:=by
 have x:=nU m a;have w:=nU p1 b;have v:=nU l c;have u:=nU k f;have r:=nU j g;have q:=nU i h;have p:2*d<=(m*m+p1*p1+l*l+k*k+j*j+i*i)+(h*h+g*g+f*f+c*c+b*b+a*a):=by
  rw[e];clear o n e;grind
 have y:-((m*m+p1*p1+l*l+k*k+j*j+i*i)+(h*h+g*g+f*f+c*c+b*b+a*a))<=2*d:=by
  rw[e];clear o n e p;grind
 clear x w v u r q e;generalize m*m+p1*p1+l*l+k*k+j*j+i*i=s at*;generalize h*h+g*g+f*f+c*c+b*b+a*a=t at*;omega
theorem zQ{n:Nat}{A:Mt}(a:1<=n)(a:n<=4)(h:∀i j,i<n->j<n->(A i j).natAbs<=128):(aQ n A).natAbs<=4294967296:=by
 have g:n=1\/n=2\/n=3\/n=4:=aq;rcases g with rfl|rfl|rfl|rfl
 ·have e:aQ 1 A=A 0 0:=by simp[aQ,sm,fq]
  have:=h 0 0 aq aq;omega
 ·have e:aQ 2 A=A 0 0*A 1 1-A 0 1*A 1 0:=by simp[aQ,sm,minor,skip,fq];grind
  have a:=sM (h 0 0 aq aq) (h 1 1 aq aq);have a:=sM (h 0 1 aq aq) (h 1 0 aq aq);rw[e];omega
 ·have e:aQ 3 A=A 0 0*A 1 1*A 2 2-A 0 0*A 1 2*A 2 1-A 0 1*A 1 0*A 2 2+A 0 1*A 1 2*A 2 0+A 0 2*A 1 0*A 2 1-A 0 2*A 1 1*A 2 0:=by simp[aQ,sm,minor,skip,fq];grind
  have t:∀{a b c d e f:Nat},a<3->b<3->c<3->d<3->e<3->f<3->(A a b*A c d*A e f).natAbs<=128*128*128:=λf d g c b a=>sM (sM (h _ _ f d) (h _ _ g c)) (h _ _ b a);have a:(A 0 0*A 1 1*A 2 2).natAbs<=128*128*128:=t aq aq aq aq aq aq;have a:(A 0 0*A 1 2*A 2 1).natAbs<=128*128*128:=t aq aq aq aq aq aq;have a:(A 0 1*A 1 0*A 2 2).natAbs<=128*128*128:=t aq aq aq aq aq aq;have a:(A 0 1*A 1 2*A 2 0).natAbs<=128*128*128:=t aq aq aq aq aq aq;have a:(A 0 2*A 1 0*A 2 1).natAbs<=128*128*128:=t aq aq aq aq aq aq;have a:(A 0 2*A 1 1*A 2 0).natAbs<=128*128*128:=t aq aq aq aq aq aq;rw[e];omega
 ·obtain⟨d,g⟩:=sl (h 0 0 aq aq) (h 0 1 aq aq) (h 0 2 aq aq) (h 0 3 aq aq);obtain⟨c,_⟩:=sl (h 1 0 aq aq) (h 1 1 aq aq) (h 1 2 aq aq) (h 1 3 aq aq);obtain⟨b,f⟩:=sl (h 2 0 aq aq) (h 2 1 aq aq) (h 2 2 aq aq) (h 2 3 aq aq);obtain⟨a,_⟩:=sl (h 3 0 aq aq) (h 3 1 aq aq) (h 3 2 aq aq) (h 3 3 aq aq);have l:=HV d c g;have k:=HV b a f;have e:=I5 A;clear h d c b a g f;generalize A 0 0*A 1 1-A 0 1*A 1 0=a at*;generalize A 0 0*A 1 2-A 0 2*A 1 0=a at*;generalize A 0 0*A 1 3-A 0 3*A 1 0=a at*;generalize A 0 1*A 1 2-A 0 2*A 1 1=p3 at*;generalize A 0 1*A 1 3-A 0 3*A 1 1=a at*;generalize A 0 2*A 1 3-A 0 3*A 1 2=a at*;generalize A 2 0*A 3 1-A 2 1*A 3 0=q0 at*;generalize A 2 0*A 3 2-A 2 2*A 3 0=a at*;generalize A 2 0*A 3 3-A 2 3*A 3 0=a at*;generalize A 2 1*A 3 2-A 2 2*A 3 1=a at*;generalize A 2 1*A 3 3-A 2 3*A 3 1=a at*;generalize A 2 2*A 3 3-A 2 3*A 3 2=a at*;exact IY l k e
end
end Go.Ts


namespace Go.Proofs.Qq
section
open Go Go.cU Go.cV Go.Proofs
section
variable {H:Type}{enc:TypeId×Value->H}{w:World}{sp:Nat->Bool}{hd:Bool}
theorem Cv:Tryz.prog.cellsOf 5=1:=by kernel_rfl
theorem Cw:Tryz.prog.cellsOf 105=1:=by kernel_rfl
theorem z6:Tryz.prog.cellsOf 22=1:=by kernel_rfl
theorem xk:Tryz.prog.cellsOf 24=3:=by kernel_rfl
theorem AF{a:Int}(h:(Lit.int .u8 a).wf=true):0<=a/\a<256:=by
 simp[Lit.wf,IntKind.min,IntKind.max,IntKind.signed,IntKind.bits]at h;omega
theorem BF{a:Int}(h:(Lit.int .i8 a).wf=true):-128<=a/\a<128:=by
 simp[Lit.wf,IntKind.min,IntKind.max,IntKind.signed,IntKind.bits]at h;omega
theorem CA:Tryz.prog.bytesOf 105=1:=by kernel_rfl
theorem uE{c:Nat}{cs:List Value}{x:DataW H×List MemPlace}(h:DataW.trod enc Tryz.prog w 0 sp hd c 22 cs=some x)(k:Wt 22 x.1):
 ∃A n c d,cs=[.slice A n c]/\n<=c/\ou w A n d:=by
 rcases ChangeShapes.open_ints Tryz.underlying22 Tryz.underlying105 Cw h with⟨rfl,rfl⟩|⟨a,len,cap,b,rfl,_,l,hm,hz,rfl,hc,g⟩
 ·exact⟨none,0,0,λ_=>0,rfl,aD,λj d=>absurd d aq,ar⟩
 ·have f:len<=b.length:=by rw[hz];split<;>omega
  have e:∀i,i<len->-128<=b.getD i 0/\b.getD i 0<128:=λi c=>by
   have:b.getD i 0∈b:=by
    have c:i<b.length:=aq;simp[List.getD,c]
   exact BF (g _ this)
  have c:=(AB Tryz.underlying22 k).1;rw[CA]at c;have g:(ChangeShapes.lits (H:=H) .i8 (b.take len)).length=len:=by simp[ChangeShapes.lits,Nat.min_eq_left f]
  rw[g]at c;refine⟨some a,len,cap,λi=>b.getD i 0,rfl,l,λj d=>⟨a,rfl,?_,e j d⟩,aq⟩;rw[Nat.mul_one];exact hc j aq
theorem r8{l:List Value}(h:l.length=3):∃a b c,l=[a,b,c]:=by
 match l,h with
 |[a,b,c],_=>exact⟨a,b,c,rfl⟩
theorem yw{b:Nat}{a:Value}{x:DataW H×List MemPlace}(h:DataW.trod enc Tryz.prog w 0 sp hd b 5 [a]=some x):∃r:Nat,a=.int .u8 (r:Int)/\r<256:=by
 cases b with
 |zero=>simp[DataW.trod]at h
 |succ n=>
  cases a<;>simp[DataW.trod,Tryz.underlying5]at h;rename_i z;obtain⟨⟨rfl,c⟩,d⟩:=h;have:=AF c;exact⟨z.toNat,by rw[Int.toNat_of_nonneg this.1],aq⟩
theorem G8{P:Program}{W:World}{r:Reach}{b t:Nat}{v:Value}{a:Array Field}(c:P.underlying t=some (.struct a))(h:Value.okWide P W r b t v):∃a,v=.agg a:=by
 simp only[Value.okWide,c]at h;obtain⟨a,e,_⟩:=h;exact⟨a,e⟩
theorem zC{v:Value}{d:DataW H}{a:List MemPlace}(h:DataW.Trod enc Tryz.prog w 0 sp hd 24 v d a)(B:Wt 24 d)(b:∃p,v=.agg p):
 ∃r c n s,lG w v r c n s:=by
 obtain⟨p,rfl⟩:=b;obtain⟨a,h⟩:=h;obtain⟨o,k,j,n,e,r,i,g,f⟩:=Deep.trod_struct3 Tryz.underlying24 h;rw[xk]at r;obtain⟨a,b,c,x⟩:=r8 r;rw[x]at i g f;have i:DataW.trod enc Tryz.prog w 0 sp hd n 5 (([a,b,c].drop 0).take (Tryz.prog.cellsOf 5))=some o:=i;have g:DataW.trod enc Tryz.prog w 0 sp hd n 5 (([a,b,c].drop 1).take (Tryz.prog.cellsOf 5))=some k:=g;have f:DataW.trod enc Tryz.prog w 0 sp hd n 22 (([a,b,c].drop 2).take (Tryz.prog.cellsOf 22))=some j:=f;rw[Cv]at i g;rw[z6]at f;have i:DataW.trod enc Tryz.prog w 0 sp hd n 5 [a]=some o:=i;have g:DataW.trod enc Tryz.prog w 0 sp hd n 5 [b]=some k:=g;have f:DataW.trod enc Tryz.prog w 0 sp hd n 22 [c]=some j:=f;injection e with e _;subst e;have a:Wt 22 j.1:=λm b=>B m (by
  have e:DataW.weights Tryz.prog 24 (.agg [o.1,k.1,j.1])=DataW.weights Tryz.prog 5 o.1++(DataW.weights Tryz.prog 5 k.1++(DataW.weights Tryz.prog 22 j.1++[])):=by rw[DataW.weights,Tryz.underlying24];rfl
  rw[e];exact List.mem_append_right _ (List.mem_append_right _ (List.mem_append_left _ b)))
 obtain⟨A,m,q,s,e,C,D⟩:=uE f a;injection e with e;obtain⟨u,rfl,z⟩:=yw i;obtain⟨t,rfl,y⟩:=yw g;subst e;have E:p=#[.int .u8 (u:Int),.int .u8 (t:Int),.slice A m q]:=by
  cases p with|mk l=>exact congrArg Array.mk x
 exact⟨u,t,m,s,A,q,by rw[E],z,y,C,D⟩
end
theorem ve{P:Program}{W:World}{r:Reach}{b t e:Nat}{v:Value}(a:P.underlying t=some (.slice e))(h:Value.okWide P W r b t v):v.cells.toList=[v]:=by
 cases v<;>simp[Value.okWide,a,Cell.okWide,Cell.ok]at h;rfl
theorem FI{H:Type}{a:List TypeId}{b:List (DataW H)}(h:(DataW.weightsEach Tryz.prog a b).all (·<=reachBytes)=true){j:Nat}{t:TypeId}{d:DataW H}(c:a[j]?=some t)(hd:b[j]?=some d):Wt t d:=λn a=>by
 have:=List.all_eq_true.1 h _ (DataW.weights_mem_each c hd n a);simpa using this
