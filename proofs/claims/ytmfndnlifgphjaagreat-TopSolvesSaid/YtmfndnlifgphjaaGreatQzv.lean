import Derived.Test.YtmfndnlifgphjaaGreatQzu
set_option maxHeartbeats 64000000
open Go.Proofs.YtmfndnlifgphjaaGreat
namespace Go.Proofs.Qq
section
open Go Go.cU Go.cV Go.Proofs
theorem Gt{P:Program}{n:Nat}{f:Fr}{w:World}{e:Func}{t u s:Tmp}{T G H I:Nat}{a:Value->World->Prop}{x y i c g b:Value}(A:e.results=#[.cell t T,.cell u T,.cell s T])(l:dL P T 2=true)
 (r:ev n f (.tmp t)=.pointer (some ⟨G,0,none⟩)) (q:ev n f (.tmp u)=.pointer (some ⟨H,0,none⟩)) (z:ev n f (.tmp s)=.pointer (some ⟨I,0,none⟩)) (m:bh w G T #[x,y]) (j:bh w H T #[i,c]) (mP:bh w I T #[g,b]) (h:a (.tuple #[.agg #[x,y],.agg #[i,c],.agg #[g,b]]) w):
 bodyPost P e (xB a) .ret (act n f) w:=by
 refine bodyPost_ret (v:=.tuple #[.agg #[x,y],.agg #[i,c],.agg #[g,b]]) ?_ F ⟨_,F,h⟩;have e:=congrFun (b9 n f) (.tmp t);have p:=congrFun (b9 n f) (.tmp u);have o:=congrFun (b9 n f) (.tmp s);simp only[Act.eval]at e p o;have C:w.cell? ⟨G,0,none⟩=some x:=by rw[m.cell];rfl
 have B:w.cell? ((⟨G,0,none⟩ : Addr).add 1)=some y:=by rw[add_lit,m.cell];rfl
 have m:w.cell? ⟨H,0,none⟩=some i:=by rw[j.cell];rfl
 have a:w.cell? ((⟨H,0,none⟩ : Addr).add 1)=some c:=by rw[add_lit,j.cell];rfl
 have i:w.cell? ⟨I,0,none⟩=some g:=by rw[mP.cell];rfl
 have g:w.cell? ((⟨I,0,none⟩ : Addr).add 1)=some b:=by rw[add_lit,mP.cell];rfl
 have c:=cW (P:=P) l C B;have b:=cW (P:=P) l m a;have a:=cW (P:=P) l i g;simp only[Instr.loadAt,Instr.sureAddr,Sem.run_bind,Sem.run_pure,Result.andThen_ok]at c b a;have i:(act n f).tmps[t]?.getD undef=.pointer (some ⟨G,0,none⟩):=by rw[<-r,<-e];simp
 have g:(act n f).tmps[u]?.getD undef=.pointer (some ⟨H,0,none⟩):=by rw[<-q,<-p];simp
 have e:(act n f).tmps[s]?.getD undef=.pointer (some ⟨I,0,none⟩):=by rw[<-z,<-o];simp
 simp[results,A,i,g,e,asAddr,c,b,a]
def SL(L:Nat->Prop)(w w':World):Prop:=∀g T a,L g->bh w g T a->bh w' g T a
theorem CM(L:Nat->Prop):∀a b c:World,SL L a b->SL L b c->SL L a c:=λ_ _ _ h k g T b a c=>k g T b a (h g T b a c)
theorem F7{L:Nat->Prop}{w w':World}{g:Nat}(h:Ch (λb=>b=g) w w')(a:∀b,L b->b≠g):SL L w w':=λb _ _ e c=>c.ch h (a b e)
section
variable {P:Program}{n:Nat}{S:World->World->Prop}{k:Nat}{K:Fr->World->Prop}{f:Fr}{w:World}
 {d ty t t2:Nat} {x y:Operand} {pos:String} {aft:Array Edge} {gd:Option (Nat×Bool)}
theorem kh{L:Nat->Prop}{g T:Nat}{u v:Value}(e:k≠3)(j:dL P t 2=true)(i:ev n f x=.pointer (some ⟨g,0,none⟩))(b:bh w g T #[u,v])(l:L g)(h:K (bS f d (.agg #[u,v])) w):
 R1 P n (SL L) k ⟨some d,.load t x,ty,pos,aft,gd⟩ K f w:=by
 refine fX e (v:=.agg #[u,v]) (λe a=>?_) h;have c:bh e g T #[u,v]:=by
  rcases a with a|rfl
  ·exact a g T _ l b
  ·exact b
 obtain⟨b,a⟩:=a9 c;simp only[execOp,i,Sem.run_bind,cW j b a,Result.andThen_ok,Sem.run_pure]
theorem rO{L:Nat->Prop}{g T:Nat}{u v:Value}(p:dL P t 2=true)(r:k=2\/k=1)(o:ev n f x=.pointer (some ⟨g,0,none⟩))(m:ev n f y=.agg #[u,v])(l:u.oneCell'=true)(j:v.oneCell'=true)(a:bh w g T #[u,v])
 (h:∀w',bh w' g T #[u,v]->Ch (λb=>b=g) w w'->w'.heap.size=w.heap.size->K f w'):
 R1 P n (SL L) k ⟨none,.store t x y,ty,pos,aft,gd⟩ K f w:=by
 have c:Ch (λb=>b=g) w ((w.setCell ⟨g,0,none⟩ u).setCell ⟨g,0+1,none⟩ v):=(eh w ⟨g,0,none⟩ u).trans (eh _ ⟨g,0+1,none⟩ v);have q:SL L w ((w.setCell ⟨g,0,none⟩ u).setCell ⟨g,0+1,none⟩ v):=λb s s _ i=>by
  by_cases e:b=g
  ·subst e;have b:=Option.some.inj (Eq.trans (Eq.symm a) i);cases b;exact(a.set 0 u).set (0+1) v
  ·exact i.ch c e
 refine nM (w':=(w.setCell ⟨g,0,none⟩ u).setCell ⟨g,0+1,none⟩ v) (r.imp id λh=>⟨h,q⟩) rfl ?_ (h _ ((a.set 0 u).set (0+1) v) c (by rw[size_setCell,size_setCell]));simp only[execOp,o,m,Sem.run_bind,mj p l j a (show 0+1<2 by decide),Result.andThen_ok,Sem.run_pure]
theorem yP{Q:Exit->Fr->World->Prop}{i:Nat}{a:Array Oper}{c:Code}(L:Nat->Prop)(b:List (Nat×Nat))(j:P.follows .mixedOrders=true)
 (g:(b.length == a.size&&Region.noSelect a&&iu a (qF b) b (Array.replicate a.size false))=true)
 (h:∀e,Ext w e->e.heap=w.heap->Ro P n a (SL L) (W P n c Q) b f e):W P n (.seq (.region i a true) c) Q f w:=
 aP (qg (SL L) (CM L) b j g (by rw[ji];exact h _ (kC w) F))
end
structure Ez(x0 y0 x y a b p q:Int):Prop where
 hx:x=a*x0+b*y0
 hy:y=p*x0+q*y0
 nx:0<=x
 ny:0<=y
 g:Int.gcd x y=Int.gcd x0 y0
 m1:x.natAbs*p.natAbs+y.natAbs*a.natAbs<=y0.natAbs
 m2:x.natAbs*q.natAbs+y.natAbs*b.natAbs<=x0.natAbs
 ba:a.natAbs<=y0.natAbs+1
 bb:b.natAbs<=x0.natAbs+1
 bp:p.natAbs<=y0.natAbs+1
 bq:q.natAbs<=x0.natAbs+1
theorem Ez.start{b a:Int}(e:0<=b)(c:0<=a):Ez b a b a 1 0 0 1:=by
 refine⟨aq,aq,e,c,F,?_,?_,?_,?_,?_,?_⟩<;>simp
theorem B3{a p q:Int}{y:Nat}:(y*(a-q*p).natAbs:Nat)<=y*a.natAbs+y*q.natAbs*p.natAbs:=by
 have c:(a-q*p).natAbs<=a.natAbs+(q*p).natAbs:=aq;rw[Int.natAbs_mul]at c;have b:=Nat.mul_le_mul_left y c;rw[Nat.mul_add,<-Nat.mul_assoc]at b;exact b
theorem Ez.step{i e x y a b p q:Int}(h:Ez i e x y a b p q)(m:y≠0):Ez i e y (x%y) p q (a-x/y*p) (b-x/y*q):=by
 have l:=h.ny;have e:0<y:=aq;have e:0<=x/y:=Int.ediv_nonneg h.nx l;have r:=Int.emod_nonneg x m;have e:=Int.emod_add_mul_ediv x y;have e:x.natAbs=(x%y).natAbs+y.natAbs*(x/y).natAbs:=by
  have c:((x%y).natAbs:Int)=x%y:=aq;have j:((x/y).natAbs:Int)=x/y:=aq;have i:(y.natAbs:Int)=y:=aq;have g:(x.natAbs:Int)=x:=by have:=h.nx;omega
  refine Int.ofNat.inj ?_;show(x.natAbs:Int)=(((x%y).natAbs+y.natAbs*(x/y).natAbs:Nat):Int);rw[Int.natCast_add,Int.natCast_mul,c,j,i,g];omega
 have m:=B3 (a:=a) (p:=p) (q:=x/y) (y:=y.natAbs);have m:=B3 (a:=b) (p:=q) (q:=x/y) (y:=y.natAbs);have o:=h.m1;have m:=h.m2;rw[e,Nat.add_mul]at o m;have e:1<=y.natAbs:=aq;have m:(a-x/y*p).natAbs<=y.natAbs*(a-x/y*p).natAbs:=Nat.le_mul_of_pos_left _ e;have m:(b-x/y*q).natAbs<=y.natAbs*(b-x/y*q).natAbs:=Nat.le_mul_of_pos_left _ e;refine⟨h.hy,?_,l,r,?_,aq,aq,h.bp,h.bq,aq,aq⟩
 ·have c:=h.hx;have j:=h.hy;have i:x%y=x-y*(x/y):=aq;rw[i];generalize x/y=t at*;rw[c,j];grind
 ·rw[<-h.g];have:Int.gcd y (x%y)=Int.gcd x y:=by
   show Nat.gcd y.natAbs (x%y).natAbs=Nat.gcd x.natAbs y.natAbs;have c:(x%y).natAbs=x.natAbs%y.natAbs:=by
    have g:=h.nx;rw[Int.natAbs_emod_of_nonneg g]
   rw[c,Nat.gcd_comm x.natAbs,Nat.gcd_rec y.natAbs x.natAbs,Nat.gcd_comm]
  exact this
def JZ(w:World)(e c:Int)(N:Nat)(cn:Bool)(v:Value)(w':World):Prop:=
 Ext w w'/\∃x y l i j h g a b,v=.tuple #[.agg #[x,y],.agg #[l,i],.agg #[j,h]]/\EV w' N cn x y g/\CV w' l i a/\CV w' j h b/\g=a*e+b*c/\g=(Int.gcd e c:Nat)/\Bd (N+1) a/\Bd (N+1) b
theorem je{N:Nat}{a z:Int}(h:a.natAbs<=z.natAbs+1)(b:Bd N z):Bd (N+1) a:=by
 unfold Bd at*;rw[Nat.pow_succ];have b:0<B^N:=Nat.pow_pos ar;have b:B^N*2<=B^N*B:=Nat.mul_le_mul_left _ ar;omega
theorem rH(x1 y1 x2 y2:Value)(R M:Int)(N:Nat)(cn:Bool)(w:World)(h1:EV w N cn x1 y1 R)(H:EV w N cn x2 y2 M)(m:N+N+2<17592186044416)(b4:0<=R)(b0:0<=M):
 aT Tryz.prog 117 #[.agg #[x1,y1],.agg #[x2,y2]] w (JZ w R M N cn):=by
 refine bF (n:=43) Tryz.func117 F rfl aw aA ?_;have b1:Bd N R:=h1.1.bd;have b2:Bd N M:=H.1.bd;have l:Ext w w:=Ext.refl w;refine gg ?_;refine aZ (v:=.agg _) (.inl F) F ?_;intro J E c B;have m:bh J w.heap.size 35 #[x1,y1]:=E;obtain⟨V,G⟩ : ∃g,g=w.heap.size:=⟨_,F⟩;rw[<-G]at m⊢;have I:w.heap.size<=V:=by have:=l.size;omega
 replace h1:=h1.Y c;replace H:=H.Y c;replace l:=l.trans c;clear E B G c;refine gg ?_;refine aZ (v:=.agg _) (.inl F) F ?_;intro I E c B;have Q:bh I J.heap.size 35 #[x2,y2]:=E;obtain⟨L,G⟩ : ∃g,g=J.heap.size:=⟨_,F⟩;rw[<-G]at Q⊢;have J:w.heap.size<=L:=by have:=l.size;omega
 have J:V<L:=by have:=m.lt;omega
 replace h1:=h1.Y c;replace H:=H.Y c;replace m:=m.Y c;replace l:=l.trans c;clear E B G c;have r:Bx I V N cn R:=⟨x1,y1,m,h1⟩;have u:Bx I L N cn M:=⟨x2,y2,Q,H⟩;clear m Q h1 H;refine gg ?_;refine aR (.inl F) a_ ?_;intro H E c B;have s:=Bx.zero (N:=1) true E;obtain⟨gd,G⟩ : ∃g,g=I.heap.size:=⟨_,F⟩;rw[<-G]at s⊢;have m:w.heap.size<=gd:=by have:=l.size;omega
 have m:V<gd:=by have:=r.lt;omega
 have m:L<gd:=by have:=u.lt;omega
 replace r:=r.Y c;replace u:=u.Y c;replace l:=l.trans c;clear E B G c;refine gg ?_;refine aR (.inl F) a_ ?_;intro I E c B;have A:=Bx.zero (N:=1) true E;obtain⟨U,G⟩ : ∃g,g=H.heap.size:=⟨_,F⟩;rw[<-G]at A⊢;have m:w.heap.size<=U:=by have:=l.size;omega
 have m:V<U:=by have:=r.lt;omega
 have m:L<U:=by have:=u.lt;omega
 have m:gd<U:=by have:=s.lt;omega
 replace r:=r.Y c;replace u:=u.Y c;replace s:=s.Y c;replace l:=l.trans c;clear E B G c;refine gg ?_;refine aR (.inl F) a_ ?_;intro H E c B;have o:=Bx.zero (N:=1) true E;obtain⟨T,G⟩ : ∃g,g=I.heap.size:=⟨_,F⟩;rw[<-G]at o⊢;have m:w.heap.size<=T:=by have:=l.size;omega
 have m:V<T:=by have:=r.lt;omega
 have m:L<T:=by have:=u.lt;omega
 have m:gd<T:=by have:=s.lt;omega
 have m:U<T:=by have:=A.lt;omega
 replace r:=r.Y c;replace u:=u.Y c;replace s:=s.Y c;replace A:=A.Y c;replace l:=l.trans c;clear E B G c;refine gg ?_;refine gg ?_;refine aJ (fb 1 H ar ar) ?_;rintro _ m ⟨c,m,m,rfl,H⟩;replace r:=r.Y c;replace u:=u.Y c;replace s:=s.Y c;replace A:=A.Y c;replace o:=o.Y c;replace l:=l.trans c;clear c;refine gg ?_;refine fp ij ?_;have m:Bd (N+1) 1:=je (z:=0) ar (Bd.zero N);have J:Bd (N+1) 0:=Bd.zero (N+1);refine gg ?_;refine aL ag F rfl A (H.ev true m) ?_;intro I A j i B;replace r:=r.kp i j ah;replace u:=u.kp i j ah;replace s:=s.kp i j ah;replace o:=o.kp i j ah;replace H:=H.kp i;replace l:=j.aK l λb o=>aq;clear j i B;have al:=CV.zero I;refine gg ?_;refine aL ag F rfl o (al.ev true J) ?_;intro I o j i B;replace r:=r.kp i j ah;replace u:=u.kp i j ah;replace s:=s.kp i j ah;replace A:=A.kp i j ah;replace H:=H.kp i;replace l:=j.aK l λb o=>aq;clear j i B;refine gg ?_;refine fp ij ?_;refine gg ?_;refine aJ (fb 1 I ar ar) ?_;rintro _ an ⟨c,I,I,rfl,I⟩;replace r:=r.Y c;replace u:=u.Y c;replace s:=s.Y c;replace A:=A.Y c;replace o:=o.Y c;replace H:=H.Y c;replace l:=l.trans c;clear c;refine gg ?_;refine aR (.inl F) a_ ?_;intro ax E c B;have C:=Bx.zero (N:=1) true E;obtain⟨W,G⟩ : ∃g,g=an.heap.size:=⟨_,F⟩;rw[<-G]at C⊢;have an:w.heap.size<=W:=by have:=l.size;omega
 have an:V<W:=by have:=r.lt;omega
 have an:L<W:=by have:=u.lt;omega
 have an:gd<W:=by have:=s.lt;omega
 have an:U<W:=by have:=A.lt;omega
 have an:T<W:=by have:=o.lt;omega
 replace r:=r.Y c;replace u:=u.Y c;replace s:=s.Y c;replace A:=A.Y c;replace o:=o.Y c;replace H:=H.Y c;replace I:=I.Y c;replace l:=l.trans c;clear E B G c;refine gg ?_;refine aR (.inl F) a_ ?_;intro av E c B;have D:=Bx.zero (N:=1) true E;obtain⟨O,G⟩ : ∃g,g=ax.heap.size:=⟨_,F⟩;rw[<-G]at D⊢;have an:w.heap.size<=O:=by have:=l.size;omega
 have an:V<O:=by have:=r.lt;omega
 have an:L<O:=by have:=u.lt;omega
 have an:gd<O:=by have:=s.lt;omega
 have an:U<O:=by have:=A.lt;omega
 have an:T<O:=by have:=o.lt;omega
 have an:W<O:=by have:=C.lt;omega
 replace r:=r.Y c;replace u:=u.Y c;replace s:=s.Y c;replace A:=A.Y c;replace o:=o.Y c;replace H:=H.Y c;replace I:=I.Y c;replace C:=C.Y c;replace l:=l.trans c;clear E B G c;have al:=CV.zero av;refine gg ?_;refine aL ag F rfl C (al.ev true J) ?_;intro J C j i B;replace r:=r.kp i j ah;replace u:=u.kp i j ah;replace s:=s.kp i j ah;replace A:=A.kp i j ah;replace o:=o.kp i j ah;replace H:=H.kp i;replace I:=I.kp i;replace D:=D.kp i j ah;replace l:=j.aK l λb o=>aq;clear j i B;refine gg ?_;refine aL ag F rfl D (I.ev true m) ?_;intro m D j i B;replace r:=r.kp i j ah;replace u:=u.kp i j ah;replace s:=s.kp i j ah;replace A:=A.kp i j ah;replace o:=o.kp i j ah;replace H:=H.kp i;replace I:=I.kp i;replace C:=C.kp i j ah;replace l:=j.aK l λb o=>aq;clear j i B;refine gg ?_;refine aX (λf J=>∃x a b p q,f 2=.pointer (some ⟨V,0,none⟩)/\f 3=.pointer (some ⟨L,0,none⟩)/\f 4=.pointer (some ⟨gd,0,none⟩)/\f 5=.pointer (some ⟨U,0,none⟩)/\f 6=.pointer (some ⟨T,0,none⟩)/\f 7=.pointer (some ⟨W,0,none⟩)/\f 8=.pointer (some ⟨O,0,none⟩)/\Ext w J/\Bx J V N cn x/\Bx J gd 1 true 0/\Bx J U (N+1) true a/\Bx J T (N+1) true b/\Ez R M x 0 a b p q) ?_ ?_
 ·refine gg ?_;refine aU (λm f J=>∃x y a b p q,m=y.natAbs/\f 2=.pointer (some ⟨V,0,none⟩)/\f 3=.pointer (some ⟨L,0,none⟩)/\f 4=.pointer (some ⟨gd,0,none⟩)/\f 5=.pointer (some ⟨U,0,none⟩)/\f 6=.pointer (some ⟨T,0,none⟩)/\f 7=.pointer (some ⟨W,0,none⟩)/\f 8=.pointer (some ⟨O,0,none⟩)/\Ext w J/\Bx J V N cn x/\Bx J L N cn y/\Bx J gd 1 true 0/\Bx J U (N+1) true a/\Bx J T (N+1) true b/\Bx J W (N+1) true p/\Bx J O (N+1) true q/\Ez R M x y a b p q)
   M.natAbs ⟨R,M,1,0,0,1,F,F,F,F,F,F,F,F,l,r,u,s,A,o,C,D,Ez.start b4 b0⟩ ?_
  clear l r u s A o C D H I al;rintro m f w1 ⟨x,y,a,b,p,q,rfl,aj,ai,ad,ab,a7,a6,a5,l,r,u,s,A,o,C,D,X⟩;rw[ui aj,ui ai,ui ad,ui ab,ui a7,ui a6,ui a5];clear aj ai ad ab a7 a6 a5;have l:Ext w w1:=l;have au:Bd N x:=by obtain⟨_,_,_,h⟩:=r;exact h.1.bd
  have b5:Bd N y:=by obtain⟨_,_,_,h⟩:=u;exact h.1.bd
  refine aP ?_;refine gg ?_;obtain⟨aH,ay,Y,Z⟩:=id u;obtain⟨ak,a4⟩:=a9 Y;refine gg ?_;by_cases Q:y=0
  ·subst Q;have m:(0:Int).sign=0:=F;refine gg ?_;refine aJ (cE _ _ _ N w1 Z.1 aq) ?_;rintro _ H ⟨c,rfl⟩;replace r:=r.Y c;replace u:=u.Y c;replace s:=s.Y c;replace A:=A.Y c;replace o:=o.Y c;replace C:=C.Y c;replace D:=D.Y c;replace l:=l.trans c;clear c;refine gg ?_;exact⟨x,a,b,p,q,F,F,F,F,F,F,F,l,r,s,A,o,X⟩
  have m:¬y.sign=0:=λe=>Q (Int.sign_eq_zero_iff_zero.1 e);refine gg ?_;refine aJ (cE _ _ _ N w1 Z.1 aq) ?_;rintro _ m ⟨c,rfl⟩;replace r:=r.Y c;replace u:=u.Y c;replace s:=s.Y c;replace A:=A.Y c;replace o:=o.Y c;replace C:=C.Y c;replace D:=D.Y c;replace l:=l.trans c;clear c;refine gg ?_;clear ak a4;obtain⟨H,H,I,H⟩:=id r;obtain⟨an,al⟩:=a9 I;obtain⟨aH,ay,Y,Z⟩:=id u;obtain⟨ak,a4⟩:=a9 Y;have R:=H.1;have Y:=Z.1;refine gg ?_;refine gg ?_;refine aJ (dp _ _ _ _ _ _ N m R Y aq Q) ?_;rintro _ m ⟨c,c0,c1,c2,H,rfl,M,J⟩;replace r:=r.Y c;replace u:=u.Y c;replace s:=s.Y c;replace A:=A.Y c;replace o:=o.Y c;replace C:=C.Y c;replace D:=D.Y c;replace R:=R.Y c;replace Y:=Y.Y c;replace l:=l.trans c;clear c;refine gg ?_;clear an al ak a4;have al:=X.step Q;have b4:Bd (N+1) (a-x/y*p):=je al.bp b2;have bx:Bd (N+1) (b-x/y*q):=je al.bq b1;have b0:Bd (N+1) p:=je X.bp b2;have bu:Bd (N+1) q:=je X.bq b1;have ax:Bd (N+1) a:=je X.ba b2;have av:Bd (N+1) b:=je X.bb b1;have an:Bd (N+1) (x/y):=(au.ediv).mono aq;refine gg ?_;refine aR (.inl F) a_ ?_;intro a4 E c B;have H:=Bx.zero (N:=1) true E;obtain⟨Z,G⟩ : ∃g,g=m.heap.size:=⟨_,F⟩;rw[<-G]at H⊢;have m:w.heap.size<=Z:=by have:=l.size;omega
  have m:V<Z:=by have:=r.lt;omega
  have m:L<Z:=by have:=u.lt;omega
  have m:gd<Z:=by have:=s.lt;omega
  have m:U<Z:=by have:=A.lt;omega
  have m:T<Z:=by have:=o.lt;omega
  have m:W<Z:=by have:=C.lt;omega
  have m:O<Z:=by have:=D.lt;omega
  replace r:=r.Y c;replace u:=u.Y c;replace s:=s.Y c;replace A:=A.Y c;replace o:=o.Y c;replace C:=C.Y c;replace D:=D.Y c;replace R:=R.Y c;replace Y:=Y.Y c;replace M:=M.Y c;replace J:=J.Y c;replace l:=l.trans c;clear E B G c;refine gg ?_;refine aR (.inl F) a_ ?_;intro m E c B;have m:=Bx.zero (N:=1) true E;obtain⟨I,G⟩ : ∃g,g=a4.heap.size:=⟨_,F⟩;rw[<-G]at m⊢;have g:w.heap.size<=I:=by have:=l.size;omega
  have g:V<I:=by have:=r.lt;omega
  have g:L<I:=by have:=u.lt;omega
  have g:gd<I:=by have:=s.lt;omega
  have g:U<I:=by have:=A.lt;omega
  have g:T<I:=by have:=o.lt;omega
  have g:W<I:=by have:=C.lt;omega
  have g:O<I:=by have:=D.lt;omega
  have g:Z<I:=by have:=H.lt;omega
  replace r:=r.Y c;replace u:=u.Y c;replace s:=s.Y c;replace A:=A.Y c;replace o:=o.Y c;replace C:=C.Y c;replace D:=D.Y c;replace R:=R.Y c;replace Y:=Y.Y c;replace M:=M.Y c;replace J:=J.Y c;replace H:=H.Y c;replace l:=l.trans c;clear E B G c;refine gg ?_;refine aL ag F rfl H (M.ev true an) ?_;intro g H j i B;replace r:=r.kp i j ah;replace u:=u.kp i j ah;replace s:=s.kp i j ah;replace A:=A.kp i j ah;replace o:=o.kp i j ah;replace C:=C.kp i j ah;replace D:=D.kp i j ah;replace R:=R.kp i;replace Y:=Y.kp i;replace M:=M.kp i;replace J:=J.kp i;replace m:=m.kp i j ah;replace l:=j.aK l λb o=>aq;clear j i B;refine gg ?_;refine aL ag F rfl m (J.ev true (b5.emod Q)) ?_;intro g m j i B;replace r:=r.kp i j ah;replace u:=u.kp i j ah;replace s:=s.kp i j ah;replace A:=A.kp i j ah;replace o:=o.kp i j ah;replace C:=C.kp i j ah;replace D:=D.kp i j ah;replace R:=R.kp i;replace Y:=Y.kp i;replace M:=M.kp i;replace J:=J.kp i;replace H:=H.kp i j ah;replace l:=j.aK l λb o=>aq;clear j i B;refine gg ?_;refine yP (λb=>b=L\/b=I) [(0,0),(1,0),(2,1),(3,2)] mixed aw λbt G _=>?_;replace l:=l.trans G;replace r:=r.Y G;replace u:=u.Y G;replace s:=s.Y G;replace A:=A.Y G;replace o:=o.Y G;replace C:=C.Y G;replace D:=D.Y G;replace H:=H.Y G;replace m:=m.Y G;obtain⟨g,y1,J,E⟩:=id u;obtain⟨g,g,I,g⟩:=id m;refine gg ?_;refine kh ar aN F J (.inl F) ?_;refine gg ?_;refine kh ar aN F I (.inr F) ?_;clear J I;refine gg ?_;refine aL (.inr ⟨F,λ_ hC=>F7 hC λb o=>aq⟩) F rfl r (E) ?_;intro I r j i B;replace u:=u.kp i j ah;replace s:=s.kp i j ah;replace A:=A.kp i j ah;replace o:=o.kp i j ah;replace C:=C.kp i j ah;replace D:=D.kp i j ah;replace H:=H.kp i j ah;replace m:=m.kp i j ah;replace E:=E.kp i;replace g:=g.kp i;replace l:=j.aK l λb o=>aq;clear j i B;refine gg ?_;refine gg ?_;refine aL (.inl F) F rfl u (⟨g.1,λ_=>g.2 rfl⟩) ?_;intro I u j i B;replace r:=r.kp i j ah;replace s:=s.kp i j ah;replace A:=A.kp i j ah;replace o:=o.kp i j ah;replace C:=C.kp i j ah;replace D:=D.kp i j ah;replace H:=H.kp i j ah;replace m:=m.kp i j ah;replace E:=E.kp i;replace g:=g.kp i;replace l:=j.aK l λb o=>aq;clear j i B;refine gg ?_;refine gg ?_;refine b7 [(0,0),(1,0),(2,0),(3,0),(4,1),(5,1),(6,2),(7,2)] mixed aw λI c _=>?_;replace r:=r.Y c;replace u:=u.Y c;replace s:=s.Y c;replace A:=A.Y c;replace o:=o.Y c;replace C:=C.Y c;replace D:=D.Y c;replace H:=H.Y c;replace m:=m.Y c;replace E:=E.Y c;replace g:=g.Y c;replace l:=l.trans c;clear c;obtain⟨J,J,J,L⟩:=id C;obtain⟨Z,O⟩:=a9 J;obtain⟨J,J,J,M⟩:=id A;obtain⟨aH,ay⟩:=a9 J;obtain⟨bs,bl,W,Y⟩:=id H;obtain⟨ak,a4⟩:=a9 W;have J:=L;have L:=M;have M:=Y;refine gg ?_;clear Z O aH ay ak a4;refine gg ?_;refine aM (i_ _ _ _ _ _ _ (N+1) I M.1 J.1 aq) ?_;rintro _ I ⟨c,O,e1,rfl,O⟩;refine⟨c,?_⟩;replace r:=r.Y c;replace u:=u.Y c;replace s:=s.Y c;replace A:=A.Y c;replace o:=o.Y c;replace C:=C.Y c;replace D:=D.Y c;replace H:=H.Y c;replace m:=m.Y c;replace E:=E.Y c;replace g:=g.Y c;replace J:=J.Y c;replace L:=L.Y c;replace M:=M.Y c;replace l:=l.trans c;clear c;refine gg ?_;refine gg ?_;refine aM (oR _ _ _ _ _ _ (N+1+(N+1)) I (L.1.mono aq) (O.iv (an.mul b0)) aq) ?_;rintro _ I ⟨c,e2,e3,rfl,I⟩;refine⟨c,?_⟩;replace r:=r.Y c;replace u:=u.Y c;replace s:=s.Y c;replace A:=A.Y c;replace o:=o.Y c;replace C:=C.Y c;replace D:=D.Y c;replace H:=H.Y c;replace m:=m.Y c;replace E:=E.Y c;replace g:=g.Y c;replace J:=J.Y c;replace L:=L.Y c;replace M:=M.Y c;replace O:=O.Y c;replace l:=l.trans c;clear c;refine gg ?_;refine gg ?_;refine aL ag F rfl A (J) ?_;intro Z A j i B;replace r:=r.kp i j ah;replace u:=u.kp i j ah;replace s:=s.kp i j ah;replace o:=o.kp i j ah;replace C:=C.kp i j ah;replace D:=D.kp i j ah;replace H:=H.kp i j ah;replace m:=m.kp i j ah;replace E:=E.kp i;replace g:=g.kp i;replace J:=J.kp i;replace L:=L.kp i;replace M:=M.kp i;replace O:=O.kp i;replace I:=I.kp i;replace l:=j.aK l λb o=>aq;clear j i B;refine gg ?_;refine gg ?_;refine aL ag F rfl C (I.ev true b4) ?_;intro Z C j i B;replace r:=r.kp i j ah;replace u:=u.kp i j ah;replace s:=s.kp i j ah;replace A:=A.kp i j ah;replace o:=o.kp i j ah;replace D:=D.kp i j ah;replace H:=H.kp i j ah;replace m:=m.kp i j ah;replace E:=E.kp i;replace g:=g.kp i;replace J:=J.kp i;replace L:=L.kp i;replace M:=M.kp i;replace O:=O.kp i;replace I:=I.kp i;replace l:=j.aK l λb o=>aq;clear j i B;refine gg ?_;refine gg ?_;refine c8 [(0,0),(1,0),(2,0),(3,0),(4,1),(5,1),(6,2),(7,2)] mixed aw λay c _=>?_;replace r:=r.Y c;replace u:=u.Y c;replace s:=s.Y c;replace A:=A.Y c;replace o:=o.Y c;replace C:=C.Y c;replace D:=D.Y c;replace H:=H.Y c;replace m:=m.Y c;replace E:=E.Y c;replace g:=g.Y c;replace J:=J.Y c;replace L:=L.Y c;replace M:=M.Y c;replace O:=O.Y c;replace I:=I.Y c;replace l:=l.trans c;clear c;obtain⟨Z,Z,Z,aH⟩:=id D;obtain⟨b4,b0⟩:=a9 Z;obtain⟨Z,Z,Z,b5⟩:=id o;obtain⟨bj,bg⟩:=a9 Z;obtain⟨bs,bl,W,Y⟩:=id H;obtain⟨ak,a4⟩:=a9 W;have Z:=aH;have cb:=b5;have W:=Y;refine gg ?_;clear b4 b0 bj bg ak a4;refine gg ?_;refine aM (i_ _ _ _ _ _ _ (N+1) ay W.1 Z.1 aq) ?_;rintro _ a4 ⟨c,Y,Y,rfl,Y⟩;refine⟨c,?_⟩;replace r:=r.Y c;replace u:=u.Y c;replace s:=s.Y c;replace A:=A.Y c;replace o:=o.Y c;replace C:=C.Y c;replace D:=D.Y c;replace H:=H.Y c;replace m:=m.Y c;replace E:=E.Y c;replace g:=g.Y c;replace J:=J.Y c;replace L:=L.Y c;replace M:=M.Y c;replace O:=O.Y c;replace I:=I.Y c;replace Z:=Z.Y c;replace cb:=cb.Y c;replace W:=W.Y c;replace l:=l.trans c;clear c;refine gg ?_;refine gg ?_;refine aM (oR _ _ _ _ _ _ (N+1+(N+1)) a4 (cb.1.mono aq) (Y.iv (an.mul bu)) aq) ?_;rintro _ a4 ⟨c,e6,e7,rfl,a4⟩;refine⟨c,?_⟩;replace r:=r.Y c;replace u:=u.Y c;replace s:=s.Y c;replace A:=A.Y c;replace o:=o.Y c;replace C:=C.Y c;replace D:=D.Y c;replace H:=H.Y c;replace m:=m.Y c;replace E:=E.Y c;replace g:=g.Y c;replace J:=J.Y c;replace L:=L.Y c;replace M:=M.Y c;replace O:=O.Y c;replace I:=I.Y c;replace Z:=Z.Y c;replace cb:=cb.Y c;replace W:=W.Y c;replace Y:=Y.Y c;replace l:=l.trans c;clear c;refine gg ?_;refine gg ?_;refine aL ag F rfl o (Z) ?_;intro c o j i B;replace r:=r.kp i j ah;replace u:=u.kp i j ah;replace s:=s.kp i j ah;replace A:=A.kp i j ah;replace C:=C.kp i j ah;replace D:=D.kp i j ah;replace H:=H.kp i j ah;replace m:=m.kp i j ah;replace E:=E.kp i;replace g:=g.kp i;replace J:=J.kp i;replace L:=L.kp i;replace M:=M.kp i;replace O:=O.kp i;replace I:=I.kp i;replace Z:=Z.kp i;replace cb:=cb.kp i;replace W:=W.kp i;replace Y:=Y.kp i;replace a4:=a4.kp i;replace l:=j.aK l λb o=>aq;clear j i B;refine gg ?_;refine gg ?_;refine aL ag F rfl D (a4.ev true bx) ?_;intro c D j i B;replace r:=r.kp i j ah;replace u:=u.kp i j ah;replace s:=s.kp i j ah;replace A:=A.kp i j ah;replace o:=o.kp i j ah;replace C:=C.kp i j ah;replace H:=H.kp i j ah;replace m:=m.kp i j ah;replace E:=E.kp i;replace g:=g.kp i;replace J:=J.kp i;replace L:=L.kp i;replace M:=M.kp i;replace O:=O.kp i;replace I:=I.kp i;replace Z:=Z.kp i;replace cb:=cb.kp i;replace W:=W.kp i;replace Y:=Y.kp i;replace a4:=a4.kp i;replace l:=j.aK l λb o=>aq;clear j i B;refine gg ?_;have c:(x%y).natAbs<y.natAbs:=by
   have:=Int.emod_nonneg x Q;have:=Int.emod_lt x Q;omega
  exact⟨_,c,y,x%y,p,q,_,_,F,F,F,F,F,F,F,F,l,r,u,s,A,o,C,D,al⟩
 clear l r u s A o C D;rintro f w1 ⟨x,a,b,p,q,aj,ai,ad,ab,a7,a6,a5,l,r,s,A,o,X⟩;rw[ui aj,ui ai,ui ad,ui ab,ui a7,ui a6,ui a5];clear aj ai ad ab a7 a6 a5;have s:Bx w1 gd 1 cn 0:=by obtain⟨u,v,g,c⟩:=s;exact⟨u,v,g,c.1,λ_=>c.2 rfl⟩
 have l:Ext w w1:=l;have au:Bd N x:=by obtain⟨_,_,_,h⟩:=r;exact h.1.bd
 have ax:Bd (N+1) a:=je X.ba b2;have av:Bd (N+1) b:=je X.bb b1;refine gg ?_;refine yP (λb=>b=V\/b=U\/b=T) [(0,0),(1,0),(2,0),(3,1),(4,1),(5,2)] mixed aw λbt G _=>?_;replace l:=l.trans G;replace r:=r.Y G;replace s:=s.Y G;replace A:=A.Y G;replace o:=o.Y G;obtain⟨c,x1,u,R⟩:=id r;obtain⟨L,J,h,p⟩:=id A;obtain⟨H,G,m,q⟩:=id o;refine gg ?_;refine kh ar aN F u (.inl F) ?_;refine gg ?_;refine kh ar aN F h (.inr (.inl F)) ?_;refine gg ?_;refine kh ar aN F m (.inr (.inr F)) ?_;refine gg ?_;refine gg ?_;refine aL (.inr ⟨F,λ_ hC=>F7 hC λb o=>aq⟩) F rfl s (R) ?_;intro c s j i B;replace r:=r.kp i j ah;replace A:=A.kp i j ah;replace o:=o.kp i j ah;replace R:=R.kp i;replace p:=p.kp i;replace q:=q.kp i;replace h:=h.ch j aq;replace m:=m.ch j aq;replace l:=j.aK l λb o=>aq;clear j i B;refine gg ?_;refine rO aN (.inr F) F rfl p.1.db p.1.de h ?_;intro c B c I;have g:=cK h p.1.jn c;have D:=s.kp g c aq;have j:=m.ch c (show T≠U by omega);have E:=c.aK l λb o=>aq;have C:=p.kp g;have i:=q.kp g;clear s l p q h m r A o R g c I u;refine gg ?_;refine rO aN (.inl F) F rfl i.1.db i.1.de j ?_;intro p m c I;have g:=cK j i.1.jn c;have s:=D.kp g c aq;have h:=B.ch c (show U≠T by omega);have l:=c.aK E λb o=>aq;have o:=C.kp g;have j:=i.kp g;refine gg ?_;obtain⟨p,i,g,c⟩:=s;refine Gt F aN F rfl rfl g h m ⟨l,p,i,L,J,H,G,x,a,b,F,c,o.2 F,j.2 F,X.hx,?_,ax,av⟩;have a:=X.g;have b:=X.nx;have e:Int.gcd x 0=x.natAbs:=Int.gcd_zero_right x;rw[<-a,e];omega
def z9(n k i j a b:Nat):Prop:=k<=a/\k<=b/\b<n/\(a<i\/a=i/\b<j)
def FS(n k i j:Nat)(M:Nat->Nat->Int)(p c:Nat)(d:Bool):Prop:=
 (d=false/\p=0/\c=0/\∀a b,z9 n k i j a b->M a b=0)\/
 (d=true/\z9 n k i j p c/\M p c≠0/\(∀a b,z9 n k i j a b->M a b≠0->(M p c).natAbs<=(M a b).natAbs)/\∀a b,z9 n k p c a b->M a b≠0->(M p c).natAbs<(M a b).natAbs)
theorem FS.same{n k i j f d p c:Nat}{M:Nat->Nat->Int}{q:Bool}(h:FS n k i j M p c q)(e:∀a b,z9 n k f d a b->z9 n k i j a b\/M a b=0)(s:∀a b,z9 n k i j a b->z9 n k f d a b):FS n k f d M p c q:=by
 rcases h with⟨o,m,g,l⟩|⟨o,m,g,l,r⟩
 ·exact .inl ⟨o,m,g,λa b d=>(e a b d).elim (l a b) id⟩
 ·exact .inr ⟨o,s _ _ m,g,λa b d f=>(e a b d).elim (λg=>l a b g f) λg=>absurd g f,r⟩
theorem FS.skip{n k i j p c:Nat}{M:Nat->Nat->Int}{d:Bool}(h:FS n k i j M p c d)(f:M i j=0):FS n k i (j+1) M p c d:=by
 refine h.same (λa b d=>?_) (λa b d=>by unfold z9 at *;omega);by_cases e:a=i/\b=j
 ·rw[e.1,e.2];exact .inr f
 ·refine .inl ?_;unfold z9 at *;omega
theorem FS.new{n k i j p c:Nat}{M:Nat->Nat->Int}{l:Bool}(h:FS n k i j M p c l)(q:k<=i)(q:k<=j)(q:j<n)(o:M i j≠0)(m:l=true->(M i j).natAbs<(M p c).natAbs):FS n k i (j+1) M i j true:=by
 have f:∀a b,z9 n k i j a b->M a b≠0->(M i j).natAbs<(M a b).natAbs:=by
  intro a b e d;rcases h with⟨_,_,_,g⟩|⟨h1,h2,h3,g,l⟩
  ·exact absurd (g a b e) d
  ·exact Nat.lt_of_lt_of_le (m h1) (g a b e d)
 refine .inr ⟨F,by unfold z9;omega,o,λa b e d=>?_,f⟩;by_cases e:a=i/\b=j
 ·rw[e.1,e.2];exact Nat.le_refl _
 ·exact Nat.le_of_lt (f a b (by unfold z9 at *;omega) d)
end
end Go.Proofs.Qq
namespace Go.cU
section
open Go Go.RowKit
section
variable {P:Program}{n:Nat}{ops:Array Oper}{S:World->World->Prop}{K:Fr->World->Prop}{f:Fr}{w:World}{o:Oper}
theorem yT(h:Ro P n ops S K [] f w):K f w:=by unfold Ro at h;exact h
theorem Fv(p:∀a b,Ext a b->S a b){k:Nat}{j:Fr->World->Prop}(i:∀f w,K f w->j f w)(c:k≠0)(h:R1 P n Ext k o K f w):R1 P n S k o j f w:=by
 unfold R1 at h⊢;rw[aa c]at h⊢;split
 ·rename_i g;rw[ae g]at h;obtain⟨v,l,c⟩:=h;exact⟨v,l,i _ _ c⟩
 ·rename_i g;rw[aa g]at h;refine Oper.wp_mono (λy u m=>?_) h;obtain⟨s,e,r,q⟩:=m;exact⟨s,e,r.imp id λh=>h.imp id (p _ _),i _ _ q⟩
theorem ti(j:∀a b,Ext a b->S a b){m:Fr->World->Prop}(l:∀f w,K f w->m f w):∀(c:List (Nat×Nat)) (f:Fr) (w:World),(c.all λq=>q.2 != 0)=true->Ro P n ops Ext K c f w->Ro P n ops S m c f w
 |[],f,w,_,h=>tg (l _ _ (yT h))
 |(i,k)::rest,f,w,e,h=>by
  rw[List.all_cons,Bool.and_eq_true]at e;have p:k≠0:=by simpa using e.1
  unfold Ro at h⊢;obtain⟨o,r,h⟩:=h;refine⟨o,r,?_⟩;split
  ·rename_i g;rw[ae g]at h;exact Fv j (λf w h=>ti j l rest f w e.2 h) p h
  ·rename_i g;rw[aa g]at h;exact ti j l rest _ _ e.2 h
theorem Fq(l:∀a b,Ext a b->S a b){G:List nP}{a:List (Nat×Nat)}(j:(G.all λg=>g.2.1.all λq=>q.2 != 0)=true)(h:Rg P n ops Ext G [] (λf w=>Ro P n ops S K a f w) f w):Rg P n ops S G a K f w:=by
 unfold Rg at h;obtain⟨a,b,m,p⟩:=h;refine vH a b (λi e g c L f w b a q=>?_) λL f w b a=>yT (p L f w b a);refine ti l (λ_ _ h=>h) _ f w ?_ (m i e g c L f w b a q);rw[List.all_cons,Bool.and_eq_true];exact⟨F,List.all_eq_true.1 j _ c⟩
theorem yV{a:Fr->World->Prop}(c:∀f w,K f w->a f w):∀(C:List (Nat×List (Nat×Nat))) (f:Fr) (w:World),Rc P n ops K C f w->Rc P n ops a C f w
 |[],f,w,h=>fM λa b=>c _ _ (by unfold Rc at h;exact h a b)
 |(i,e)::C,f,w,h=>cT λa b=>nL (λf w h=>yV c C f w h) _ _ _ (by unfold Rc at h;exact h a b)
theorem z_{M:Nat->Prop}{G:List nP}{e:List (Nat×Nat)}(C:List (Nat×List (Nat×Nat)))(aI:List FC)(E:List Nat)(i:BL ops G C (aI.map λa=>(a.i,a.d)) E=true)(j:(G.all λg=>g.2.1.all λq=>q.2 != 0)=true)
 (l:∀a,a∈aI->∀g b,AA n E g f->Ext w b->Ro P n ops Ext (λh c=>h=bS g a.d (a.vl b.heap.size)/\bh c b.heap.size a.T a.cs/\Ext b c) [(a.i,1)] g b)
 (m:Rc P n ops (λh g=>∀c:Nat->Nat,(∀a,a∈aI->w.heap.size<=c a.d/\bh g (c a.d) a.T a.cs)->(∀a b,a∈aI->b∈aI->a.d≠b.d->c a.d≠c b.d)->Ro P n ops (Ch M) K e (Dx c aI h) g) C f w):
 Rg P n ops (Ch M) G e K f w:=
 Fq (λ_ _ h=>h.mono λ_ _ e=>e.elim) j (dT C aI E i l (yV (λ_ _ h c b a=>tg (h c b a)) C f w m))
theorem Ff{Q:Exit->Fr->World->Prop}{j:Nat}{ops:Array Oper}{c:Code}{f:Fr}{w:World}(g:List (Nat×Nat))(G:List nP)(e:List (Nat×Nat))(l:P.follows .mixedOrders=true)
 (i:ys ops g G e=true)
 (h:∀a,Ext w a->a.heap=w.heap->Ro P n ops (Ch λb=>a.heap.size<=b) (Rg P n ops (Ch λb=>a.heap.size<=b) G e (W P n c Q)) g f a):W P n (.seq (.region j ops true) c) Q f w:=
 aP (yR (S:=Ch λb=>w.heap.size<=b) (λ_ _ _ h k=>h.trans k) g G e l i (by rw[ji];exact h _ (kC w) F))
end
section
variable {P:Program}{n:Nat}{k:Nat}{K:Fr->World->Prop}{f:Fr}{w:World}{d ty t:Nat}{x:Operand}{pos:String}{aft:Array Edge}{gd:Option (Nat×Bool)}
theorem ki{p:Addr}{v:Value}(j:k≠3)(i:ia P t=true)(g:ev n f x=.pointer (some p))(c:w.cell? p=some v)(h:K (bS f d v) w):
 R1 P n (Ch λb=>w.heap.size<=b) k ⟨some d,.load t x,ty,pos,aft,gd⟩ K f w:=by
 refine fX j (v:=v) (λb a=>?_) h;have e:b.cell? p=some v:=by
  rcases a with a|rfl
  ·have b:=World.block_lt_of_cell? w _ c;rw[jK a b (λh=>by have:w.heap.size<=p.block:=h;omega)];exact c
  ·exact c
 simp only[execOp,g,Sem.run_bind,iY i e,Result.andThen_ok,Sem.run_pure]
theorem l7{p:Addr}{v0 v1:Value}(j:k≠3)(i:dL P t 2=true)(g:ev n f x=.pointer (some p))(l:w.cell? p=some v0)(h1:w.cell? (p.add 1)=some v1)(h:K (bS f d (.agg #[v0,v1])) w):
 R1 P n (Ch λb=>w.heap.size<=b) k ⟨some d,.load t x,ty,pos,aft,gd⟩ K f w:=by
 refine fX j (v:=.agg #[v0,v1]) (λb c=>?_) h;have a:∀q u,w.cell? q=some u->b.cell? q=some u:=λq u e=>by
  rcases c with c|rfl
  ·have b:=World.block_lt_of_cell? w _ e;rw[jK c b (λh=>by have:w.heap.size<=q.block:=h;omega)];exact e
  ·exact e
 simp only[execOp,g,Sem.run_bind,cW i (a _ _ l) (a _ _ h1),Result.andThen_ok,Sem.run_pure]
end
end
end Go.cU
namespace Go.Proofs.Qq
section
open Go Go.cU Go.cV Go.Proofs
theorem dF:cP Tryz.prog 94 27 1 24 (.slice none 0 0):=⟨Tryz.underlying94,by kernel_rfl⟩
theorem gc{G G':Prop}(h:G')(t:Gw G'->G:=by intro hgg;(repeat (first|refine uP ?_|(refine nO ?_;(first|refine dP dF rfl rfl (by omega) ?_|refine dY dF rfl rfl (by omega) ?_|refine kK dF rfl (by omega) ?_|refine l8 dF rfl (by omega) ?_|refine iC dF rfl ?_|refine ki (by decide) (aW F) F (by assumption) ?_|refine l7 (by decide) aN F (by assumption) (by assumption) ?_))));exact hgg.out):G:=t ⟨h⟩
theorem dk.tight{w:World}{g c:Nat}{bn bn':Nat->Nat}{M:Nat->Int}(h:dk w g c true bn M)(d:∀j,j<c->Bd (bn' j) (M j)):dk w g c true bn' M:=by
 obtain⟨a,e,b⟩:=h;exact⟨a,e,λj a=>((b j a).2 rfl).ev true (d j a)⟩
theorem f_.tight{w:World}{g c a:Nat}{bn bn':Nat->Nat}{M:Nat->Int}(h:f_ w g c a true bn M)(d:∀j,j<c->Bd (bn' j) (M j)):f_ w g c a true bn' M:=by
 obtain⟨k,i,a,f,e,b⟩:=h;exact⟨k,i,a,f,e,λj a=>((b j a).2 rfl).ev true (d j a)⟩
def eF{α:Type}(f:Nat->α)(i:Nat)(v:α):Nat->α:=λa=>if a=i then v else f a
theorem cJ{α:Type}(f:Nat->α)(i:Nat)(v:α):eF f i v i=v:=ae F
theorem bZ{α:Type}(f:Nat->α){i a:Nat}(v:α)(h:a≠i):eF f i v a=f a:=aa h
theorem bO.set{w w':World}{f r c g p b i:Nat}{k o:Nat->Nat}{cn:Bool}{M:Nat->Nat->Int}{v:Nat->Int}(h:bO w f k o r c cn (λ_ _=>b) M)(x:i<r)(u:f_ w' g c p cn (λ_=>b) v)(y:Ch (λb=>b=f) w w')(s:Kp w w')
 (x:bh w' f 27 (arr r λa=>.slice (some ⟨eF k i g a,0,none⟩) c (eF o i p a))) (t:g≠f) (q:∀a,a<r->k a≠g):bO w' f (eF k i g) (eF o i p) r c cn (λ_ _=>b) (eF M i v):=by
 refine⟨x,λa d=>?_,λa d=>?_,λa l d m e=>?_⟩
 ·by_cases e:a=i
  ·subst e;rw[cJ,cJ,cJ];exact u
  ·rw[bZ _ _ e,bZ _ _ e,bZ _ _ e];exact(h.row a d).kp s y (h.ne a d)
 ·by_cases e:a=i
  ·subst e;rw[cJ];exact t
  ·rw[bZ _ _ e];exact h.ne a d
 ·by_cases n:a=i
  ·by_cases j:l=i
   ·omega
   ·subst n;rw[cJ,bZ _ _ j]at e;exact absurd e.symm (q l m)
  ·by_cases j:l=i
   ·subst j;rw[cJ,bZ _ _ n]at e;exact absurd e (q a d)
   ·rw[bZ _ _ n,bZ _ _ j]at e;exact h.inj a l d m e
theorem iK(v:Value)(n m i j N K:Nat)(C:Nat->Nat->Int)(a b:Int)(R P Q O:Value)(w:World)(h:cO (EI N) w v n (λ_=>m) C)(x:i<n)(k:j<n)(y:IV w N R P a)(u:IV w N Q O b)
 (A:N+N+1<17592186044416) (A:1<=m) (A:m<=1048576) (Z:∀r,r<m->Bd K (a*C i r+b*C j r)):
 aT Tryz.prog 118 #[v,.int .i64 (i:Int),.agg #[R,P],.int .i64 (j:Int),.agg #[Q,O]] w λv s=>
  Ext w s/\∃g,v=.slice (some ⟨g,0,none⟩) m m/\w.heap.size<=g/\dk s g m true (λ_=>K) (λr=>a*C i r+b*C j r):=by
 obtain⟨A,X,rfl,A,A,A⟩:=id h;refine bF (n:=48) Tryz.func118 F rfl aw aA ?_;obtain⟨ad,_,A,e,S,U⟩:=h.at x;cases e;obtain⟨_,_,x,e,W,T⟩:=h.at k;cases e;obtain⟨k,k,_,_,rfl,_,_,_⟩:=U.at (show 0<m by omega);obtain⟨k,k,_,_,rfl,_,_,_⟩:=T.at (show 0<m by omega);have bA:Bd N a:=y.bd;have bB:Bd N b:=u.bd;have d:Ext w w:=Ext.refl w;refine gc ?_;refine aZ (v:=.agg _) (.inl F) F ?_;intro A k c L;have t:bh A w.heap.size 35 #[R,P]:=k;obtain⟨E,x⟩ : ∃g,g=w.heap.size:=⟨_,F⟩;rw[<-x]at t⊢;have Y:w.heap.size<=E:=by have:=d.size;omega
 replace y:=y.Y c;replace u:=u.Y c;replace d:=d.trans c;clear k L x c;refine gc ?_;refine aZ (v:=.agg _) (.inl F) F ?_;intro z k c L;have M:bh z A.heap.size 35 #[Q,O]:=k;obtain⟨D,x⟩ : ∃g,g=A.heap.size:=⟨_,F⟩;rw[<-x]at M⊢;have A:w.heap.size<=D:=by have:=d.size;omega
 have A:E<D:=by have:=t.lt;omega
 replace y:=y.Y c;replace u:=u.Y c;replace t:=t.Y c;replace d:=d.trans c;clear k L x c;have o:Bx z E N false a:=⟨R,P,t,y,λh=>by cases h⟩;have l:Bx z D N false b:=⟨Q,O,M,u,λh=>by cases h⟩;clear t M y u;refine gc ?_;have x:=aS d S;refine gc ?_;refine cF eE (.inl F) F rfl aD aq aq ?_;intro k t k A;obtain⟨g,y⟩ : ∃g,g=(z).heap.size:=⟨_,F⟩;rw[<-y]at t⊢;have p:=ff true K t;have M:=o.lt;have L:=l.lt;have z:=d.size;replace o:=o.Y k;replace l:=l.Y k;replace d:=d.trans k;have O:w.heap.size<=g/\E<g/\D<g:=aq;clear t k A x;refine gc ?_;refine aX (λf s=>f 11=.slice (some ⟨g,0,none⟩) m m/\Ext w s/\dk s g m true (λ_=>K) λr=>a*C i r+b*C j r) ?_ ?_
 ·refine gc ?_;refine aU (λk f s=>∃q,k=m-q/\q<=m/\f 0=.slice (some ad) n X/\f 1=.int .i64 (i:Int)/\f 3=.int .i64 (j:Int)/\f 7=.pointer (some ⟨E,0,none⟩)/\f 9=.pointer (some ⟨D,0,none⟩)/\f 11=.slice (some ⟨g,0,none⟩) m m/\f 20=.int .i64 (m:Int)/\f 21=.int .i64 ((q:Nat):Int)/\Ext w s/\Bx s E N false a/\Bx s D N false b/\dk s g m true (λ_=>K) λr=>if r<q then a*C i r+b*C j r else 0)
   m ⟨0,F,aE,F,F,F,F,F,F,F,F,d,o,l,p.congr λq _=>⟨aD,by rw[aa aq]⟩⟩ ?_
  clear d o l p y M L z;rintro k f V ⟨q,rfl,k,D,A,z,y,x,t,s,k,d,o,l,p⟩;rw[ui D,ui A,ui z,ui y,ui x,ui t,ui s,ui k];clear D A z y x t s k;by_cases B:q<m;rotate_left
  ·obtain rfl:q=m:=aq;refine gc ?_;exact⟨F,d,p.congr λr k=>⟨aD,by rw[ae k]⟩⟩
  obtain⟨_,_,x1,k,e,J,H,ct⟩:=U.at B;cases e;obtain⟨_,_,k,k,e,I,G,fg⟩:=T.at B;cases e;replace ct:=ct.Y d;replace fg:=fg.Y d;have P:Bd N (C i q):=ct.bd;have O:Bd N (C j q):=fg.bd;have d:Ext w V:=d;refine gc ?_;refine gc ?_;refine c8 [(0,3),(1,3),(2,0),(3,3),(4,3),(5,3),(6,0),(7,3),(8,3),(9,0),(11,0),(12,3),(13,3),(14,3),(15,0),(16,3),(17,3),(18,0),(10,1),(19,1),(20,1),(21,3),(22,2)] mixed aw λA c _=>?_;replace o:=o.Y c;replace l:=l.Y c;replace p:=p.Y c;replace ct:=ct.Y c;replace fg:=fg.Y c;replace d:=d.trans c;clear c;replace J:=aS d J;replace H:=aS d H;replace I:=aS d I;replace G:=aS d G;have z:=aS d S;have y:=aS d W;obtain⟨k,k,k,x⟩:=id o;obtain⟨M,L⟩:=a9 k;obtain⟨k,k,s,k⟩:=id l;obtain⟨E,D⟩:=a9 s;have t:=x.1;have s:=k.1;refine gc ?_;refine gc ?_;refine aM (i_ _ _ _ _ _ _ N A t ct aq) ?_;rintro _ x ⟨c,k,k,rfl,k⟩;refine⟨c,?_⟩;replace o:=o.Y c;replace l:=l.Y c;replace p:=p.Y c;replace ct:=ct.Y c;replace fg:=fg.Y c;replace t:=t.Y c;replace s:=s.Y c;replace d:=d.trans c;clear c;refine gc ?_;refine gc ?_;refine aM (i_ _ _ _ _ _ _ N x s fg aq) ?_;rintro _ A ⟨c,x,x,rfl,x⟩;refine⟨c,?_⟩;replace o:=o.Y c;replace l:=l.Y c;replace p:=p.Y c;replace ct:=ct.Y c;replace fg:=fg.Y c;replace t:=t.Y c;replace s:=s.Y c;replace k:=k.Y c;replace d:=d.trans c;clear c;refine gc ?_;refine gc ?_;refine aM (nG _ _ _ _ _ _ (N+N) A (k.iv (bA.mul P)) (x.iv (bB.mul O)) aq) ?_;rintro _ A ⟨c,A,A,rfl,A⟩;refine⟨c,?_⟩;replace o:=o.Y c;replace l:=l.Y c;replace p:=p.Y c;replace ct:=ct.Y c;replace fg:=fg.Y c;replace t:=t.Y c;replace s:=s.Y c;replace k:=k.Y c;replace x:=x.Y c;replace d:=d.trans c;clear c;clear M L E D J I H G z y;refine gc ?_;refine dW (.inl F) F rfl p B (A.ev true (Z q B)) ?_;intro c t c k s;have s:=c.aK d λb u=>aq;have x:=o.kp k c aq;have u:=l.kp k c aq;refine gc ?_;refine⟨_,?_,q+1,F,aq,F,F,F,F,F,F,F,F,s,x,u,t.congr λr _=>⟨?_,?_⟩⟩
  ·omega
  ·simp only[cZ];split<;>exact Nat.le_refl _
  ·simp only[fR];by_cases e:r=q
   ·subst e;rw[ae F,ae aq]
   ·rw[aa e];by_cases c:r<q
    ·rw[ae c,ae aq]
    ·rw[aa c,aa aq]
 clear d o l p;rintro f V ⟨c,d,p⟩;rw[ui c];refine gc ?_;exact cI F rfl ⟨d,g,F,aq,p⟩
