import Derived.Test.YtmfndnlifgphjaaGreatDoorQzJ
set_option maxHeartbeats 64000000
open Go.Proofs.YtmfndnlifgphjaaGreatDoor
namespace Go.Proofs.Qq
section
open Go Go.cW Go.c7 Go.Proofs
theorem Mf{P:Program}{n:Nat}{f:Fr}{w:World}{e:Func}{t u s:Tmp}{T G H I:Nat}{a:Value->World->Prop}{x y i c g b:Value}(A:e.results=#[.cell t T,.cell u T,.cell s T])(m:eP P T 2=true)
 (r:ev n f (.tmp t)=.pointer (some ⟨G,0,none⟩)) (q:ev n f (.tmp u)=.pointer (some ⟨H,0,none⟩)) (z:ev n f (.tmp s)=.pointer (some ⟨I,0,none⟩)) (o:bg w G T #[x,y]) (l:bg w H T #[i,c]) (j:bg w I T #[g,b]) (h:a (.tuple #[.agg #[x,y],.agg #[i,c],.agg #[g,b]]) w):
 bodyPost P e (Et a) .ret (act n f) w:=by
 refine bodyPost_ret (v:=.tuple #[.agg #[x,y],.agg #[i,c],.agg #[g,b]]) ?_ F ⟨_,F,h⟩;have e:=congrFun (cO n f) (.tmp t);have p:=congrFun (cO n f) (.tmp u);have h:=congrFun (cO n f) (.tmp s);simp only[Act.eval]at e p h;have C:w.cell? ⟨G,0,none⟩=some x:=by rw[o.cell];rfl
 have B:w.cell? ((⟨G,0,none⟩ : Addr).add 1)=some y:=by rw[add_lit,o.cell];rfl
 have o:w.cell? ⟨H,0,none⟩=some i:=by rw[l.cell];rfl
 have a:w.cell? ((⟨H,0,none⟩ : Addr).add 1)=some c:=by rw[add_lit,l.cell];rfl
 have i:w.cell? ⟨I,0,none⟩=some g:=by rw[j.cell];rfl
 have g:w.cell? ((⟨I,0,none⟩ : Addr).add 1)=some b:=by rw[add_lit,j.cell];rfl
 have c:=dB (P:=P) m C B;have b:=dB (P:=P) m o a;have a:=dB (P:=P) m i g;simp only[Instr.loadAt,Instr.sureAddr,Sem.run_bind,Sem.run_pure,Result.andThen_ok]at c b a;have i:(act n f).tmps[t]?.getD undef=.pointer (some ⟨G,0,none⟩):=by rw[<-r,<-e];simp
 have g:(act n f).tmps[u]?.getD undef=.pointer (some ⟨H,0,none⟩):=by rw[<-q,<-p];simp
 have e:(act n f).tmps[s]?.getD undef=.pointer (some ⟨I,0,none⟩):=by rw[<-z,<-h];simp
 simp[results,A,i,g,e,asAddr,c,b,a]
def SL(L:Nat->Prop)(w w':World):Prop:=∀g T a,L g->bg w g T a->bg w' g T a
theorem IB(L:Nat->Prop):∀a b c:World,SL L a b->SL L b c->SL L a c:=λ_ _ _ h k g T b a c=>k g T b a (h g T b a c)
theorem LN{L:Nat->Prop}{w w':World}{g:Nat}(h:Ch (λb=>b=g) w w')(a:∀b,L b->b≠g):SL L w w':=λb _ _ e c=>c.ch h (a b e)
section
variable {P:Program}{n:Nat}{S:World->World->Prop}{k:Nat}{K:Fr->World->Prop}{f:Fr}{w:World}
 {d ty t t2:Nat} {x y:Operand} {pos:String} {aft:Array Edge} {gd:Option (Nat×Bool)}
theorem l_{L:Nat->Prop}{g T:Nat}{u v:Value}(e:k≠3)(j:eP P t 2=true)(i:ev n f x=.pointer (some ⟨g,0,none⟩))(b:bg w g T #[u,v])(l:L g)(h:K (cg f d (.agg #[u,v])) w):
 R1 P n (SL L) k ⟨some d,.load t x,ty,pos,aft,gd⟩ K f w:=by
 refine iD e (v:=.agg #[u,v]) (λe a=>?_) h;have c:bg e g T #[u,v]:=by
  rcases a with a|rfl
  ·exact a g T _ l b
  ·exact b
 obtain⟨b,a⟩:=bh c;simp only[execOp,i,Sem.run_bind,dB j b a,Result.andThen_ok,Sem.run_pure]
theorem vY{L:Nat->Prop}{g T:Nat}{u v:Value}(p:eP P t 2=true)(r:k=2\/k=1)(o:ev n f x=.pointer (some ⟨g,0,none⟩))(m:ev n f y=.agg #[u,v])(l:u.oneCell'=true)(j:v.oneCell'=true)(a:bg w g T #[u,v])
 (h:∀w',bg w' g T #[u,v]->Ch (λb=>b=g) w w'->w'.heap.size=w.heap.size->K f w'):
 R1 P n (SL L) k ⟨none,.store t x y,ty,pos,aft,gd⟩ K f w:=by
 have c:Ch (λb=>b=g) w ((w.setCell ⟨g,0,none⟩ u).setCell ⟨g,0+1,none⟩ v):=(fF w ⟨g,0,none⟩ u).trans (fF _ ⟨g,0+1,none⟩ v);have q:SL L w ((w.setCell ⟨g,0,none⟩ u).setCell ⟨g,0+1,none⟩ v):=λb s s _ i=>by
  by_cases e:b=g
  ·subst e;have b:=Option.some.inj (Eq.trans (Eq.symm a) i);cases b;exact(a.set 0 u).set (0+1) v
  ·exact i.ch c e
 refine qB (w':=(w.setCell ⟨g,0,none⟩ u).setCell ⟨g,0+1,none⟩ v) (r.imp id λh=>⟨h,q⟩) rfl ?_ (h _ ((a.set 0 u).set (0+1) v) c (by rw[size_setCell,size_setCell]));simp only[execOp,o,m,Sem.run_bind,oG p l j a (show 0+1<2 by decide),Result.andThen_ok,Sem.run_pure]
theorem En{Q:Exit->Fr->World->Prop}{i:Nat}{a:Array Oper}{c:Code}(L:Nat->Prop)(b:List (Nat×Nat))(j:P.follows .mixedOrders=true)
 (g:(b.length == a.size&&Region.noSelect a&&jI a (uh b) b (Array.replicate a.size false))=true)
 (h:∀e,Ext w e->e.heap=w.heap->Ro P n a (SL L) (W P n c Q) b f e):W P n (.seq (.region i a true) c) Q f w:=
 aN (tE (SL L) (IB L) b j g (by rw[kg];exact h _ (mI w) F))
end
structure Ez(x0 y0 x y a b p q:Int):Prop where
 hx:x=a*x0+b*y0
 hy:y=p*x0+q*y0
 nx:0<=x
 ny:0<=y
 g:Int.gcd x y=Int.gcd x0 y0
 m1:x.natAbs*p.natAbs+y.natAbs*a.natAbs<=y0.natAbs
 m2:x.natAbs*q.natAbs+y.natAbs*b.natAbs<=x0.natAbs
 ba:a.natAbs<=y0.natAbs+1
 bb:b.natAbs<=x0.natAbs+1
 bp:p.natAbs<=y0.natAbs+1
 bq:q.natAbs<=x0.natAbs+1
theorem Ez.start{b a:Int}(e:0<=b)(c:0<=a):Ez b a b a 1 0 0 1:=by
 refine⟨aq,aq,e,c,F,?_,?_,?_,?_,?_,?_⟩<;>simp
theorem HO{a p q:Int}{y:Nat}:(y*(a-q*p).natAbs:Nat)<=y*a.natAbs+y*q.natAbs*p.natAbs:=by
 have c:(a-q*p).natAbs<=a.natAbs+(q*p).natAbs:=aq;rw[Int.natAbs_mul]at c;have b:=Nat.mul_le_mul_left y c;rw[Nat.mul_add,<-Nat.mul_assoc]at b;exact b
theorem Ez.step{i e x y a b p q:Int}(h:Ez i e x y a b p q)(m:y≠0):Ez i e y (x%y) p q (a-x/y*p) (b-x/y*q):=by
 have l:=h.ny;have e:0<y:=aq;have e:0<=x/y:=Int.ediv_nonneg h.nx l;have r:=Int.emod_nonneg x m;have e:=Int.emod_add_mul_ediv x y;have e:x.natAbs=(x%y).natAbs+y.natAbs*(x/y).natAbs:=by
  have c:((x%y).natAbs:Int)=x%y:=aq;have j:((x/y).natAbs:Int)=x/y:=aq;have i:(y.natAbs:Int)=y:=aq;have g:(x.natAbs:Int)=x:=by have:=h.nx;omega
  refine Int.ofNat.inj ?_;show(x.natAbs:Int)=(((x%y).natAbs+y.natAbs*(x/y).natAbs:Nat):Int);rw[Int.natCast_add,Int.natCast_mul,c,j,i,g];omega
 have m:=HO (a:=a) (p:=p) (q:=x/y) (y:=y.natAbs);have m:=HO (a:=b) (p:=q) (q:=x/y) (y:=y.natAbs);have o:=h.m1;have m:=h.m2;rw[e,Nat.add_mul]at o m;have e:1<=y.natAbs:=aq;have m:(a-x/y*p).natAbs<=y.natAbs*(a-x/y*p).natAbs:=Nat.le_mul_of_pos_left _ e;have m:(b-x/y*q).natAbs<=y.natAbs*(b-x/y*q).natAbs:=Nat.le_mul_of_pos_left _ e;refine⟨h.hy,?_,l,r,?_,aq,aq,h.bp,h.bq,aq,aq⟩
 ·have c:=h.hx;have j:=h.hy;have i:x%y=x-y*(x/y):=aq;rw[i];generalize x/y=t at*;rw[c,j];grind
 ·rw[<-h.g];have:Int.gcd y (x%y)=Int.gcd x y:=by
   show Nat.gcd y.natAbs (x%y).natAbs=Nat.gcd x.natAbs y.natAbs;have c:(x%y).natAbs=x.natAbs%y.natAbs:=by
    have g:=h.nx;rw[Int.natAbs_emod_of_nonneg g]
   rw[c,Nat.gcd_comm x.natAbs,Nat.gcd_rec y.natAbs x.natAbs,Nat.gcd_comm]
  exact this
def PS(w:World)(e c:Int)(N:Nat)(cn:Bool)(v:Value)(w':World):Prop:=
 Ext w w'/\∃x y l i j h g a b,v=.tuple #[.agg #[x,y],.agg #[l,i],.agg #[j,h]]/\EV w' N cn x y g/\CV w' l i a/\CV w' j h b/\g=a*e+b*c/\g=(Int.gcd e c:Nat)/\Bd (N+1) a/\Bd (N+1) b
theorem j_{N:Nat}{a z:Int}(h:a.natAbs<=z.natAbs+1)(b:Bd N z):Bd (N+1) a:=by
 unfold Bd at*;rw[Nat.pow_succ];have b:0<B^N:=Nat.pow_pos aw;have b:B^N*2<=B^N*B:=Nat.mul_le_mul_left _ aw;omega
theorem vN(x1 y1 x2 y2:Value)(R M:Int)(N:Nat)(cn:Bool)(w:World)(h1:EV w N cn x1 y1 R)(H:EV w N cn x2 y2 M)(m:N+N+2<17592186044416)(b5:0<=R)(b4:0<=M):
 aT Tryz.prog 208 #[.agg #[x1,y1],.agg #[x2,y2]] w (PS w R M N cn):=by
 refine bo (n:=43) Tryz.func208 F rfl az aA ?_;have b1:Bd N R:=h1.1.bd;have b2:Bd N M:=H.1.bd;have l:Ext w w:=Ext.refl w;refine gg ?_;refine bO (v:=.agg _) (.inl F) F ?_;intro J E c B;have m:bg J w.heap.size 44 #[x1,y1]:=E;obtain⟨V,G⟩ : ∃g,g=w.heap.size:=⟨_,F⟩;rw[<-G]at m⊢;have I:w.heap.size<=V:=by have:=l.size;omega
 replace h1:=h1.Y c;replace H:=H.Y c;replace l:=l.trans c;clear E B G c;refine gg ?_;refine bO (v:=.agg _) (.inl F) F ?_;intro I E c B;have Q:bg I J.heap.size 44 #[x2,y2]:=E;obtain⟨L,G⟩ : ∃g,g=J.heap.size:=⟨_,F⟩;rw[<-G]at Q⊢;have J:w.heap.size<=L:=by have:=l.size;omega
 have J:V<L:=by have:=m.lt;omega
 replace h1:=h1.Y c;replace H:=H.Y c;replace m:=m.Y c;replace l:=l.trans c;clear E B G c;have r:Bx I V N cn R:=⟨x1,y1,m,h1⟩;have u:Bx I L N cn M:=⟨x2,y2,Q,H⟩;clear m Q h1 H;refine gg ?_;refine aS (.inl F) a_ ?_;intro H E c B;have s:=Bx.zero (N:=1) true E;obtain⟨gd,G⟩ : ∃g,g=I.heap.size:=⟨_,F⟩;rw[<-G]at s⊢;have m:w.heap.size<=gd:=by have:=l.size;omega
 have m:V<gd:=by have:=r.lt;omega
 have m:L<gd:=by have:=u.lt;omega
 replace r:=r.Y c;replace u:=u.Y c;replace l:=l.trans c;clear E B G c;refine gg ?_;refine aS (.inl F) a_ ?_;intro I E c B;have A:=Bx.zero (N:=1) true E;obtain⟨U,G⟩ : ∃g,g=H.heap.size:=⟨_,F⟩;rw[<-G]at A⊢;have m:w.heap.size<=U:=by have:=l.size;omega
 have m:V<U:=by have:=r.lt;omega
 have m:L<U:=by have:=u.lt;omega
 have m:gd<U:=by have:=s.lt;omega
 replace r:=r.Y c;replace u:=u.Y c;replace s:=s.Y c;replace l:=l.trans c;clear E B G c;refine gg ?_;refine aS (.inl F) a_ ?_;intro H E c B;have o:=Bx.zero (N:=1) true E;obtain⟨T,G⟩ : ∃g,g=I.heap.size:=⟨_,F⟩;rw[<-G]at o⊢;have m:w.heap.size<=T:=by have:=l.size;omega
 have m:V<T:=by have:=r.lt;omega
 have m:L<T:=by have:=u.lt;omega
 have m:gd<T:=by have:=s.lt;omega
 have m:U<T:=by have:=A.lt;omega
 replace r:=r.Y c;replace u:=u.Y c;replace s:=s.Y c;replace A:=A.Y c;replace l:=l.trans c;clear E B G c;refine gg ?_;refine gg ?_;refine aJ (du 1 H aw aw) ?_;rintro _ m ⟨c,a0,m,rfl,H⟩;replace r:=r.Y c;replace u:=u.Y c;replace s:=s.Y c;replace A:=A.Y c;replace o:=o.Y c;replace l:=l.trans c;clear c;refine gg ?_;refine dR fm ?_;have m:Bd (N+1) 1:=j_ (z:=0) aw (Bd.zero N);have J:Bd (N+1) 0:=Bd.zero (N+1);refine gg ?_;refine aL ag F rfl A (H.ev true m) ?_;intro I A j i B;replace r:=r.kp i j ah;replace u:=u.kp i j ah;replace s:=s.kp i j ah;replace o:=o.kp i j ah;replace H:=H.kp i;replace l:=j.aK l λb o=>aq;clear j i B;have ar:=CV.zero I;refine gg ?_;refine aL ag F rfl o (ar.ev true J) ?_;intro I o j i B;replace r:=r.kp i j ah;replace u:=u.kp i j ah;replace s:=s.kp i j ah;replace A:=A.kp i j ah;replace H:=H.kp i;replace l:=j.aK l λb o=>aq;clear j i B;refine gg ?_;refine dR fm ?_;refine gg ?_;refine aJ (du 1 I aw aw) ?_;rintro _ au ⟨c,a2,a3,rfl,I⟩;replace r:=r.Y c;replace u:=u.Y c;replace s:=s.Y c;replace A:=A.Y c;replace o:=o.Y c;replace H:=H.Y c;replace l:=l.trans c;clear c;refine gg ?_;refine aS (.inl F) a_ ?_;intro ay E c B;have C:=Bx.zero (N:=1) true E;obtain⟨W,G⟩ : ∃g,g=au.heap.size:=⟨_,F⟩;rw[<-G]at C⊢;have au:w.heap.size<=W:=by have:=l.size;omega
 have au:V<W:=by have:=r.lt;omega
 have au:L<W:=by have:=u.lt;omega
 have au:gd<W:=by have:=s.lt;omega
 have au:U<W:=by have:=A.lt;omega
 have au:T<W:=by have:=o.lt;omega
 replace r:=r.Y c;replace u:=u.Y c;replace s:=s.Y c;replace A:=A.Y c;replace o:=o.Y c;replace H:=H.Y c;replace I:=I.Y c;replace l:=l.trans c;clear E B G c;refine gg ?_;refine aS (.inl F) a_ ?_;intro ax E c B;have D:=Bx.zero (N:=1) true E;obtain⟨O,G⟩ : ∃g,g=ay.heap.size:=⟨_,F⟩;rw[<-G]at D⊢;have au:w.heap.size<=O:=by have:=l.size;omega
 have au:V<O:=by have:=r.lt;omega
 have au:L<O:=by have:=u.lt;omega
 have au:gd<O:=by have:=s.lt;omega
 have au:U<O:=by have:=A.lt;omega
 have au:T<O:=by have:=o.lt;omega
 have au:W<O:=by have:=C.lt;omega
 replace r:=r.Y c;replace u:=u.Y c;replace s:=s.Y c;replace A:=A.Y c;replace o:=o.Y c;replace H:=H.Y c;replace I:=I.Y c;replace C:=C.Y c;replace l:=l.trans c;clear E B G c;have ar:=CV.zero ax;refine gg ?_;refine aL ag F rfl C (ar.ev true J) ?_;intro J C j i B;replace r:=r.kp i j ah;replace u:=u.kp i j ah;replace s:=s.kp i j ah;replace A:=A.kp i j ah;replace o:=o.kp i j ah;replace H:=H.kp i;replace I:=I.kp i;replace D:=D.kp i j ah;replace l:=j.aK l λb o=>aq;clear j i B;refine gg ?_;refine aL ag F rfl D (I.ev true m) ?_;intro m D j i B;replace r:=r.kp i j ah;replace u:=u.kp i j ah;replace s:=s.kp i j ah;replace A:=A.kp i j ah;replace o:=o.kp i j ah;replace H:=H.kp i;replace I:=I.kp i;replace C:=C.kp i j ah;replace l:=j.aK l λb o=>aq;clear j i B;refine gg ?_;refine aY (λf J=>∃x a b p q,f 2=.pointer (some ⟨V,0,none⟩)/\f 3=.pointer (some ⟨L,0,none⟩)/\f 4=.pointer (some ⟨gd,0,none⟩)/\f 5=.pointer (some ⟨U,0,none⟩)/\f 6=.pointer (some ⟨T,0,none⟩)/\f 7=.pointer (some ⟨W,0,none⟩)/\f 8=.pointer (some ⟨O,0,none⟩)/\Ext w J/\Bx J V N cn x/\Bx J gd 1 true 0/\Bx J U (N+1) true a/\Bx J T (N+1) true b/\Ez R M x 0 a b p q) ?_ ?_
 ·refine gg ?_;refine aU (λm f J=>∃x y a b p q,m=y.natAbs/\f 2=.pointer (some ⟨V,0,none⟩)/\f 3=.pointer (some ⟨L,0,none⟩)/\f 4=.pointer (some ⟨gd,0,none⟩)/\f 5=.pointer (some ⟨U,0,none⟩)/\f 6=.pointer (some ⟨T,0,none⟩)/\f 7=.pointer (some ⟨W,0,none⟩)/\f 8=.pointer (some ⟨O,0,none⟩)/\Ext w J/\Bx J V N cn x/\Bx J L N cn y/\Bx J gd 1 true 0/\Bx J U (N+1) true a/\Bx J T (N+1) true b/\Bx J W (N+1) true p/\Bx J O (N+1) true q/\Ez R M x y a b p q)
   M.natAbs ⟨R,M,1,0,0,1,F,F,F,F,F,F,F,F,l,r,u,s,A,o,C,D,Ez.start b5 b4⟩ ?_
  clear l r u s A o C D H I ar;rintro m f w1 ⟨x,y,a,b,p,q,rfl,al,ak,aj,ai,ae,a8,a7,l,r,u,s,A,o,C,D,X⟩;rw[ui al,ui ak,ui aj,ui ai,ui ae,ui a8,ui a7];clear al ak aj ai ae a8 a7;have l:Ext w w1:=l;have av:Bd N x:=by obtain⟨_,_,_,h⟩:=r;exact h.1.bd
  have b6:Bd N y:=by obtain⟨_,_,_,h⟩:=u;exact h.1.bd
  refine aN ?_;refine gg ?_;obtain⟨b0,aH,Y,Z⟩:=id u;obtain⟨an,a6⟩:=bh Y;refine gg ?_;by_cases Q:y=0
  ·subst Q;have m:(0:Int).sign=0:=F;refine gg ?_;refine aJ (dw _ _ _ N w1 Z.1 aq) ?_;rintro _ H ⟨c,rfl⟩;replace r:=r.Y c;replace u:=u.Y c;replace s:=s.Y c;replace A:=A.Y c;replace o:=o.Y c;replace C:=C.Y c;replace D:=D.Y c;replace l:=l.trans c;clear c;refine gg ?_;exact⟨x,a,b,p,q,F,F,F,F,F,F,F,l,r,s,A,o,X⟩
  have m:¬y.sign=0:=λe=>Q (Int.sign_eq_zero_iff_zero.1 e);refine gg ?_;refine aJ (dw _ _ _ N w1 Z.1 aq) ?_;rintro _ m ⟨c,rfl⟩;replace r:=r.Y c;replace u:=u.Y c;replace s:=s.Y c;replace A:=A.Y c;replace o:=o.Y c;replace C:=C.Y c;replace D:=D.Y c;replace l:=l.trans c;clear c;refine gg ?_;clear an a6;obtain⟨H,H,I,H⟩:=id r;obtain⟨au,ar⟩:=bh I;obtain⟨b0,aH,Y,Z⟩:=id u;obtain⟨an,a6⟩:=bh Y;have R:=H.1;have Y:=Z.1;refine gg ?_;refine gg ?_;refine aJ (eT _ _ _ _ _ _ N m R Y aq Q) ?_;rintro _ m ⟨c,c0,c1,c2,c3,rfl,M,J⟩;replace r:=r.Y c;replace u:=u.Y c;replace s:=s.Y c;replace A:=A.Y c;replace o:=o.Y c;replace C:=C.Y c;replace D:=D.Y c;replace R:=R.Y c;replace Y:=Y.Y c;replace l:=l.trans c;clear c;refine gg ?_;clear au ar an a6;have ar:=X.step Q;have b5:Bd (N+1) (a-x/y*p):=j_ ar.bp b2;have bt:Bd (N+1) (b-x/y*q):=j_ ar.bq b1;have b4:Bd (N+1) p:=j_ X.bp b2;have bs:Bd (N+1) q:=j_ X.bq b1;have ay:Bd (N+1) a:=j_ X.ba b2;have ax:Bd (N+1) b:=j_ X.bb b1;have au:Bd (N+1) (x/y):=(av.ediv).mono aq;refine gg ?_;refine aS (.inl F) a_ ?_;intro a6 E c B;have H:=Bx.zero (N:=1) true E;obtain⟨Z,G⟩ : ∃g,g=m.heap.size:=⟨_,F⟩;rw[<-G]at H⊢;have m:w.heap.size<=Z:=by have:=l.size;omega
  have m:V<Z:=by have:=r.lt;omega
  have m:L<Z:=by have:=u.lt;omega
  have m:gd<Z:=by have:=s.lt;omega
  have m:U<Z:=by have:=A.lt;omega
  have m:T<Z:=by have:=o.lt;omega
  have m:W<Z:=by have:=C.lt;omega
  have m:O<Z:=by have:=D.lt;omega
  replace r:=r.Y c;replace u:=u.Y c;replace s:=s.Y c;replace A:=A.Y c;replace o:=o.Y c;replace C:=C.Y c;replace D:=D.Y c;replace R:=R.Y c;replace Y:=Y.Y c;replace M:=M.Y c;replace J:=J.Y c;replace l:=l.trans c;clear E B G c;refine gg ?_;refine aS (.inl F) a_ ?_;intro m E c B;have m:=Bx.zero (N:=1) true E;obtain⟨I,G⟩ : ∃g,g=a6.heap.size:=⟨_,F⟩;rw[<-G]at m⊢;have g:w.heap.size<=I:=by have:=l.size;omega
  have g:V<I:=by have:=r.lt;omega
  have g:L<I:=by have:=u.lt;omega
  have g:gd<I:=by have:=s.lt;omega
  have g:U<I:=by have:=A.lt;omega
  have g:T<I:=by have:=o.lt;omega
  have g:W<I:=by have:=C.lt;omega
  have g:O<I:=by have:=D.lt;omega
  have g:Z<I:=by have:=H.lt;omega
  replace r:=r.Y c;replace u:=u.Y c;replace s:=s.Y c;replace A:=A.Y c;replace o:=o.Y c;replace C:=C.Y c;replace D:=D.Y c;replace R:=R.Y c;replace Y:=Y.Y c;replace M:=M.Y c;replace J:=J.Y c;replace H:=H.Y c;replace l:=l.trans c;clear E B G c;refine gg ?_;refine aL ag F rfl H (M.ev true au) ?_;intro g H j i B;replace r:=r.kp i j ah;replace u:=u.kp i j ah;replace s:=s.kp i j ah;replace A:=A.kp i j ah;replace o:=o.kp i j ah;replace C:=C.kp i j ah;replace D:=D.kp i j ah;replace R:=R.kp i;replace Y:=Y.kp i;replace M:=M.kp i;replace J:=J.kp i;replace m:=m.kp i j ah;replace l:=j.aK l λb o=>aq;clear j i B;refine gg ?_;refine aL ag F rfl m (J.ev true (b6.emod Q)) ?_;intro g m j i B;replace r:=r.kp i j ah;replace u:=u.kp i j ah;replace s:=s.kp i j ah;replace A:=A.kp i j ah;replace o:=o.kp i j ah;replace C:=C.kp i j ah;replace D:=D.kp i j ah;replace R:=R.kp i;replace Y:=Y.kp i;replace M:=M.kp i;replace J:=J.kp i;replace H:=H.kp i j ah;replace l:=j.aK l λb o=>aq;clear j i B;refine gg ?_;refine En (λb=>b=L\/b=I) [(0,0),(1,0),(2,1),(3,2)] mixed az λbl G _=>?_;replace l:=l.trans G;replace r:=r.Y G;replace u:=u.Y G;replace s:=s.Y G;replace A:=A.Y G;replace o:=o.Y G;replace C:=C.Y G;replace D:=D.Y G;replace H:=H.Y G;replace m:=m.Y G;obtain⟨g,y1,J,E⟩:=id u;obtain⟨g,g,I,g⟩:=id m;refine gg ?_;refine l_ aw aQ F J (.inl F) ?_;refine gg ?_;refine l_ aw aQ F I (.inr F) ?_;clear J I;refine gg ?_;refine aL (.inr ⟨F,λ_ hC=>LN hC λb o=>aq⟩) F rfl r (E) ?_;intro I r j i B;replace u:=u.kp i j ah;replace s:=s.kp i j ah;replace A:=A.kp i j ah;replace o:=o.kp i j ah;replace C:=C.kp i j ah;replace D:=D.kp i j ah;replace H:=H.kp i j ah;replace m:=m.kp i j ah;replace E:=E.kp i;replace g:=g.kp i;replace l:=j.aK l λb o=>aq;clear j i B;refine gg ?_;refine gg ?_;refine aL (.inl F) F rfl u (⟨g.1,λ_=>g.2 rfl⟩) ?_;intro I u j i B;replace r:=r.kp i j ah;replace s:=s.kp i j ah;replace A:=A.kp i j ah;replace o:=o.kp i j ah;replace C:=C.kp i j ah;replace D:=D.kp i j ah;replace H:=H.kp i j ah;replace m:=m.kp i j ah;replace E:=E.kp i;replace g:=g.kp i;replace l:=j.aK l λb o=>aq;clear j i B;refine gg ?_;refine gg ?_;refine b_ [(0,0),(1,0),(2,0),(3,0),(4,1),(5,1),(6,2),(7,2)] mixed az λI c _=>?_;replace r:=r.Y c;replace u:=u.Y c;replace s:=s.Y c;replace A:=A.Y c;replace o:=o.Y c;replace C:=C.Y c;replace D:=D.Y c;replace H:=H.Y c;replace m:=m.Y c;replace E:=E.Y c;replace g:=g.Y c;replace l:=l.trans c;clear c;obtain⟨J,J,J,L⟩:=id C;obtain⟨Z,O⟩:=bh J;obtain⟨J,J,J,M⟩:=id A;obtain⟨b0,aH⟩:=bh J;obtain⟨bj,bc,W,Y⟩:=id H;obtain⟨an,a6⟩:=bh W;have J:=L;have L:=M;have M:=Y;refine gg ?_;clear Z O b0 aH an a6;refine gg ?_;refine aM (kT _ _ _ _ _ _ (N+1) I M.1 J.1 aq) ?_;rintro _ I ⟨c,O,O,rfl,O⟩;refine⟨c,?_⟩;replace r:=r.Y c;replace u:=u.Y c;replace s:=s.Y c;replace A:=A.Y c;replace o:=o.Y c;replace C:=C.Y c;replace D:=D.Y c;replace H:=H.Y c;replace m:=m.Y c;replace E:=E.Y c;replace g:=g.Y c;replace J:=J.Y c;replace L:=L.Y c;replace M:=M.Y c;replace l:=l.trans c;clear c;refine gg ?_;refine gg ?_;refine aM (wJ _ _ _ _ _ _ (N+1+(N+1)) I (L.1.mono aq) (O.iv (au.mul b4)) aq) ?_;rintro _ I ⟨c,I,I,rfl,I⟩;refine⟨c,?_⟩;replace r:=r.Y c;replace u:=u.Y c;replace s:=s.Y c;replace A:=A.Y c;replace o:=o.Y c;replace C:=C.Y c;replace D:=D.Y c;replace H:=H.Y c;replace m:=m.Y c;replace E:=E.Y c;replace g:=g.Y c;replace J:=J.Y c;replace L:=L.Y c;replace M:=M.Y c;replace O:=O.Y c;replace l:=l.trans c;clear c;refine gg ?_;refine gg ?_;refine aL ag F rfl A (J) ?_;intro Z A j i B;replace r:=r.kp i j ah;replace u:=u.kp i j ah;replace s:=s.kp i j ah;replace o:=o.kp i j ah;replace C:=C.kp i j ah;replace D:=D.kp i j ah;replace H:=H.kp i j ah;replace m:=m.kp i j ah;replace E:=E.kp i;replace g:=g.kp i;replace J:=J.kp i;replace L:=L.kp i;replace M:=M.kp i;replace O:=O.kp i;replace I:=I.kp i;replace l:=j.aK l λb o=>aq;clear j i B;refine gg ?_;refine gg ?_;refine aL ag F rfl C (I.ev true b5) ?_;intro Z C j i B;replace r:=r.kp i j ah;replace u:=u.kp i j ah;replace s:=s.kp i j ah;replace A:=A.kp i j ah;replace o:=o.kp i j ah;replace D:=D.kp i j ah;replace H:=H.kp i j ah;replace m:=m.kp i j ah;replace E:=E.kp i;replace g:=g.kp i;replace J:=J.kp i;replace L:=L.kp i;replace M:=M.kp i;replace O:=O.kp i;replace I:=I.kp i;replace l:=j.aK l λb o=>aq;clear j i B;refine gg ?_;refine gg ?_;refine cP [(0,0),(1,0),(2,0),(3,0),(4,1),(5,1),(6,2),(7,2)] mixed az λaH c _=>?_;replace r:=r.Y c;replace u:=u.Y c;replace s:=s.Y c;replace A:=A.Y c;replace o:=o.Y c;replace C:=C.Y c;replace D:=D.Y c;replace H:=H.Y c;replace m:=m.Y c;replace E:=E.Y c;replace g:=g.Y c;replace J:=J.Y c;replace L:=L.Y c;replace M:=M.Y c;replace O:=O.Y c;replace I:=I.Y c;replace l:=l.trans c;clear c;obtain⟨Z,Z,Z,b0⟩:=id D;obtain⟨b5,b4⟩:=bh Z;obtain⟨Z,Z,Z,b6⟩:=id o;obtain⟨b8,b7⟩:=bh Z;obtain⟨bj,bc,W,Y⟩:=id H;obtain⟨an,a6⟩:=bh W;have Z:=b0;have cb:=b6;have W:=Y;refine gg ?_;clear b5 b4 b8 b7 an a6;refine gg ?_;refine aM (kT _ _ _ _ _ _ (N+1) aH W.1 Z.1 aq) ?_;rintro _ a6 ⟨c,Y,Y,rfl,Y⟩;refine⟨c,?_⟩;replace r:=r.Y c;replace u:=u.Y c;replace s:=s.Y c;replace A:=A.Y c;replace o:=o.Y c;replace C:=C.Y c;replace D:=D.Y c;replace H:=H.Y c;replace m:=m.Y c;replace E:=E.Y c;replace g:=g.Y c;replace J:=J.Y c;replace L:=L.Y c;replace M:=M.Y c;replace O:=O.Y c;replace I:=I.Y c;replace Z:=Z.Y c;replace cb:=cb.Y c;replace W:=W.Y c;replace l:=l.trans c;clear c;refine gg ?_;refine gg ?_;refine aM (wJ _ _ _ _ _ _ (N+1+(N+1)) a6 (cb.1.mono aq) (Y.iv (au.mul bs)) aq) ?_;rintro _ a6 ⟨c,e6,e7,rfl,a6⟩;refine⟨c,?_⟩;replace r:=r.Y c;replace u:=u.Y c;replace s:=s.Y c;replace A:=A.Y c;replace o:=o.Y c;replace C:=C.Y c;replace D:=D.Y c;replace H:=H.Y c;replace m:=m.Y c;replace E:=E.Y c;replace g:=g.Y c;replace J:=J.Y c;replace L:=L.Y c;replace M:=M.Y c;replace O:=O.Y c;replace I:=I.Y c;replace Z:=Z.Y c;replace cb:=cb.Y c;replace W:=W.Y c;replace Y:=Y.Y c;replace l:=l.trans c;clear c;refine gg ?_;refine gg ?_;refine aL ag F rfl o (Z) ?_;intro c o j i B;replace r:=r.kp i j ah;replace u:=u.kp i j ah;replace s:=s.kp i j ah;replace A:=A.kp i j ah;replace C:=C.kp i j ah;replace D:=D.kp i j ah;replace H:=H.kp i j ah;replace m:=m.kp i j ah;replace E:=E.kp i;replace g:=g.kp i;replace J:=J.kp i;replace L:=L.kp i;replace M:=M.kp i;replace O:=O.kp i;replace I:=I.kp i;replace Z:=Z.kp i;replace cb:=cb.kp i;replace W:=W.kp i;replace Y:=Y.kp i;replace a6:=a6.kp i;replace l:=j.aK l λb o=>aq;clear j i B;refine gg ?_;refine gg ?_;refine aL ag F rfl D (a6.ev true bt) ?_;intro c D j i B;replace r:=r.kp i j ah;replace u:=u.kp i j ah;replace s:=s.kp i j ah;replace A:=A.kp i j ah;replace o:=o.kp i j ah;replace C:=C.kp i j ah;replace H:=H.kp i j ah;replace m:=m.kp i j ah;replace E:=E.kp i;replace g:=g.kp i;replace J:=J.kp i;replace L:=L.kp i;replace M:=M.kp i;replace O:=O.kp i;replace I:=I.kp i;replace Z:=Z.kp i;replace cb:=cb.kp i;replace W:=W.kp i;replace Y:=Y.kp i;replace a6:=a6.kp i;replace l:=j.aK l λb o=>aq;clear j i B;refine gg ?_;have c:(x%y).natAbs<y.natAbs:=by
   have:=Int.emod_nonneg x Q;have:=Int.emod_lt x Q;omega
  exact⟨_,c,y,x%y,p,q,_,_,F,F,F,F,F,F,F,F,l,r,u,s,A,o,C,D,ar⟩
 clear l r u s A o C D;rintro f w1 ⟨x,a,b,p,q,al,ak,aj,ai,ae,a8,a7,l,r,s,A,o,X⟩;rw[ui al,ui ak,ui aj,ui ai,ui ae,ui a8,ui a7];clear al ak aj ai ae a8 a7;have s:Bx w1 gd 1 cn 0:=by obtain⟨u,v,g,c⟩:=s;exact⟨u,v,g,c.1,λ_=>c.2 rfl⟩
 have l:Ext w w1:=l;have av:Bd N x:=by obtain⟨_,_,_,h⟩:=r;exact h.1.bd
 have ay:Bd (N+1) a:=j_ X.ba b2;have ax:Bd (N+1) b:=j_ X.bb b1;refine gg ?_;refine En (λb=>b=V\/b=U\/b=T) [(0,0),(1,0),(2,0),(3,1),(4,1),(5,2)] mixed az λbl G _=>?_;replace l:=l.trans G;replace r:=r.Y G;replace s:=s.Y G;replace A:=A.Y G;replace o:=o.Y G;obtain⟨c,x1,u,R⟩:=id r;obtain⟨L,J,h,p⟩:=id A;obtain⟨H,G,m,q⟩:=id o;refine gg ?_;refine l_ aw aQ F u (.inl F) ?_;refine gg ?_;refine l_ aw aQ F h (.inr (.inl F)) ?_;refine gg ?_;refine l_ aw aQ F m (.inr (.inr F)) ?_;refine gg ?_;refine gg ?_;refine aL (.inr ⟨F,λ_ hC=>LN hC λb o=>aq⟩) F rfl s (R) ?_;intro c s j i B;replace r:=r.kp i j ah;replace A:=A.kp i j ah;replace o:=o.kp i j ah;replace R:=R.kp i;replace p:=p.kp i;replace q:=q.kp i;replace h:=h.ch j aq;replace m:=m.ch j aq;replace l:=j.aK l λb o=>aq;clear j i B;refine gg ?_;refine vY aQ (.inr F) F rfl p.1.ep p.1.eN h ?_;intro c B c I;have g:=c8 h p.1.lh c;have D:=s.kp g c aq;have j:=m.ch c (show T≠U by omega);have E:=c.aK l λb o=>aq;have C:=p.kp g;have i:=q.kp g;clear s l p q h m r A o R g c I u;refine gg ?_;refine vY aQ (.inl F) F rfl i.1.ep i.1.eN j ?_;intro p m c I;have g:=c8 j i.1.lh c;have s:=D.kp g c aq;have h:=B.ch c (show U≠T by omega);have l:=c.aK E λb o=>aq;have o:=C.kp g;have j:=i.kp g;refine gg ?_;obtain⟨p,i,g,c⟩:=s;refine Mf F aQ F rfl rfl g h m ⟨l,p,i,L,J,H,G,x,a,b,F,c,o.2 F,j.2 F,X.hx,?_,ay,ax⟩;have a:=X.g;have b:=X.nx;have e:Int.gcd x 0=x.natAbs:=Int.gcd_zero_right x;rw[<-a,e];omega
theorem eO:dh Tryz.prog 179 49 1 24 (.slice none 0 0):=⟨Tryz.underlying179,by kernel_rfl⟩
theorem gc{G G':Prop}(h:G')(t:Gw G'->G:=by intro hgg;(repeat (first|refine ta ?_|(refine mT ?_;(first|refine dP eO rfl rfl (by omega) ?_|refine fh eO rfl rfl (by omega) ?_|refine dX eO rfl (by omega) ?_|refine dY eO rfl (by omega) ?_|refine jC eO rfl ?_|refine ku (by decide) (aX F) F (by assumption) ?_|refine l9 (by decide) aQ F (by assumption) (by assumption) ?_))));exact hgg.out):G:=t ⟨h⟩
theorem di.tight{w:World}{g c:Nat}{bn bn':Nat->Nat}{M:Nat->Int}(h:di w g c true bn M)(d:∀j,j<c->Bd (bn' j) (M j)):di w g c true bn' M:=by
 obtain⟨a,e,b⟩:=h;exact⟨a,e,λj a=>((b j a).2 rfl).ev true (d j a)⟩
theorem iZ.tight{w:World}{g c a:Nat}{bn bn':Nat->Nat}{M:Nat->Int}(h:iZ w g c a true bn M)(d:∀j,j<c->Bd (bn' j) (M j)):iZ w g c a true bn' M:=by
 obtain⟨k,i,a,f,e,b⟩:=h;exact⟨k,i,a,f,e,λj a=>((b j a).2 rfl).ev true (d j a)⟩
def fT{α:Type}(f:Nat->α)(i:Nat)(v:α):Nat->α:=λa=>if a=i then v else f a
theorem de{α:Type}(f:Nat->α)(i:Nat)(v:α):fT f i v i=v:=ab F
theorem cG{α:Type}(f:Nat->α){i a:Nat}(v:α)(h:a≠i):fT f i v a=f a:=aa h
theorem cF.set{w w':World}{f r c g p b i:Nat}{k o:Nat->Nat}{cn:Bool}{M:Nat->Nat->Int}{v:Nat->Int}(h:cF w f k o r c cn (λ_ _=>b) M)(x:i<r)(u:iZ w' g c p cn (λ_=>b) v)(y:Ch (λb=>b=f) w w')(s:Kp w w')
 (x:bg w' f 49 (arr r λa=>.slice (some ⟨fT k i g a,0,none⟩) c (fT o i p a))) (t:g≠f) (q:∀a,a<r->k a≠g):cF w' f (fT k i g) (fT o i p) r c cn (λ_ _=>b) (fT M i v):=by
 refine⟨x,λa d=>?_,λa d=>?_,λa l d m e=>?_⟩
 ·by_cases e:a=i
  ·subst e;rw[de,de,de];exact u
  ·rw[cG _ _ e,cG _ _ e,cG _ _ e];exact(h.row a d).kp s y (h.ne a d)
 ·by_cases e:a=i
  ·subst e;rw[de];exact t
  ·rw[cG _ _ e];exact h.ne a d
 ·by_cases n:a=i
  ·by_cases j:l=i
   ·omega
   ·subst n;rw[de,cG _ _ j]at e;exact absurd e.symm (q l m)
  ·by_cases j:l=i
   ·subst j;rw[de,cG _ _ n]at e;exact absurd e (q a d)
   ·rw[cG _ _ n,cG _ _ j]at e;exact h.inj a l d m e
theorem jS(v:Value)(n m i j N K:Nat)(C:Nat->Nat->Int)(a b:Int)(R P Q O:Value)(w:World)(h:cB (EI N) w v n (λ_=>m) C)(x:i<n)(k:j<n)(y:IV w N R P a)(u:IV w N Q O b)
 (A:N+N+1<17592186044416) (A:1<=m) (A:m<=1048576) (Z:∀r,r<m->Bd K (a*C i r+b*C j r)):
 aT Tryz.prog 209 #[v,.int .i64 (i:Int),.agg #[R,P],.int .i64 (j:Int),.agg #[Q,O]] w λv s=>
  Ext w s/\∃g,v=.slice (some ⟨g,0,none⟩) m m/\w.heap.size<=g/\di s g m true (λ_=>K) (λr=>a*C i r+b*C j r):=by
 obtain⟨A,X,rfl,A,A,A⟩:=id h;refine bo (n:=48) Tryz.func209 F rfl az aA ?_;obtain⟨ad,_,A,e,S,U⟩:=h.at x;cases e;obtain⟨_,_,x,e,W,T⟩:=h.at k;cases e;obtain⟨k,k,_,_,rfl,_,_,_⟩:=U.at (show 0<m by omega);obtain⟨k,k,_,_,rfl,_,_,_⟩:=T.at (show 0<m by omega);have bA:Bd N a:=y.bd;have bB:Bd N b:=u.bd;have d:Ext w w:=Ext.refl w;refine gc ?_;refine bO (v:=.agg _) (.inl F) F ?_;intro A k c L;have t:bg A w.heap.size 44 #[R,P]:=k;obtain⟨E,x⟩ : ∃g,g=w.heap.size:=⟨_,F⟩;rw[<-x]at t⊢;have Y:w.heap.size<=E:=by have:=d.size;omega
 replace y:=y.Y c;replace u:=u.Y c;replace d:=d.trans c;clear k L x c;refine gc ?_;refine bO (v:=.agg _) (.inl F) F ?_;intro z k c L;have M:bg z A.heap.size 44 #[Q,O]:=k;obtain⟨D,x⟩ : ∃g,g=A.heap.size:=⟨_,F⟩;rw[<-x]at M⊢;have A:w.heap.size<=D:=by have:=d.size;omega
 have A:E<D:=by have:=t.lt;omega
 replace y:=y.Y c;replace u:=u.Y c;replace t:=t.Y c;replace d:=d.trans c;clear k L x c;have o:Bx z E N false a:=⟨R,P,t,y,λh=>by cases h⟩;have l:Bx z D N false b:=⟨Q,O,M,u,λh=>by cases h⟩;clear t M y u;refine gc ?_;have t:=aP d S;refine gc ?_;refine cJ dJ (.inl F) F rfl aD aq aq ?_;intro h k h A;obtain⟨g,x⟩ : ∃g,g=(z).heap.size:=⟨_,F⟩;rw[<-x]at k⊢;have p:=fq true K k;have L:=o.lt;have z:=l.lt;have y:=d.size;replace o:=o.Y h;replace l:=l.Y h;replace d:=d.trans h;have M:w.heap.size<=g/\E<g/\D<g:=aq;clear k h A t;refine gc ?_;refine aY (λf s=>f 11=.slice (some ⟨g,0,none⟩) m m/\Ext w s/\di s g m true (λ_=>K) λr=>a*C i r+b*C j r) ?_ ?_
 ·refine gc ?_;refine aU (λk f s=>∃q,k=m-q/\q<=m/\f 0=.slice (some ad) n X/\f 1=.int .i64 (i:Int)/\f 3=.int .i64 (j:Int)/\f 7=.pointer (some ⟨E,0,none⟩)/\f 9=.pointer (some ⟨D,0,none⟩)/\f 11=.slice (some ⟨g,0,none⟩) m m/\f 20=.int .i64 (m:Int)/\f 21=.int .i64 ((q:Nat):Int)/\Ext w s/\Bx s E N false a/\Bx s D N false b/\di s g m true (λ_=>K) λr=>if r<q then a*C i r+b*C j r else 0)
   m ⟨0,F,aE,F,F,F,F,F,F,F,F,d,o,l,p.congr λq _=>⟨aD,by rw[aa aq]⟩⟩ ?_
  clear d o l p x L z y;rintro k f V ⟨q,rfl,h,A,z,y,x,t,s,k,h,d,o,l,p⟩;rw[ui A,ui z,ui y,ui x,ui t,ui s,ui k,ui h];clear A z y x t s k h;by_cases B:q<m;rotate_left
  ·obtain rfl:q=m:=aq;refine gc ?_;exact⟨F,d,p.congr λr h=>⟨aD,by rw[ab h]⟩⟩
  obtain⟨_,_,h,h,e,J,H,cQ⟩:=U.at B;cases e;obtain⟨_,_,h,h,e,I,G,fc⟩:=T.at B;cases e;replace cQ:=cQ.Y d;replace fc:=fc.Y d;have O:Bd N (C i q):=cQ.bd;have M:Bd N (C j q):=fc.bd;have d:Ext w V:=d;refine gc ?_;refine gc ?_;refine cP [(0,3),(1,3),(2,0),(3,3),(4,3),(5,3),(6,0),(7,3),(8,3),(9,0),(11,0),(12,3),(13,3),(14,3),(15,0),(16,3),(17,3),(18,0),(10,1),(19,1),(20,1),(21,3),(22,2)] mixed az λz c _=>?_;replace o:=o.Y c;replace l:=l.Y c;replace p:=p.Y c;replace cQ:=cQ.Y c;replace fc:=fc.Y c;replace d:=d.trans c;clear c;replace J:=aP d J;replace H:=aP d H;replace I:=aP d I;replace G:=aP d G;have y:=aP d S;have x:=aP d W;obtain⟨h,h,h,t⟩:=id o;obtain⟨L,E⟩:=bh h;obtain⟨h,h,k,h⟩:=id l;obtain⟨D,A⟩:=bh k;have s:=t.1;have k:=h.1;refine gc ?_;refine gc ?_;refine aM (kT _ _ _ _ _ _ N z s cQ aq) ?_;rintro _ t ⟨c,a0,h,rfl,h⟩;refine⟨c,?_⟩;replace o:=o.Y c;replace l:=l.Y c;replace p:=p.Y c;replace cQ:=cQ.Y c;replace fc:=fc.Y c;replace s:=s.Y c;replace k:=k.Y c;replace d:=d.trans c;clear c;refine gc ?_;refine gc ?_;refine aM (kT _ _ _ _ _ _ N t k fc aq) ?_;rintro _ z ⟨c,a2,a3,rfl,t⟩;refine⟨c,?_⟩;replace o:=o.Y c;replace l:=l.Y c;replace p:=p.Y c;replace cQ:=cQ.Y c;replace fc:=fc.Y c;replace s:=s.Y c;replace k:=k.Y c;replace h:=h.Y c;replace d:=d.trans c;clear c;refine gc ?_;refine gc ?_;refine aM (qv _ _ _ _ _ _ (N+N) z (h.iv (bA.mul O)) (t.iv (bB.mul M)) aq) ?_;rintro _ z ⟨c,a4,a5,rfl,z⟩;refine⟨c,?_⟩;replace o:=o.Y c;replace l:=l.Y c;replace p:=p.Y c;replace cQ:=cQ.Y c;replace fc:=fc.Y c;replace s:=s.Y c;replace k:=k.Y c;replace h:=h.Y c;replace t:=t.Y c;replace d:=d.trans c;clear c;clear L E D A J I H G y x;refine gc ?_;refine c_ (.inl F) F rfl p B (z.ev true (Z q B)) ?_;intro c s c h k;have k:=c.aK d λb u=>aq;have u:=o.kp h c aq;have t:=l.kp h c aq;refine gc ?_;refine⟨_,?_,q+1,F,aq,F,F,F,F,F,F,F,F,k,u,t,s.congr λr _=>⟨?_,?_⟩⟩
  ·omega
  ·simp only[cC];split<;>exact Nat.le_refl _
  ·simp only[ef];by_cases e:r=q
   ·subst e;rw[ab F,ab aq]
   ·rw[aa e];by_cases c:r<q
    ·rw[ab c,ab aq]
    ·rw[aa c,aa aq]
 clear d o l p;rintro f V ⟨c,d,p⟩;rw[ui c];refine gc ?_;exact bF F rfl ⟨d,g,F,aq,p⟩
