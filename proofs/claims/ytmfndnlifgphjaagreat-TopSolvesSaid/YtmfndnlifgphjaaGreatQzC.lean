import Derived.Test.YtmfndnlifgphjaaGreatQzB
set_option maxHeartbeats 64000000
open Go.Proofs.YtmfndnlifgphjaaGreat
namespace Go.Se
open Go.bc Go.Sm
structure Fk(n t:Nat)(A:Mt)(L b:Nat)(D U V:Mt):Prop where
 sg:Sg n t D
 eqv:gj n A D
 tm:Tm n t L D
 rel:∃W,Rel n U A D W/\Bz n b V/\Bz n b W
theorem Fk.mono{n t L d b c:Nat}{A D U V:Mt}(h:Fk n t A L b D U V)(e:L<=d)(a:b<=c):Fk n t A d c D U V:=by
 obtain⟨W,f,d,c⟩:=h.rel;exact⟨h.sg,h.eqv,h.tm.mono e,W,f,d.mono a,c.mono a⟩
theorem Sg.congr{n k:Nat}{M M':Mt}(h:Sg n k M)(e:∀i j,i<n->j<n->M i j=M' i j)(a:k<=n):Sg n k M':=
 ⟨λi j c b d a=>by rw[<-e i j c b];exact h.dg i j c b d a,λt a=>by rw[<-e t t aq aq];exact h.nn t a,λt a=>by rw[<-e t t aq aq,<-e _ _ aq aq];exact h.dv t a,
  λt a i j c f b d=>by rw[<-e t t aq aq,<-e i j f d];exact h.da t a i j c f b d⟩
end Go.Se
namespace Go.Proofs.Qq
open Go Go.cU Go.cV Go.Proofs Go.Se
open Go.bc (aQ fa)
open Go.Sm (sx bo red dh nK Sg Dg iT gj)
theorem rJ{E N:Nat}{z:Int}(h:z.natAbs<=2^E)(a:E<32*N):Bd N z:=by
 unfold Bd;have e:B^N=2^(32*N):=by
  show(4294967296:Nat)^N=2^(32*N);rw[Nat.pow_mul]
 rw[e];exact Nat.lt_of_le_of_lt h (Nat.pow_lt_pow_right ar a)
theorem DI{n t:Nat}{D:Nat->Nat->Int}(f:Dg n t D)(d:Go.Sm.CLN n t D)(g:t<n){i j:Nat}(c:i<n)(b:j<n):jq (D t t) t D i j=iT D t i j:=by
 unfold jq iT;by_cases e:i=t
 ·subst e;by_cases a:j=i
  ·subst a;by_cases h:D j j<0
   ·rw[ae ⟨h,F⟩,ae ⟨F,F⟩];omega
   ·rw[aa λx=>h x.1,ae ⟨rfl,rfl⟩];omega
  ·rw[aa (show¬(i=i/\j=i)from λx=>a x.2)];have z:D i j=0:=by
    by_cases h:j<i
    ·exact f i j c b (.inr h) λx=>a x.symm
    ·exact d.2 j aq b
   rw[z];split<;>rfl
 ·rw[aa λx=>e x.2,aa λx=>e x.1]
theorem DV{n t:Nat}{U A D W:Nat->Nat->Int}{d:Int}(h:Rel n U A D W):Rel n (jq d t U) A (jq d t D) W:=λi j c b=>by
 have a:∀(X Y:Nat->Nat->Int),Go.bc.mul n (jq d t X) Y i j=(if d<0/\i=t then -1 else 1)*Go.bc.mul n X Y i j:=λX Y=>by
  show Go.bc.sm n _=_*Go.bc.sm n _;rw[<-Go.bc.dD];refine Go.bc.aO λk _=>?_;unfold jq;by_cases e:d<0/\i=t
  ·rw[ae e,ae e,e.2];grind
  ·rw[aa e,aa e];grind
 rw[a,a,h i j c b]
theorem q_{n t:Nat}{S:Nat->Nat->Int}(h:∀i,t<i->i<n->S i t%S t t=0):∀i,t<i->i<n->bo S t n i t=0:=λi b a=>by
 unfold bo;rw[ae ⟨b,a⟩,Go.Sm.mod_eq];exact h i b a
theorem zV{n t:Nat}{S:Nat->Nat->Int}(h:∀j,t<j->j<n->bo S t n t j%bo S t n t t=0):∀j,t<j->j<n->red S t n t j=0:=λj b a=>by
 rw[Go.Sm.pH S b a];have:=h j b a;rwa[Go.Sm.fi,Go.Sm.fi]at this
theorem wK{n t:Nat}{S:Nat->Nat->Int}(h:∀i,t<i->i<n->S i t%S t t=0):∀i,t<i->i<n->red S t n i t=0:=λi b a=>by
 rw[Go.Sm.wM S b a];exact h i b a
end Go.Proofs.Qq
namespace Go.Proofs.Qq
section
open Go Go.cU Go.cV Go.Proofs
def r4(w:World)(v:Value)(m:Nat)(a b:Nat->Int):Prop:=
 (m=0/\v=.slice none 0 0)\/∃g c,v=.slice (some ⟨g,0,none⟩) m c/\m<=c/\c<9223372036854775808/\mI w g c (nB m a) (nB m b)
theorem r4.congr{w:World}{v:Value}{m:Nat}{a b d c:Nat->Int}(h:r4 w v m a b)(e:∀j,j<m->a j=d j/\b j=c j):r4 w v m d c:=by
 rcases h with h|⟨g,i,rfl,h1,h2,h3⟩
 ·exact .inl h
 ·refine .inr ⟨g,i,F,h1,h2,h3.congr λj k=>?_⟩;unfold nB;split
  ·rename_i f;exact e j f
  ·exact⟨F,F⟩
def qj(w:World)(v:Value)(m:Nat)(a b:Nat->Int):Prop:=
 ∃A c,v=.slice A m c/\∀i,i<m->∃g h c,A=some ⟨g,0,none⟩/\bh w g 42 (arr c h)/\i*4+3<c/\CV w (h (i*4)) (h (i*4+1)) (a i)/\CV w (h (i*4+2)) (h (i*4+3)) (b i)
theorem r4.read{w:World}{v:Value}{m:Nat}{a b:Nat->Int}(h:r4 w v m a b):qj w v m a b:=by
 rcases h with⟨rfl,rfl⟩|⟨g,cap,rfl,h1,h2,d,hB,hc⟩
 ·exact⟨_,_,F,λi c=>absurd c aq⟩
 ·refine⟨_,_,F,λi c=>⟨g,d,_,rfl,hB,aq,?_⟩⟩;have:=hc i aq;unfold nB at this;rw[ae c,ae c]at this;exact this
theorem mI.read{w:World}{g n c:Nat}{a b:Nat->Int}(h:mI w g n a b):qj w (.slice (some ⟨g,0,none⟩) n c) n a b:=by
 obtain⟨e,j,f⟩:=h;exact⟨_,_,F,λi d=>⟨g,e,_,rfl,j,aq,f i d⟩⟩
theorem qj.Y{w w':World}{v:Value}{m:Nat}{a b:Nat->Int}(h:qj w v m a b)(d:Ext w w'):qj w' v m a b:=by
 obtain⟨A,c,e,h⟩:=h;refine⟨A,c,e,λi f=>?_⟩;obtain⟨g,j,o,e,k,c,n,l⟩:=h i f;exact⟨g,j,o,e,k.Y d,c,n.Y d,l.Y d⟩
theorem qj.congr{w:World}{v:Value}{m:Nat}{a b d c:Nat->Int}(h:qj w v m a b)(e:∀j,j<m->a j=d j/\b j=c j):qj w v m d c:=by
 obtain⟨A,c,d,h⟩:=h;refine⟨A,c,d,λi c=>?_⟩;obtain⟨g,k,o,n,l,j,f,d⟩:=h i c;rw[(e i c).1]at f;rw[(e i c).2]at d;exact⟨g,k,o,n,l,j,f,d⟩
theorem sU:c_ Tryz.prog 42 0 0:=by
 unfold c_;intro a w;simp[Instr.fieldAt,run_underlying Tryz.underlying42,Instr.sureAddr,fieldPlace,fP aN]
theorem sT:c_ Tryz.prog 42 1 2:=by
 unfold c_;intro a w;simp[Instr.fieldAt,run_underlying Tryz.underlying42,Instr.sureAddr,fieldPlace,fP aN]
theorem G2{w:World}{g T:Nat}{x y z u:Value}(h:bh w g T #[x,y,z,u]):(w.cell? ⟨g,0+0,none⟩=some x/\w.cell? ((⟨g,0+0,none⟩ : Addr).add 1)=some y)/\w.cell? ⟨g,0+2,none⟩=some z/\w.cell? ((⟨g,0+2,none⟩ : Addr).add 1)=some u:=by
 refine⟨⟨by rw[h.cell];rfl,by rw[add_lit,h.cell];rfl⟩,by rw[h.cell];rfl,by rw[add_lit,h.cell];rfl⟩
theorem vh{w:World}{g T:Nat}{x y z u:Value}(h:bh w g T #[x,y,z,u]):w.cell? ⟨g,0,none⟩=some x/\w.cell? ((⟨g,0,none⟩ : Addr).add 1)=some y/\w.cell? ((⟨g,0,none⟩ : Addr).add 2)=some z/\w.cell? ((⟨g,0,none⟩ : Addr).add 3)=some u:=by
 refine⟨by rw[h.cell];rfl,by rw[add_lit,h.cell];rfl,by rw[add_lit,h.cell];rfl,by rw[add_lit,h.cell];rfl⟩
def F8(w:World)(p:Prop)(n:Nat)(A:Nat->Nat->Int)(v:Value)(w':World):Prop:=
 Ext w w'/\((¬p/\v=.tuple #[.slice none 0 0,.int .i64 3])\/(p/\Go.bc.aQ n A=0/\v=.tuple #[.slice none 0 0,.int .i64 8])\/(p/\Go.bc.aQ n A≠0/\∃u,v=.tuple #[u,.int .i64 0]/\r4 w' u n (λi=>ic (Go.bc.cr n A i n) (Go.bc.aQ n A)) λi=>fL (Go.bc.cr n A i n) (Go.bc.aQ n A)))
def GW(M:Nat->Nat->Int)(c:Nat->Int)(j i:Nat):Nat->Nat->Int:=λa b=>if b=j/\a<i then c a else M a b
theorem ET{n j:Nat}{M:Nat->Nat->Int}{a:Nat->Int}(_hj:j<n):Go.bc.aQ n (GW M a j n)=Go.bc.cr n (mb n M a) j n:=by
 unfold Go.bc.cr;refine Go.bc.aY λr c a b=>?_;simp only[GW,Go.bc.mC,mb];by_cases e:c=j
 ·rw[ae ⟨e,a⟩,ae e,ae trivial]
 ·rw[aa λh=>e h.1,aa e,aa aq]
theorem yO{n:Nat}{M:Nat->Nat->Int}{a:Nat->Int}:Go.bc.aQ n (mb n M a)=Go.bc.aQ n M:=
 Go.bc.aY λr c _ a=>by unfold mb;rw[aa aq]
def RB(w:World)(g:Nat)(a b:Int):Prop:=∃x y e c,bh w g 42 #[x,y,e,c]/\CV w x y a/\CV w e c b
theorem RB.zero{w:World}{g:Nat}(h:bh w g 42 #[.bool false,.slice none 0 0,.bool false,.slice none 0 0]):RB w g 0 0:=⟨_,_,_,_,h,CV.zero w,CV.zero w⟩
theorem RB.kp{w w':World}{g:Nat}{a b:Int}{e:Nat->Prop}(h:RB w g a b)(c:Kp w w')(l:Ch e w w')(j:¬e g):RB w' g a b:=by
 obtain⟨x,y,i,e,m,p,o⟩:=h;exact⟨x,y,i,e,m.ch l j,p.kp c,o.kp c⟩
theorem RB.Y{w w':World}{g:Nat}{a b:Int}(h:RB w g a b)(c:Ext w w'):RB w' g a b:=h.kp (bN c) c id
theorem RB.lt{w:World}{g:Nat}{a b:Int}(h:RB w g a b):g<w.heap.size:=by
 obtain⟨x,y,c,c,c,e,e⟩:=h;exact c.lt
theorem CV.ob{w:World}{x y e c:Value}{a b:Int}(h1:CV w x y a)(g:CV w e c b):jL #[x,y,e,c]:=Go.Proofs.Qq.ob h1.kinds.1 h1.kinds.2 g.kinds.1 g.kinds.2
section
variable {n:Nat}{S:World->World->Prop}{k:Nat}{K:Fr->World->Prop}{f:Fr}{w:World}{d ty t t2:Nat}{x y:Operand}{pos:String}{aft:Array Edge}{gd:Option (Nat×Bool)}
theorem fC{g:Nat}{a b l j:Int}{v0 v1 m v3:Value}(u:k=2\/k=1/\∀c,Ch (λb=>b=g) w c->S w c)(r:ev n f x=.pointer (some ⟨g,0,none⟩))(q:ev n f y=.agg #[v0,v1,m,v3])(s:RB w g a b)(i:CV w v0 v1 l)(e:CV w m v3 j)
 (h:∀c,RB c g l j->Ch (λb=>b=g) w c->Kp w c->c.heap.size=w.heap.size->K f c):
 R1 Tryz.prog n S k ⟨none,.store 42 x y,ty,pos,aft,gd⟩ K f w:=by
 obtain⟨j,j,j,j,m,p,o⟩:=s;refine kf dU u r q i.db i.de e.db e.de m aA ?_;intro c q l r;have j:=cK m (p.ob o).jn l;exact h c ⟨_,_,_,_,q,i.kp j,e.kp j⟩ l j r
theorem A5{i:Func}{e:Tmp}{G:Nat}{c:Value->World->Prop}{a b:Int}(l:i.results=#[.cell e 42])(j:ev n f (.tmp e)=.pointer (some ⟨G,0,none⟩))(m:RB w G a b)(h:∀x y g e,CV w x y a->CV w g e b->c (.agg #[x,y,g,e]) w):bodyPost Tryz.prog i (xB c) .ret (act n f) w:=by
 obtain⟨c,c,c,c,g,e,c⟩:=m;exact FR l dU j g (h _ _ _ _ e c)
end
theorem tW(x y:Value)(z:Int)(N:Nat)(w:World)(h:IV w N x y z)(m:N<1099511627776):
 aT Tryz.prog 13 #[.agg #[x,y]] w (CX w z 1):=by
 refine bF (n:=7) Tryz.func13 F rfl aw aA ?_;refine gg ?_;refine aZ (v:=.agg _) (.inl F) F ?_;intro a e c a;refine gg ?_;refine aR (.inl F) kV ?_;intro g b a i;have i:=RB.zero b;obtain⟨l,j⟩:=a9 (e.Y a);have b:=c.trans a;have a:=c.size;refine gg ?_;refine aJ (mo _ _ _ N g (h.Y b) m) ?_;rintro _ a ⟨c,e,e,rfl,g⟩;clear l j;refine gg ?_;refine aJ (iy 1 a ar ar) ?_;rintro _ a ⟨a,e,e,rfl,e⟩;refine gg ?_;refine om F rfl ?_;refine gg ?_;refine fC (.inl F) F rfl (i.Y (c.trans a)) (g.Y a) e ?_;intro e e g i i;refine gg ?_;exact A5 F rfl e λx y i e l j=>⟨g.aK (b.trans (c.trans a)) λb a=>aq,x,y,i,e,F,l,j⟩
theorem iQ(x y e c:Value)(n d:Int)(N:Nat)(w:World)(h1:IV w N x y n)(j:IV w N e c d)(z:N<68719476736)(u:d≠0):
 aT Tryz.prog 36 #[.agg #[x,y,e,c]] w (CX w (ic n d) (fL n d)):=by
 refine bF (n:=17) Tryz.func36 F rfl aw aA ?_;refine gg ?_;refine aZ (v:=.agg _) (.inl F) F ?_;intro a b i g;have m:bh a w.heap.size 42 #[x,y,e,c]:=b;refine gg ?_;refine aR (.inl F) kV ?_;intro o g b h;have h:=RB.zero g;obtain⟨g,l⟩ : ∃g,g=a.heap.size:=⟨_,F⟩;rw[<-l]at h⊢;obtain⟨⟨s,r⟩,q,p⟩:=G2 (m.Y b);have a:=i.trans b;refine gg ?_;refine b6 sU F ?_;refine gg ?_;refine b6 sT F ?_;refine gg ?_;refine aJ (pG _ _ _ _ _ _ N o (h1.Y a) (j.Y a) z u) ?_;rintro _ b ⟨_,rfl,g,b,b,b,b,rfl,m,l⟩;clear s r q p;refine gg ?_;refine aR (.inl F) kV ?_;intro b p b o;have o:=RB.zero p;have p:=a.size;have p:=i.size;have i:=g.size;refine gg ?_;refine fC (.inl F) F rfl o (m.Y b) (l.Y b) ?_;intro p o i m l;have l:=(h.Y (g.trans b)).kp m i aq;have h:Ext w p:=i.aK (a.trans (g.trans b)) λb r=>aq;obtain⟨a,a,a,a,i,g,a⟩:=o;obtain⟨q,p,o,m⟩:=vh i;refine gg ?_;refine aP ?_;refine gg ?_;refine kg ar dU F q p o m ?_;refine gg ?_;refine fC (.inl F) F rfl l g a ?_;intro a a g i i;refine gg ?_;exact A5 F rfl a λx y e c h1 j=>⟨g.aK h λb r=>aq,x,y,e,c,F,h1,j⟩
def Qv(w:World)(N:Nat)(x y e c:Value)(a b:Int):Prop:=∃n d,CV w x y n/\CV w e c d/\Bd N n/\Bd N d/\0<d/\n*b=a*d
def RQ(w:World)(N:Nat)(a b:Int)(v:Value)(w':World):Prop:=Ext w w'/\∃x y e c,v=.agg #[x,y,e,c]/\Qv w' N x y e c a b
theorem Qv.Y{w w':World}{N:Nat}{x y e c:Value}{a b:Int}(h:Qv w N x y e c a b)(g:Ext w w'):Qv w' N x y e c a b:=by
 obtain⟨n,d,i,e,c⟩:=h;exact⟨n,d,i.Y g,e.Y g,c⟩
theorem Qv.red{w:World}{N:Nat}{x y g e:Value}{a b c:Int}(h:Qv w N x y g e (a*c) (b*c))(i:c≠0):Qv w N x y g e a b:=by
 obtain⟨n,d,o,m,l,j,g,e⟩:=h;refine⟨n,d,o,m,l,j,g,Int.eq_of_mul_eq_mul_right i ?_⟩;rw[Int.mul_assoc,e];grind
theorem pN{n d a b:Int}(c:d≠0)(h:n*b=a*d):ic n d*b=a*fL n d:=by
 have e:=j9 (n:=n) (d:=d);refine Int.eq_of_mul_eq_mul_right c ?_;rw[show ic n d*b*d=ic n d*d*b by grind,e,show n*fL n d*b=n*b*fL n d by grind,h];grind
theorem Bp{j c i b m g l e p q:Int}(h1:j*g=m*c)(s:i*e=l*b)(r:c≠0)(o:b≠0)(h:p*(c*b)=(j*i)*q):p*(g*e)=(m*l)*q:=by
 refine Int.eq_of_mul_eq_mul_right (a:=c*b) (Int.mul_ne_zero r o) ?_;rw[show p*(g*e)*(c*b)=p*(c*b)*(g*e) by grind,h,show j*i*q*(g*e)=q*((j*g)*(i*e)) by grind,h1,s];grind
theorem rj(x1 y1 a3 Z x2 y2 a0 g:Value)(a1 b1 a2 b2:Int)(N:Nat)(w:World)(h1:Qv w N x1 y1 a3 Z a1 b1)(h2:Qv w N x2 y2 a0 g a2 b2)(hN:N<17179869184):
 aT Tryz.prog 12 #[.agg #[x1,y1,a3,Z],.agg #[x2,y2,a0,g]] w (RQ w (N+N) (a1*a2) (b1*b2)):=by
 obtain⟨n1,Y,bI,bM,bt,bu,aH,e1⟩:=h1;obtain⟨n2,X,bD,bK,bl,Jo,aH,e2⟩:=h2;refine bF (n:=28) Tryz.func12 F rfl aw aA ?_;refine gg ?_;refine aZ (v:=.agg _) (.inl F) F ?_;intro w1 bj aH bX;have av:bh w1 w.heap.size 42 #[x1,y1,a3,Z]:=bj;refine gg ?_;refine aZ (v:=.agg _) (.inl F) F ?_;intro w2 bg a3 Z;have au:bh w2 w1.heap.size 42 #[x2,y2,a0,g]:=bg;refine gg ?_;refine aR (.inl F) kV ?_;intro g b5 Z g;have hR:=RB.zero b5;obtain⟨gR,a0⟩ : ∃g,g=w2.heap.size:=⟨_,F⟩;rw[<-a0]at hR⊢;have L:=aH.trans (a3.trans Z);have g:w.heap.size<=gR:=by have:=(aH.trans a3).size;omega
 have ai:=hR.lt;refine gg ?_;refine iq [(0,0),(2,0)] [(1,[],[]),(4,[],[]),(5,[],[]),(3,[],[1])] [(6,2),(7,2)] mixed aw λw9 o _=>?_;obtain⟨p0,p1,p2,p3⟩:=vh (av.Y (a3.trans (Z.trans o)));obtain⟨T,R,Q,P⟩:=vh (au.Y (Z.trans o));have j:=L.trans o;refine gg ?_;refine l5 ar dU F p0 p1 p2 p3 ?_;refine gg ?_;refine l5 ar dU F T R Q P ?_;refine gg ?_;refine dT [(1,[]),(3,[])] [fA 4 5 42 (.agg #[.bool false,.slice none 0 0,.bool false,.slice none 0 0]),fA 5 6 42 (.agg #[.bool false,.slice none 0 0,.bool false,.slice none 0 0])] [10,12,5,6] aw (λa V f' w' _ _=>by
  rcases List.mem_cons.1 V with rfl|V
  ·exact b_ kV F f' w'
  ·rcases List.mem_singleton.1 V with rfl;exact b_ kV F f' w') ?_
 clear p0 p1 p2 p3 T R Q P;refine cT λg i=>?_;refine gg ?_;refine aM (iQ _ _ _ _ n1 Y N g ((bI.Y (j.trans i)).iv bt) ((bM.Y (j.trans i)).iv bu) aq aq) ?_;rintro _ g ⟨r,u0,u1,u2,u3,rfl,hu,M⟩;refine⟨r,?_⟩;refine gg ?_;refine cT λg J=>?_;have A:=j.trans (i.trans (r.trans J));refine gg ?_;refine aM (iQ _ _ _ _ n2 X N g ((bD.Y A).iv bl) ((bK.Y A).iv Jo) aq aq) ?_;rintro _ g ⟨I,t0,t1,t2,t3,rfl,ht,O⟩;refine⟨I,?_⟩;refine gg ?_;refine fM λg q c m ad=>?_;obtain⟨D,b4⟩:=m _ aG;obtain⟨C,b0⟩:=m _ (List.mem_cons_of_mem _ aG);have an:c 5≠c 6:=ad _ _ aG (List.mem_cons_of_mem _ aG) (show(5:Nat)≠6 by decide);have ay:RB g (c 5) 0 0:=RB.zero b4;have ax:RB g (c 6) 0 0:=RB.zero b0;have D:w9.heap.size<=c 5:=D;have C:w9.heap.size<=c 6:=C;show Ro _ _ _ _ _ _ (bS (bS _ 6 (.pointer (some ⟨c 6,0,none⟩))) 5 (.pointer (some ⟨c 5,0,none⟩))) _;generalize c 5=g5 at*;generalize c 6=g6 at*;clear b4 b0 m ad;have bC:=o.size;have bA:=L.size;have e:=J.trans (I.trans q);refine gg ?_;refine fC (.inl F) F rfl ay (hu.Y e) (M.Y e) ?_;intro g h5 u h bx;refine gg ?_;refine fC (.inl F) F rfl (ax.kp h u an.symm) ((ht.Y q).kp h) ((O.Y q).kp h) ?_;intro g h6 s B ab;have h5:=h5.kp B s an;have z:=i.trans (r.trans e);have aj:=((hR.Y (o.trans z)).kp h u aq).kp B s aq;have al:Ext w g:=s.aK (u.aK (j.trans z) λb U=>aq) λb U=>aq;have g:w.heap.size<=gR/\w.heap.size<=g5/\w.heap.size<=g6/\gR≠g5/\gR≠g6:=aq;have f1:=pN (show Y≠0 by omega) e1;have f2:=pN (show X≠0 by omega) e2;obtain⟨a7,a5⟩:=pO bt bu;obtain⟨a6,a4⟩:=pO bl Jo;have g:=j_ (n:=n1) (show Y≠0 by omega);have g:=j_ (n:=n2) (show X≠0 by omega);generalize ic n1 Y=g at*;generalize fL n1 Y=Y1 at*;generalize ic n2 X=g at*;generalize fL n2 X=Y2 at*;clear z h u B s bx ab ay ax q I J r i o D C hu M ht O bC bA ai L j hR bj bg b5 e A av au;refine gg ?_;refine iq [(0,3),(1,0),(2,3),(3,0),(5,3),(6,0),(7,3),(8,0)] [(4,[],[]),(14,[],[]),(9,[],[4]),(10,[(11,3),(12,3),(13,3)],[4,9])] [(15,2),(16,3)] mixed aw λbB p _=>?_;obtain⟨u0,u1,u2,u3,e,hu,M⟩:=h5.Y p;obtain⟨t0,t1,t2,t3,g,ht,O⟩:=h6.Y p;obtain⟨⟨p0,p1⟩,p2,p3⟩:=G2 e;obtain⟨⟨T,R⟩,Q,P⟩:=G2 g;refine gg ?_;refine b6 sU F ?_;refine gg ?_;refine b6 sU F ?_;refine gg ?_;refine b6 sT F ?_;refine gg ?_;refine b6 sT F ?_;refine gg ?_;refine dT [(4,[]),(9,[]),(10,[(11,3),(12,3),(13,3)])] [fA 14 7 42 (.agg #[.bool false,.slice none 0 0,.bool false,.slice none 0 0])] [18,23,24,13,25,26,7] aw (λa V f' w' _ _=>by
  rcases List.mem_singleton.1 V with rfl;exact b_ kV F f' w') ?_
 clear p0 p1 p2 p3 T R Q P;refine cT λe a=>?_;refine gg ?_;refine aM (oW _ _ _ _ _ _ N e ((hu.Y a).iv a7) ((ht.Y a).iv a6) aq) ?_;rintro _ e ⟨g,e,e,rfl,i⟩;refine⟨g,?_⟩;refine gg ?_;refine cT λh e=>?_;have l:=a.trans (g.trans e);refine gg ?_;refine aM (oW _ _ _ _ _ _ N h ((M.Y l).iv a5) ((O.Y l).iv a4) aq) ?_;rintro _ a ⟨H,a,s1,rfl,g⟩;refine⟨H,?_⟩;refine gg ?_;refine cT λa G=>?_;refine gg ?_;refine aM (pG _ _ _ _ _ _ (N+N) a ((i.Y (e.trans (H.trans G))).iv (a7.mul a6)) ((g.Y G).iv (a5.mul a4)) aq (Int.mul_ne_zero aq aq)) ?_;rintro _ a ⟨_,rfl,ak,a,a,a,a,rfl,ma,bW⟩;refine⟨ak,?_⟩;refine gg ?_;refine fM λe E c m _=>?_;obtain⟨a,W⟩:=m _ aG;have a:bB.heap.size<=c 7:=a;have W:=RB.zero W;show Ro _ _ _ _ _ _ (bS _ 7 (.pointer (some ⟨c 7,0,none⟩))) _;have W:RB e (c 7) 0 0:=W;generalize c 7=a at*;clear m;have a:=p.trans (l.trans (H.trans (G.trans (ak.trans E))));have ab:=al.size;have c:=p.size;have ai:=aj.lt;refine gg ?_;refine fC (.inl F) F rfl W (ma.Y E) (bW.Y E) ?_;intro h i c e g;have g:=(aj.Y a).kp e c aq;have e:Ext w h:=c.aK (al.trans a) λb U=>aq;obtain⟨a,a,a,a,h,c,a⟩:=i;obtain⟨T,R,Q,P⟩:=vh h;refine gg ?_;refine kg ar dU F T R Q P ?_;refine gg ?_;refine fC (.inl F) F rfl g c a ?_;intro a c g a a;have U:=pO (a7.mul a6) (a5.mul a4);have a:Y1*Y2≠0:=Int.mul_ne_zero aq aq;refine gg ?_;exact A5 F rfl c λx y h c h1 h2=>⟨g.aK e λb U=>aq,x,y,h,c,F,_,_,h1,h2,U.1,U.2,j_ a,Bp f1 f2 aq aq j9⟩
end
end Go.Proofs.Qq

namespace Go.bc
def Jn(n:Nat)(G:Mt)(u v:Nat->Int):Int:=sm n λa=>u a*sm n λb=>G a b*v b
def gr(n:Nat)(T G:Mt):Mt:=λi j=>Jn n G (T i) (T j)
def Sy(n:Nat)(G:Mt):Prop:=∀a b,a<n->b<n->G a b=G b a
def PM(n:Nat)(H:Mt):Prop:=∀m,m<=n->0<aQ m H
section
variable {n:Nat}{H:Mt}
theorem AS{a b:Int}(_hb:0<=b)(h:a.natAbs<=b.natAbs):a*a<=b*b:=by
 have d:a*a=((a.natAbs*a.natAbs:Nat):Int):=by rw[Int.natAbs_mul_self]
 have c:b*b=((b.natAbs*b.natAbs:Nat):Int):=by rw[Int.natAbs_mul_self]
 rw[d,c];exact Int.ofNat_le.2 (Nat.mul_le_mul h h)
structure Ac(n:Nat)(H:Mt):Prop where
 sized:∀i j,j<i->i<n->2*bm j H i j<=aQ (j+1) H/\-(2*bm j H i j)<=aQ (j+1) H
 IQ:∀i,i+1<n->3*(aQ (i+1) H*aQ (i+1) H)<=4*(aQ i H*aQ (i+2) H+bm i H (i+1) i*bm i H (i+1) i)
theorem Ep{a d:Int}(h1:2*a<=d)(c:-(2*a)<=d):4*(a*a)<=d*d:=by
 have h:=AS (a:=2*a) (b:=d) aq aq;have:2*a*(2*a)=4*(a*a):=aC;omega
theorem Ac.half(h:Ac n H){i:Nat}(a:i+1<n):aQ (i+1) H*aQ (i+1) H<=2*(aQ i H*aQ (i+2) H):=by
 obtain⟨c,b⟩:=h.sized (i+1) i aq a;have d:=Ep c b;have b:=h.IQ i a;omega
end
theorem rk{e:Nat->Nat}{n:Nat}(a:∀k,k<=n->0<e k)(c:e 0=1)(b:∀k,k+1<n->e (k+1)*e (k+1)<=e k*e (k+2)):∀k,k<n->e k^(k+1)<=e (k+1)^k
 |0,_=>by rw[c];simp
 |k+1,f=>by
  have d:=rk a c b k aq;have h:=b k f;have b:(e (k+1)*e (k+1))^(k+1)<=(e k*e (k+2))^(k+1):=Nat.pow_le_pow_left h _;rw[Nat.mul_pow,Nat.mul_pow]at b;have f:e k^(k+1)*e (k+2)^(k+1)<=e (k+1)^k*e (k+2)^(k+1):=Nat.mul_le_mul_right _ d;have c:=Nat.le_trans b f;have b:0<e (k+1)^k:=Nat.pow_pos (a (k+1) aq);refine Nat.le_of_mul_le_mul_left ?_ b;rw[show e (k+1)^k*e (k+1)^(k+1+1)=e (k+1)^(k+1)*e (k+1)^(k+1) by rw[<-Nat.pow_add,<-Nat.pow_add];congr 1;omega];exact c
theorem uD{e:Nat->Nat}{n:Nat}(h:∀k,k<n->e k^(k+1)<=e (k+1)^k){k:Nat}(a:1<=k):∀m,k<=m->m<=n->e k^m<=e m^k
 |0,h1,_=>aq
 |m+1,h1,h2=>by
  by_cases b:k=m+1
  ·subst b;exact Nat.le_refl _
  ·have b:=uD h a m aq aq;have a:=h m aq;have c:(e k^(m+1))^m<=(e (m+1)^k)^m:=by
    calc (e k^(m+1))^m=(e k^m)^(m+1):=by rw[<-Nat.pow_mul,<-Nat.pow_mul,Nat.mul_comm]
     _<=(e m^k)^(m+1):=Nat.pow_le_pow_left b _
     _=(e m^(m+1))^k:=by rw[<-Nat.pow_mul,<-Nat.pow_mul,Nat.mul_comm]
     _<=(e (m+1)^m)^k:=Nat.pow_le_pow_left a _
     _=(e (m+1)^k)^m:=by rw[<-Nat.pow_mul,<-Nat.pow_mul,Nat.mul_comm]
   exact(Nat.pow_le_pow_iff_left aq).1 c
def lg(H:Mt)(k:Nat):Nat:=(aQ k H).toNat*(aQ k H).toNat*2^(k*k)
theorem GG{n:Nat}{H:Mt}(b:PM n H)(f:Ac n H){k:Nat}(e:1<=k)(a:k<=n):lg H k^n<=lg H n^k:=by
 have c:∀k,k<=n->0<lg H k:=λk a=>by
  have:=b k a;have d:0<(aQ k H).toNat:=aq;exact Nat.mul_pos (Nat.mul_pos d d) (Nat.pow_pos ar)
 refine uD (rk c (by simp[lg,aQ]) λk a=>?_) e n a aD;have d:=f.half a;have a:=b k aq;have a:=b (k+1) aq;have a:=b (k+2) aq;unfold lg;obtain⟨a,g⟩ : ∃a:Nat,aQ k H=a:=⟨(aQ k H).toNat,aq⟩;obtain⟨b,f⟩ : ∃b:Nat,aQ (k+1) H=b:=⟨(aQ (k+1) H).toNat,aq⟩;obtain⟨c,e⟩ : ∃c:Nat,aQ (k+2) H=c:=⟨(aQ (k+2) H).toNat,aq⟩;rw[g,f,e]at d⊢;simp only[Int.toNat_natCast];have e:b*b<=2*(a*c):=by exact_mod_cast d
 have d:b*b*(b*b)<=2*(a*c)*(2*(a*c)):=Nat.mul_le_mul e e;rw[show b*b*2^((k+1)*(k+1))*(b*b*2^((k+1)*(k+1)))=b*b*(b*b)*2^((k+1)*(k+1)+(k+1)*(k+1)) by rw[Nat.pow_add];grind];rw[show a*a*2^(k*k)*(c*c*2^((k+2)*(k+2)))=a*c*(a*c)*2^(k*k+(k+2)*(k+2)) by rw[Nat.pow_add];grind];rw[show k*k+(k+2)*(k+2)=2+((k+1)*(k+1)+(k+1)*(k+1)) by grind,Nat.pow_add 2 2];have:=Nat.mul_le_mul_right (2^((k+1)*(k+1)+(k+1)*(k+1))) d;refine Nat.le_trans this ?_;rw[show 2*(a*c)*(2*(a*c))*2^((k+1)*(k+1)+(k+1)*(k+1))=a*c*(a*c)*(2^2*2^((k+1)*(k+1)+(k+1)*(k+1))) by grind];exact Nat.le_refl _
theorem GF:∀n,n<9->∀k,k<n->1<=k->(10000*10000*2^(n*n))^k<(65536*65536*2^(k*k))^n:=by decide +kernel
theorem uJ{n:Nat}{H:Mt}(b:PM n H)(c:Ac n H)(f:n<=8)(f:aQ n H<=10000):∀k,k<=n->aQ k H<=65535:=by
 intro k d;by_cases e:k=0
 ·subst e;simp[aQ]
 by_cases a:k=n
 ·subst a;omega
 refine Classical.byContradiction λa=>?_;have a:65536<=(aQ k H).toNat:=aq;have e:=GG b c (k:=k) aq d;have c:=GF n aq k aq aq;have p:=b n aD;have c:lg H n<=10000*10000*2^(n*n):=Nat.mul_le_mul_right _ (Nat.mul_le_mul aq aq);have b:65536*65536*2^(k*k)<=lg H k:=Nat.mul_le_mul_right _ (Nat.mul_le_mul a a);have a:=Nat.pow_le_pow_left c k;have a:=Nat.pow_le_pow_left b n;omega
section
variable {n:Nat}{H:Mt}
structure SI(n k j:Nat)(H:Mt)(U:Int):Prop where
 red:Ac k H
 sz:∀c,j<=c->c<k->2*bm c H k c<=aQ (c+1) H/\-(2*bm c H k c)<=aQ (c+1) H
 bd:∀c,c<k->bm c H k c<=U*aQ (c+1) H/\-(bm c H k c)<=U*aQ (c+1) H
theorem SI.skip(b:PM n H){k j:Nat}{U:Int}(g:0<=U)(g:k<n)(g:j<k)(h:SI n k (j+1) H U)(a:2*bm j H k j<=aQ (j+1) H/\-(2*bm j H k j)<=aQ (j+1) H):SI n k j H (2*U+1):=by
 refine⟨h.red,λc g f=>?_,λc d=>?_⟩
 ·by_cases e:c=j
  ·subst e;exact a
  ·exact h.sz c aq f
 ·obtain⟨a,a⟩:=h.bd c d;have a:=b (c+1) aq;have b:(2*U+1)*aQ (c+1) H=U*aQ (c+1) H+(U+1)*aQ (c+1) H:=aC;have b:0<=(U+1)*aQ (c+1) H:=Int.mul_nonneg aq (Int.le_of_lt a);omega
end
structure LI(n k:Nat)(G T:Mt)(D B:Int):Prop where
 Ju:aQ n T=1\/aQ n T=-1
 pos:PM n (gr n T G)
 red:Ac k (gr n T G)
 JJ:∀m,m<=n->aQ m (gr n T G)<=D
 JA:∀i,i<n->gr n T G i i<=B
section
variable {n k:Nat}{G T:Mt}{D B:Int}
theorem Ac.one(H:Mt):Ac 1 H:=⟨λi j a h=>by omega,λi h=>by omega⟩
end
end Go.bc
namespace Go.Proofs.Qq
section
open Go Go.cU Go.cV Go.Proofs
def CN(T:Nat)(w:World)(g c:Nat)(bn:Nat->Nat)(M:Nat->Int):Prop:=
 ∃h,bh w g T (arr (c*2) h)/\∀j,j<c->EV w (bn j) true (h (j*2)) (h (j*2+1)) (M j)
section
variable {T:Nat}{w w':World}{g c:Nat}{bn bn':Nat->Nat}{M M':Nat->Int}
theorem CN.congr(h:CN T w g c bn M)(e:∀j,j<c->bn j<=bn' j/\M j=M' j):CN T w g c bn' M':=by
 obtain⟨a,d,b⟩:=h;exact⟨a,d,λj a=>by rw[<-(e j a).2];exact(b j a).mono (e j a).1⟩
theorem CN.at{j:Nat}(h:CN T w g c bn M)(d:j<c):
 ∃x y,w.cell? ⟨g,0+j*2,none⟩=some x/\w.cell? ((⟨g,0+j*2,none⟩ : Addr).add 1)=some y/\EV w (bn j) true x y (M j):=by
 obtain⟨a,b,e⟩:=h;refine⟨a (j*2),a (j*2+1),?_,?_,e j d⟩
 ·rw[b.cell,Nat.zero_add,b8 aq]
 ·rw[add_lit,b.cell,Nat.zero_add,b8 aq]
end
end
end Go.Proofs.Qq

namespace Go.Proofs.Qq
section
open Go Go.cU Go.cV Go.Proofs
structure Je where
 gS:Nat
 gM:Nat
 gL:Nat
 gB:Nat
 gl:Nat->Nat
 gb:Nat->Nat
def Ij(I:Je)(n:Nat)(b:Nat):Prop:=b=I.gS\/b=I.gM\/b=I.gL\/b=I.gB\/∃i,i<n/\(b=I.gl i\/b=I.gb i)
def F6(I:Je)(n:Nat)(b:Nat):Prop:=b=I.gM\/∃i,i<n/\(b=I.gl i\/b=I.gb i)
theorem F6.qd{I:Je}{n b:Nat}(h:F6 I n b):Ij I n b:=by
 rcases h with h|h
 ·exact .inr (.inl h)
 ·exact .inr (.inr (.inr (.inr h)))
end
end Go.Proofs.Qq

namespace Go.cU
section
open Go
def wI(cs:Array Value)(i:Nat):List Value->Array Value
 |[]=>cs
 |v::r=>wI (cs.setIfInBounds i v) (i+1) r
theorem zp(cs:Array Value)(i:Nat)(a:List Value):(wI cs i a).size=cs.size:=by
 induction a generalizing cs i with
 |nil=>rfl
 |cons v r b=>simp only[wI];rw[b];simp
theorem DM(b:List Value):∀(a:Array Value) (i k:Nat),k<a.size->(wI a i b)[k]?=if i<=k/\k<i+b.length then b[k-i]? else a[k]?:=by
 induction b with
 |nil=>intro a i k _;rw[aa (by simp only[List.length_nil];omega)];rfl
 |cons v r h=>
  intro a i k c;simp only[wI];rw[h _ _ k (by simpa using c)];by_cases e:k=i
  ·subst e;rw[aa aq,ae aA,Nat.sub_self,Array.getElem?_setIfInBounds_self_of_lt c];rfl
  ·rw[Array.getElem?_setIfInBounds_ne (Ne.symm e)];by_cases h:i+1<=k/\k<i+1+r.length
   ·rw[ae h,ae (by simp only[List.length_cons];omega),show k-i=(k-(i+1))+1 by omega];rfl
   ·rw[aa h,aa (by simp only[List.length_cons];omega)]
theorem AW{cs:Array Value}{a:List Value}(h:a.length=cs.size):wI cs 0 a=a.toArray:=by
 apply Array.ext_getElem?;intro k;by_cases b:k<cs.size
 ·rw[DM a cs 0 k b,ae aq];simp
 ·have b:=zp cs 0 a;rw[Array.getElem?_eq_none aq,Array.getElem?_eq_none (by simp;omega)]
section
variable {P:Program}{w:World}{g T:Nat}
theorem kX:∀(b:List Value) (cs:Array Value) (i:Nat) (w:World),bh w g T cs->i+b.length<=cs.size->(∀v∈b,v.oneCell'=true)->
 ∃a,(storeCells ⟨g,0,none⟩ b i).run P w=.ok () a/\bh a g T (wI cs i b)/\Ch (λb=>b=g) w a/\a.heap.size=w.heap.size
 |[],cs,i,w,b,_,_=>⟨w,rfl,b,Ch.refl _ _,rfl⟩
 |v::r,cs,i,w,b,e,c=>by
  simp only[List.length_cons]at e;have e:w.cell? ⟨g,i,none⟩=some (cs[i]'aq):=by rw[b.cell];simp
  have m:=ft (P:=P) (c v aG) e (b.frozen i);obtain⟨a,l,j,h,e⟩:=kX r _ (i+1) _ (b.set i v) (by simp;omega) (λu b=>c u (List.mem_cons_of_mem _ b));refine⟨a,?_,j,(eh w ⟨g,i,none⟩ v).trans h,by rw[e,size_setCell]⟩;unfold storeCells;simp only[Sem.run_bind,add_lit,Nat.zero_add,m,Result.andThen_ok];exact l
end
section
variable {P:Program}{n:Nat}{S:World->World->Prop}{k:Nat}{K:Fr->World->Prop}{f:Fr}{w:World}{d ty t:Nat}{x y:Operand}{pos:String}{aft:Array Edge}{gd:Option (Nat×Bool)}
theorem vJ{m g T:Nat}{cs a:Array Value}(j:dL P t m=true)(s:k=2\/k=1/\∀w',Ch (λb=>b=g) w w'->S w w')(i:ev n f x=.pointer (some ⟨g,0,none⟩))(e:ev n f y=.agg a)(p:∀v∈a.toList,v.oneCell'=true)(q:bh w g T cs)(h1:cs.size=m)(r:a.size=m)
 (h:∀w',bh w' g T a->Ch (λb=>b=g) w w'->w'.heap.size=w.heap.size->K f w'):R1 P n S k ⟨none,.store t x y,ty,pos,aft,gd⟩ K f w:=by
 obtain⟨w',o,c,b,l⟩:=kX (P:=P) a.toList cs 0 w q (by simp;omega) p;rw[AW (by simp;omega)]at c;refine nM (w':=w') (s.imp id λh=>⟨h.1,h.2 _ b⟩) rfl ?_ (h w' (by simpa using c) b l);simp only[execOp,i,e,Sem.run_bind,Instr.storeAt,Instr.sureAddr,Sem.run_pure,Result.andThen_ok,storeVar,fP j,Value.cells];rw[aa (by simp[r])];simp only[Result.andThen_ok,o]
