import Derived.Test.YtmfndnlifgphjaaGreatQzs
set_option maxHeartbeats 64000000
open Go.Proofs.YtmfndnlifgphjaaGreat
namespace Go.Proofs.Qq
section
open Go Go.cU Go.cV Go.Proofs
open Go.bc (sw jE ep qZ kO JI PR Em cr)
section
variable {w w':World}{gO gE r c N i j:Nat}{ps:Nat->Nat}{cn:Bool}{M:Nat->Nat->Int}{z:Int}
theorem fl.put{aI:Nat->Int}(h:fl w gO gE ps r c cn N M)(o:i<r)(m:j<c)(p:∀i j,i<r->j<c->aI (ps i*c+j)=M i j)(a:dk w' gE (r*c) cn (λ_=>N) (fR aI (ps i*c+j) z))(e:Ch (λb=>b=gE) w w'):fl w' gO gE ps r c cn N (dM M i j z):=by
 refine⟨h.outer.ch e h.ne.symm,⟨_,a,λa b l g=>?_⟩,h.ne,h.lt,h.inj⟩;simp only[fR,dM];by_cases e:ps a*c+b=ps i*c+j
 ·obtain⟨s,q⟩:=yA g m e;rw[ae e,ae ⟨h.inj a i l o s,q⟩]
 ·rw[aa e,aa λq=>e (by rw[q.1,q.2])];exact p a b l g
end
section
variable {n:Nat}{S:World->World->Prop}{k:Nat}{K:Fr->World->Prop}{f:Fr}{w:World}{d ty t t2:Nat}{x y:Operand}{pos:String}{aft:Array Edge}{gd:Option (Nat×Bool)}
theorem rM{gO gE r c N i j:Nat}{ps:Nat->Nat}{cn:Bool}{M:Nat->Nat->Int}{z:Int}{a b:Value}(u:k=2\/k=1/\∀w',Ch (λb=>b=gE) w w'->S w w')(p:ev n f x=.pointer (some ⟨gE,0+ps i*c*2+j*2,none⟩))(m:ev n f y=.agg #[a,b])(e:fl w gO gE ps r c cn N M)(l:i<r)(g:j<c)(q:EV w N cn a b z)
 (h:∀w',fl w' gO gE ps r c cn N (dM M i j z)->Ch (λb=>b=gE) w w'->Kp w w'->w'.heap.size=w.heap.size->K f w'):
 R1 Tryz.prog n S k ⟨none,.store 35 x y,ty,pos,aft,gd⟩ K f w:=by
 obtain⟨aI,s,o⟩:=id e.flat;refine rN u p m s (w_ (e.lt i l) g) q ?_;intro w' q m s p;exact h w' (e.put l g o q m) m s p
end
def mI(w:World)(g n:Nat)(a b:Nat->Int):Prop:=
 ∃h,bh w g 42 (arr (n*4) h)/\∀i,i<n->CV w (h (i*4)) (h (i*4+1)) (a i)/\CV w (h (i*4+2)) (h (i*4+3)) (b i)
theorem CV.kinds{w:World}{x y:Value}{z:Int}(h:CV w x y z):(∃q,x=.bool q)/\∃A m c,y=.slice A m c:=by
 obtain⟨a,A,l,c,rfl,rfl,_⟩:=h;exact⟨⟨_,F⟩,_,_,_,F⟩
theorem wO{w:World}{n:Nat}{h:Nat->Value}{a b:Nat->Int}(g:∀i,i<n->CV w (h (i*4)) (h (i*4+1)) (a i)/\CV w (h (i*4+2)) (h (i*4+3)) (b i)):jL (arr (n*4) h):=by
 intro i k z e;by_cases l:i<n*4
 ·rw[b8 l]at e;have e:=Option.some.inj e;obtain⟨p,o⟩:=g (i/4) aq;obtain⟨⟨_,m⟩,_,_,_,e1⟩:=p.kinds;obtain⟨⟨_,e2⟩,_,_,_,e3⟩:=o.kinds;have g:i%4=0\/i%4=1\/i%4=2\/i%4=3:=aq;rcases g with g|g|g|g
  ·rw[show i/4*4=i by omega]at m;rw[m]at e;cases e
  ·rw[show i/4*4+1=i by omega]at e1;rw[e1]at e;cases e
  ·rw[show i/4*4+2=i by omega]at e2;rw[e2]at e;cases e
  ·rw[show i/4*4+3=i by omega]at e3;rw[e3]at e;cases e
 ·simp[arr,l]at e
theorem mI.Y{w w':World}{g n:Nat}{a b:Nat->Int}(h:mI w g n a b)(e:Ext w w'):mI w' g n a b:=by
 obtain⟨h,l,m⟩:=h;exact⟨h,l.Y e,λi l=>⟨(m i l).1.Y e,(m i l).2.Y e⟩⟩
theorem mI.congr{w:World}{g n:Nat}{a b m l:Nat->Int}(h:mI w g n a b)(e:∀i,i<n->a i=m i/\b i=l i):mI w g n m l:=by
 obtain⟨h,l,m⟩:=h;exact⟨h,l,λi l=>by rw[<-(e i l).1,<-(e i l).2];exact m i l⟩
theorem zy{w:World}{g n:Nat}(h:bh w g 42 (madeCells (Value.agg #[.bool false,.slice none 0 0,.bool false,.slice none 0 0]).cells (n*4))):mI w g n (λ_=>0) (λ_=>0):=by
 rw[il]at h;refine⟨_,h,λi a=>?_⟩;have a:(Value.agg #[.bool false,.slice none 0 0,.bool false,.slice none 0 0]).cells=#[.bool false,.slice none 0 0,.bool false,.slice none 0 0]:=F;simp only[a];rw[show i*4%(#[Value.bool false,.slice none 0 0,.bool false,.slice none 0 0]:Array Value).size=0 by simp,show(i*4+1)%(#[Value.bool false,.slice none 0 0,.bool false,.slice none 0 0]:Array Value).size=1 by simp,show(i*4+2)%(#[Value.bool false,.slice none 0 0,.bool false,.slice none 0 0]:Array Value).size=2 by simp,show(i*4+3)%(#[Value.bool false,.slice none 0 0,.bool false,.slice none 0 0]:Array Value).size=3 by simp];exact⟨CV.zero w,CV.zero w⟩
section
variable {n:Nat}{S:World->World->Prop}{k:Nat}{K:Fr->World->Prop}{f:Fr}{w:World}{d ty t t2:Nat}{x y:Operand}{pos:String}{aft:Array Edge}{gd:Option (Nat×Bool)}
theorem vI{g m i:Nat}{a b:Nat->Int}{B u:Int}{v0 v1 o v3:Value}(I:k=2\/k=1/\∀w',Ch (λb=>b=g) w w'->S w w')(G:ev n f x=.pointer (some ⟨g,0+i*4,none⟩))(E:ev n f y=.agg #[v0,v1,o,v3])(H:mI w g m a b)(D:i<m)(v:CV w v0 v1 B)(l:CV w o v3 u)
 (h:∀w',mI w' g m (fR a i B) (fR b i u)->Ch (λb=>b=g) w w'->Kp w w'->w'.heap.size=w.heap.size->K f w'):
 R1 Tryz.prog n S k ⟨none,.store 42 x y,ty,pos,aft,gd⟩ K f w:=by
 obtain⟨p,D,A⟩:=H;refine kf dU I G E v.db v.de l.db l.de D (by rw[bk];omega) ?_;intro w' u B E;have e:=cK D (wO A).jn B;refine h w' ⟨_,by rw[cC,cC,cC,cC]at u;exact u,λq C=>?_⟩ B e E;by_cases s:q=i
 ·subst s;simp only[fR,if_true,Nat.zero_add];refine⟨?_,?_⟩
  ·rw[bw _ _ (show q*4≠q*4+3 by omega),bw _ _ (show q*4≠q*4+2 by omega),bw _ _ (show q*4≠q*4+1 by omega),bG,bw _ _ (show q*4+1≠q*4+3 by omega),bw _ _ (show q*4+1≠q*4+2 by omega),bG];exact v.kp e
  ·rw[bw _ _ (show q*4+2≠q*4+3 by omega),bG,bG];exact l.kp e
 ·simp only[fR,aa s,Nat.zero_add];have u:∀t,t<4->bS (bS (bS (bS p (i*4) v0) (i*4+1) v1) (i*4+2) o) (i*4+3) v3 (q*4+t)=p (q*4+t):=λt l=>by
   rw[bw _ _ aq,bw _ _ aq,bw _ _ aq,bw _ _ aq]
  have l:bS (bS (bS (bS p (i*4) v0) (i*4+1) v1) (i*4+2) o) (i*4+3) v3 (q*4)=p (q*4):=u 0 aq;rw[l,u 1 aq,u 2 aq,u 3 aq];exact⟨(A q C).1.kp e,(A q C).2.kp e⟩
end
def Hl(w:World)(p:Prop)(n:Nat)(A:Nat->Nat->Int)(v:Value)(w':World):Prop:=
 Ext w w'/\((¬p/\v=.tuple #[.slice none 0 0,.int .i64 3])\/(p/\Go.bc.aQ n A=0/\v=.tuple #[.slice none 0 0,.int .i64 8])\/(p/\Go.bc.aQ n A≠0/\∃g,w.heap.size<=g/\v=.tuple #[.slice (some ⟨g,0,none⟩) n n,.int .i64 0]/\mI w' g n (λi=>ic (cr n A i n) (Go.bc.aQ n A)) λi=>fL (cr n A i n) (Go.bc.aQ n A)))
theorem Ee{a d:Int}(b:d≠0):ic (-a) (-d)=ic a d/\fL (-a) (-d)=fL a d:=by
 have b:fF (-a) (-d)=- fF a d:=by
  unfold fF;have e:Int.gcd (-a) (-d)=Int.gcd a d:=by simp[Int.gcd]
  rw[e];by_cases h:d<0
  ·rw[aa aq,ae h];omega
  ·rw[ae aq,aa h]
 have g:fF a d∣a:=by
  unfold fF;split
  ·exact Int.neg_dvd.2 (Int.gcd_dvd_left ..)
  ·exact Int.gcd_dvd_left ..
 have e:fF a d∣d:=by
  unfold fF;split
  ·exact Int.neg_dvd.2 (Int.gcd_dvd_right ..)
  ·exact Int.gcd_dvd_right ..
 unfold ic fL;rw[b,Int.ediv_neg,Int.ediv_neg,Int.neg_ediv_of_dvd g,Int.neg_ediv_of_dvd e,Int.neg_neg,Int.neg_neg];exact⟨F,F⟩
theorem Ed{s a d:Int}(b:s=1\/s=-1)(e:d≠0):ic (s*a) (s*d)=ic a d/\fL (s*a) (s*d)=fL a d:=by
 rcases b with rfl|rfl
 ·rw[Int.one_mul,Int.one_mul];exact⟨F,F⟩
 ·rw[Int.neg_mul,Int.one_mul,Int.neg_mul,Int.one_mul];exact Ee e
theorem z7(va vb:Value)(r N lb:Nat)(ad:Nat->Nat)(M:Nat->Nat->Int)(bg:Nat->Int)(w:World)(ha:cO (EI N) w va r ad M)(Y:iN (EI N) w vb lb bg)(c5:1<=N)(hN:N<1048576):
 aT Tryz.prog 6 #[va,vb] w (Hl w (n9 r ad=true/\lb=r) r (mb r M bg)):=by
 obtain⟨Aa,ab,ab,_⟩:=id ha;obtain⟨Ab,c4,aH,_⟩:=id Y;refine bF (n:=116) Tryz.func6 F rfl aw aA ?_;refine gg ?_;refine aZ (v:=va) (.inl F) F ?_;intro w1 ai bI b4;have Z:bh w1 w.heap.size 25 #[va]:=by rw[ab]at ai⊢;exact ai
 obtain⟨gA,ab⟩ : ∃g,g=w.heap.size:=⟨_,F⟩;rw[<-ab]at Z⊢;refine gg ?_;refine aZ (v:=vb) (.inl F) F ?_;intro w2 ab b4 bs;have a2:bh w2 w1.heap.size 27 #[vb]:=by rw[aH]at ab⊢;exact ab
 obtain⟨gB,bs⟩ : ∃g,g=w1.heap.size:=⟨_,F⟩;rw[<-bs]at a2⊢;replace Z:=Z.Y b4;have f1:=ir Z;have f2:=ir a2;clear ai ab;have ai:=bI.trans b4;refine gg ?_;refine aJ (zk _ va r ad M w2 (ha.Y ai)) ?_;rintro _ _ ⟨rfl,n,rfl,hn⟩;refine gg ?_;refine aR (.inl F) FG ?_;intro w3 bY bs ab;refine gg ?_;refine cg (aW F) (.inl F) F rfl bY (by simp[Value.cells]) ?_;intro w4 bX bK ab;have U:bh w4 w2.heap.size 3 #[.int .i64 (n:Int)]:=bX;obtain⟨V,ab⟩ : ∃g,g=w2.heap.size:=⟨_,F⟩;rw[<-ab]at U⊢;have ab:Ext w2 w4:=bK.aK bs λb Y=>aq;have X:=ai.trans ab;replace Z:=Z.Y ab;replace a2:=a2.Y ab;replace f1:=ir Z;replace f2:=ir a2;have f3:=ir U;clear bY bX bs bK ab ai bI b4;by_cases ak:n9 r ad=true;rotate_left
 ·have ab:n9 r ad=false:=by simpa using ak
  rw[ab];refine gg ?_;refine aP ?_;refine gg ?_;exact fK (v:=.slice _ _ _) (v':=.int _ _) F rfl rfl ⟨X,.inl ⟨λh=>(by cases h.1),F⟩⟩
 obtain rfl:=hn ak;obtain⟨ab,bA,c3⟩:=oX.1 ak;rw[ak];clear hn;by_cases bl:lb=n;rotate_left
 ·subst aH;refine gg ?_;refine aP ?_;refine gg ?_;exact fK (v:=.slice _ _ _) (v':=.int _ _) F rfl rfl ⟨X,.inl ⟨λh=>bl h.2,rfl⟩⟩
 obtain rfl:n=lb:=bl.symm;have hM:=(ha.sq c3).Y X;have bK:=Y.Y X;obtain⟨A0,ad⟩ : ∃A0,A0=mb n M bg:=⟨_,F⟩;rw[<-ad];have ab:vb=.slice Ab n c4:=aH;rw[ab]at f2;refine gg ?_;refine aP ?_;refine gg ?_;refine kl ?_;refine gg ?_;refine aJ (t_ n (n+1) _ N false _ A0 w4 aq aq aq (λi j hi hj w' ab=>by
  rw[ad];exact zm i j V gB gA n N va vb M bg w' (U.Y ab) (a2.Y ab) (Z.Y ab) (hM.Y ab) (bK.Y ab) hi hj bA)) ?_
 rintro _ w5 ⟨aH,gO,gE,rfl,cc,cd,o⟩;clear f1 f2 f3;refine gg ?_;refine aJ (fb 1 w5 ar ar) ?_;rintro _ w6 ⟨ab,a1,b1,rfl,al⟩;have od:Bd N 1:=Bd.mono (N:=1) (by unfold Bd;decide) c5;have cf:=(o.Y ab).outer.lt;have cq:gE<w6.heap.size:=by obtain⟨_,h4,_⟩:=(o.Y ab).flat;exact h4.lt
 have c9:=U.lt;have c4:=aH.size;have c3:=ab.size;have c5:=X.size;refine gg ?_;refine aR (.inl F) a_ ?_;intro ak bl ai bY;have ad:Bx ak w6.heap.size 1 true 0:=Bx.zero true bl;obtain⟨L,bI⟩ : ∃g,g=w6.heap.size:=⟨_,F⟩;rw[<-bI]at ad⊢;refine gg ?_;refine aL (.inl F) F rfl ad ((al.Y ai).ev true od) ?_;intro w7 G b4 c6 bX;have ak:Ext w6 w7:=b4.aK ai λb Y=>aq;have bs:w6.heap.size<=L:=aq;clear ad bl ai bY bX b4 c6 bI;replace o:=o.Y (ab.trans ak);have ad:=aH.trans (ab.trans ak);replace U:=U.Y ad;have aj:=X.trans ad;have f3:=ir U;have ai:V≠L/\V≠gO/\V≠gE/\L≠gO/\L≠gE:=aq;have ai:w.heap.size<=gO/\w.heap.size<=gE/\w.heap.size<=L:=aq;have ai:=o.ne;clear al od cf cq c9 c4 c3 c5 aH ab ak ad X Z a2 hM bK cc cd bs ha Y;refine gg ?_;refine aX (λf w'=>∃A P l s ps,f 6=.pointer (some ⟨V,0,none⟩)/\f 8=.slice (some ⟨gO,0,none⟩) n n/\f 9=.pointer (some ⟨L,0,none⟩)/\Ext w w'/\fl w' gO gE ps n (n+1) false (Nb N n) A/\Bx w' L (Nb N n) false l/\JI n n A P l/\PR n P A0 s/\bh w' V 3 #[.int .i64 (n:Int)]) ?_ ?_
 ·refine gg ?_;refine aU (λm f w'=>∃k A P l s ps,m=n-k/\k<=n/\f 6=.pointer (some ⟨V,0,none⟩)/\f 8=.slice (some ⟨gO,0,none⟩) n n/\f 9=.pointer (some ⟨L,0,none⟩)/\f 37=.int .i64 (n:Int)/\f 38=.int .i64 ((k:Nat):Int)/\Ext w w'/\fl w' gO gE ps n (n+1) false (Nb N k) A/\Bx w' L (Nb N k) false l/\JI n k A P l/\PR n P A0 s/\bh w' V 3 #[.int .i64 (n:Int)])
   n ⟨0,A0,A0,1,1,λi=>i,rfl,aE,rfl,rfl,rfl,rfl,rfl,aj,o,?_,JI.start n A0,PR.start n A0,U⟩ ?_
  ·obtain⟨x,y,Z,X⟩:=G;exact⟨x,y,Z,X.1,λe=>by cases e⟩
  clear aj o G U f3;rintro m f w8 ⟨k,A,P,l,s,ps,rfl,X,C,B,u,E,D,H,o,G,hJ,hP,a7⟩;rw[ui C,ui B,ui u,ui E,ui D];clear C B u E D;by_cases Q:k<n;rotate_left
  ·obtain rfl:k=n:=aq;refine gg ?_;exact⟨A,P,l,s,ps,F,F,F,H,o,G,hJ,hP,a7⟩
  have ck:=kM hN (show k+1<=16 by omega);have bW:=iI N k;refine gg ?_;refine aP ?_;refine gg ?_;refine aJ (uT gO gE n (n+1) (Nb N k) k ps false A w8 o Q aq aq aq) ?_;rintro _ w9 (⟨rfl,a0,X⟩|⟨rfl,p,bC,hp,bB,av,bD,a6⟩)
  ·refine gg ?_;have Z:=hJ.IG Q X;rw[hP.aQ]at Z;refine fK (v:=.slice _ _ _) (v':=.int _ _) F rfl rfl ⟨H.trans a0,.inr (.inl ⟨⟨F,F⟩,?_,F⟩)⟩;rcases Int.mul_eq_zero.1 Z with h|h
   ·rcases hP.1 with e|e<;>rw[e]at h<;>cases h
   ·exact h
  have ad:=G.kp bD av aq;have ab:=a7.ch av aq;have a0:Ext w w9:=av.aK H λb Y=>aq;obtain⟨s',bM⟩:=hP.swap Q hp;have au:=hJ.swap bC hp;obtain⟨A',X⟩ : ∃A',A'=jE k p A:=⟨_,F⟩;have cb:A' k k≠0:=by
   rw[X,ep];unfold sw;rw[ae F];exact bB
  rw[<-X]at a6 au;obtain⟨O,Z⟩ : ∃O,O=λi=>ps (sw k p i):=⟨_,F⟩;rw[<-Z]at a6;obtain⟨P',a2⟩ : ∃P',P'=jE k p P:=⟨_,F⟩;rw[<-a2]at bM au;have an:∀a b,a<n->b<n+1->Bd (Nb N k) (A' a b):=λa b ha Y=>a6.bd ha Y;clear o G a7 hJ hP X Z a2 bB H bD av bC hp A P s ps p;have k1:=a6.at Q;refine gg ?_;clear k1;refine aX (λf w'=>f 6=.pointer (some ⟨V,0,none⟩)/\f 8=.slice (some ⟨gO,0,none⟩) n n/\f 9=.pointer (some ⟨L,0,none⟩)/\f 37=.int .i64 (n:Int)/\f 38=.int .i64 (k:Int)/\f 10=.int .i64 (k:Int)/\f 11=.slice (some ⟨gE,0+O k*(n+1)*2,none⟩) (n+1) (n+1)/\Ext w w'/\fl w' gO gE O n (n+1) false (Nb N (k+1)) (λa b=>if a≠k/\k<b then Em k A' l a b else A' a b)/\Bx w' L (Nb N k) false l/\bh w' V 3 #[.int .i64 (n:Int)]) ?_ ?_
  ·refine gg ?_;refine aU (λm f w'=>∃i,m=n-i/\i<=n/\f 6=.pointer (some ⟨V,0,none⟩)/\f 8=.slice (some ⟨gO,0,none⟩) n n/\f 9=.pointer (some ⟨L,0,none⟩)/\f 37=.int .i64 (n:Int)/\f 38=.int .i64 (k:Int)/\f 10=.int .i64 (k:Int)/\f 11=.slice (some ⟨gE,0+O k*(n+1)*2,none⟩) (n+1) (n+1)/\f 49=.slice (some ⟨gO,0,none⟩) n n/\f 50=.int .i64 (n:Int)/\f 51=.int .i64 ((i:Nat):Int)/\Ext w w'/\fl w' gO gE O n (n+1) false (Nb N (k+1)) (λa b=>if a<i/\a≠k/\k<b then Em k A' l a b else A' a b)/\Bx w' L (Nb N k) false l/\bh w' V 3 #[.int .i64 (n:Int)])
    n ⟨0,F,aE,F,F,F,F,F,F,F,F,F,F,a0,a6.congr bW (λa b _ _=>by rw[aa aq]),ad,ab⟩ ?_
   clear a6 ad ab a0;rintro m f ay ⟨i,rfl,hi,C,B,u,E,D,J,I,a5,a4,a3,H,o,G,T⟩;rw[ui C,ui B,ui u,ui E,ui D,ui J,ui I,ui a5,ui a4,ui a3];clear C B u E D J I a5 a4 a3;by_cases R:i<n;rotate_left
   ·refine gg ?_;exact⟨F,F,F,F,F,F,F,H,o.congr aD (λa b ha Y=>by
     by_cases h:a≠k/\k<b
     ·rw[ae h,ae ⟨aq,h⟩]
     ·rw[aa h,aa λq=>h q.2]),G,T⟩
   have k1:=o.at R;refine gg ?_;clear k1;by_cases X:i=k
   ·refine gg ?_;refine aP ?_;refine gg ?_;refine⟨_,?_,i+1,F,aq,F,F,F,F,F,F,F,F,F,F,H,o.congr aD λa b ha Y=>?_,G,T⟩
    ·omega
    ·by_cases h:a<i/\a≠k/\k<b
     ·rw[ae h,ae aq]
     ·rw[aa h,aa aq]
   refine gg ?_;refine aP ?_;refine gg ?_;refine aU (λm f w'=>∃j,m=n+1-j/\k<j/\j<=n+1/\f 6=.pointer (some ⟨V,0,none⟩)/\f 8=.slice (some ⟨gO,0,none⟩) n n/\f 9=.pointer (some ⟨L,0,none⟩)/\f 37=.int .i64 (n:Int)/\f 38=.int .i64 (k:Int)/\f 10=.int .i64 (k:Int)/\f 11=.slice (some ⟨gE,0+O k*(n+1)*2,none⟩) (n+1) (n+1)/\f 49=.slice (some ⟨gO,0,none⟩) n n/\f 50=.int .i64 (n:Int)/\f 51=.int .i64 (i:Int)/\f 12=.int .i64 (i:Int)/\f 13=.slice (some ⟨gE,0+O i*(n+1)*2,none⟩) (n+1) (n+1)/\f 14=.int .i64 ((j:Nat):Int)/\Ext w w'/\fl w' gO gE O n (n+1) false (Nb N (k+1)) (λa b=>if(a<i\/a=i/\b<j)/\a≠k/\k<b then Em k A' l a b else A' a b)/\Bx w' L (Nb N k) false l/\bh w' V 3 #[.int .i64 (n:Int)])
    (n+1-(k+1)) ⟨k+1,F,aq,aq,F,F,F,F,F,F,F,F,F,F,F,F,F,H,o.congr aD λa b _ _=>?_,G,T⟩ ?_
   ·by_cases h:a<i/\a≠k/\k<b
    ·rw[ae h,ae aq]
    ·rw[aa h,aa aq]
   clear H o G T;rintro m f ax ⟨j,rfl,X,hj,C,B,u,E,D,J,I,a5,a4,a3,a2,Z,X,H,o,G,T⟩;rw[ui C,ui B,ui u,ui E,ui D,ui J,ui I,ui a5,ui a4,ui a3,ui a2,ui Z,ui X];clear C B u E D J I a5 a4 a3 a2 Z X;have f3:=ir T;refine aP ?_;by_cases X:j<=n;rotate_left
   ·refine gg ?_;refine⟨_,?_,i+1,F,aq,F,F,F,F,F,F,F,F,F,F,H,o.congr aD λa b ha Y=>?_,G,T⟩
    ·omega
    ·by_cases h:a<i+1/\a≠k/\k<b
     ·rw[ae h,ae aq]
     ·rw[aa h,aa aq]
   refine gg ?_;clear f3;refine c8 [(0,3),(1,3),(2,3),(3,3),(4,3),(5,0),(6,3),(7,3),(8,3),(9,0),(10,3),(11,3),(12,3),(13,0),(14,3),(15,3),(16,3),(17,0),(18,0),(19,1),(20,3),(21,2)] mixed aw λbu W _=>?_;have X:=o.Y W;obtain⟨x1,y1,p1,bx,ct⟩:=X.entry (i:=k) (j:=k) Q aq;obtain⟨Z,Z,Z,Z,fg⟩:=X.entry (i:=i) (j:=k) R aq;obtain⟨Z,Z,Z,Z,a2⟩:=X.entry (i:=k) (j:=j) Q aq;obtain⟨Z,Z,Z,Z,Z⟩:=X.entry (i:=i) (j:=j) R aq;rw[aa aq]at ct fg a2 Z;obtain⟨x5,y5,b5,b0⟩:=G.Y W;obtain⟨p5,ca⟩:=a9 b5;refine gg ?_;refine aM (u4 _ _ _ _ _ _ _ _ _ _ _ _ _ _ _ (Nb N (k+1)) bu ct.1 fg.1 a2.1 Z.1 (b0.1.mono bW) aq au.ne) ?_;rintro _ bt ⟨Z,a,b,rfl,hc⟩;refine⟨Z,?_⟩;have a2:Bd (Nb N (k+1)) (Em k A' l i j):=by
    have e:Nb N (k+1)=Nb N k+Nb N k+1:=by simp only[Nb];omega
    rw[e];exact(((an k k Q aq).mul (an i j R aq)).sub ((an i k R aq).mul (an k j Q aq))).ediv
   have hc:CV bt a b (Em k A' l i j):=hc;refine gg ?_;refine rM (.inl F) F rfl (X.Y Z) R aq (hc.ev false a2) ?_;intro X a4 a2 a3 X;have X:=W.trans Z;refine gg ?_;refine⟨_,?_,j+1,F,aq,aq,F,F,F,F,F,F,F,F,F,F,F,F,F,a2.aK (H.trans X) λb Y=>aq,a4.congr aD λZ b' a4 a4=>?_,(G.Y X).kp a3 a2 aq,(T.Y X).ch a2 aq⟩
   ·omega
   ·simp only[dM];by_cases e:Z=i/\b'=j
    ·rw[ae e,ae aq,e.1,e.2]
    ·rw[aa e];by_cases h:(Z<i\/Z=i/\b'<j)/\Z≠k/\k<b'
     ·rw[ae h,ae aq]
     ·rw[aa h,aa aq]
  rintro f ay ⟨C,B,u,E,D,J,I,H,o,G,T⟩;rw[ui C,ui B,ui u,ui E,ui D,ui J,ui I];clear C B u E D J I;obtain⟨x1,y1,p1,bx,ct⟩:=o.entry (i:=k) (j:=k) Q aq;rw[aa aq]at ct;refine gg ?_;refine aL (.inl F) F rfl G ct ?_;intro ax I D E J;refine gg ?_;refine⟨_,?_,k+1,_,P',A' k k,s',O,F,aq,F,F,F,F,F,D.aK H λb Y=>aq,o.kp E D aq aq,I,au.step Q cb λa b ha E I=>?_,bM,T.ch D aq⟩
  ·omega
  ·by_cases e:a=k
   ·rw[ae e,aa aq]
   ·rw[aa e,ae ⟨e,E⟩]
 clear aj o G U f3;rintro f w8 ⟨A,P,l,s,ps,C,B,u,H,o,G,hJ,hP,a7⟩;rw[ui C,ui B,ui u];clear C B u;have f3:=ir a7;refine gg ?_;refine cF pr (.inl F) F rfl aD aq aq ?_;intro w9 a a0 D;have hX:=zy a;obtain⟨gX,E⟩ : ∃g,g=w8.heap.size:=⟨_,F⟩;rw[<-E]at hX⊢;clear a f3;have ck:=kM hN bA;have bj:=hJ.ne;refine gg ?_;refine aX (λf w'=>f 15=.slice (some ⟨gX,0,none⟩) n n/\Ext w w'/\mI w' gX n (λq=>ic (A q n) l) λq=>fL (A q n) l) ?_ ?_
 ·refine gg ?_;refine aU (λm f w'=>∃i,m=n-i/\i<=n/\f 6=.pointer (some ⟨V,0,none⟩)/\f 8=.slice (some ⟨gO,0,none⟩) n n/\f 9=.pointer (some ⟨L,0,none⟩)/\f 15=.slice (some ⟨gX,0,none⟩) n n/\f 95=.slice (some ⟨gO,0,none⟩) n n/\f 96=.int .i64 (n:Int)/\f 97=.int .i64 ((i:Nat):Int)/\Ext w8 w'/\mI w' gX n (λq=>if q<i then ic (A q n) l else 0) λq=>if q<i then fL (A q n) l else 0)
   n ⟨0,F,aE,F,F,F,F,F,F,F,a0,hX.congr (λq _=>⟨by rw[aa aq],by rw[aa aq]⟩)⟩ ?_
  clear a0 hX D;rintro m f ay ⟨i,rfl,hi,C,B,u,m,D,A,a,g,hX⟩;rw[ui C,ui B,ui u,ui m,ui D,ui A,ui a];clear C B u m D A a;by_cases R:i<n;rotate_left
  ·refine gg ?_;exact⟨F,H.trans g,hX.congr (λq A=>⟨by rw[ae aq],by rw[ae aq]⟩)⟩
  have k1:=(o.Y g).at R;refine gg ?_;clear k1;refine c8 [(0,3),(1,3),(2,3),(3,0),(4,3),(5,0),(6,0),(7,1),(8,3),(9,3),(10,3),(11,3),(12,2)] mixed aw λax u _=>?_;have a:=g.trans u;obtain⟨x1,y1,p1,bx,ct⟩:=(o.Y a).entry (i:=i) (j:=n) R aq;obtain⟨x5,y5,b5,b0⟩:=G.Y a;obtain⟨p5,ca⟩:=a9 b5;have f3:=ir (a7.Y a);refine gg ?_;refine aM (zx _ _ _ _ _ _ (Nb N n) ax ct.1 b0.1 aq bj) ?_;rintro _ bu ⟨_,rfl,W,x,y,o,o,rfl,al,o⟩;refine⟨W,?_⟩;refine gg ?_;refine dP pr F rfl aq ?_;refine gg ?_;refine vI (.inl F) F rfl (hX.Y (u.trans W)) R al o ?_;intro bt o u B B;refine gg ?_;refine⟨_,?_,i+1,F,aq,F,F,F,F,F,F,F,u.aK (a.trans W) λb Y=>aq,o.congr λq A=>?_⟩
  ·omega
  ·simp only[fR];by_cases e:q=i
   ·rw[ae e,ae e,ae aq,ae aq,e];exact⟨F,F⟩
   ·rw[aa e,aa e];by_cases h:q<i
    ·rw[ae h,ae h,ae aq,ae aq];exact⟨F,F⟩
    ·rw[aa h,aa h,aa aq,aa aq];exact⟨F,F⟩
 rintro f ay ⟨m,g,h⟩;rw[ui m];have a:l=s*Go.bc.aQ n A0:=by rw[hJ.eq,hP.aQ]
 have b:Go.bc.aQ n A0≠0:=λe=>bj (by rw[a,e,Int.mul_zero]);refine gg ?_;refine fK (v:=.slice _ _ _) (v':=.int _ _) F rfl rfl ⟨g,.inr (.inr ⟨⟨F,F⟩,b,gX,(by have:=H.size;omega),F,h.congr (λq A=>?_)⟩)⟩;rw[hJ.lt q n A A aD aD,hP.cr,a];exact Ed hP.1 b
end
section
open Go Go.cU Go.cV Go.Proofs
open Go.bc (sw jE ep qZ kO Rk)
theorem Ba(i j d r c N:Nat)(b:Value)(M:Nat->Nat->Int)(w:World)(l:bh w d 25 #[b])(k:cO (EI N) w b r (λ_=>c) M)(h:i<r)(g:j<c):
 aT Tryz.prog 59 #[.int .i64 (i:Int),.int .i64 (j:Int),.pointer (some ⟨d,0,none⟩)] w (Jd w N false (M i j)):=by
 refine bF (n:=13) Tryz.func59 F rfl aw aA ?_;refine gg ?_;refine aR (.inl F) a_ ?_;intro d b a m;have f:Bx d w.heap.size 1 false 0:=Bx.zero false b;have b:=ir (l.Y a);obtain⟨b,b,b,rfl,b,e⟩:=(k.Y a).at h;obtain⟨b,b,b,b,rfl,b,b,b⟩:=e.at g;refine gg ?_;refine aL (N':=N) (.inl F) F rfl f ⟨b,λe=>by cases e⟩ ?_;intro b b d e e;refine gg ?_;obtain⟨x,y,f,e⟩:=b;exact dO F aN F f ⟨d.aK a λb a=>aq,x,y,F,e⟩
def JT(w:World)(ok:Bool)(r c:Nat)(M:Nat->Nat->Int)(v:Value)(w':World):Prop:=
 Ext w w'/\((ok=false/\v=.tuple #[.int .i64 ((0:Nat):Int),.bool false])\/(ok=true/\∃k,v=.tuple #[.int .i64 ((k:Nat):Int),.bool true]/\Rk r c M k))
def HG(k j:Nat)(W:Nat->Nat->Int)(l:Int)(a b:Nat):Int:=(W k j*W a b-W a j*W k b)/l
theorem DX(va:Value)(r N:Nat)(T:Nat->Nat)(M:Nat->Nat->Int)(w:World)(ha:cO (EI N) w va r T M)(bl:1<=N)(hN:N<1048576):
 aT Tryz.prog 34 #[va] w (JT w (l_ r T) r (T 0) M):=by
 obtain⟨g,g,g,_⟩:=id ha;refine bF (n:=112) Tryz.func34 F rfl aw aA ?_;refine gg ?_;refine aZ (v:=va) (.inl F) F ?_;intro w1 a6 a3 a7;have aj:bh w1 w.heap.size 25 #[va]:=by rw[g]at a6⊢;exact a6
 have f1:=ir aj;obtain⟨gA,a7⟩ : ∃g,g=w.heap.size:=⟨_,F⟩;rw[<-a7]at aj f1⊢;clear a6;refine gg ?_;refine Fj ?_;refine gg ?_;refine aJ (lP (EI N) _ r T M w1 (ha.Y a3)) ?_;rintro _ w2 ⟨rfl,rfl⟩;by_cases U:l_ r T=true;rotate_left
 ·rw[fQ U];have U:l_ r T=false:=by simpa using U
  refine gg ?_;refine aP ?_;refine gg ?_;exact fK (v:=.int _ _) (v':=.bool _) F rfl rfl ⟨a3,.inl ⟨U,F⟩⟩
 rw[iJ U];obtain⟨⟨bx,bu,aH,a7⟩,a6⟩:=cX.1 U;obtain⟨c,hc⟩ : ∃c,c=T 0:=⟨_,F⟩;rw[<-hc]at aH a7⊢;have hM:cO (EI N) w va r (λ_=>c) M:=(ha.sq λi hi=>by rw[a6 i hi,hc]);refine gg ?_;refine aP ?_;refine gg ?_;refine kl ?_;refine gg ?_;refine aJ (t_ r c _ N false _ M w1 aq aq aq λi j hi hj C T=>Ba i j gA r c N va M C (aj.Y T) (hM.Y (a3.trans T)) hi hj) ?_;rintro _ w5 ⟨bt,L,S,rfl,bX,bY,d⟩;clear f1;have bB:=a3.size;have o:Ext w w5:=a3.trans bt;refine gg ?_;refine aJ (fb 1 w5 ar ar) ?_;rintro _ T ⟨u,a1,b1,rfl,ay⟩;replace d:=d.Y u;replace o:=o.trans u;clear u;have od:Bd N 1:=Bd.mono (N:=1) (by unfold Bd;decide) bl;have c3:=d.outer.lt;have c4:S<T.heap.size:=by obtain⟨_,h4,_⟩:=d.flat;exact h4.lt
 have bA:=o.size;refine gg ?_;refine aR (.inl F) a_ ?_;intro bl aH a7 bx;have a6:Bx bl T.heap.size 1 true 0:=Bx.zero true aH;obtain⟨O,bl⟩ : ∃g,g=T.heap.size:=⟨_,F⟩;rw[<-bl]at a6⊢;refine gg ?_;refine aL (.inl F) F rfl a6 ((ay.Y a7).ev true od) ?_;intro w7 s g bC bu;have an:Ext T w7:=g.aK a7 λb hb=>aq;have b0:T.heap.size<=O:=aq;clear a6 aH a7 bx bu g bC bl;replace d:=d.Y an;replace o:=o.trans an;have g:O≠L/\O≠S:=aq;have g:w.heap.size<=L/\w.heap.size<=S/\w.heap.size<=O:=aq;have g:=d.ne;have s:Bx w7 O N false 1:=by
  obtain⟨x,y,T,g⟩:=s;exact⟨x,y,T,g.1,λe=>by cases e⟩
 clear ay od c3 c4 an bt a3 aj b0 ha bX bY bA bB;refine gg ?_;refine aP (yQ ?_);refine gg ?_;refine aX (λf C=>∃k,f 9=.int .i64 ((k:Nat):Int)/\Ext w C/\Rk r c M k) ?_ ?_
 ·refine gg ?_;refine aU (λm f C=>∃j k W l p cs Z,m=c-j/\j<=c/\f 4=.int .i64 (r:Int)/\f 5=.int .i64 (c:Int)/\f 7=.slice (some ⟨L,0,none⟩) r r/\f 8=.pointer (some ⟨O,0,none⟩)/\f 9=.int .i64 ((k:Nat):Int)/\f 29=.int .i64 (c:Int)/\f 30=.int .i64 ((j:Nat):Int)/\Ext w C/\fl C L S Z r c false (Nb N k) W/\Bx C O (Nb N k) false l/\Go.bc.RI r c j k M W l p cs)
   c ⟨0,0,M,1,id,id,λi=>i,rfl,aE,rfl,rfl,rfl,rfl,rfl,rfl,rfl,o,d,s,Go.bc.RI.start r c M⟩ ?_
  clear o d s;rintro m f w8 ⟨j,k,W0,l,p0,cs,ak,rfl,hj,I,H,G,E,B,A,z,o,d,s,hI⟩;rw[ui I,ui H,ui G,ui E,ui B,ui A,ui z];clear I H G E B A z;by_cases Q:j<c;rotate_left
  ·obtain rfl:j=c:=aq;refine gg ?_;exact⟨k,F,o,hI.done⟩
  have g:=hI.km;have T:=hI.kj;refine gg ?_;refine aU (λm f C=>∃i,m=r-i/\k<=i/\i<=r/\f 4=.int .i64 (r:Int)/\f 5=.int .i64 (c:Int)/\f 7=.slice (some ⟨L,0,none⟩) r r/\f 8=.pointer (some ⟨O,0,none⟩)/\f 9=.int .i64 (k:Int)/\f 29=.int .i64 (c:Int)/\f 30=.int .i64 (j:Int)/\f 10=.int .i64 (j:Int)/\f 11=.int .i64 ((i:Nat):Int)/\Ext w C/\fl C L S ak r c false (Nb N k) W0/\Bx C O (Nb N k) false l/\∀a,k<=a->a<i->W0 a j=0)
   (r-k) ⟨k,F,aD,g,F,F,F,F,F,F,F,F,F,o,d,s,λa h1 h2=>absurd h1 aq⟩ ?_
  clear o d s;rintro m f w9 ⟨i,rfl,bW,hi,I,H,G,E,B,A,z,D,g,o,d,s,a5⟩;rw[ui I,ui H,ui G,ui E,ui B,ui A,ui z,ui D,ui g];clear I H G E B A z D g;refine aP ?_;by_cases a4:i<r;rotate_left
  ·refine gg ?_;refine⟨_,?_,j+1,k,W0,l,p0,cs,ak,F,aq,F,F,F,F,F,F,F,o,d,s,hI.none Q λa h1 h2=>a5 a h1 aq⟩;omega
  have g:=kM hN (show k+1<=16 by omega);have bs:=iI N k;have o:Ext w w9:=o;have k1:=d.at a4;obtain⟨x,y,p1,ab,hv⟩:=d.entry a4 Q;refine gg ?_;refine aP ?_;refine gg ?_;refine aJ (mZ _ _ _ _ w9 hv.1 aq) ?_;rintro _ g ⟨u,rfl⟩;replace d:=d.Y u;replace s:=s.Y u;replace o:=o.trans u;clear u;clear k1 p1 ab;by_cases hz:W0 i j=0
  ·have hs:(W0 i j).sign=0:=by rw[hz];rfl
   refine gg ?_;refine⟨_,?_,i+1,F,aq,aq,F,F,F,F,F,F,F,F,F,o,d,s,λa h1 h2=>?_⟩
   ·omega
   ·by_cases e:a=i
    ·subst e;exact hz
    ·exact a5 a h1 aq
  have hs:¬(W0 i j).sign=0:=λe=>hz (Int.sign_eq_zero_iff_zero.1 e);have P:k<r:=aq;refine gg ?_;refine b7 [(0,3),(1,3),(2,3),(3,3),(4,3),(5,3),(6,3),(7,0),(8,3),(9,3),(10,3),(11,0),(12,3),(13,2),(14,3),(15,2)] mixed aw λg u _=>?_;replace d:=d.Y u;replace s:=s.Y u;replace o:=o.trans u;clear u;have k1:=d.at a4;have g:=d.at P;refine gg ?_;refine cH (aW F) (.inl F) F rfl d.outer (by rw[bk];omega) ?_;intro x ai av bK;rw[cC,show 0+k*1=k by omega]at ai;have bj:=cK d.outer (dJ λ_ _=>⟨_,_,_,rfl⟩).jn av;clear k1 g;refine gg ?_;refine cH (aW F) (.inl F) F rfl ai (by rw[bk];omega) ?_;intro w5 ax au bI;rw[cC,show 0+i*1=i by omega]at ax;have bg:=cK ai (dJ λa _=>by
   by_cases e:a=k
   ·subst e;exact⟨_,_,_,bG _ _ _⟩
   ·exact⟨_,_,_,bw _ _ e⟩).jn au
  have R:=bj.trans bg;have J:=av.trans au;replace d:=d.swap P a4 J R ax;replace s:=s.kp R J aq;replace o:=J.aK o λb hb=>aq;replace hI:=hI.swap bW a4;clear R J bj bg av au ai ax bK bI hv hs;obtain⟨W,al⟩ : ∃W,W=jE k i W0:=⟨_,F⟩;have bM:W k j≠0:=by
   rw[al,ep];unfold sw;rw[ae F];exact hz
  rw[<-al]at d hI;generalize (λt=>ak (sw k i t))=Z at d;generalize (λt=>p0 (sw k i t))=p at hI;have ad:∀a b,a<r->b<c->Bd (Nb N k) (W a b):=λa b ha hb=>d.bd ha hb;clear hz al a5;have k1:=d.at P;refine gg ?_;clear k1;refine aX (λf C=>f 4=.int .i64 (r:Int)/\f 5=.int .i64 (c:Int)/\f 7=.slice (some ⟨L,0,none⟩) r r/\f 8=.pointer (some ⟨O,0,none⟩)/\f 9=.int .i64 (k:Int)/\f 29=.int .i64 (c:Int)/\f 30=.int .i64 (j:Int)/\f 10=.int .i64 (j:Int)/\f 12=.slice (some ⟨S,0+Z k*c*2,none⟩) c c/\Ext w C/\fl C L S Z r c false (Nb N (k+1)) (λa b=>if k<a/\j<b then HG k j W l a b else W a b)/\Bx C O (Nb N k) false l) ?_ ?_
  ·refine gg ?_;refine Af (l:=k+1) fU F rfl aq ?_;obtain⟨vS,b5⟩ : ∃v,v=Value.slice (if r=k+1 then some ⟨L,0,none⟩else(some (⟨L,0,none⟩ : Addr)).map (·.add ((k+1)*1))) (r-(k+1)) (r-(k+1)):=⟨_,F⟩;refine gg ?_;rw[<-b5];refine aU (λm f C=>∃q,m=r-(k+1)-q/\q<=r-(k+1)/\f 4=.int .i64 (r:Int)/\f 5=.int .i64 (c:Int)/\f 7=.slice (some ⟨L,0,none⟩) r r/\f 8=.pointer (some ⟨O,0,none⟩)/\f 9=.int .i64 (k:Int)/\f 29=.int .i64 (c:Int)/\f 30=.int .i64 (j:Int)/\f 10=.int .i64 (j:Int)/\f 12=.slice (some ⟨S,0+Z k*c*2,none⟩) c c/\f 69=vS/\f 70=.int .i64 (((r-(k+1)):Nat):Int)/\f 71=.int .i64 ((q:Nat):Int)/\Ext w C/\fl C L S Z r c false (Nb N (k+1)) (λa b=>if k<a/\a<k+1+q/\j<b then HG k j W l a b else W a b)/\Bx C O (Nb N k) false l)
    (r-(k+1)) ⟨0,F,aE,F,F,F,F,F,F,F,F,F,F,F,F,o,d.congr bs (λa b _ _=>by rw[aa aq]),s⟩ ?_
   clear o d s;rintro m f b4 ⟨q,rfl,g,I,H,G,E,B,A,z,D,K,Y,X,V,o,d,s⟩;rw[ui I,ui H,ui G,ui E,ui B,ui A,ui z,ui D,ui K,ui Y,ui X,ui V];clear I H G E B A z D K Y X V;by_cases g:q<r-(k+1);rotate_left
   ·refine gg ?_;exact⟨F,F,F,F,F,F,F,F,F,o,d.congr aD (λa b ha hb=>by
     by_cases h:k<a/\j<b
     ·rw[ae h,ae aq]
     ·rw[aa h,aa aq]),s⟩
   have g:vS=.slice (some ⟨L,0+(k+1)*1,none⟩) (r-(k+1)) (r-(k+1)):=by
    rw[b5,aa aq];rfl
   have a2:k+1+q<r:=aq;have k1:=d.at a2;rw[show 0+(k+1+q)*1=0+(k+1)*1+q*1 by omega]at k1;rw[g];refine gg ?_;rw[<-g];clear k1;refine aU (λm f C=>∃b,m=c-b/\j<b/\b<=c/\f 4=.int .i64 (r:Int)/\f 5=.int .i64 (c:Int)/\f 7=.slice (some ⟨L,0,none⟩) r r/\f 8=.pointer (some ⟨O,0,none⟩)/\f 9=.int .i64 (k:Int)/\f 29=.int .i64 (c:Int)/\f 30=.int .i64 (j:Int)/\f 10=.int .i64 (j:Int)/\f 12=.slice (some ⟨S,0+Z k*c*2,none⟩) c c/\f 69=vS/\f 70=.int .i64 (((r-(k+1)):Nat):Int)/\f 71=.int .i64 (q:Int)/\f 14=.slice (some ⟨S,0+Z (k+1+q)*c*2,none⟩) c c/\f 15=.int .i64 ((b:Nat):Int)/\Ext w C/\fl C L S Z r c false (Nb N (k+1)) (λa b'=>if k<a/\(a<k+1+q\/a=k+1+q/\b'<b)/\j<b' then HG k j W l a b' else W a b')/\Bx C O (Nb N k) false l)
    (c-(j+1)) ⟨j+1,F,aq,aq,F,F,F,F,F,F,F,F,F,F,F,F,F,F,o,d.congr aD λa b _ _=>?_,s⟩ ?_
   ·by_cases h:k<a/\a<k+1+q/\j<b
    ·rw[ae h,ae aq]
    ·rw[aa h,aa aq]
   clear o d s;rintro m f bD ⟨b,rfl,g,hb,I,H,G,E,B,A,z,D,K,Y,X,V,m,g,o,d,s⟩;rw[ui I,ui H,ui G,ui E,ui B,ui A,ui z,ui D,ui K,ui Y,ui X,ui V,ui m,ui g];clear I H G E B A z D K Y X V m g;refine aP ?_;by_cases g:b<c;rotate_left
   ·refine gg ?_;refine⟨_,?_,q+1,F,aq,F,F,F,F,F,F,F,F,F,F,F,F,o,d.congr aD λa b' ha c=>?_,s⟩
    ·omega
    ·by_cases h:k<a/\a<k+1+(q+1)/\j<b'
     ·rw[ae h,ae aq]
     ·rw[aa h,aa aq]
   have o:Ext w bD:=o;refine gg ?_;refine c8 [(0,3),(1,3),(2,3),(3,3),(4,3),(5,0),(6,3),(7,3),(8,3),(9,0),(10,3),(11,3),(12,3),(13,0),(14,3),(15,3),(16,3),(17,0),(18,0),(19,1),(20,3),(21,2)] mixed aw λL u _=>?_;replace d:=d.Y u;replace s:=s.Y u;replace o:=o.trans u;clear u;obtain⟨X,V,p1,ab,ct⟩:=d.entry (i:=k) (j:=j) P Q;obtain⟨c,c,p2,T,fg⟩:=d.entry (i:=k+1+q) (j:=j) a2 Q;obtain⟨c,c,p3,S,m⟩:=d.entry (i:=k) (j:=b) P g;obtain⟨c,c,Y,O,c⟩:=d.entry (i:=k+1+q) (j:=b) a2 g;rw[aa aq]at ct fg m c;obtain⟨t,t,x,t⟩:=id s;obtain⟨C,y⟩:=a9 x;refine gg ?_;refine aM (u4 _ _ _ _ _ _ _ _ _ _ _ _ _ _ _ (Nb N (k+1)) L ct.1 fg.1 m.1 c.1 (t.1.mono bs) aq hI.ne) ?_;rintro _ m ⟨u,x,a1,rfl,c⟩;refine⟨u,?_⟩;replace d:=d.Y u;replace s:=s.Y u;replace o:=o.trans u;clear u;have t:Bd (Nb N (k+1)) (HG k j W l (k+1+q) b):=by
    have e:Nb N (k+1)=Nb N k+Nb N k+1:=by simp only[Nb];omega
    rw[e];exact(((ad k j P Q).mul (ad _ b a2 g)).sub ((ad _ j a2 Q).mul (ad k b P g))).ediv
   have c:CV m x a1 (HG k j W l (k+1+q) b):=c;clear p1 ab p2 T p3 S Y O C y;refine gg ?_;refine rM (.inl F) F rfl d a2 g (c.ev false t) ?_;intro c d J R g;replace s:=s.kp R J ah;replace o:=J.aK o λb hb=>aq;refine gg ?_;refine⟨_,?_,b+1,F,aq,aq,F,F,F,F,F,F,F,F,F,F,F,F,F,F,o,d.congr aD λc b' _ _=>?_,s⟩
   ·omega
   ·simp only[dM];by_cases e:c=k+1+q/\b'=b
    ·rw[ae e,ae aq,e.1,e.2]
    ·rw[aa e];by_cases h:k<c/\(c<k+1+q\/c=k+1+q/\b'<b)/\j<b'
     ·rw[ae h,ae aq]
     ·rw[aa h,aa aq]
  clear o d s;rintro f b4 ⟨I,H,G,E,B,A,z,D,K,o,d,s⟩;rw[ui I,ui H,ui G,ui E,ui B,ui A,ui z,ui D,ui K];clear I H G E B A z D K;have o:Ext w b4:=o;obtain⟨X,V,p1,ab,ct⟩:=d.entry (i:=k) (j:=j) P Q;rw[aa aq]at ct;refine gg ?_;refine aL ag F rfl s (ct) ?_;intro c s J R g;replace d:=d.kp R J aq aq;replace o:=J.aK o λb hb=>aq;clear J R g;refine gg ?_;refine⟨_,?_,j+1,k+1,_,W k j,p,_,Z,F,aq,F,F,F,F,F,F,F,o,d,s,hI.step Q P bM λa b h1 h2 a h4=>?_⟩
  ·omega
  ·rw[ae ⟨h1,a⟩];rfl
 clear o d s;rintro f w8 ⟨k,B,o,a⟩;rw[ui B];refine gg ?_;exact fK (v:=.int _ _) (v':=.bool _) F rfl rfl ⟨o,.inr ⟨U,k,F,a⟩⟩
end
end Go.Proofs.Qq

namespace Go.Proofs.Qq
section
open Go Go.cU Go.cV Go.Proofs
open Go.bc (aQ)
theorem E9(v:Value)(r N:Nat)(M:Nat->Nat->Int)(w:World)(h:cO (EI N) w v r (λ_=>r) M)(d:1<=N)(e:N<1048576)(h1:1<=r)(g:r<=16):
 aT Tryz.prog 85 #[v] w λv c=>Ext w c/\∃a b,v=.tuple #[.slice (some ⟨a,0,none⟩) r r,.bool true]/\w.heap.size<=a/\(∀i,i<r->w.heap.size<=b i)/\jF c a b r r (kD r M):=
 (ta v r N _ M w h d e).mono λ_ _ h=>by
  obtain⟨u,rfl,f,a,b,rfl,d,c,e⟩:=h.get (ru h1 g);exact⟨f,a,b,F,d,c,e⟩
end
end Go.Proofs.Qq

