import Derived.Test.YtmfndnlifgphjaaGreatDoorQzP
import Derived.ScopeJumps
set_option maxHeartbeats 64000000
open Go.Proofs.YtmfndnlifgphjaaGreatDoor
namespace Go.Proofs.Qq
section
open Go Go.cW Go.c7 Go.Proofs
open Go.Sm (cR)
theorem jW{P:Program}{n:Nat}{K:Fr->World->Prop}{f:Fr}{w:World}{d ty:Nat}{c:String}{i:Array Edge}{k:Option (Nat×Bool)}{M:Nat->Prop}{g:FuncId}{l:List Operand}{e:Array TypeId}{b:Value->World->Prop}(j:aT P g (l.map (ev n f)).toArray w b)
 (h:∀v a,b v a->Ch M w a/\K (cg f d v) a):R1 P n (Ch M) 1 ⟨some d,.call { callee:=.value (.func g),args:=l.toArray,argTypes:=e },ty,c,i,k⟩ K f w:=
 se (.inr F) aA j λv a b=>⟨λ_=>(h v a b).1,(h v a b).2⟩
def iP(U D:Nat->Nat->Int)(t m:Nat):Nat->Nat->Int:=λi j=>if t<i/\i<m then U i j-D i t/D t t*U t j else U i j
theorem Jw(U D:Nat->Nat->Int){t i:Nat}(j:Nat):iP U D t i i j=U i j:=aa (by omega)
theorem Md(U D:Nat->Nat->Int){t i:Nat}(j:Nat):iP U D t i t j=U t j:=aa (by omega)
theorem Jx(D:Nat->Nat->Int){t i:Nat}(j:Nat):cR D t i i j=D i j:=aa (by omega)
theorem lN(U D:Nat->Nat->Int){t i:Nat}(b:t<i){z:Int}(c:z=-(D i t/D t t)):(λa b=>if a=i then iP U D t i i b+z*iP U D t i t b else iP U D t i a b)=iP U D t (i+1):=by
 funext a b;rw[Jw,Md,c];unfold iP;by_cases e:a=i
 ·subst e;rw[ab F,ab aq,Int.neg_mul,<-Int.sub_eq_add_neg]
 ·rw[aa e];by_cases h:t<a/\a<i
  ·rw[ab h,ab aq]
  ·rw[aa h,aa aq]
theorem vf(U D:Nat->Nat->Int){t i:Nat}(a:t<i)(b:D i t/D t t=0):iP U D t (i+1)=iP U D t i:=by
 rw[<-lN U D a (z:=0) aq];funext a b;by_cases e:a=i
 ·subst e;rw[ab F,Int.zero_mul,Int.add_zero]
 ·rw[aa e]
theorem lO(D:Nat->Nat->Int)(t m:Nat):cR D t m=iP D D t m:=F
theorem zn{U D:Nat->Nat->Int}{t i n a b:Nat}(d:i<=n){N:Nat}(h1:Bd N (U a b))(c:Bd N (iP U D t n a b)):Bd N (iP U D t i a b):=by
 unfold iP at*;by_cases h:t<a/\a<i
 ·rw[ab h];rwa[ab aq]at c
 ·rw[aa h];exact h1
def BH(t k:Nat)(r:Nat->Int)(b:Bool):Prop:=(b=true/\∃i,t<i/\i<k/\r i≠0)\/(b=false/\∀i,t<i->i<k->r i=0)
theorem BH.start(t:Nat)(r:Nat->Int):BH t (t+1) r false:=.inr ⟨F,λi a a=>by omega⟩
theorem BH.yes{t k:Nat}{r:Nat->Int}(h:BH t k r true):BH t (k+1) r true:=by
 rcases h with⟨_,i,h1,h2,h3⟩|⟨h,_⟩
 ·exact .inl ⟨F,i,h1,aq,h3⟩
 ·cases h
theorem BH.no{t k:Nat}{r:Nat->Int}(h:BH t k r false)(b:t<k):BH t (k+1) r (decide (¬(r k).sign=0)):=by
 rcases h with⟨h,_⟩|⟨_,h⟩
 ·cases h
 ·by_cases e:r k=0
  ·have a:(r k).sign=0:=by rw[e];rfl
   refine .inr ⟨by simp[a],λi c d=>?_⟩;by_cases d:i=k
   ·rw[d];exact e
   ·exact h i c aq
  ·have a:¬(r k).sign=0:=λx=>e (Int.sign_eq_zero_iff_zero.1 x);exact .inl ⟨by simp[a],k,b,aq,e⟩
theorem sF(B H gD gU gV n ND NU NV t:Nat)(D U V:Nat->Nat->Int)(I G vs cd cu cv:Nat->Nat)(w:World)(h:El B w H gD gU gV n ND NU NV D U V I G vs cd cu cv)(j:n<=16)(A:t<n)(h0:D t t≠0)(aH:ND+ND<17592186044416)(ay:ND+NU<17592186044416)
 (av:∀i j,i<n->j<n->Bd ND (cR D t n i j)) (au:∀i j,i<n->j<n->Bd NU (iP U D t n i j)):
 aT Tryz.prog 158 #[.pointer (some ⟨H,0,none⟩),.int .i64 (t:Int)] w λv o=>
  ∃u,v=.bool u/\BH t n (λi=>D i t%D t t) u/\Ch (λb=>B<=b) w o/\Kp w o/\El B o H gD gU gV n ND NU NV (cR D t n) (iP U D t n) V I G vs cd cu cv:=by
 refine bo (n:=74) Tryz.func158 F rfl az aA ?_;obtain⟨j,j,j,j,o5⟩:=h.own;have bD:∀a b,a<n->b<n->Bd ND (D a b):=λa b T O=>by
  obtain⟨x,y,_,_,j⟩:=(h.d.row a T).at O;exact j.1.bd
 have bU:∀a b,a<n->b<n->Bd NU (U a b):=λa b T O=>by
  obtain⟨x,y,_,_,j⟩:=(h.u.row a T).at O;exact j.1.bd
 refine ge ?_;refine aY (λf o=>∃u,f 5=.bool (u)/\BH t n (λi=>D i t%D t t) u/\Ch (λb=>B<=b) w o/\Kp w o/\El B o H gD gU gV n ND NU NV (cR D t n) (iP U D t n) V I G vs cd cu cv) ?_ ?_
 ·refine ge ?_;refine aU (λm f o=>∃i u,m=n-i/\t<i/\i<=n/\f 0=.pointer (some ⟨H,0,none⟩)/\f 1=.int .i64 (t:Int)/\f 5=.bool (u)/\f 6=.int .i64 ((i:Nat):Int)/\BH t i (λi=>D i t%D t t) u/\Ch (λb=>B<=b) w o/\Kp w o/\El B o H gD gU gV n ND NU NV (cR D t i) (iP U D t i) V I G vs cd cu cv)
   (n-(t+1)) ⟨t+1,false,F,aq,aq,F,F,F,F,BH.start _ _,(Ext.refl w).mono (λ_ _ h=>h.elim),bJ (Ext.refl w),⟨h.box,h.d.congr (λa b _ _=>⟨aD,by unfold cR;rw[aa aq]⟩),h.u.congr (λa b _ _=>⟨aD,by unfold iP;rw[aa aq]⟩),h.v,h.oo,h.rr,h.own⟩⟩ ?_
  clear h;rintro m f L ⟨i,u,rfl,J,j,S,R,C,Q,hL,M,s,r⟩;rw[ui S,ui R,ui C,ui Q];clear S R C Q;refine aN ?_;have f0:=r.c0;by_cases l:i<n;rotate_left
  ·obtain rfl:i=n:=aq;refine ge ?_;exact⟨u,F,hL,M,s,r⟩
  refine ge ?_;have ai:=r.lt;have g:Ext L L:=Ext.refl L;have d:Ext L L:=Ext.refl _;refine ge ?_;refine ib [(0,3),(1,3),(2,3),(3,0),(4,3),(5,3),(6,0),(7,3),(8,3),(9,0),(10,3),(11,3),(12,3),(13,0),(14,3),(15,3),(16,0),(17,3),(18,3),(19,0)] [(20,[(21,3),(22,3),(23,3),(24,3)],[]),(25,[],[]),(26,[],[])] [(27,2),(28,2),(29,3)] mixed az λa8 c _=>?_;replace d:=d.trans c;replace g:=g.trans c;clear c;replace f0:=aP g f0;have ar:=(r.d.Y g).at l;have uh:=(r.d.Y g).at A;obtain⟨j,j,an,ak,k⟩:=((r.d.Y g).row i l).at A;obtain⟨j,j,al,aj,cQ⟩:=((r.d.Y g).row t A).at A;rw[Jx]at k;rw[Go.Sm.iK]at cQ;replace k:=k.1;replace cQ:=cQ.1;refine ge ?_;refine ge ?_;refine dN [(20,[(21,3),(22,3),(23,3),(24,3)])] [fA 25 7 44 (.agg #[.bool false,.slice none 0 0]),fA 26 8 44 (.agg #[.bool false,.slice none 0 0])] [42,21,43,44,45,7,8] az (λa T f' o _ _=>by
   rcases List.mem_cons.1 T with rfl|T
   ·exact cm a_ F f' o
   ·skip;rcases List.mem_singleton.1 T with rfl;exact cm a_ F f' o) ?_
  have X:=d.size;have ae:=g.size;refine ge ?_;refine cS λa c=>?_;replace d:=d.trans c;replace k:=k.Y c;replace cQ:=cQ.Y c;replace g:=g.trans c;clear c;refine ge ?_;refine aM (eT _ _ _ _ _ _ ND a k cQ aq h0) ?_;rintro _ a ⟨c,c0,c1,c2,c3,rfl,E,z⟩;refine⟨c,?_⟩;replace d:=d.trans c;replace k:=k.Y c;replace cQ:=cQ.Y c;replace g:=g.trans c;clear c;refine ge ?_;refine eW λa c N a6 a7=>?_;replace d:=d.trans c;replace k:=k.Y c;replace cQ:=cQ.Y c;replace E:=E.Y c;replace z:=z.Y c;replace g:=g.trans c;clear c;obtain⟨K,Z⟩:=a6 _ aG;have K:a8.heap.size<=N 7:=K;have q:Bx a (N 7) 1 true 0:=Bx.zero true Z;obtain⟨e,Y⟩:=a6 _ (List.mem_cons_of_mem _ aG);have e:a8.heap.size<=N 8:=e;have p:Bx a (N 8) 1 true 0:=Bx.zero true Y;have a:N 8≠N 7:=a7 _ _ (List.mem_cons_of_mem _ aG) aG (show(8:Nat)≠7 by decide);show Ro _ _ _ _ _ _ (cg (cg _ 8 (.pointer (some ⟨N 8,0,none⟩))) 7 (.pointer (some ⟨N 7,0,none⟩))) _;generalize N 7=P at*;generalize N 8=W at*;have a:L.heap.size<=P:=aq;have a:L.heap.size<=P:=aq;have a:L.heap.size<=W:=aq;have a:L.heap.size<=W:=aq;clear X;clear a6 a7 ae Z K Y e;have N:Bd ND (D i t/D t t):=(bD i t l A).ediv;have m:Bd ND (D i t%D t t):=(bD t t A A).emod h0;refine ge ?_;refine aL ag F rfl q (E.ev true N) ?_;intro a q j a v;replace d:=j.aK d λb O=>aq;replace k:=k.kp a;replace cQ:=cQ.kp a;replace E:=E.kp a;replace z:=z.kp a;replace p:=p.kp a j ah;replace g:=j.aK g λb O=>aq;clear j a v;refine ge ?_;refine aL ag F rfl p (z.ev true m) ?_;intro K p j a v;replace d:=j.aK d λb O=>aq;replace k:=k.kp a;replace cQ:=cQ.kp a;replace E:=E.kp a;replace z:=z.kp a;replace q:=q.kp a j ah;replace g:=j.aK g λb O=>aq;clear j a v;clear f0 ar uh an ak al aj k cQ E z;refine ge ?_;have k:P≠H/\P≠I i/\P≠G i/\W≠I i/\W≠G i/\P≠W:=by
   have:=(ai.2.2.2.2 i l);omega
  refine aY (λf o=>f 0=.pointer (some ⟨H,0,none⟩)/\f 1=.int .i64 (t:Int)/\f 5=.bool (u)/\f 6=.int .i64 (i:Int)/\f 8=.pointer (some ⟨W,0,none⟩)/\Ch (λb=>B<=b) w o/\Kp w o/\El B o H gD gU gV n ND NU NV (cR D t (i+1)) (iP U D t (i+1)) V I G vs cd cu cv/\Bx o W ND true (D i t%D t t)) ?_ ?_
  ·obtain⟨E,z,x,k⟩:=id q;obtain⟨o,m⟩:=bh x;refine ge ?_;by_cases y:D i t/D t t=0
   ·have T:(D i t/D t t).sign=0:=by rw[y];rfl
    refine ge ?_;refine aJ (dw _ _ _ ND K k.1 aq) ?_;rintro _ V ⟨c,rfl⟩;replace d:=d.trans c;replace q:=q.Y c;replace p:=p.Y c;replace g:=g.trans c;clear c;clear o m;refine ge ?_;refine⟨F,F,F,F,F,M.trans (g.mono λ_ _ h=>h.elim),s.trans (bJ g),?_,p⟩;rw[vf U D J y,lO,vf D D J y,<-lO];exact r.Y d
   have T:¬(D i t/D t t).sign=0:=λe=>y (Int.sign_eq_zero_iff_zero.1 e);refine ge ?_;refine aJ (dw _ _ _ ND K k.1 aq) ?_;rintro _ y ⟨c,rfl⟩;replace d:=d.trans c;replace q:=q.Y c;replace p:=p.Y c;replace g:=g.trans c;clear c;clear o m;obtain⟨E,z,x,k⟩:=id q;obtain⟨o,m⟩:=bh x;refine ge ?_;have x:=k.1;refine ge ?_;refine aJ (j8 _ _ _ ND y x aq) ?_;rintro _ k ⟨c,a0,k,rfl,k⟩;replace d:=d.trans c;replace q:=q.Y c;replace p:=p.Y c;replace g:=g.trans c;clear c;clear o m;refine ge ?_;refine aL ag F rfl q (k.ev true N.neg) ?_;intro c q j a v;replace d:=j.aK d λb O=>aq;replace p:=p.kp a j ah;replace k:=k.kp a;replace g:=j.aK g λb O=>aq;clear j a v;clear k;refine ge ?_;obtain⟨z,E⟩ : ∃z,z=-(D i t/D t t):=⟨_,F⟩;rw[<-E]at q;have a:Bd ND z:=by rw[E];exact N.neg
   refine kX (λb=>b=I i) [(0,3),(1,3),(2,3),(3,0),(4,3),(5,3),(6,0),(7,1)] mixed az λj c _=>?_;have a:=(r.Y d).Y c;have o:=q.Y c;have v:=p.Y c;have f0:=a.c0;obtain⟨O,N,y,x⟩:=id o;refine ge ?_;refine eQ aw (aX F) F f0 (by show¬H=I i;have:=a.box.kS (a.d.row i l).2.2.choose_spec.1 aw;exact this) ?_;refine ge ?_;refine fW aw aQ F y (by show¬P=I i;omega) ?_;refine ge ?_;refine jW (mm gD n n i t ND ND I cd _ z O N j a.d l A aq x.1 aq aq aH λk I=>?_) ?_
   ·have e:=congrFun (congrFun (lN D D J E) i) k;simp only[ab]at e;rw[lO,e];exact zn aq (bD i k l I) (av i k l I)
   rintro _ T ⟨rfl,j,m,K⟩;refine⟨j,?_⟩;have V:=a.E1 m j (λb e=>.inr ⟨i,l,e⟩) K λt A=>⟨t,A,rfl⟩;rw[lO,lN D D J E]at V;have Z:=o.kp m j aq;have X:=v.kp m j aq;have a6:Ch (λb=>B<=b) w T:=M.trans (((g.trans c).mono λ_ _ h=>h.elim).trans (j.mono λb _ e=>by rw[e];exact(o5 i l).1));have Y:Kp w T:=s.trans ((bJ (g.trans c)).trans m);clear a o v f0 y x j m K c g d q p r M s;refine ge ?_;refine mN (λb=>b=G i) [(0,3),(1,3),(2,3),(3,0),(4,3),(5,3),(6,0),(7,1)] mixed az λj c _=>?_;have a:=V.Y c;have o:=Z.Y c;have v:=X.Y c;have m:=a.c1;obtain⟨O,N,y,x⟩:=id o;refine ge ?_;refine eQ aw (aX F) F m (by show¬H=G i;have:=a.box.kS (a.u.row i l).2.2.choose_spec.1 aw;exact this) ?_;refine ge ?_;refine fW aw aQ F y (by show¬P=G i;omega) ?_;refine ge ?_;refine jW (mm gU n n i t NU ND G cu _ z O N j a.u l A aq x.1 aq aq ay λk I=>?_) ?_
   ·have e:=congrFun (congrFun (lN U D J E) i) k;simp only[ab]at e;rw[e];exact zn aq (bU i k l I) (au i k l I)
   rintro _ wd ⟨rfl,j,k,o⟩;refine⟨j,?_⟩;have m:=a.Js k j (λb e=>.inr ⟨i,l,e⟩) o λt A=>⟨t,A,rfl⟩;rw[lN U D J E,<-lO]at m;have a:=v.kp k j aq;refine ge ?_;exact⟨F,F,F,F,F,a6.trans ((c.mono λ_ _ h=>h.elim).trans (j.mono λb _ e=>by rw[e];exact(o5 i l).2.1)),Y.trans ((bJ c).trans k),m,a⟩
  clear g d q p r M s;rintro f w5 ⟨S,R,C,Q,a,M,s,r,p⟩;rw[ui S,ui R,ui C,ui Q,ui a];clear S R C Q a;obtain⟨a,a,a,ax⟩:=p;obtain⟨b,b⟩:=bh a;cases u
  ·refine ge ?_;refine aJ (dw _ _ _ ND w5 ax.1 aq) ?_;rintro _ a ⟨a,rfl⟩;refine ge ?_;refine⟨_,?_,i+1,_,F,aq,aq,F,F,F,F,hL.no J,M.trans (a.mono λ_ _ h=>h.elim),s.trans (bJ a),r.Y a⟩;omega
  ·refine ge ?_;refine⟨_,?_,i+1,true,F,aq,aq,F,F,F,F,hL.yes,M,s,r⟩;omega
 rintro f L ⟨u,C,hL,M,s,r⟩;rw[ui C];clear C;refine ge ?_;exact bF F rfl ⟨u,F,hL,M,s,r⟩
end
section
open Go Go.cW Go.c7 Go.Proofs
open Go.Sm (h_)
def jy(V D:Nat->Nat->Int)(t m:Nat):Nat->Nat->Int:=λi j=>if t<j/\j<m then V i j-D t j/D t t*V i t else V i j
theorem KB(V D:Nat->Nat->Int){t j:Nat}(i:Nat):jy V D t j i j=V i j:=aa (by omega)
theorem MY(V D:Nat->Nat->Int){t j:Nat}(i:Nat):jy V D t j i t=V i t:=aa (by omega)
theorem KC(D:Nat->Nat->Int){t j:Nat}(i:Nat):h_ D t j i j=D i j:=aa (by omega)
theorem H5(D:Nat->Nat->Int){t j:Nat}(i:Nat):h_ D t j i t=D i t:=aa (by omega)
theorem l5(V D:Nat->Nat->Int){t i:Nat}(a:t<i){z:Int}(c:z=-(D t i/D t t)):(λa b=>if b=i then jy V D t i a i+z*jy V D t i a t else jy V D t i a b)=jy V D t (i+1):=by
 funext a b;rw[KB,MY,c];unfold jy;by_cases e:b=i
 ·subst e;rw[ab F,ab aq,Int.neg_mul,<-Int.sub_eq_add_neg]
 ·rw[aa e];by_cases h:t<b/\b<i
  ·rw[ab h,ab aq]
  ·rw[aa h,aa aq]
theorem vL(V D:Nat->Nat->Int){t i:Nat}(a:t<i)(b:D t i/D t t=0):jy V D t (i+1)=jy V D t i:=by
 rw[<-l5 V D a (z:=0) aq];funext a b;by_cases e:b=i
 ·subst e;rw[ab F,Int.zero_mul,Int.add_zero]
 ·rw[aa e]
theorem l7(D:Nat->Nat->Int)(t m:Nat):h_ D t m=jy D D t m:=F
theorem AO{V D:Nat->Nat->Int}{t i n a b:Nat}(d:i<=n){N:Nat}(h1:Bd N (V a b))(c:Bd N (jy V D t n a b)):Bd N (jy V D t i a b):=by
 unfold jy at*;by_cases h:t<b/\b<i
 ·rw[ab h];rwa[ab aq]at c
 ·rw[aa h];exact h1
theorem pO(B O gD gU Y n ND NU NV t:Nat)(D U V:Nat->Nat->Int)(N us L cd cu cv:Nat->Nat)(w:World)(h:El B w O gD gU Y n ND NU NV D U V N us L cd cu cv)(j:n<=16)(C:t<n)(h0:D t t≠0)(ay:ND+ND<17592186044416)(ax:ND+NV<17592186044416)
 (au:∀i j,i<n->j<n->Bd ND (h_ D t n i j)) (ar:∀i j,i<n->j<n->Bd NV (jy V D t n i j)):
 aT Tryz.prog 159 #[.pointer (some ⟨O,0,none⟩),.int .i64 (t:Int)] w λv o=>
  ∃A,v=.bool A/\BH t n (λi=>D t i%D t t) A/\Ch (λb=>B<=b) w o/\Kp w o/\El B o O gD gU Y n ND NU NV (h_ D t n) U (jy V D t n) N us L cd cu cv:=by
 refine bo (n:=77) Tryz.func159 F rfl az aA ?_;obtain⟨j,j,j,j,o5⟩:=h.own;have bD:∀a b,a<n->b<n->Bd ND (D a b):=λa b S M=>by
  obtain⟨x,y,_,_,j⟩:=(h.d.row a S).at M;exact j.1.bd
 have bV:∀a b,a<n->b<n->Bd NV (V a b):=λa b S M=>by
  obtain⟨x,y,_,_,j⟩:=(h.v.row a S).at M;exact j.1.bd
 refine ge ?_;refine aY (λf o=>∃A,f 5=.bool (A)/\BH t n (λi=>D t i%D t t) A/\Ch (λb=>B<=b) w o/\Kp w o/\El B o O gD gU Y n ND NU NV (h_ D t n) U (jy V D t n) N us L cd cu cv) ?_ ?_
 ·refine ge ?_;refine aU (λm f o=>∃i A,m=n-i/\t<i/\i<=n/\f 0=.pointer (some ⟨O,0,none⟩)/\f 1=.int .i64 (t:Int)/\f 5=.bool (A)/\f 6=.int .i64 ((i:Nat):Int)/\BH t i (λi=>D t i%D t t) A/\Ch (λb=>B<=b) w o/\Kp w o/\El B o O gD gU Y n ND NU NV (h_ D t i) U (jy V D t i) N us L cd cu cv)
   (n-(t+1)) ⟨t+1,false,F,aq,aq,F,F,F,F,BH.start _ _,(Ext.refl w).mono (λ_ _ h=>h.elim),bJ (Ext.refl w),⟨h.box,h.d.congr (λa b _ _=>⟨aD,by unfold h_;rw[aa aq]⟩),h.u,h.v.congr (λa b _ _=>⟨aD,by unfold jy;rw[aa aq]⟩),h.oo,h.rr,h.own⟩⟩ ?_
  clear h;rintro m f I ⟨i,A,rfl,H,j,R,Q,G,P,hL,J,u,r⟩;rw[ui R,ui Q,ui G,ui P];clear R Q G P;refine aN ?_;have f0:=r.c0;have uh:=r.d.at C;by_cases E:i<n;rotate_left
  ·obtain rfl:i=n:=aq;refine ge ?_;exact⟨A,F,hL,J,u,r⟩
  refine ge ?_;clear uh;have ai:=r.lt;have g:Ext I I:=Ext.refl I;have d:Ext I I:=Ext.refl _;refine ge ?_;refine ib [(0,3),(1,3),(2,3),(3,0),(4,3),(5,3),(6,0),(7,3),(8,3),(9,0),(10,3),(11,3),(12,3),(13,0),(14,3),(15,3),(16,0),(17,3),(18,3),(19,0)] [(20,[(21,3),(22,3),(23,3),(24,3)],[]),(25,[],[]),(26,[],[])] [(27,2),(28,2),(29,3)] mixed az λa8 c _=>?_;replace d:=d.trans c;replace g:=g.trans c;clear c;replace f0:=aP g f0;have uh:=(r.d.Y g).at C;obtain⟨j,j,an,ak,k⟩:=((r.d.Y g).row t C).at E;obtain⟨j,j,al,aj,cQ⟩:=((r.d.Y g).row t C).at C;rw[KC]at k;rw[H5]at cQ;replace k:=k.1;replace cQ:=cQ.1;refine ge ?_;refine ge ?_;refine dN [(20,[(21,3),(22,3),(23,3),(24,3)])] [fA 25 7 44 (.agg #[.bool false,.slice none 0 0]),fA 26 8 44 (.agg #[.bool false,.slice none 0 0])] [45,24,46,47,48,7,8] az (λa S f' o _ _=>by
   rcases List.mem_cons.1 S with rfl|S
   ·exact cm a_ F f' o
   ·skip;rcases List.mem_singleton.1 S with rfl;exact cm a_ F f' o) ?_
  have T:=d.size;have ae:=g.size;refine ge ?_;refine cS λa c=>?_;replace d:=d.trans c;replace k:=k.Y c;replace cQ:=cQ.Y c;replace g:=g.trans c;clear c;refine ge ?_;refine aM (eT _ _ _ _ _ _ ND a k cQ aq h0) ?_;rintro _ a ⟨c,c0,c1,c2,c3,rfl,s,l⟩;refine⟨c,?_⟩;replace d:=d.trans c;replace k:=k.Y c;replace cQ:=cQ.Y c;replace g:=g.trans c;clear c;refine ge ?_;refine eW λa c K a6 a7=>?_;replace d:=d.trans c;replace k:=k.Y c;replace cQ:=cQ.Y c;replace s:=s.Y c;replace l:=l.Y c;replace g:=g.trans c;clear c;obtain⟨z,X⟩:=a6 _ aG;have z:a8.heap.size<=K 7:=z;have q:Bx a (K 7) 1 true 0:=Bx.zero true X;obtain⟨e,W⟩:=a6 _ (List.mem_cons_of_mem _ aG);have e:a8.heap.size<=K 8:=e;have p:Bx a (K 8) 1 true 0:=Bx.zero true W;have a:K 8≠K 7:=a7 _ _ (List.mem_cons_of_mem _ aG) aG (show(8:Nat)≠7 by decide);show Ro _ _ _ _ _ _ (cg (cg _ 8 (.pointer (some ⟨K 8,0,none⟩))) 7 (.pointer (some ⟨K 7,0,none⟩))) _;generalize K 7=gF at*;generalize K 8=Z at*;have a:I.heap.size<=gF:=aq;have a:I.heap.size<=gF:=aq;have a:I.heap.size<=Z:=aq;have a:I.heap.size<=Z:=aq;clear T;clear a6 a7 ae X z W e;have S:Bd ND (D t i/D t t):=(bD t i C E).ediv;have m:Bd ND (D t i%D t t):=(bD t t C C).emod h0;refine ge ?_;refine aL ag F rfl q (s.ev true S) ?_;intro a q j a v;replace d:=j.aK d λb M=>aq;replace k:=k.kp a;replace cQ:=cQ.kp a;replace s:=s.kp a;replace l:=l.kp a;replace p:=p.kp a j ah;replace g:=j.aK g λb M=>aq;clear j a v;refine ge ?_;refine aL ag F rfl p (l.ev true m) ?_;intro K p j a v;replace d:=j.aK d λb M=>aq;replace k:=k.kp a;replace cQ:=cQ.kp a;replace s:=s.kp a;replace l:=l.kp a;replace q:=q.kp a j ah;replace g:=j.aK g λb M=>aq;clear j a v;clear f0 uh an ak al aj k cQ s l;refine ge ?_;have x:∀s,s<n->gF≠N s/\gF≠L s/\Z≠N s/\Z≠L s:=λs l=>by
   have:=(ai.2.2.2.2 s l);omega
  refine aY (λf o=>f 0=.pointer (some ⟨O,0,none⟩)/\f 1=.int .i64 (t:Int)/\f 5=.bool (A)/\f 6=.int .i64 (i:Int)/\f 8=.pointer (some ⟨Z,0,none⟩)/\Ch (λb=>B<=b) w o/\Kp w o/\El B o O gD gU Y n ND NU NV (h_ D t (i+1)) U (jy V D t (i+1)) N us L cd cu cv/\Bx o Z ND true (D t i%D t t)) ?_ ?_
  ·obtain⟨T,O,y,k⟩:=id q;obtain⟨o,m⟩:=bh y;refine ge ?_;by_cases z:D t i/D t t=0
   ·have l:(D t i/D t t).sign=0:=by rw[z];rfl
    refine ge ?_;refine aJ (dw _ _ _ ND K k.1 aq) ?_;rintro _ W ⟨c,rfl⟩;replace d:=d.trans c;replace q:=q.Y c;replace p:=p.Y c;replace g:=g.trans c;clear c;clear o m;refine ge ?_;refine⟨F,F,F,F,F,J.trans (g.mono λ_ _ h=>h.elim),u.trans (bJ g),?_,p⟩;rw[vL V D H z,l7,vL D D H z,<-l7];exact r.Y d
   have l:¬(D t i/D t t).sign=0:=λe=>z (Int.sign_eq_zero_iff_zero.1 e);refine ge ?_;refine aJ (dw _ _ _ ND K k.1 aq) ?_;rintro _ z ⟨c,rfl⟩;replace d:=d.trans c;replace q:=q.Y c;replace p:=p.Y c;replace g:=g.trans c;clear c;clear o m;obtain⟨T,O,y,k⟩:=id q;obtain⟨o,m⟩:=bh y;refine ge ?_;have y:=k.1;refine ge ?_;refine aJ (j8 _ _ _ ND z y aq) ?_;rintro _ k ⟨c,a0,k,rfl,k⟩;replace d:=d.trans c;replace q:=q.Y c;replace p:=p.Y c;replace g:=g.trans c;clear c;clear o m;refine ge ?_;refine aL ag F rfl q (k.ev true S.neg) ?_;intro c q j a v;replace d:=j.aK d λb M=>aq;replace p:=p.kp a j ah;replace k:=k.kp a;replace g:=j.aK g λb M=>aq;clear j a v;clear k;refine ge ?_;obtain⟨z,M⟩ : ∃z,z=-(D t i/D t t):=⟨_,F⟩;rw[<-M]at q;have a:Bd ND z:=by rw[M];exact S.neg
   refine kX (λb=>∃s,s<n/\b=N s) [(0,3),(1,3),(2,3),(3,0),(4,3),(5,3),(6,0),(7,1)] mixed az λj c _=>?_;have a:=(r.Y d).Y c;have o:=q.Y c;have v:=p.Y c;have f0:=a.c0;obtain⟨T,S,K,y⟩:=id o;refine ge ?_;refine eQ aw (aX F) F f0 (λ⟨s,l,e⟩=>a.box.kS (a.d.row s l).2.2.choose_spec.1 aw e) ?_;refine ge ?_;refine fW aw aQ F K (λ⟨s,l,e⟩=>(x s l).1 e) ?_;refine ge ?_;refine jW (oF gD n n i t ND ND N cd _ z T S j a.d E C aq y.1 aq aq ay λk N=>?_) ?_
   ·have e:=congrFun (congrFun (l5 D D H M) k) i;simp only[ab]at e;rw[l7,e];exact AO aq (bD k i N E) (au k i N E)
   rintro _ W ⟨rfl,j,m,O⟩;refine⟨j,?_⟩;have X:=a.E1 m j (λb e=>.inr e) O λt C=>⟨t,C,rfl⟩;rw[l7,l5 D D H M]at X;have a8:=o.kp m j λ⟨s,l,e⟩=>(x s l).1 e;have a6:=v.kp m j λ⟨s,l,e⟩=>(x s l).2.2.1 e;have ae:Ch (λb=>B<=b) w W:=J.trans (((g.trans c).mono λ_ _ h=>h.elim).trans (j.mono λb _ e=>by obtain⟨s,l,e⟩:=e;rw[e];exact(o5 s l).1));have a7:Kp w W:=u.trans ((bJ (g.trans c)).trans m);clear a o v f0 K y j m O c g d q p r J u;refine ge ?_;refine mN (λb=>∃s,s<n/\b=L s) [(0,3),(1,3),(2,3),(3,0),(4,3),(5,3),(6,0),(7,1)] mixed az λj c _=>?_;have a:=X.Y c;have o:=a8.Y c;have v:=a6.Y c;have m:=a.c2;obtain⟨T,S,K,y⟩:=id o;refine ge ?_;refine eQ aw (aX F) F m (λ⟨s,l,e⟩=>a.box.kS (a.v.row s l).2.2.choose_spec.1 aw e) ?_;refine ge ?_;refine fW aw aQ F K (λ⟨s,l,e⟩=>(x s l).2.1 e) ?_;refine ge ?_;refine jW (oF Y n n i t NV ND L cv _ z T S j a.v E C aq y.1 aq aq ax λk N=>?_) ?_
   ·have e:=congrFun (congrFun (l5 V D H M) k) i;simp only[ab]at e;rw[e];exact AO aq (bV k i N E) (ar k i N E)
   rintro _ wd ⟨rfl,j,k,o⟩;refine⟨j,?_⟩;have m:=a.NT k j (λb e=>.inr e) o λt C=>⟨t,C,rfl⟩;rw[l5 V D H M,<-l7]at m;have a:=v.kp k j λ⟨s,l,e⟩=>(x s l).2.2.2 e;refine ge ?_;exact⟨F,F,F,F,F,ae.trans ((c.mono λ_ _ h=>h.elim).trans (j.mono λb _ e=>by obtain⟨s,l,e⟩:=e;rw[e];exact(o5 s l).2.2)),a7.trans ((bJ c).trans k),m,a⟩
  clear g d q p r J u;rintro f w5 ⟨R,Q,G,P,a,J,u,r,p⟩;rw[ui R,ui Q,ui G,ui P,ui a];clear R Q G P a;obtain⟨a,a,a,av⟩:=p;obtain⟨b,b⟩:=bh a;cases A
  ·refine ge ?_;refine aJ (dw _ _ _ ND w5 av.1 aq) ?_;rintro _ a ⟨a,rfl⟩;refine ge ?_;refine⟨_,?_,i+1,_,F,aq,aq,F,F,F,F,hL.no H,J.trans (a.mono λ_ _ h=>h.elim),u.trans (bJ a),r.Y a⟩;omega
  ·refine ge ?_;refine⟨_,?_,i+1,true,F,aq,aq,F,F,F,F,hL.yes,J,u,r⟩;omega
 rintro f I ⟨A,G,hL,J,u,r⟩;rw[ui G];clear G;refine ge ?_;exact bF F rfl ⟨A,F,hL,J,u,r⟩
end
section
open Go Go.cW Go.c7 Go.Proofs
theorem ze(z x y u:Value)(m t:Int)(N:Nat)(w:World)(h1:IV w N z x m)(j:IV w N y u t)(A:m≠0)(B:N<17592186044416):
 aT Tryz.prog 187 #[.agg #[z,x],.agg #[y,u]] w λv o=>Ext w o/\∃b,v=.bool b/\(b=true↔m∣t):=by
 refine bo (n:=23) Tryz.func187 F rfl az aA ?_;have E:Bd N m:=h1.bd;have D:Bd N t:=j.bd;have d:Ext w w:=Ext.refl w;refine ge ?_;refine bO (v:=.agg _) (.inl F) F ?_;intro o c a f;have i:bg o w.heap.size 44 #[z,x]:=c;obtain⟨s,e⟩ : ∃g,g=w.heap.size:=⟨_,F⟩;rw[<-e]at i⊢;have C:w.heap.size<=s:=by have:=d.size;omega
 replace h1:=h1.Y a;replace j:=j.Y a;replace d:=d.trans a;clear c f e a;refine ge ?_;refine bO (v:=.agg _) (.inl F) F ?_;intro p c a f;have q:bg p o.heap.size 44 #[y,u]:=c;obtain⟨r,e⟩ : ∃g,g=o.heap.size:=⟨_,F⟩;rw[<-e]at q⊢;have o:w.heap.size<=r:=by have:=d.size;omega
 have o:s<r:=by have:=i.lt;omega
 replace h1:=h1.Y a;replace j:=j.Y a;replace i:=i.Y a;replace d:=d.trans a;clear c f e a;have l:Bx p s N false m:=⟨z,x,i,h1,λh=>by cases h⟩;have k:Bx p r N false t:=⟨y,u,q,j,λh=>by cases h⟩;clear i q h1 j;refine ge ?_;obtain⟨i,i,i,m⟩:=id l;obtain⟨x,u⟩:=bh i;obtain⟨i,i,j,i⟩:=id k;obtain⟨t,q⟩:=bh j;have o:=m.1;have m:=i.1;refine ge ?_;refine ge ?_;refine aJ (eT _ _ _ _ _ _ N p m o B A) ?_;rintro _ y ⟨a,c0,c1,c2,c3,rfl,j,i⟩;replace l:=l.Y a;replace k:=k.Y a;replace o:=o.Y a;replace m:=m.Y a;replace d:=d.trans a;clear a;clear x u t q;refine ge ?_;refine aS (.inl F) a_ ?_;intro x c a f;have p:=Bx.zero (N:=1) true c;obtain⟨u,e⟩ : ∃g,g=y.heap.size:=⟨_,F⟩;rw[<-e]at p⊢;have q:w.heap.size<=u:=by have:=d.size;omega
 have q:s<u:=by have:=l.lt;omega
 have q:r<u:=by have:=k.lt;omega
 replace l:=l.Y a;replace k:=k.Y a;replace o:=o.Y a;replace m:=m.Y a;replace j:=j.Y a;replace i:=i.Y a;replace d:=d.trans a;clear c f e a;refine ge ?_;refine aS (.inl F) a_ ?_;intro q c a f;have q:=Bx.zero (N:=1) true c;obtain⟨t,e⟩ : ∃g,g=x.heap.size:=⟨_,F⟩;rw[<-e]at q⊢;have g:w.heap.size<=t:=by have:=d.size;omega
 have g:s<t:=by have:=l.lt;omega
 have g:r<t:=by have:=k.lt;omega
 have g:u<t:=by have:=p.lt;omega
 replace l:=l.Y a;replace k:=k.Y a;replace o:=o.Y a;replace m:=m.Y a;replace j:=j.Y a;replace i:=i.Y a;replace p:=p.Y a;replace d:=d.trans a;clear c f e a;refine ge ?_;refine aL ag F rfl p (j.ev true D.ediv) ?_;intro c p g c f;replace l:=l.kp c g ah;replace k:=k.kp c g ah;replace o:=o.kp c;replace m:=m.kp c;replace j:=j.kp c;replace i:=i.kp c;replace q:=q.kp c g ah;replace d:=g.aK d λb s=>aq;clear g c f;refine ge ?_;refine aL ag F rfl q (i.ev true (E.emod A)) ?_;intro r q g c f;replace l:=l.kp c g ah;replace k:=k.kp c g ah;replace o:=o.kp c;replace m:=m.kp c;replace j:=j.kp c;replace i:=i.kp c;replace p:=p.kp c g ah;replace d:=g.aK d λb s=>aq;clear g c f;refine ge ?_;refine aN ?_;obtain⟨b,b,b,c⟩:=id q;obtain⟨f,e⟩:=bh b;have b:=c.1;refine ge ?_;refine ge ?_;refine aJ (dw _ _ _ N r b B) ?_;rintro _ c ⟨a,rfl⟩;replace l:=l.Y a;replace k:=k.Y a;replace o:=o.Y a;replace m:=m.Y a;replace j:=j.Y a;replace i:=i.Y a;replace p:=p.Y a;replace q:=q.Y a;replace b:=b.Y a;replace d:=d.trans a;clear a;clear f e;refine ge ?_;exact bF F rfl ⟨d,_,F,decide_eq_true_iff.trans ⟨λh=>Int.dvd_of_emod_eq_zero (Int.sign_eq_zero_iff_zero.1 h),λh=>by rw[Int.emod_eq_zero_of_dvd h];rfl⟩⟩
theorem rQ(B x P O N n ND NU NV t:Nat)(D U V:Nat->Nat->Int)(Q L s T S R:Nat->Nat)(w:World)(h:El B w x P O N n ND NU NV D U V Q L s T S R)(A:t<n)(s:n<=16)(K:ND<17592186044416)(M:D t t≠0):
 aT Tryz.prog 160 #[.pointer (some ⟨x,0,none⟩),.int .i64 (t:Int)] w λv l=>Ext w l/\
  ((∃s,v=.tuple #[.int .i64 ((s:Nat):Int),.bool true]/\t<s/\s<n/\∃j,t<j/\j<n/\¬D t t∣D s j)\/(v=.tuple #[.int .i64 ((0:Nat):Int),.bool false]/\∀i j,t<i->i<n->t<j->j<n->D t t∣D i j)):=by
 refine bo (n:=56) Tryz.func160 F rfl az aA ?_;refine ge ?_;refine aY (λf l=>Ext w l/\∀i j,t<i->i<n->t<j->j<n->D t t∣D i j) ?_ ?_
 ·refine ge ?_;refine aU (λm f l=>∃i,m=n-i/\t<i/\i<=n/\f 0=.pointer (some ⟨x,0,none⟩)/\f 1=.int .i64 (t:Int)/\f 6=.int .i64 ((i:Nat):Int)/\Ext w l/\∀a b,t<a->a<i->t<b->b<n->D t t∣D a b)
   (n-(t+1)) ⟨t+1,F,aq,aq,F,F,F,Ext.refl _,λa b p E=>aq⟩ ?_
  rintro m f z ⟨i,rfl,J,s,k,g,d,c,u⟩;rw[ui k,ui g,ui d];clear k g d;refine aN ?_;have q:=aP c h.c0;by_cases o:i<n;rotate_left
  ·obtain rfl:i=n:=aq;refine ge ?_;exact⟨c,u⟩
  refine ge ?_;clear q;refine aU (λm f l=>∃j,m=n-j/\t<j/\j<=n/\f 0=.pointer (some ⟨x,0,none⟩)/\f 1=.int .i64 (t:Int)/\f 6=.int .i64 (i:Int)/\f 7=.int .i64 ((j:Nat):Int)/\Ext w l/\∀b,t<b->b<j->D t t∣D i b)
   (n-(t+1)) ⟨t+1,F,aq,aq,F,F,F,F,c,λb p E=>aq⟩ ?_
  clear c;rintro m f z ⟨j,rfl,I,l,k,g,d,l,c,H⟩;rw[ui k,ui g,ui d,ui l];clear k g d l;refine aN ?_;have q:=aP c h.c0;have r:=(h.d.Y c).at o;by_cases y:j<n;rotate_left
  ·obtain rfl:j=n:=aq;refine ge ?_;refine⟨_,?_,i+1,F,aq,aq,F,F,F,c,λa b p E g d=>?_⟩
   ·omega
   ·by_cases e:a=i
    ·rw[e];exact H b g d
    ·exact u a b p aq g d
  refine ge ?_;clear q r;have c:Ext w z:=c;refine ge ?_;refine b_ [(0,3),(1,3),(2,3),(3,0),(4,3),(5,3),(6,0),(7,3),(8,3),(9,0),(10,3),(11,3),(12,3),(13,0),(14,3),(15,3),(16,0),(17,3),(18,3),(19,0),(20,1),(21,3)] mixed az λg a _=>?_;replace c:=c.trans a;clear a;have q:=aP c h.c0;have r:=(h.d.Y c).at o;have uh:=(h.d.Y c).at A;obtain⟨d,d,s,l,d⟩:=((h.d.Y c).row i o).at y;obtain⟨k,k,m,k,cQ⟩:=((h.d.Y c).row t A).at A;replace d:=d.1;replace cQ:=cQ.1;refine ge ?_;refine ge ?_;refine aM (ze _ _ _ _ _ _ ND g cQ d M K) ?_;rintro _ d ⟨a,b,rfl,G⟩;refine⟨a,?_⟩;replace c:=c.trans a;clear a;clear q r uh s l m k;cases b;rotate_left
  ·have C:D t t∣D i j:=G.1 F;refine ge ?_;refine⟨_,?_,j+1,F,aq,aq,F,F,F,F,c,λb p E=>?_⟩
   ·omega
   ·by_cases e:b=j
    ·rw[e];exact C
    ·exact H b p aq
  ·have C:¬D t t∣D i j:=λh=>by cases G.2 h
   refine ge ?_;exact cU (v:=.int _ _) (v':=.bool _) F rfl rfl ⟨c,.inl ⟨i,F,J,o,j,I,y,C⟩⟩
 rintro f z ⟨c,u⟩;refine ge ?_;exact cU (v:=.int _ _) (v':=.bool _) F rfl rfl ⟨c,.inr ⟨F,u⟩⟩
end
end Go.Proofs.Qq
namespace Go.cW
open Go
section
variable {P:Program}{n:Nat}{Q:Exit->Fr->World->Prop}{f:Fr}{w:World}
theorem CJ{l:Nat}(h:Q (.goto l) f w):W P n (.goto l) Q f w:=by unfold W;exact wp_goto ⟨f,F,h⟩
theorem CK{l:Nat}{next:Fr->World->Prop}(h:Q (.goto l) f w):lE next Q (.goto l) f w:=by unfold lE;exact h
def jmp(l:Nat)(J:Fr->World->Prop)(Q:Exit->Fr->World->Prop):Exit->Fr->World->Prop
 |.goto b,f,w=>b=l/\J f w
 |e,f,w=>Q e f w
theorem BA{l:Nat}{J:Fr->World->Prop}(h:Q .normal f w):jmp l J Q .normal f w:=h
theorem Hk{p:Nat->Prop}:∀m,p m->∃k,p k/\∀j,p j->k<=j:=λm=>by
 induction m using Nat.strongRecOn with
 |_ m b=>
  intro d;by_cases h:∃j,j<m/\p j
  ·obtain⟨j,a,c⟩:=h;exact b j a c
  ·exact⟨m,d,λj a=>Nat.le_of_not_lt λb=>h ⟨j,b,a⟩⟩
theorem Ix{c:Code}(l h:Nat)(I:Nat->Fr->World->Prop)(k:I h f w)
 (j:∀m f w,I m f w->W P n c (jmp l (λi r=>∃d,d<m/\I d i r) Q) f w):W P n (.scope (.seq (.label l) c)) Q f w:=by
 have first:W P n (.seq (.label l) c) (jmp l (λf w=>∃m,I m f w) Q) f w:=by
  refine aN (x9 (tG ?_));have s:=j h f w k;unfold W at*;refine Code.wp_mono (λe a w b=>?_) s;obtain⟨f,rfl,b⟩:=b;cases e with
  |goto u=>obtain⟨rfl,m,_,g⟩:=b;exact⟨f,F,F,m,g⟩
  |_=>exact⟨f,rfl,b⟩
 obtain⟨μ,q⟩ : ∃μ:Act->World->Nat,∀a w,(∃m f,a=act n f/\I m f w)->(∃f,a=act n f/\I (μ a w) f w)/\∀m f,a=act n f->I m f w->μ a w<=m:=by
  refine⟨λa w=>Classical.epsilon λk=>(∃f,a=act n f/\I k f w)/\∀m f,a=act n f->I m f w->k<=m,λa w ⟨m,f,h,g⟩=>?_⟩;obtain⟨k,v,t⟩:=Hk (p:=λk=>∃f,a=act n f/\I k f w) m ⟨f,h,g⟩;exact Classical.epsilon_spec (p:=λk=>(∃f,a=act n f/\I k f w)/\∀m f,a=act n f->I m f w->k<=m) ⟨k,v,λm f h g=>t m ⟨f,h,g⟩⟩
 have x:findLabel (.seq (.label l) c) l=some (.seq .skip c):=by simp[findLabel]
 have o:∀m f w,I m f w->W P n (.seq .skip c) (jmp l (λi r=>∃d,d<m/\I d i r) Q) f w:=λm f w h=>aN (CI (tG (by
  have s:=j m f w h;unfold W at*;exact s)))
 unfold W at*;refine wp_scope_jumps l (λa w=>∃m f,a=act n f/\I m f w) μ x (Code.wp_mono (λe a w b=>?_) first) λa w y=>?_
 ·obtain⟨f,rfl,b⟩:=b;cases e with
  |goto u=>obtain⟨rfl,m,g⟩:=b;exact⟨F,m,f,F,g⟩
  |_=>exact⟨f,rfl,b⟩
 ·obtain⟨⟨f,rfl,g⟩,_⟩:=q a w y;refine Code.wp_mono (λe a w b=>?_) (o _ f w g);obtain⟨i,rfl,b⟩:=b;cases e with
  |goto u=>
   obtain⟨rfl,d,c,a⟩:=b;exact⟨F,⟨d,i,F,a⟩,Nat.lt_of_le_of_lt ((q _ _ ⟨d,i,F,a⟩).2 d i F a) c⟩
  |_=>exact⟨i,rfl,b⟩
end
end Go.cW
namespace Go.Proofs.Qq
open Go Go.cW Go.c7 Go.Proofs
open Go.Sm (sx cR red eK uM)
structure ID(n t ND NU NV q:Nat)(Inv:Nat->(Nat->Nat->Int)->(Nat->Nat->Int)->(Nat->Nat->Int)->Prop)(Post:(Nat->Nat->Int)->(Nat->Nat->Int)->(Nat->Nat->Int)->Prop)(S U V:Nat->Nat->Int):Prop where
 bP:∀i j,i<n->j<n->Bd ND (cR S t n i j)
 bU:∀i j,i<n->j<n->Bd NU (iP U S t n i j)
 a:(∃i,t<i/\i<n/\S i t%S t t≠0)->∃q',q'<q/\Inv q' (cR S t n) (iP U S t n) V
 bR:(∀i,t<i->i<n->S i t%S t t=0)->∀i j,i<n->j<n->Bd ND (red S t n i j)
 bV:(∀i,t<i->i<n->S i t%S t t=0)->∀i j,i<n->j<n->Bd NV (jy V (cR S t n) t n i j)
 b:(∀i,t<i->i<n->S i t%S t t=0)->(∃j,t<j/\j<n/\cR S t n t j%cR S t n t t≠0)->∃q',q'<q/\Inv q' (red S t n) (iP U S t n) (jy V (cR S t n) t n)
 c:(∀i,t<i->i<n->S i t%S t t=0)->(∀j,t<j->j<n->cR S t n t j%cR S t n t t=0)->∀i0,t<i0->i0<n->(∃j,t<j/\j<n/\¬red S t n t t∣red S t n i0 j)->
  (∀k,k<n->Bd ND (eK (red S t n) t i0 t k)/\Bd NU (eK (iP U S t n) t i0 t k))/\∃q',q'<q/\Inv q' (eK (red S t n) t i0) (eK (iP U S t n) t i0) (jy V (cR S t n) t n)
 d:(∀i,t<i->i<n->S i t%S t t=0)->(∀j,t<j->j<n->cR S t n t j%cR S t n t t=0)->(∀i j,t<i->i<n->t<j->j<n->red S t n t t∣red S t n i j)->Post (red S t n) (iP U S t n) (jy V (cR S t n) t n)
def kz(d:Int)(t:Nat)(M:Nat->Nat->Int):Nat->Nat->Int:=λa b=>if d<0/\a=t then -M t b else M a b
theorem GB(B z E C H n ND NU NV t q0:Nat)(D0 U0 V0:Nat->Nat->Int)(L K G O M I:Nat->Nat)(w:World)(h:El B w z E C H n ND NU NV D0 U0 V0 L K G O M I)(d:t<n)(hn:n<=16)(al:1<=ND)(a8:ND+ND<17592186044416)(ak:ND+NU<17592186044416)(ar:ND+NV<17592186044416)
 (a1:Nat->(Nat->Nat->Int)->(Nat->Nat->Int)->(Nat->Nat->Int)->Prop) (ae:(Nat->Nat->Int)->(Nat->Nat->Int)->(Nat->Nat->Int)->Prop) (h0:a1 q0 D0 U0 V0)
 (hr:∀q D U V,a1 q D U V->(∃i j,t<=i/\i<n/\t<=j/\j<n/\D i j≠0)/\∀p c,uM n t D p c->ID n t ND NU NV q a1 ae (Go.Sm.swp D t p c) (λi j=>U (sx t p i) j) λi j=>V i (sx t c j)):
 aT Tryz.prog 116 #[.pointer (some ⟨z,0,none⟩),.int .i64 (t:Int)] w λv Y=>
  v=.tuple #[]/\Ch (λb=>B<=b) w Y/\Kp w Y/\∃D U V l g o m,ae D U V/\El B Y z E C H n ND NU NV (kz (D t t) t D) (kz (D t t) t U) V l g G o m I:=by
 refine bo (n:=78) Tryz.func116 F rfl az aA ?_;refine Ix 0 q0 (λq f Y=>∃D U V L K O M,f 0=.pointer (some ⟨z,0,none⟩)/\f 1=.int .i64 (t:Int)/\Ch (λb=>B<=b) w Y/\Kp w Y/\El B Y z E C H n ND NU NV D U V L K G O M I/\a1 q D U V)
  ⟨D0,U0,V0,L,K,O,M,F,F,(Ext.refl w).mono λ_ _ h=>h.elim,bJ (Ext.refl w),h,h0⟩ ?_
 clear h h0 D0 U0 V0 L K O M q0;rintro q f w1 ⟨D,U,V,L,K,O,M,Y,v,s,r,h,hI⟩;rw[ui Y,ui v];clear Y v;obtain⟨a1,Y⟩:=hr q D U V hI;refine ge ?_;refine aJ (EW B z E C H n ND NU NV t D U V L K G O M I w1 h aq hn aq a1) ?_;rintro _ w2 ⟨q,p,c,rfl,v⟩;have u:=Y p c v;have hp:=v.kO;have o6:=v.o6;have W:Go.Sm.swp D t p c t t≠0:=by
  have e:Go.Sm.swp D t p c t t=D p c:=by simp only[Go.Sm.swp,Go.Sm.Jf]
  rw[e];exact v.nz
 replace s:=s.trans (q.mono λ_ _ h=>h.elim);replace r:=r.trans (bJ q);replace h:=h.Y q;clear q;refine ge ?_;refine aN ?_;refine ge ?_;refine aJ (wQ B z E C H n ND NU NV t p c D U V L K G O M I w2 h hn d hp o6 aq aq) ?_;rintro _ M ⟨rfl,K,q,l,g,o,m,h3⟩;obtain⟨S,L⟩ : ∃S,S=Go.Sm.swp D t p c:=⟨_,F⟩;obtain⟨U1,eU⟩ : ∃U1,U1=λi j=>U (sx t p i) j:=⟨_,F⟩;obtain⟨V1,p⟩ : ∃V1,V1=λi j=>V i (sx t c j):=⟨_,F⟩;rw[<-L,<-eU,<-p]at u h3;rw[<-L]at W;replace s:=s.trans K;replace r:=r.trans q;clear K q h L eU p v hI Y a1 hp o6 hr;refine ge ?_;refine aN ?_;refine ge ?_;refine aJ (sF B z E C H n ND NU NV t S U1 V1 l g G o m I M h3 hn d W a8 ak u.bP u.bU) ?_;rintro _ w4 ⟨lf,rfl,x,i,c,h4⟩;replace s:=s.trans i;replace r:=r.trans c;clear i c h3;cases lf;rotate_left
 ·rcases x with⟨_,x⟩|⟨x,_⟩;rotate_left
  ·cases x
  obtain⟨q',T,X⟩:=u.a x;refine ge ?_;refine CJ (CK ?_);exact⟨F,q',T,_,_,_,l,g,o,m,F,F,s,r,h4,X⟩
 rcases x with⟨x,_⟩|⟨_,x⟩
 ·cases x
 refine ge ?_;refine aJ (pO B z E C H n ND NU NV t (cR S t n) (iP U1 S t n) V1 l g G o m I w4 h4 hn d (by rw[Go.Sm.iK];exact W) a8 ar (u.bR x) (u.bV x)) ?_;rintro _ w5 ⟨lf,rfl,k,i,c,h5⟩;replace s:=s.trans i;replace r:=r.trans c;clear i c h4;cases lf;rotate_left
 ·rcases k with⟨_,k⟩|⟨k,_⟩;rotate_left
  ·cases k
  obtain⟨q',T,X⟩:=u.b x k;refine ge ?_;refine CJ (CK ?_);exact⟨F,q',T,_,_,_,l,g,o,m,F,F,s,r,h5,X⟩
 rcases k with⟨k,_⟩|⟨_,k⟩
 ·cases k
 obtain⟨R,j⟩ : ∃R,R=red S t n:=⟨_,F⟩;obtain⟨y,i⟩ : ∃y,y=iP U1 S t n:=⟨_,F⟩;obtain⟨V2,c⟩ : ∃V2,V2=jy V1 (cR S t n) t n:=⟨_,F⟩;have A:El B w5 z E C H n ND NU NV R y V2 l g G o m I:=by rw[j,i,c];exact h5
 have p:R t t≠0:=by
  have e:R t t=S t t:=by
   rw[j];show Go.Sm.h_ (cR S t n) t n t t=S t t;rw[H5,Go.Sm.iK]
  rw[e];exact W
 have aj:=u.c x k;have ai:=u.d x k;rw[<-j,<-i,<-c]at aj ai;clear h5 u x k W j i c;refine ge ?_;refine aN ?_;refine ge ?_;refine aJ (rQ B z E C H n ND NU NV t R y V2 l g G o m I w5 A d hn aq p) ?_;rintro _ w6 ⟨c,i⟩;replace s:=s.trans (c.mono λ_ _ h=>h.elim);replace r:=r.trans (bJ c);replace A:=A.Y c;clear c;obtain⟨c,c,c,c,o5⟩:=A.own;rcases i with⟨Z,rfl,an,a6,a7⟩|⟨rfl,a7⟩
 ·obtain⟨O,q',T,X⟩:=aj Z an a6 a7;have S:Bd ND 1:=Bd.mono (N:=1) (by unfold Bd;decide) al;refine ge ?_;refine kX (λb=>b=l t) [(0,3),(1,3),(2,3),(3,0),(4,3),(5,3),(6,1),(7,1)] mixed az λH i _=>?_;have j:=A.Y i;have v:=j.c0;refine ge ?_;refine eQ aw (aX F) F v (by show¬z=l t;have:=j.box.kS (j.d.row t d).2.2.choose_spec.1 aw;exact this) ?_;refine ge ?_;refine jW (du 1 H aw aw) ?_;rintro _ G ⟨c,I,s1,rfl,q⟩;refine⟨c.mono λ_ _ h=>h.elim,?_⟩;have u:=j.Y c;refine ge ?_;refine jW (mm E n n t Z ND ND l o R 1 I s1 G u.d d a6 aq (q.iv S) aq aq a8 λk K=>?_) ?_
  ·have e:=(O k K).1;rw[Go.Sm.qY]at e;rw[Int.one_mul];exact e
  rintro _ L ⟨rfl,p,x,D⟩;refine⟨p,?_⟩;have M:=u.E1 x p (λb e=>.inr ⟨t,d,e⟩) D λt d=>⟨t,d,rfl⟩;have eD:(λa b=>if a=t then R t b+1*R Z b else R a b)=eK R t Z:=by
   funext a b;unfold Go.Sm.eK;rw[Int.one_mul]
  rw[eD]at M;have V:Ch (λb=>B<=b) w L:=s.trans (((i.trans c).mono λ_ _ h=>h.elim).trans (p.mono λb _ e=>by rw[e];exact(o5 t d).1));have U:Kp w L:=r.trans ((bJ (i.trans c)).trans x);clear j v u q p x D i c s r A eD;refine ge ?_;refine kX (λb=>b=g t) [(0,3),(1,3),(2,3),(3,0),(4,3),(5,3),(6,1),(7,1)] mixed az λH i _=>?_;have j:=M.Y i;have x:=j.c1;refine ge ?_;refine eQ aw (aX F) F x (by show¬z=g t;have:=j.box.kS (j.u.row t d).2.2.choose_spec.1 aw;exact this) ?_;refine ge ?_;refine jW (du 1 H aw aw) ?_;rintro _ G ⟨c,I,s1,rfl,q⟩;refine⟨c.mono λ_ _ h=>h.elim,?_⟩;have u:=j.Y c;refine ge ?_;refine jW (mm C n n t Z NU ND g m y 1 I s1 G u.u d a6 aq (q.iv S) aq aq ak λk K=>?_) ?_
  ·have e:=(O k K).2;rw[Go.Sm.qY]at e;rw[Int.one_mul];exact e
  rintro _ wd ⟨rfl,j,k,z⟩;refine⟨j,?_⟩;have p:=u.Js k j (λb e=>.inr ⟨t,d,e⟩) z λt d=>⟨t,d,rfl⟩;have eU:(λa b=>if a=t then y t b+1*y Z b else y a b)=eK y t Z:=by
   funext a b;unfold Go.Sm.eK;rw[Int.one_mul]
  rw[eU]at p;refine ge ?_;refine CJ (CK ?_);exact⟨F,q',T,_,_,_,l,g,o,m,F,F,V.trans (((i.trans c).mono λ_ _ h=>h.elim).trans (j.mono λb _ e=>by rw[e];exact(o5 t d).2.1)),U.trans ((bJ (i.trans c)).trans k),p,X⟩
 have hP:=ai a7;have v:=A.c0;have uh:=A.d.at d;obtain⟨c,c,k,j,i⟩:=(A.d.row t d).at d;refine ge ?_;refine aJ (dw _ _ _ ND w6 i.1 aq) ?_;rintro _ p ⟨c,rfl⟩;have h7:=A.Y c;replace s:=s.trans (c.mono λ_ _ h=>h.elim);replace r:=r.trans (bJ c);clear v uh k j i A c;by_cases J:R t t<0
 ·have q:(R t t).sign<0:=by rw[Int.sign_eq_neg_one_of_neg J];decide
  have v:=h7.c0;refine ge ?_;refine aJ (oE E n n t ND l o R p h7.d d aq aq aq) ?_;rintro _ j ⟨rfl,k,i,c⟩;have p:=h7.E1 i k (λb e=>.inr ⟨t,d,e⟩) c λt d=>⟨t,d,rfl⟩;clear v;have x:=p.c1;refine ge ?_;refine aJ (oE C n n t NU g m y j p.u d aq aq aq) ?_;rintro _ c ⟨rfl,j,c,v⟩;have u:=p.Js c j (λb e=>.inr ⟨t,d,e⟩) v λt d=>⟨t,d,rfl⟩;clear x;have eD:(λa b=>if a=t then -R t b else R a b)=kz (R t t) t R:=by
   funext a b;unfold kz;by_cases e:a=t
   ·rw[ab e,ab ⟨J,e⟩]
   ·rw[aa e,aa λh=>e h.2]
  have eU:(λa b=>if a=t then -y t b else y a b)=kz (R t t) t y:=by
   funext a b;unfold kz;by_cases e:a=t
   ·rw[ab e,ab ⟨J,e⟩]
   ·rw[aa e,aa λh=>e h.2]
  rw[eD,eU]at u;refine ge ?_;exact BA (lP F ⟨F,s.trans ((k.mono λb _ e=>by rw[e];exact(o5 t d).1).trans (j.mono λb _ e=>by rw[e];exact(o5 t d).2.1)),r.trans (i.trans c),R,y,V2,l,g,o,m,hP,u⟩)
 ·have q:¬(R t t).sign<0:=by
   rcases Int.lt_or_le 0 (R t t)with h1|h1
   ·rw[Int.sign_eq_one_of_pos h1];decide
   ·omega
  have eD:∀M,kz (R t t) t M=M:=λM=>by
   funext a b;unfold kz;rw[aa λh=>J h.1]
  refine ge ?_;exact BA (lP F ⟨F,s,r,R,y,V2,l,g,o,m,hP,by rw[eD,eD];exact h7⟩)
end Go.Proofs.Qq
