import Derived.Test.YtmfndnlifgphjaaGreatQzA
import Derived.ScopeJumps
set_option maxHeartbeats 64000000
open Go.Proofs.YtmfndnlifgphjaaGreat
namespace Go.Proofs.Qq
section
open Go Go.cU Go.cV Go.Proofs
open Go.Sm (bo)
theorem iO{P:Program}{n:Nat}{K:Fr->World->Prop}{f:Fr}{w:World}{d ty:Nat}{c:String}{i:Array Edge}{k:Option (Nat×Bool)}{M:Nat->Prop}{g:FuncId}{l:List Operand}{e:Array TypeId}{b:Value->World->Prop}(j:aT P g (l.map (ev n f)).toArray w b)
 (h:∀v a,b v a->Ch M w a/\K (bS f d v) a):R1 P n (Ch M) 1 ⟨some d,.call { callee:=.value (.func g),args:=l.toArray,argTypes:=e },ty,c,i,k⟩ K f w:=
 o_ (.inr F) aA j λv a b=>⟨λ_=>(h v a b).1,(h v a b).2⟩
def fT(U D:Nat->Nat->Int)(t m:Nat):Nat->Nat->Int:=λi j=>if t<i/\i<m then U i j-D i t/D t t*U t j else U i j
theorem DR(U D:Nat->Nat->Int){t i:Nat}(j:Nat):fT U D t i i j=U i j:=aa (by omega)
theorem Gq(U D:Nat->Nat->Int){t i:Nat}(j:Nat):fT U D t i t j=U t j:=aa (by omega)
theorem DS(D:Nat->Nat->Int){t i:Nat}(j:Nat):bo D t i i j=D i j:=aa (by omega)
theorem j5(U D:Nat->Nat->Int){t i:Nat}(b:t<i){z:Int}(c:z=-(D i t/D t t)):(λa b=>if a=i then fT U D t i i b+z*fT U D t i t b else fT U D t i a b)=fT U D t (i+1):=by
 funext a b;rw[DR,Gq,c];unfold fT;by_cases e:a=i
 ·subst e;rw[ae F,ae aq,Int.neg_mul,<-Int.sub_eq_add_neg]
 ·rw[aa e];by_cases h:t<a/\a<i
  ·rw[ae h,ae aq]
  ·rw[aa h,aa aq]
theorem rf(U D:Nat->Nat->Int){t i:Nat}(a:t<i)(b:D i t/D t t=0):fT U D t (i+1)=fT U D t i:=by
 rw[<-j5 U D a (z:=0) aq];funext a b;by_cases e:a=i
 ·subst e;rw[ae F,Int.zero_mul,Int.add_zero]
 ·rw[aa e]
theorem j6(D:Nat->Nat->Int)(t m:Nat):bo D t m=fT D D t m:=F
theorem uw{U D:Nat->Nat->Int}{t i n a b:Nat}(d:i<=n){N:Nat}(h1:Bd N (U a b))(c:Bd N (fT U D t n a b)):Bd N (fT U D t i a b):=by
 unfold fT at*;by_cases h:t<a/\a<i
 ·rw[ae h];rwa[ae aq]at c
 ·rw[aa h];exact h1
def wu(t k:Nat)(r:Nat->Int)(b:Bool):Prop:=(b=true/\∃i,t<i/\i<k/\r i≠0)\/(b=false/\∀i,t<i->i<k->r i=0)
theorem wu.start(t:Nat)(r:Nat->Int):wu t (t+1) r false:=.inr ⟨F,λi a a=>by omega⟩
theorem wu.yes{t k:Nat}{r:Nat->Int}(h:wu t k r true):wu t (k+1) r true:=by
 rcases h with⟨_,i,h1,h2,h3⟩|⟨h,_⟩
 ·exact .inl ⟨F,i,h1,aq,h3⟩
 ·cases h
theorem wu.no{t k:Nat}{r:Nat->Int}(h:wu t k r false)(b:t<k):wu t (k+1) r (decide (¬(r k).sign=0)):=by
 rcases h with⟨h,_⟩|⟨_,h⟩
 ·cases h
 ·by_cases e:r k=0
  ·have a:(r k).sign=0:=by rw[e];rfl
   refine .inr ⟨by simp[a],λi c d=>?_⟩;by_cases d:i=k
   ·rw[d];exact e
   ·exact h i c aq
  ·have a:¬(r k).sign=0:=λx=>e (Int.sign_eq_zero_iff_zero.1 x);exact .inl ⟨by simp[a],k,b,aq,e⟩
theorem pt(B H gD gU gV n ND NU NV t:Nat)(D U V:Nat->Nat->Int)(I G vs cd cu cv:Nat->Nat)(w:World)(h:El B w H gD gU gV n ND NU NV D U V I G vs cd cu cv)(j:n<=16)(A:t<n)(h0:D t t≠0)(av:ND+ND<17592186044416)(au:ND+NU<17592186044416)
 (al:∀i j,i<n->j<n->Bd ND (bo D t n i j)) (ak:∀i j,i<n->j<n->Bd NU (fT U D t n i j)):
 aT Tryz.prog 103 #[.pointer (some ⟨H,0,none⟩),.int .i64 (t:Int)] w λv o=>
  ∃u,v=.bool u/\wu t n (λi=>D i t%D t t) u/\Ch (λb=>B<=b) w o/\Kp w o/\El B o H gD gU gV n ND NU NV (bo D t n) (fT U D t n) V I G vs cd cu cv:=by
 refine bF (n:=74) Tryz.func103 F rfl aw aA ?_;obtain⟨j,j,j,j,o5⟩:=h.own;have bD:∀a b,a<n->b<n->Bd ND (D a b):=λa b T O=>by
  obtain⟨x,y,_,_,hv⟩:=(h.d.row a T).at O;exact hv.1.bd
 have bU:∀a b,a<n->b<n->Bd NU (U a b):=λa b T O=>by
  obtain⟨x,y,_,_,hv⟩:=(h.u.row a T).at O;exact hv.1.bd
 refine ge ?_;refine aX (λf o=>∃u,f 5=.bool (u)/\wu t n (λi=>D i t%D t t) u/\Ch (λb=>B<=b) w o/\Kp w o/\El B o H gD gU gV n ND NU NV (bo D t n) (fT U D t n) V I G vs cd cu cv) ?_ ?_
 ·refine ge ?_;refine aU (λm f o=>∃i u,m=n-i/\t<i/\i<=n/\f 0=.pointer (some ⟨H,0,none⟩)/\f 1=.int .i64 (t:Int)/\f 5=.bool (u)/\f 6=.int .i64 ((i:Nat):Int)/\wu t i (λi=>D i t%D t t) u/\Ch (λb=>B<=b) w o/\Kp w o/\El B o H gD gU gV n ND NU NV (bo D t i) (fT U D t i) V I G vs cd cu cv)
   (n-(t+1)) ⟨t+1,false,F,aq,aq,F,F,F,F,wu.start _ _,(Ext.refl w).mono (λ_ _ h=>h.elim),bN (Ext.refl w),⟨h.box,h.d.congr (λa b _ _=>⟨aD,by unfold bo;rw[aa aq]⟩),h.u.congr (λa b _ _=>⟨aD,by unfold fT;rw[aa aq]⟩),h.v,h.oo,h.rr,h.own⟩⟩ ?_
  clear h;rintro m f L ⟨i,u,rfl,J,j,S,R,C,Q,hL,M,s,r⟩;rw[ui S,ui R,ui C,ui Q];clear S R C Q;refine aP ?_;have f0:=r.c0;by_cases l:i<n;rotate_left
  ·obtain rfl:i=n:=aq;refine ge ?_;exact⟨u,F,hL,M,s,r⟩
  refine ge ?_;have a6:=r.lt;have g:Ext L L:=Ext.refl L;have d:Ext L L:=Ext.refl _;refine ge ?_;refine iq [(0,3),(1,3),(2,3),(3,0),(4,3),(5,3),(6,0),(7,3),(8,3),(9,0),(10,3),(11,3),(12,3),(13,0),(14,3),(15,3),(16,0),(17,3),(18,3),(19,0)] [(20,[(21,3),(22,3),(23,3),(24,3)],[]),(25,[],[]),(26,[],[])] [(27,2),(28,2),(29,3)] mixed aw λa4 c _=>?_;replace d:=d.trans c;replace g:=g.trans c;clear c;replace f0:=aS g f0;have aj:=(r.d.Y g).at l;have qF:=(r.d.Y g).at A;obtain⟨j,j,ai,ab,k⟩:=((r.d.Y g).row i l).at A;obtain⟨j,j,ad,a7,ct⟩:=((r.d.Y g).row t A).at A;rw[DS]at k;rw[Go.Sm.fi]at ct;replace k:=k.1;replace ct:=ct.1;refine ge ?_;refine ge ?_;refine dT [(20,[(21,3),(22,3),(23,3),(24,3)])] [fA 25 7 35 (.agg #[.bool false,.slice none 0 0]),fA 26 8 35 (.agg #[.bool false,.slice none 0 0])] [42,21,43,44,45,7,8] aw (λa T f' o _ _=>by
   rcases List.mem_cons.1 T with rfl|T
   ·exact b_ a_ F f' o
   ·skip;rcases List.mem_singleton.1 T with rfl;exact b_ a_ F f' o) ?_
  have X:=d.size;have a5:=g.size;refine ge ?_;refine cT λa c=>?_;replace d:=d.trans c;replace k:=k.Y c;replace ct:=ct.Y c;replace g:=g.trans c;clear c;refine ge ?_;refine aM (dp _ _ _ _ _ _ ND a k ct aq h0) ?_;rintro _ a ⟨c,c0,c1,c2,a,rfl,E,z⟩;refine⟨c,?_⟩;replace d:=d.trans c;replace k:=k.Y c;replace ct:=ct.Y c;replace g:=g.trans c;clear c;refine ge ?_;refine fM λa c N a2 a3=>?_;replace d:=d.trans c;replace k:=k.Y c;replace ct:=ct.Y c;replace E:=E.Y c;replace z:=z.Y c;replace g:=g.trans c;clear c;obtain⟨K,Z⟩:=a2 _ aG;have K:a4.heap.size<=N 7:=K;have q:Bx a (N 7) 1 true 0:=Bx.zero true Z;obtain⟨e,Y⟩:=a2 _ (List.mem_cons_of_mem _ aG);have e:a4.heap.size<=N 8:=e;have p:Bx a (N 8) 1 true 0:=Bx.zero true Y;have a:N 8≠N 7:=a3 _ _ (List.mem_cons_of_mem _ aG) aG (show(8:Nat)≠7 by decide);show Ro _ _ _ _ _ _ (bS (bS _ 8 (.pointer (some ⟨N 8,0,none⟩))) 7 (.pointer (some ⟨N 7,0,none⟩))) _;generalize N 7=P at*;generalize N 8=W at*;have a:L.heap.size<=P:=aq;have a:L.heap.size<=P:=aq;have a:L.heap.size<=W:=aq;have a:L.heap.size<=W:=aq;clear X;clear a2 a3 a5 Z K Y e;have N:Bd ND (D i t/D t t):=(bD i t l A).ediv;have m:Bd ND (D i t%D t t):=(bD t t A A).emod h0;refine ge ?_;refine aL ag F rfl q (E.ev true N) ?_;intro a q j a v;replace d:=j.aK d λb O=>aq;replace k:=k.kp a;replace ct:=ct.kp a;replace E:=E.kp a;replace z:=z.kp a;replace p:=p.kp a j ah;replace g:=j.aK g λb O=>aq;clear j a v;refine ge ?_;refine aL ag F rfl p (z.ev true m) ?_;intro K p j a v;replace d:=j.aK d λb O=>aq;replace k:=k.kp a;replace ct:=ct.kp a;replace E:=E.kp a;replace z:=z.kp a;replace q:=q.kp a j ah;replace g:=j.aK g λb O=>aq;clear j a v;clear f0 aj qF ai ab ad a7 k ct E z;refine ge ?_;have k:P≠H/\P≠I i/\P≠G i/\W≠I i/\W≠G i/\P≠W:=by
   have:=(a6.2.2.2.2 i l);omega
  refine aX (λf o=>f 0=.pointer (some ⟨H,0,none⟩)/\f 1=.int .i64 (t:Int)/\f 5=.bool (u)/\f 6=.int .i64 (i:Int)/\f 8=.pointer (some ⟨W,0,none⟩)/\Ch (λb=>B<=b) w o/\Kp w o/\El B o H gD gU gV n ND NU NV (bo D t (i+1)) (fT U D t (i+1)) V I G vs cd cu cv/\Bx o W ND true (D i t%D t t)) ?_ ?_
  ·obtain⟨E,z,x,k⟩:=id q;obtain⟨o,m⟩:=a9 x;refine ge ?_;by_cases y:D i t/D t t=0
   ·have T:(D i t/D t t).sign=0:=by rw[y];rfl
    refine ge ?_;refine aJ (cE _ _ _ ND K k.1 aq) ?_;rintro _ W ⟨c,rfl⟩;replace d:=d.trans c;replace q:=q.Y c;replace p:=p.Y c;replace g:=g.trans c;clear c;clear o m;refine ge ?_;refine⟨F,F,F,F,F,M.trans (g.mono λ_ _ h=>h.elim),s.trans (bN g),?_,p⟩;rw[rf U D J y,j6,rf D D J y,<-j6];exact r.Y d
   have T:¬(D i t/D t t).sign=0:=λe=>y (Int.sign_eq_zero_iff_zero.1 e);refine ge ?_;refine aJ (cE _ _ _ ND K k.1 aq) ?_;rintro _ y ⟨c,rfl⟩;replace d:=d.trans c;replace q:=q.Y c;replace p:=p.Y c;replace g:=g.trans c;clear c;clear o m;obtain⟨E,z,x,k⟩:=id q;obtain⟨o,m⟩:=a9 x;refine ge ?_;have x:=k.1;refine ge ?_;refine aJ (iZ _ _ _ ND y x aq) ?_;rintro _ k ⟨c,k,k,rfl,k⟩;replace d:=d.trans c;replace q:=q.Y c;replace p:=p.Y c;replace g:=g.trans c;clear c;clear o m;refine ge ?_;refine aL ag F rfl q (k.ev true N.neg) ?_;intro c q j a v;replace d:=j.aK d λb O=>aq;replace p:=p.kp a j ah;replace k:=k.kp a;replace g:=j.aK g λb O=>aq;clear j a v;clear k;refine ge ?_;obtain⟨z,E⟩ : ∃z,z=-(D i t/D t t):=⟨_,F⟩;rw[<-E]at q;have a:Bd ND z:=by rw[E];exact N.neg
   refine kE (λb=>b=I i) [(0,3),(1,3),(2,3),(3,0),(4,3),(5,3),(6,0),(7,1)] mixed aw λj c _=>?_;have a:=(r.Y d).Y c;have o:=q.Y c;have v:=p.Y c;have f0:=a.c0;obtain⟨O,N,y,x⟩:=id o;refine ge ?_;refine gY ar (aW F) F f0 (by show¬H=I i;have:=a.box.jI (a.d.row i l).2.2.choose_spec.1 ar;exact this) ?_;refine ge ?_;refine eK ar aN F y (by show¬P=I i;omega) ?_;refine ge ?_;refine iO (kv gD n n i t ND ND I cd _ z O N j a.d l A aq x.1 aq aq av λk I=>?_) ?_
   ·have e:=congrFun (congrFun (j5 D D J E) i) k;simp only[ae]at e;rw[j6,e];exact uw aq (bD i k l I) (al i k l I)
   rintro _ T ⟨rfl,j,m,K⟩;refine⟨j,?_⟩;have W:=a.zq m j (λb e=>.inr ⟨i,l,e⟩) K λt A=>⟨t,A,rfl⟩;rw[j6,j5 D D J E]at W;have a2:=o.kp m j aq;have Y:=v.kp m j aq;have a3:Ch (λb=>B<=b) w T:=M.trans (((g.trans c).mono λ_ _ h=>h.elim).trans (j.mono λb _ e=>by rw[e];exact(o5 i l).1));have Z:Kp w T:=s.trans ((bN (g.trans c)).trans m);clear a o v f0 y x j m K c g d q p r M s;refine ge ?_;refine o8 (λb=>b=G i) [(0,3),(1,3),(2,3),(3,0),(4,3),(5,3),(6,0),(7,1)] mixed aw λj c _=>?_;have a:=W.Y c;have o:=a2.Y c;have v:=Y.Y c;have m:=a.c1;obtain⟨O,N,y,x⟩:=id o;refine ge ?_;refine gY ar (aW F) F m (by show¬H=G i;have:=a.box.jI (a.u.row i l).2.2.choose_spec.1 ar;exact this) ?_;refine ge ?_;refine eK ar aN F y (by show¬P=G i;omega) ?_;refine ge ?_;refine iO (kv gU n n i t NU ND G cu _ z O N j a.u l A aq x.1 aq aq au λk I=>?_) ?_
   ·have e:=congrFun (congrFun (j5 U D J E) i) k;simp only[ae]at e;rw[e];exact uw aq (bU i k l I) (ak i k l I)
   rintro _ wd ⟨rfl,j,k,o⟩;refine⟨j,?_⟩;have m:=a.DL k j (λb e=>.inr ⟨i,l,e⟩) o λt A=>⟨t,A,rfl⟩;rw[j5 U D J E,<-j6]at m;have a:=v.kp k j aq;refine ge ?_;exact⟨F,F,F,F,F,a3.trans ((c.mono λ_ _ h=>h.elim).trans (j.mono λb _ e=>by rw[e];exact(o5 i l).2.1)),Z.trans ((bN c).trans k),m,a⟩
  clear g d q p r M s;rintro f w5 ⟨S,R,C,Q,a,M,s,r,p⟩;rw[ui S,ui R,ui C,ui Q,ui a];clear S R C Q a;obtain⟨a,a,a,an⟩:=p;obtain⟨b,b⟩:=a9 a;cases u
  ·refine ge ?_;refine aJ (cE _ _ _ ND w5 an.1 aq) ?_;rintro _ a ⟨a,rfl⟩;refine ge ?_;refine⟨_,?_,i+1,_,F,aq,aq,F,F,F,F,hL.no J,M.trans (a.mono λ_ _ h=>h.elim),s.trans (bN a),r.Y a⟩;omega
  ·refine ge ?_;refine⟨_,?_,i+1,true,F,aq,aq,F,F,F,F,hL.yes,M,s,r⟩;omega
 rintro f L ⟨u,C,hL,M,s,r⟩;rw[ui C];clear C;refine ge ?_;exact cI F rfl ⟨u,F,hL,M,s,r⟩
end
section
open Go Go.cU Go.cV Go.Proofs
open Go.Sm (fe)
def gZ(V D:Nat->Nat->Int)(t m:Nat):Nat->Nat->Int:=λi j=>if t<j/\j<m then V i j-D t j/D t t*V i t else V i j
theorem ES(V D:Nat->Nat->Int){t j:Nat}(i:Nat):gZ V D t j i j=V i j:=aa (by omega)
theorem GV(V D:Nat->Nat->Int){t j:Nat}(i:Nat):gZ V D t j i t=V i t:=aa (by omega)
theorem EU(D:Nat->Nat->Int){t j:Nat}(i:Nat):fe D t j i j=D i j:=aa (by omega)
theorem Co(D:Nat->Nat->Int){t j:Nat}(i:Nat):fe D t j i t=D i t:=aa (by omega)
theorem kc(V D:Nat->Nat->Int){t i:Nat}(a:t<i){z:Int}(c:z=-(D t i/D t t)):(λa b=>if b=i then gZ V D t i a i+z*gZ V D t i a t else gZ V D t i a b)=gZ V D t (i+1):=by
 funext a b;rw[ES,GV,c];unfold gZ;by_cases e:b=i
 ·subst e;rw[ae F,ae aq,Int.neg_mul,<-Int.sub_eq_add_neg]
 ·rw[aa e];by_cases h:t<b/\b<i
  ·rw[ae h,ae aq]
  ·rw[aa h,aa aq]
theorem rG(V D:Nat->Nat->Int){t i:Nat}(a:t<i)(b:D t i/D t t=0):gZ V D t (i+1)=gZ V D t i:=by
 rw[<-kc V D a (z:=0) aq];funext a b;by_cases e:b=i
 ·subst e;rw[ae F,Int.zero_mul,Int.add_zero]
 ·rw[aa e]
theorem ke(D:Nat->Nat->Int)(t m:Nat):fe D t m=gZ D D t m:=F
theorem u9{V D:Nat->Nat->Int}{t i n a b:Nat}(d:i<=n){N:Nat}(h1:Bd N (V a b))(c:Bd N (gZ V D t n a b)):Bd N (gZ V D t i a b):=by
 unfold gZ at*;by_cases h:t<b/\b<i
 ·rw[ae h];rwa[ae aq]at c
 ·rw[aa h];exact h1
theorem m_(B O gD gU Y n ND NU NV t:Nat)(D U V:Nat->Nat->Int)(N us L cd cu cv:Nat->Nat)(w:World)(h:El B w O gD gU Y n ND NU NV D U V N us L cd cu cv)(j:n<=16)(C:t<n)(h0:D t t≠0)(au:ND+ND<17592186044416)(an:ND+NV<17592186044416)
 (ak:∀i j,i<n->j<n->Bd ND (fe D t n i j)) (aj:∀i j,i<n->j<n->Bd NV (gZ V D t n i j)):
 aT Tryz.prog 104 #[.pointer (some ⟨O,0,none⟩),.int .i64 (t:Int)] w λv o=>
  ∃A,v=.bool A/\wu t n (λi=>D t i%D t t) A/\Ch (λb=>B<=b) w o/\Kp w o/\El B o O gD gU Y n ND NU NV (fe D t n) U (gZ V D t n) N us L cd cu cv:=by
 refine bF (n:=77) Tryz.func104 F rfl aw aA ?_;obtain⟨j,j,j,j,o5⟩:=h.own;have bD:∀a b,a<n->b<n->Bd ND (D a b):=λa b S M=>by
  obtain⟨x,y,_,_,hv⟩:=(h.d.row a S).at M;exact hv.1.bd
 have bV:∀a b,a<n->b<n->Bd NV (V a b):=λa b S M=>by
  obtain⟨x,y,_,_,hv⟩:=(h.v.row a S).at M;exact hv.1.bd
 refine ge ?_;refine aX (λf o=>∃A,f 5=.bool (A)/\wu t n (λi=>D t i%D t t) A/\Ch (λb=>B<=b) w o/\Kp w o/\El B o O gD gU Y n ND NU NV (fe D t n) U (gZ V D t n) N us L cd cu cv) ?_ ?_
 ·refine ge ?_;refine aU (λm f o=>∃i A,m=n-i/\t<i/\i<=n/\f 0=.pointer (some ⟨O,0,none⟩)/\f 1=.int .i64 (t:Int)/\f 5=.bool (A)/\f 6=.int .i64 ((i:Nat):Int)/\wu t i (λi=>D t i%D t t) A/\Ch (λb=>B<=b) w o/\Kp w o/\El B o O gD gU Y n ND NU NV (fe D t i) U (gZ V D t i) N us L cd cu cv)
   (n-(t+1)) ⟨t+1,false,F,aq,aq,F,F,F,F,wu.start _ _,(Ext.refl w).mono (λ_ _ h=>h.elim),bN (Ext.refl w),⟨h.box,h.d.congr (λa b _ _=>⟨aD,by unfold fe;rw[aa aq]⟩),h.u,h.v.congr (λa b _ _=>⟨aD,by unfold gZ;rw[aa aq]⟩),h.oo,h.rr,h.own⟩⟩ ?_
  clear h;rintro m f I ⟨i,A,rfl,H,j,R,Q,G,P,hL,J,u,r⟩;rw[ui R,ui Q,ui G,ui P];clear R Q G P;refine aP ?_;have f0:=r.c0;have qF:=r.d.at C;by_cases E:i<n;rotate_left
  ·obtain rfl:i=n:=aq;refine ge ?_;exact⟨A,F,hL,J,u,r⟩
  refine ge ?_;clear qF;have a6:=r.lt;have g:Ext I I:=Ext.refl I;have d:Ext I I:=Ext.refl _;refine ge ?_;refine iq [(0,3),(1,3),(2,3),(3,0),(4,3),(5,3),(6,0),(7,3),(8,3),(9,0),(10,3),(11,3),(12,3),(13,0),(14,3),(15,3),(16,0),(17,3),(18,3),(19,0)] [(20,[(21,3),(22,3),(23,3),(24,3)],[]),(25,[],[]),(26,[],[])] [(27,2),(28,2),(29,3)] mixed aw λa4 c _=>?_;replace d:=d.trans c;replace g:=g.trans c;clear c;replace f0:=aS g f0;have qF:=(r.d.Y g).at C;obtain⟨j,j,ai,ab,k⟩:=((r.d.Y g).row t C).at E;obtain⟨j,j,ad,a7,ct⟩:=((r.d.Y g).row t C).at C;rw[EU]at k;rw[Co]at ct;replace k:=k.1;replace ct:=ct.1;refine ge ?_;refine ge ?_;refine dT [(20,[(21,3),(22,3),(23,3),(24,3)])] [fA 25 7 35 (.agg #[.bool false,.slice none 0 0]),fA 26 8 35 (.agg #[.bool false,.slice none 0 0])] [45,24,46,47,48,7,8] aw (λa S f' o _ _=>by
   rcases List.mem_cons.1 S with rfl|S
   ·exact b_ a_ F f' o
   ·skip;rcases List.mem_singleton.1 S with rfl;exact b_ a_ F f' o) ?_
  have T:=d.size;have a5:=g.size;refine ge ?_;refine cT λa c=>?_;replace d:=d.trans c;replace k:=k.Y c;replace ct:=ct.Y c;replace g:=g.trans c;clear c;refine ge ?_;refine aM (dp _ _ _ _ _ _ ND a k ct aq h0) ?_;rintro _ a ⟨c,c0,c1,c2,a,rfl,s,l⟩;refine⟨c,?_⟩;replace d:=d.trans c;replace k:=k.Y c;replace ct:=ct.Y c;replace g:=g.trans c;clear c;refine ge ?_;refine fM λa c K a2 a3=>?_;replace d:=d.trans c;replace k:=k.Y c;replace ct:=ct.Y c;replace s:=s.Y c;replace l:=l.Y c;replace g:=g.trans c;clear c;obtain⟨z,X⟩:=a2 _ aG;have z:a4.heap.size<=K 7:=z;have q:Bx a (K 7) 1 true 0:=Bx.zero true X;obtain⟨e,W⟩:=a2 _ (List.mem_cons_of_mem _ aG);have e:a4.heap.size<=K 8:=e;have p:Bx a (K 8) 1 true 0:=Bx.zero true W;have a:K 8≠K 7:=a3 _ _ (List.mem_cons_of_mem _ aG) aG (show(8:Nat)≠7 by decide);show Ro _ _ _ _ _ _ (bS (bS _ 8 (.pointer (some ⟨K 8,0,none⟩))) 7 (.pointer (some ⟨K 7,0,none⟩))) _;generalize K 7=gF at*;generalize K 8=Z at*;have a:I.heap.size<=gF:=aq;have a:I.heap.size<=gF:=aq;have a:I.heap.size<=Z:=aq;have a:I.heap.size<=Z:=aq;clear T;clear a2 a3 a5 X z W e;have S:Bd ND (D t i/D t t):=(bD t i C E).ediv;have m:Bd ND (D t i%D t t):=(bD t t C C).emod h0;refine ge ?_;refine aL ag F rfl q (s.ev true S) ?_;intro a q j a v;replace d:=j.aK d λb M=>aq;replace k:=k.kp a;replace ct:=ct.kp a;replace s:=s.kp a;replace l:=l.kp a;replace p:=p.kp a j ah;replace g:=j.aK g λb M=>aq;clear j a v;refine ge ?_;refine aL ag F rfl p (l.ev true m) ?_;intro K p j a v;replace d:=j.aK d λb M=>aq;replace k:=k.kp a;replace ct:=ct.kp a;replace s:=s.kp a;replace l:=l.kp a;replace q:=q.kp a j ah;replace g:=j.aK g λb M=>aq;clear j a v;clear f0 qF ai ab ad a7 k ct s l;refine ge ?_;have x:∀s,s<n->gF≠N s/\gF≠L s/\Z≠N s/\Z≠L s:=λs l=>by
   have:=(a6.2.2.2.2 s l);omega
  refine aX (λf o=>f 0=.pointer (some ⟨O,0,none⟩)/\f 1=.int .i64 (t:Int)/\f 5=.bool (A)/\f 6=.int .i64 (i:Int)/\f 8=.pointer (some ⟨Z,0,none⟩)/\Ch (λb=>B<=b) w o/\Kp w o/\El B o O gD gU Y n ND NU NV (fe D t (i+1)) U (gZ V D t (i+1)) N us L cd cu cv/\Bx o Z ND true (D t i%D t t)) ?_ ?_
  ·obtain⟨T,O,y,k⟩:=id q;obtain⟨o,m⟩:=a9 y;refine ge ?_;by_cases z:D t i/D t t=0
   ·have l:(D t i/D t t).sign=0:=by rw[z];rfl
    refine ge ?_;refine aJ (cE _ _ _ ND K k.1 aq) ?_;rintro _ W ⟨c,rfl⟩;replace d:=d.trans c;replace q:=q.Y c;replace p:=p.Y c;replace g:=g.trans c;clear c;clear o m;refine ge ?_;refine⟨F,F,F,F,F,J.trans (g.mono λ_ _ h=>h.elim),u.trans (bN g),?_,p⟩;rw[rG V D H z,ke,rG D D H z,<-ke];exact r.Y d
   have l:¬(D t i/D t t).sign=0:=λe=>z (Int.sign_eq_zero_iff_zero.1 e);refine ge ?_;refine aJ (cE _ _ _ ND K k.1 aq) ?_;rintro _ z ⟨c,rfl⟩;replace d:=d.trans c;replace q:=q.Y c;replace p:=p.Y c;replace g:=g.trans c;clear c;clear o m;obtain⟨T,O,y,k⟩:=id q;obtain⟨o,m⟩:=a9 y;refine ge ?_;have y:=k.1;refine ge ?_;refine aJ (iZ _ _ _ ND z y aq) ?_;rintro _ k ⟨c,k,k,rfl,k⟩;replace d:=d.trans c;replace q:=q.Y c;replace p:=p.Y c;replace g:=g.trans c;clear c;clear o m;refine ge ?_;refine aL ag F rfl q (k.ev true S.neg) ?_;intro c q j a v;replace d:=j.aK d λb M=>aq;replace p:=p.kp a j ah;replace k:=k.kp a;replace g:=j.aK g λb M=>aq;clear j a v;clear k;refine ge ?_;obtain⟨z,M⟩ : ∃z,z=-(D t i/D t t):=⟨_,F⟩;rw[<-M]at q;have a:Bd ND z:=by rw[M];exact S.neg
   refine kE (λb=>∃s,s<n/\b=N s) [(0,3),(1,3),(2,3),(3,0),(4,3),(5,3),(6,0),(7,1)] mixed aw λj c _=>?_;have a:=(r.Y d).Y c;have o:=q.Y c;have v:=p.Y c;have f0:=a.c0;obtain⟨T,S,K,y⟩:=id o;refine ge ?_;refine gY ar (aW F) F f0 (λ⟨s,l,e⟩=>a.box.jI (a.d.row s l).2.2.choose_spec.1 ar e) ?_;refine ge ?_;refine eK ar aN F K (λ⟨s,l,e⟩=>(x s l).1 e) ?_;refine ge ?_;refine iO (mh gD n n i t ND ND N cd _ z T S j a.d E C aq y.1 aq aq au λk N=>?_) ?_
   ·have e:=congrFun (congrFun (kc D D H M) k) i;simp only[ae]at e;rw[ke,e];exact u9 aq (bD k i N E) (ak k i N E)
   rintro _ W ⟨rfl,j,m,O⟩;refine⟨j,?_⟩;have X:=a.zq m j (λb e=>.inr e) O λt C=>⟨t,C,rfl⟩;rw[ke,kc D D H M]at X;have a4:=o.kp m j λ⟨s,l,e⟩=>(x s l).1 e;have a2:=v.kp m j λ⟨s,l,e⟩=>(x s l).2.2.1 e;have a5:Ch (λb=>B<=b) w W:=J.trans (((g.trans c).mono λ_ _ h=>h.elim).trans (j.mono λb _ e=>by obtain⟨s,l,e⟩:=e;rw[e];exact(o5 s l).1));have a3:Kp w W:=u.trans ((bN (g.trans c)).trans m);clear a o v f0 K y j m O c g d q p r J u;refine ge ?_;refine o8 (λb=>∃s,s<n/\b=L s) [(0,3),(1,3),(2,3),(3,0),(4,3),(5,3),(6,0),(7,1)] mixed aw λj c _=>?_;have a:=X.Y c;have o:=a4.Y c;have v:=a2.Y c;have m:=a.c2;obtain⟨T,S,K,y⟩:=id o;refine ge ?_;refine gY ar (aW F) F m (λ⟨s,l,e⟩=>a.box.jI (a.v.row s l).2.2.choose_spec.1 ar e) ?_;refine ge ?_;refine eK ar aN F K (λ⟨s,l,e⟩=>(x s l).2.1 e) ?_;refine ge ?_;refine iO (mh Y n n i t NV ND L cv _ z T S j a.v E C aq y.1 aq aq an λk N=>?_) ?_
   ·have e:=congrFun (congrFun (kc V D H M) k) i;simp only[ae]at e;rw[e];exact u9 aq (bV k i N E) (aj k i N E)
   rintro _ wd ⟨rfl,j,k,o⟩;refine⟨j,?_⟩;have m:=a.HF k j (λb e=>.inr e) o λt C=>⟨t,C,rfl⟩;rw[kc V D H M,<-ke]at m;have a:=v.kp k j λ⟨s,l,e⟩=>(x s l).2.2.2 e;refine ge ?_;exact⟨F,F,F,F,F,a5.trans ((c.mono λ_ _ h=>h.elim).trans (j.mono λb _ e=>by obtain⟨s,l,e⟩:=e;rw[e];exact(o5 s l).2.2)),a3.trans ((bN c).trans k),m,a⟩
  clear g d q p r J u;rintro f w5 ⟨R,Q,G,P,a,J,u,r,p⟩;rw[ui R,ui Q,ui G,ui P,ui a];clear R Q G P a;obtain⟨a,a,a,al⟩:=p;obtain⟨b,b⟩:=a9 a;cases A
  ·refine ge ?_;refine aJ (cE _ _ _ ND w5 al.1 aq) ?_;rintro _ a ⟨a,rfl⟩;refine ge ?_;refine⟨_,?_,i+1,_,F,aq,aq,F,F,F,F,hL.no H,J.trans (a.mono λ_ _ h=>h.elim),u.trans (bN a),r.Y a⟩;omega
  ·refine ge ?_;refine⟨_,?_,i+1,true,F,aq,aq,F,F,F,F,hL.yes,J,u,r⟩;omega
 rintro f I ⟨A,G,hL,J,u,r⟩;rw[ui G];clear G;refine ge ?_;exact cI F rfl ⟨A,F,hL,J,u,r⟩
end
section
open Go Go.cU Go.cV Go.Proofs
theorem uu(z x y u:Value)(m t:Int)(N:Nat)(w:World)(h1:IV w N z x m)(j:IV w N y u t)(A:m≠0)(B:N<17592186044416):
 aT Tryz.prog 122 #[.agg #[z,x],.agg #[y,u]] w λv o=>Ext w o/\∃b,v=.bool b/\(b=true↔m∣t):=by
 refine bF (n:=23) Tryz.func122 F rfl aw aA ?_;have E:Bd N m:=h1.bd;have D:Bd N t:=j.bd;have d:Ext w w:=Ext.refl w;refine ge ?_;refine aZ (v:=.agg _) (.inl F) F ?_;intro o c a f;have i:bh o w.heap.size 35 #[z,x]:=c;obtain⟨s,e⟩ : ∃g,g=w.heap.size:=⟨_,F⟩;rw[<-e]at i⊢;have C:w.heap.size<=s:=by have:=d.size;omega
 replace h1:=h1.Y a;replace j:=j.Y a;replace d:=d.trans a;clear c f e a;refine ge ?_;refine aZ (v:=.agg _) (.inl F) F ?_;intro p c a f;have q:bh p o.heap.size 35 #[y,u]:=c;obtain⟨r,e⟩ : ∃g,g=o.heap.size:=⟨_,F⟩;rw[<-e]at q⊢;have o:w.heap.size<=r:=by have:=d.size;omega
 have o:s<r:=by have:=i.lt;omega
 replace h1:=h1.Y a;replace j:=j.Y a;replace i:=i.Y a;replace d:=d.trans a;clear c f e a;have l:Bx p s N false m:=⟨z,x,i,h1,λh=>by cases h⟩;have k:Bx p r N false t:=⟨y,u,q,j,λh=>by cases h⟩;clear i q h1 j;refine ge ?_;obtain⟨i,i,i,m⟩:=id l;obtain⟨x,u⟩:=a9 i;obtain⟨i,i,j,i⟩:=id k;obtain⟨t,q⟩:=a9 j;have o:=m.1;have m:=i.1;refine ge ?_;refine ge ?_;refine aJ (dp _ _ _ _ _ _ N p m o B A) ?_;rintro _ y ⟨a,c0,c1,c2,i,rfl,j,i⟩;replace l:=l.Y a;replace k:=k.Y a;replace o:=o.Y a;replace m:=m.Y a;replace d:=d.trans a;clear a;clear x u t q;refine ge ?_;refine aR (.inl F) a_ ?_;intro x c a f;have p:=Bx.zero (N:=1) true c;obtain⟨u,e⟩ : ∃g,g=y.heap.size:=⟨_,F⟩;rw[<-e]at p⊢;have q:w.heap.size<=u:=by have:=d.size;omega
 have q:s<u:=by have:=l.lt;omega
 have q:r<u:=by have:=k.lt;omega
 replace l:=l.Y a;replace k:=k.Y a;replace o:=o.Y a;replace m:=m.Y a;replace j:=j.Y a;replace i:=i.Y a;replace d:=d.trans a;clear c f e a;refine ge ?_;refine aR (.inl F) a_ ?_;intro q c a f;have q:=Bx.zero (N:=1) true c;obtain⟨t,e⟩ : ∃g,g=x.heap.size:=⟨_,F⟩;rw[<-e]at q⊢;have g:w.heap.size<=t:=by have:=d.size;omega
 have g:s<t:=by have:=l.lt;omega
 have g:r<t:=by have:=k.lt;omega
 have g:u<t:=by have:=p.lt;omega
 replace l:=l.Y a;replace k:=k.Y a;replace o:=o.Y a;replace m:=m.Y a;replace j:=j.Y a;replace i:=i.Y a;replace p:=p.Y a;replace d:=d.trans a;clear c f e a;refine ge ?_;refine aL ag F rfl p (j.ev true D.ediv) ?_;intro c p g c f;replace l:=l.kp c g ah;replace k:=k.kp c g ah;replace o:=o.kp c;replace m:=m.kp c;replace j:=j.kp c;replace i:=i.kp c;replace q:=q.kp c g ah;replace d:=g.aK d λb s=>aq;clear g c f;refine ge ?_;refine aL ag F rfl q (i.ev true (E.emod A)) ?_;intro r q g c f;replace l:=l.kp c g ah;replace k:=k.kp c g ah;replace o:=o.kp c;replace m:=m.kp c;replace j:=j.kp c;replace i:=i.kp c;replace p:=p.kp c g ah;replace d:=g.aK d λb s=>aq;clear g c f;refine ge ?_;refine aP ?_;obtain⟨b,b,b,c⟩:=id q;obtain⟨f,e⟩:=a9 b;have b:=c.1;refine ge ?_;refine ge ?_;refine aJ (cE _ _ _ N r b B) ?_;rintro _ c ⟨a,rfl⟩;replace l:=l.Y a;replace k:=k.Y a;replace o:=o.Y a;replace m:=m.Y a;replace j:=j.Y a;replace i:=i.Y a;replace p:=p.Y a;replace q:=q.Y a;replace b:=b.Y a;replace d:=d.trans a;clear a;clear f e;refine ge ?_;exact cI F rfl ⟨d,_,F,decide_eq_true_iff.trans ⟨λh=>Int.dvd_of_emod_eq_zero (Int.sign_eq_zero_iff_zero.1 h),λh=>by rw[Int.emod_eq_zero_of_dvd h];rfl⟩⟩
theorem oK(B x P O N n ND NU NV t:Nat)(D U V:Nat->Nat->Int)(Q L s T S R:Nat->Nat)(w:World)(h:El B w x P O N n ND NU NV D U V Q L s T S R)(A:t<n)(s:n<=16)(K:ND<17592186044416)(M:D t t≠0):
 aT Tryz.prog 105 #[.pointer (some ⟨x,0,none⟩),.int .i64 (t:Int)] w λv l=>Ext w l/\
  ((∃s,v=.tuple #[.int .i64 ((s:Nat):Int),.bool true]/\t<s/\s<n/\∃j,t<j/\j<n/\¬D t t∣D s j)\/(v=.tuple #[.int .i64 ((0:Nat):Int),.bool false]/\∀i j,t<i->i<n->t<j->j<n->D t t∣D i j)):=by
 refine bF (n:=56) Tryz.func105 F rfl aw aA ?_;refine ge ?_;refine aX (λf l=>Ext w l/\∀i j,t<i->i<n->t<j->j<n->D t t∣D i j) ?_ ?_
 ·refine ge ?_;refine aU (λm f l=>∃i,m=n-i/\t<i/\i<=n/\f 0=.pointer (some ⟨x,0,none⟩)/\f 1=.int .i64 (t:Int)/\f 6=.int .i64 ((i:Nat):Int)/\Ext w l/\∀a b,t<a->a<i->t<b->b<n->D t t∣D a b)
   (n-(t+1)) ⟨t+1,F,aq,aq,F,F,F,Ext.refl _,λa b p E=>aq⟩ ?_
  rintro m f z ⟨i,rfl,J,s,k,g,d,c,u⟩;rw[ui k,ui g,ui d];clear k g d;refine aP ?_;have q:=aS c h.c0;by_cases o:i<n;rotate_left
  ·obtain rfl:i=n:=aq;refine ge ?_;exact⟨c,u⟩
  refine ge ?_;clear q;refine aU (λm f l=>∃j,m=n-j/\t<j/\j<=n/\f 0=.pointer (some ⟨x,0,none⟩)/\f 1=.int .i64 (t:Int)/\f 6=.int .i64 (i:Int)/\f 7=.int .i64 ((j:Nat):Int)/\Ext w l/\∀b,t<b->b<j->D t t∣D i b)
   (n-(t+1)) ⟨t+1,F,aq,aq,F,F,F,F,c,λb p E=>aq⟩ ?_
  clear c;rintro m f z ⟨j,rfl,I,l,k,g,d,l,c,H⟩;rw[ui k,ui g,ui d,ui l];clear k g d l;refine aP ?_;have q:=aS c h.c0;have r:=(h.d.Y c).at o;by_cases y:j<n;rotate_left
  ·obtain rfl:j=n:=aq;refine ge ?_;refine⟨_,?_,i+1,F,aq,aq,F,F,F,c,λa b p E g d=>?_⟩
   ·omega
   ·by_cases e:a=i
    ·rw[e];exact H b g d
    ·exact u a b p aq g d
  refine ge ?_;clear q r;have c:Ext w z:=c;refine ge ?_;refine b7 [(0,3),(1,3),(2,3),(3,0),(4,3),(5,3),(6,0),(7,3),(8,3),(9,0),(10,3),(11,3),(12,3),(13,0),(14,3),(15,3),(16,0),(17,3),(18,3),(19,0),(20,1),(21,3)] mixed aw λg a _=>?_;replace c:=c.trans a;clear a;have q:=aS c h.c0;have r:=(h.d.Y c).at o;have qF:=(h.d.Y c).at A;obtain⟨d,d,s,l,d⟩:=((h.d.Y c).row i o).at y;obtain⟨k,k,m,k,ct⟩:=((h.d.Y c).row t A).at A;replace d:=d.1;replace ct:=ct.1;refine ge ?_;refine ge ?_;refine aM (uu _ _ _ _ _ _ ND g ct d M K) ?_;rintro _ d ⟨a,b,rfl,G⟩;refine⟨a,?_⟩;replace c:=c.trans a;clear a;clear q r qF s l m k;cases b;rotate_left
  ·have C:D t t∣D i j:=G.1 F;refine ge ?_;refine⟨_,?_,j+1,F,aq,aq,F,F,F,F,c,λb p E=>?_⟩
   ·omega
   ·by_cases e:b=j
    ·rw[e];exact C
    ·exact H b p aq
  ·have C:¬D t t∣D i j:=λh=>by cases G.2 h
   refine ge ?_;exact fK (v:=.int _ _) (v':=.bool _) F rfl rfl ⟨c,.inl ⟨i,F,J,o,j,I,y,C⟩⟩
 rintro f z ⟨c,u⟩;refine ge ?_;exact fK (v:=.int _ _) (v':=.bool _) F rfl rfl ⟨c,.inr ⟨F,u⟩⟩
end
end Go.Proofs.Qq
namespace Go.cU
open Go
section
variable {P:Program}{n:Nat}{Q:Exit->Fr->World->Prop}{f:Fr}{w:World}
theorem xy{l:Nat}(h:Q (.goto l) f w):W P n (.goto l) Q f w:=by unfold W;exact wp_goto ⟨f,F,h⟩
theorem xz{l:Nat}{next:Fr->World->Prop}(h:Q (.goto l) f w):jY next Q (.goto l) f w:=by unfold jY;exact h
def jmp(l:Nat)(J:Fr->World->Prop)(Q:Exit->Fr->World->Prop):Exit->Fr->World->Prop
 |.goto b,f,w=>b=l/\J f w
 |e,f,w=>Q e f w
theorem wg{l:Nat}{J:Fr->World->Prop}(h:Q .normal f w):jmp l J Q .normal f w:=h
theorem BC{p:Nat->Prop}:∀m,p m->∃k,p k/\∀j,p j->k<=j:=λm=>by
 induction m using Nat.strongRecOn with
 |_ m b=>
  intro d;by_cases h:∃j,j<m/\p j
  ·obtain⟨j,a,c⟩:=h;exact b j a c
  ·exact⟨m,d,λj a=>Nat.le_of_not_lt λb=>h ⟨j,b,a⟩⟩
theorem CI{c:Code}(l h:Nat)(I:Nat->Fr->World->Prop)(k:I h f w)
 (j:∀m f w,I m f w->W P n c (jmp l (λi r=>∃d,d<m/\I d i r) Q) f w):W P n (.scope (.seq (.label l) c)) Q f w:=by
 have first:W P n (.seq (.label l) c) (jmp l (λf w=>∃m,I m f w) Q) f w:=by
  refine aP (yQ (qi ?_));have s:=j h f w k;unfold W at*;refine Code.wp_mono (λe a w b=>?_) s;obtain⟨f,rfl,b⟩:=b;cases e with
  |goto u=>obtain⟨rfl,m,_,g⟩:=b;exact⟨f,F,F,m,g⟩
  |_=>exact⟨f,rfl,b⟩
 obtain⟨μ,q⟩ : ∃μ:Act->World->Nat,∀a w,(∃m f,a=act n f/\I m f w)->(∃f,a=act n f/\I (μ a w) f w)/\∀m f,a=act n f->I m f w->μ a w<=m:=by
  refine⟨λa w=>Classical.epsilon λk=>(∃f,a=act n f/\I k f w)/\∀m f,a=act n f->I m f w->k<=m,λa w ⟨m,f,h,g⟩=>?_⟩;obtain⟨k,v,t⟩:=BC (p:=λk=>∃f,a=act n f/\I k f w) m ⟨f,h,g⟩;exact Classical.epsilon_spec (p:=λk=>(∃f,a=act n f/\I k f w)/\∀m f,a=act n f->I m f w->k<=m) ⟨k,v,λm f h g=>t m ⟨f,h,g⟩⟩
 have x:findLabel (.seq (.label l) c) l=some (.seq .skip c):=by simp[findLabel]
 have o:∀m f w,I m f w->W P n (.seq .skip c) (jmp l (λi r=>∃d,d<m/\I d i r) Q) f w:=λm f w h=>aP (xx (qi (by
  have s:=j m f w h;unfold W at*;exact s)))
 unfold W at*;refine wp_scope_jumps l (λa w=>∃m f,a=act n f/\I m f w) μ x (Code.wp_mono (λe a w b=>?_) first) λa w y=>?_
 ·obtain⟨f,rfl,b⟩:=b;cases e with
  |goto u=>obtain⟨rfl,m,g⟩:=b;exact⟨F,m,f,F,g⟩
  |_=>exact⟨f,rfl,b⟩
 ·obtain⟨⟨f,rfl,g⟩,_⟩:=q a w y;refine Code.wp_mono (λe a w b=>?_) (o _ f w g);obtain⟨i,rfl,b⟩:=b;cases e with
  |goto u=>
   obtain⟨rfl,d,c,a⟩:=b;exact⟨F,⟨d,i,F,a⟩,Nat.lt_of_le_of_lt ((q _ _ ⟨d,i,F,a⟩).2 d i F a) c⟩
  |_=>exact⟨i,rfl,b⟩
end
end Go.cU
namespace Go.Proofs.Qq
open Go Go.cU Go.cV Go.Proofs
open Go.Sm (sx bo red dh nK)
structure CR(n t ND NU NV q:Nat)(Inv:Nat->(Nat->Nat->Int)->(Nat->Nat->Int)->(Nat->Nat->Int)->Prop)(Post:(Nat->Nat->Int)->(Nat->Nat->Int)->(Nat->Nat->Int)->Prop)(S U V:Nat->Nat->Int):Prop where
 bP:∀i j,i<n->j<n->Bd ND (bo S t n i j)
 bU:∀i j,i<n->j<n->Bd NU (fT U S t n i j)
 a:(∃i,t<i/\i<n/\S i t%S t t≠0)->∃q',q'<q/\Inv q' (bo S t n) (fT U S t n) V
 bR:(∀i,t<i->i<n->S i t%S t t=0)->∀i j,i<n->j<n->Bd ND (red S t n i j)
 bV:(∀i,t<i->i<n->S i t%S t t=0)->∀i j,i<n->j<n->Bd NV (gZ V (bo S t n) t n i j)
 b:(∀i,t<i->i<n->S i t%S t t=0)->(∃j,t<j/\j<n/\bo S t n t j%bo S t n t t≠0)->∃q',q'<q/\Inv q' (red S t n) (fT U S t n) (gZ V (bo S t n) t n)
 c:(∀i,t<i->i<n->S i t%S t t=0)->(∀j,t<j->j<n->bo S t n t j%bo S t n t t=0)->∀i0,t<i0->i0<n->(∃j,t<j/\j<n/\¬red S t n t t∣red S t n i0 j)->
  (∀k,k<n->Bd ND (dh (red S t n) t i0 t k)/\Bd NU (dh (fT U S t n) t i0 t k))/\∃q',q'<q/\Inv q' (dh (red S t n) t i0) (dh (fT U S t n) t i0) (gZ V (bo S t n) t n)
 d:(∀i,t<i->i<n->S i t%S t t=0)->(∀j,t<j->j<n->bo S t n t j%bo S t n t t=0)->(∀i j,t<i->i<n->t<j->j<n->red S t n t t∣red S t n i j)->Post (red S t n) (fT U S t n) (gZ V (bo S t n) t n)
def jq(d:Int)(t:Nat)(M:Nat->Nat->Int):Nat->Nat->Int:=λa b=>if d<0/\a=t then -M t b else M a b
theorem AQ(B z E C H n ND NU NV t q0:Nat)(D0 U0 V0:Nat->Nat->Int)(L K G O M I:Nat->Nat)(w:World)(h:El B w z E C H n ND NU NV D0 U0 V0 L K G O M I)(d:t<n)(hn:n<=16)(ab:1<=ND)(a3:ND+ND<17592186044416)(a7:ND+NU<17592186044416)(ai:ND+NV<17592186044416)
 (a0:Nat->(Nat->Nat->Int)->(Nat->Nat->Int)->(Nat->Nat->Int)->Prop) (a4:(Nat->Nat->Int)->(Nat->Nat->Int)->(Nat->Nat->Int)->Prop) (h0:a0 q0 D0 U0 V0)
 (hr:∀q D U V,a0 q D U V->(∃i j,t<=i/\i<n/\t<=j/\j<n/\D i j≠0)/\∀p c,nK n t D p c->CR n t ND NU NV q a0 a4 (Go.Sm.swp D t p c) (λi j=>U (sx t p i) j) λi j=>V i (sx t c j)):
 aT Tryz.prog 77 #[.pointer (some ⟨z,0,none⟩),.int .i64 (t:Int)] w λv Y=>
  v=.tuple #[]/\Ch (λb=>B<=b) w Y/\Kp w Y/\∃D U V l g o m,a4 D U V/\El B Y z E C H n ND NU NV (jq (D t t) t D) (jq (D t t) t U) V l g G o m I:=by
 refine bF (n:=78) Tryz.func77 F rfl aw aA ?_;refine CI 0 q0 (λq f Y=>∃D U V L K O M,f 0=.pointer (some ⟨z,0,none⟩)/\f 1=.int .i64 (t:Int)/\Ch (λb=>B<=b) w Y/\Kp w Y/\El B Y z E C H n ND NU NV D U V L K G O M I/\a0 q D U V)
  ⟨D0,U0,V0,L,K,O,M,F,F,(Ext.refl w).mono λ_ _ h=>h.elim,bN (Ext.refl w),h,h0⟩ ?_
 clear h h0 D0 U0 V0 L K O M q0;rintro q f w1 ⟨D,U,V,L,K,O,M,Y,v,s,r,h,hI⟩;rw[ui Y,ui v];clear Y v;obtain⟨a0,Y⟩:=hr q D U V hI;refine ge ?_;refine aJ (zn B z E C H n ND NU NV t D U V L K G O M I w1 h aq hn aq a0) ?_;rintro _ w2 ⟨q,p,c,rfl,v⟩;have u:=Y p c v;have hp:=v.jv;have ma:=v.ma;have W:Go.Sm.swp D t p c t t≠0:=by
  have e:Go.Sm.swp D t p c t t=D p c:=by simp only[Go.Sm.swp,Go.Sm.uc]
  rw[e];exact v.nz
 replace s:=s.trans (q.mono λ_ _ h=>h.elim);replace r:=r.trans (bN q);replace h:=h.Y q;clear q;refine ge ?_;refine aP ?_;refine ge ?_;refine aJ (sf B z E C H n ND NU NV t p c D U V L K G O M I w2 h hn d hp ma aq aq) ?_;rintro _ M ⟨rfl,K,q,l,g,o,m,h3⟩;obtain⟨S,L⟩ : ∃S,S=Go.Sm.swp D t p c:=⟨_,F⟩;obtain⟨U1,eU⟩ : ∃U1,U1=λi j=>U (sx t p i) j:=⟨_,F⟩;obtain⟨V1,p⟩ : ∃V1,V1=λi j=>V i (sx t c j):=⟨_,F⟩;rw[<-L,<-eU,<-p]at u h3;rw[<-L]at W;replace s:=s.trans K;replace r:=r.trans q;clear K q h L eU p v hI Y a0 hp ma hr;refine ge ?_;refine aP ?_;refine ge ?_;refine aJ (pt B z E C H n ND NU NV t S U1 V1 l g G o m I M h3 hn d W a3 a7 u.bP u.bU) ?_;rintro _ w4 ⟨lf,rfl,x,i,c,h4⟩;replace s:=s.trans i;replace r:=r.trans c;clear i c h3;cases lf;rotate_left
 ·rcases x with⟨_,x⟩|⟨x,_⟩;rotate_left
  ·cases x
  obtain⟨q',T,X⟩:=u.a x;refine ge ?_;refine xy (xz ?_);exact⟨F,q',T,_,_,_,l,g,o,m,F,F,s,r,h4,X⟩
 rcases x with⟨x,_⟩|⟨_,x⟩
 ·cases x
 refine ge ?_;refine aJ (m_ B z E C H n ND NU NV t (bo S t n) (fT U1 S t n) V1 l g G o m I w4 h4 hn d (by rw[Go.Sm.fi];exact W) a3 ai (u.bR x) (u.bV x)) ?_;rintro _ w5 ⟨lf,rfl,k,i,c,h5⟩;replace s:=s.trans i;replace r:=r.trans c;clear i c h4;cases lf;rotate_left
 ·rcases k with⟨_,k⟩|⟨k,_⟩;rotate_left
  ·cases k
  obtain⟨q',T,X⟩:=u.b x k;refine ge ?_;refine xy (xz ?_);exact⟨F,q',T,_,_,_,l,g,o,m,F,F,s,r,h5,X⟩
 rcases k with⟨k,_⟩|⟨_,k⟩
 ·cases k
 obtain⟨R,j⟩ : ∃R,R=red S t n:=⟨_,F⟩;obtain⟨y,i⟩ : ∃y,y=fT U1 S t n:=⟨_,F⟩;obtain⟨V2,c⟩ : ∃V2,V2=gZ V1 (bo S t n) t n:=⟨_,F⟩;have A:El B w5 z E C H n ND NU NV R y V2 l g G o m I:=by rw[j,i,c];exact h5
 have p:R t t≠0:=by
  have e:R t t=S t t:=by
   rw[j];show Go.Sm.fe (bo S t n) t n t t=S t t;rw[Co,Go.Sm.fi]
  rw[e];exact W
 have a6:=u.c x k;have a5:=u.d x k;rw[<-j,<-i,<-c]at a6 a5;clear h5 u x k W j i c;refine ge ?_;refine aP ?_;refine ge ?_;refine aJ (oK B z E C H n ND NU NV t R y V2 l g G o m I w5 A d hn aq p) ?_;rintro _ w6 ⟨c,i⟩;replace s:=s.trans (c.mono λ_ _ h=>h.elim);replace r:=r.trans (bN c);replace A:=A.Y c;clear c;obtain⟨c,c,c,c,o5⟩:=A.own;rcases i with⟨Z,rfl,ad,a1,a2⟩|⟨rfl,a2⟩
 ·obtain⟨O,q',T,X⟩:=a6 Z ad a1 a2;have S:Bd ND 1:=Bd.mono (N:=1) (by unfold Bd;decide) ab;refine ge ?_;refine kE (λb=>b=l t) [(0,3),(1,3),(2,3),(3,0),(4,3),(5,3),(6,1),(7,1)] mixed aw λH i _=>?_;have j:=A.Y i;have v:=j.c0;refine ge ?_;refine gY ar (aW F) F v (by show¬z=l t;have:=j.box.jI (j.d.row t d).2.2.choose_spec.1 ar;exact this) ?_;refine ge ?_;refine iO (fb 1 H ar ar) ?_;rintro _ G ⟨c,I,s1,rfl,q⟩;refine⟨c.mono λ_ _ h=>h.elim,?_⟩;have u:=j.Y c;refine ge ?_;refine iO (kv E n n t Z ND ND l o R 1 I s1 G u.d d a1 aq (q.iv S) aq aq a3 λk K=>?_) ?_
  ·have e:=(O k K).1;rw[Go.Sm.og]at e;rw[Int.one_mul];exact e
  rintro _ L ⟨rfl,p,x,D⟩;refine⟨p,?_⟩;have M:=u.zq x p (λb e=>.inr ⟨t,d,e⟩) D λt d=>⟨t,d,rfl⟩;have eD:(λa b=>if a=t then R t b+1*R Z b else R a b)=dh R t Z:=by
   funext a b;unfold Go.Sm.dh;rw[Int.one_mul]
  rw[eD]at M;have V:Ch (λb=>B<=b) w L:=s.trans (((i.trans c).mono λ_ _ h=>h.elim).trans (p.mono λb _ e=>by rw[e];exact(o5 t d).1));have U:Kp w L:=r.trans ((bN (i.trans c)).trans x);clear j v u q p x D i c s r A eD;refine ge ?_;refine kE (λb=>b=g t) [(0,3),(1,3),(2,3),(3,0),(4,3),(5,3),(6,1),(7,1)] mixed aw λH i _=>?_;have j:=M.Y i;have x:=j.c1;refine ge ?_;refine gY ar (aW F) F x (by show¬z=g t;have:=j.box.jI (j.u.row t d).2.2.choose_spec.1 ar;exact this) ?_;refine ge ?_;refine iO (fb 1 H ar ar) ?_;rintro _ G ⟨c,I,s1,rfl,q⟩;refine⟨c.mono λ_ _ h=>h.elim,?_⟩;have u:=j.Y c;refine ge ?_;refine iO (kv C n n t Z NU ND g m y 1 I s1 G u.u d a1 aq (q.iv S) aq aq a7 λk K=>?_) ?_
  ·have e:=(O k K).2;rw[Go.Sm.og]at e;rw[Int.one_mul];exact e
  rintro _ wd ⟨rfl,j,k,z⟩;refine⟨j,?_⟩;have p:=u.DL k j (λb e=>.inr ⟨t,d,e⟩) z λt d=>⟨t,d,rfl⟩;have eU:(λa b=>if a=t then y t b+1*y Z b else y a b)=dh y t Z:=by
   funext a b;unfold Go.Sm.dh;rw[Int.one_mul]
  rw[eU]at p;refine ge ?_;refine xy (xz ?_);exact⟨F,q',T,_,_,_,l,g,o,m,F,F,V.trans (((i.trans c).mono λ_ _ h=>h.elim).trans (j.mono λb _ e=>by rw[e];exact(o5 t d).2.1)),U.trans ((bN (i.trans c)).trans k),p,X⟩
 have hP:=a5 a2;have v:=A.c0;have qF:=A.d.at d;obtain⟨c,c,k,j,i⟩:=(A.d.row t d).at d;refine ge ?_;refine aJ (cE _ _ _ ND w6 i.1 aq) ?_;rintro _ p ⟨c,rfl⟩;have h7:=A.Y c;replace s:=s.trans (c.mono λ_ _ h=>h.elim);replace r:=r.trans (bN c);clear v qF k j i A c;by_cases J:R t t<0
 ·have q:(R t t).sign<0:=by rw[Int.sign_eq_neg_one_of_neg J];decide
  have v:=h7.c0;refine ge ?_;refine aJ (mg E n n t ND l o R p h7.d d aq aq aq) ?_;rintro _ j ⟨rfl,k,i,c⟩;have p:=h7.zq i k (λb e=>.inr ⟨t,d,e⟩) c λt d=>⟨t,d,rfl⟩;clear v;have x:=p.c1;refine ge ?_;refine aJ (mg C n n t NU g m y j p.u d aq aq aq) ?_;rintro _ c ⟨rfl,j,c,v⟩;have u:=p.DL c j (λb e=>.inr ⟨t,d,e⟩) v λt d=>⟨t,d,rfl⟩;clear x;have eD:(λa b=>if a=t then -R t b else R a b)=jq (R t t) t R:=by
   funext a b;unfold jq;by_cases e:a=t
   ·rw[ae e,ae ⟨J,e⟩]
   ·rw[aa e,aa λh=>e h.2]
  have eU:(λa b=>if a=t then -y t b else y a b)=jq (R t t) t y:=by
   funext a b;unfold jq;by_cases e:a=t
   ·rw[ae e,ae ⟨J,e⟩]
   ·rw[aa e,aa λh=>e h.2]
  rw[eD,eU]at u;refine ge ?_;exact wg (n6 F ⟨F,s.trans ((k.mono λb _ e=>by rw[e];exact(o5 t d).1).trans (j.mono λb _ e=>by rw[e];exact(o5 t d).2.1)),r.trans (i.trans c),R,y,V2,l,g,o,m,hP,u⟩)
 ·have q:¬(R t t).sign<0:=by
   rcases Int.lt_or_le 0 (R t t)with h1|h1
   ·rw[Int.sign_eq_one_of_pos h1];decide
   ·omega
  have eD:∀M,jq (R t t) t M=M:=λM=>by
   funext a b;unfold jq;rw[aa λh=>J h.1]
  refine ge ?_;exact wg (n6 F ⟨F,s,r,R,y,V2,l,g,o,m,hP,by rw[eD,eD];exact h7⟩)
end Go.Proofs.Qq
