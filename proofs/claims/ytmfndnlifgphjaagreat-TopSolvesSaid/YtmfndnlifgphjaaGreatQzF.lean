import Derived.Test.YtmfndnlifgphjaaGreatQzE
set_option maxHeartbeats 64000000
namespace Go.Ap
section
variable {T Dt:Nat}{M:Nat->M3}{m c:Nat->F3}{P:Nat->Nat}{q:Nat->F3->Int}
def UB(M:Nat->M3)(m:Nat->F3)(s V:Nat):Prop:=∀y j k,(mi (M s) (m s) y j k).natAbs<=V
theorem Sq.new(H:Sq T Dt M m c P q){s:Nat}(f:s<T){A C:F3}(o:D3 A (m s) C)(j k:F3):
 ∃e:Int,e.natAbs<=Dt/\(j=c s\/k=c s->e=0)/\M s (m s) (c s)*mi (M (s+1)) A C j k=M (s+1) A (c s)*mi (M s) (m s) C j k-M (s+1) C (c s)*mi (M s) (m s) A j k+e:=by
 have d:=λy=>H.n8 f y;have e:=λx y=>H.st s f x y;have p:M s (m s) (c s)*mi (M (s+1)) A C j k=M (s+1) A (c s)*mi (M s) (m s) C j k-M (s+1) C (c s)*mi (M s) (m s) A j k+(M (s+1) (m s) (c s)*mi (M (s+1)) A C j k-M (s+1) A (c s)*mi (M (s+1)) (m s) C j k+M (s+1) C (c s)*mi (M (s+1)) (m s) A j k):=by
  have n:mi (M (s+1)) (m s) C j k=mi (M s) (m s) C j k:=by simp only[mi,d,e C];grind
  have l:mi (M (s+1)) (m s) A j k=mi (M s) (m s) A j k:=by simp only[mi,d,e A];grind
  rw[n,l,d];omega
 refine⟨_,?_,?_,p⟩
 ·by_cases i:j=c s
  ·subst i;have:M (s+1) (m s) (c s)*mi (M (s+1)) A C (c s) k-M (s+1) A (c s)*mi (M (s+1)) (m s) C (c s) k+M (s+1) C (c s)*mi (M (s+1)) (m s) A (c s) k=0:=by simp only[mi];grind
   rw[this];exact Nat.zero_le _
  ·by_cases g:k=c s
   ·subst g;have:M (s+1) (m s) (c s)*mi (M (s+1)) A C j (c s)-M (s+1) A (c s)*mi (M (s+1)) (m s) C j (c s)+M (s+1) C (c s)*mi (M (s+1)) (m s) A j (c s)=0:=by simp only[mi];grind
    rw[this];exact Nat.zero_le _
   ·by_cases b:j=k
    ·subst b;have:M (s+1) (m s) (c s)*mi (M (s+1)) A C j j-M (s+1) A (c s)*mi (M (s+1)) (m s) C j j+M (s+1) C (c s)*mi (M (s+1)) (m s) A j j=0:=by simp only[mi];grind
     rw[this];exact Nat.zero_le _
    ·have:=H.dt (s:=s+1) f o.sw (show D3 (c s) j k from⟨Ne.symm i,b,Ne.symm g⟩);refine Nat.le_of_eq (Eq.trans (congrArg Int.natAbs ?_) this);simp only[Ap.dt,mi];grind
 ·intro h;rcases h with h|h<;>subst h<;>simp only[mi]<;>grind
theorem Cq{p V D x:Nat}(h:p*x<=(p-1)*V+D)(b:D<p):x<=V:=by
 refine Nat.le_of_lt_succ (Nat.lt_of_mul_lt_mul_left (a:=p) ?_);have b:(p-1)*V+V=p*V:=by
  rw[<-Nat.succ_mul];congr 1;omega
 have b:p*(V+1)=p*V+p:=Nat.mul_succ _ _;show p*x<p*(V+1);omega
theorem grow{sg x rA rC a b e:Int}{p V D:Nat}(h:sg*x=rA*a-rC*b+e)(s:sg.natAbs=p)(k:D<p)(w:e.natAbs<=D)(n:0<=rA/\rA<p)(l:0<=rC/\rC<p)(y:a.natAbs<=V)(w:b.natAbs<=V):
 x.natAbs<=a.natAbs+b.natAbs/\(rA=0\/rC=0\/0<=a*b->x.natAbs<=V):=by
 have j:p*x.natAbs=(rA*a-rC*b+e).natAbs:=by rw[<-h,Int.natAbs_mul,s]
 have v:(rA*a).natAbs<=(p-1)*a.natAbs:=by rw[Int.natAbs_mul];exact Nat.mul_le_mul_right _ aq
 have u:(rC*b).natAbs<=(p-1)*b.natAbs:=by rw[Int.natAbs_mul];exact Nat.mul_le_mul_right _ aq
 have s:(p-1)*a.natAbs<=(p-1)*V:=Nat.mul_le_mul_left _ y;have s:(p-1)*b.natAbs<=(p-1)*V:=Nat.mul_le_mul_left _ w;refine⟨Cq (p:=p) (D:=D) ?_ k,λz=>Cq (p:=p) (D:=D) ?_ k⟩
 ·rw[Nat.mul_add,j];generalize rA*a=i at*;generalize rC*b=f at*;omega
 ·rw[j];have d:(rA*a-rC*b).natAbs<=(p-1)*V:=by
   rcases z with g|g|g
   ·rw[g]at v⊢;generalize rC*b=f at*;omega
   ·rw[g]at u⊢;generalize rA*a=f at*;omega
   ·have t:0<=a/\0<=b\/a<=0/\b<=0:=by
     rcases Int.lt_trichotomy a 0 with d|d|d
     ·refine .inr ⟨aq,Decidable.byContradiction λg=>?_⟩;have:=Int.mul_neg_of_neg_of_pos d (show 0<b by omega);omega
     ·omega
     ·refine .inl ⟨aq,Decidable.byContradiction λg=>?_⟩;have:=Int.mul_neg_of_pos_of_neg d (show b<0 by omega);omega
    rcases t with⟨r,o⟩|⟨r,o⟩
    ·have:=Int.mul_nonneg n.1 r;have:=Int.mul_nonneg l.1 o;generalize rA*a=i at*;generalize rC*b=f at*;omega
    ·have:=Int.mul_nonneg n.1 (show 0<=- a by omega);have:=Int.mul_nonneg l.1 (show 0<=- b by omega);rw[Int.mul_neg]at*;generalize rA*a=i at*;generalize rC*b=f at*;omega
  generalize rA*a-rC*b=i at*;omega
def Ev(M:Nat->M3)(m c:Nat->F3)(s E V:Nat):Prop:=∃A C j k:F3,D3 A (m s) C/\M (s+1) A (c s)≠0/\M (s+1) C (c s)≠0/\mi (M s) (m s) C j k*mi (M s) (m s) A j k<0/\
 V<E*(mi (M s) (m s) C j k).natAbs/\V<E*(mi (M s) (m s) A j k).natAbs
theorem Sq.fj(H:Sq T Dt M m c P q){s:Nat}(a:s<T)(y j k:F3):mi (M (s+1)) (m s) y j k=mi (M s) (m s) y j k:=by
 have d:=λy=>H.n8 a y;have b:=λx y=>H.st s a x y;simp only[mi,d,b y];grind
theorem Sq.ub(H:Sq T Dt M m c P q){s V:Nat}(a:s<T)(h:UB M m s V)(aI:Nat)(g:∀A C j k,D3 A (m s) C->(mi (M (s+1)) A C j k).natAbs<=aI)(d:V<=aI):UB M m (s+1) aI:=by
 intro y j k;have f:=(H.next a).2.1;by_cases e:y=m s
 ·subst e;rw[cS,Int.natAbs_neg,H.fj a];exact Nat.le_trans (h _ _ _) d
 ·by_cases b:y=m (s+1)
  ·subst b;rw[ja];exact Nat.zero_le _
  ·exact g (m (s+1)) y j k ⟨f,Ne.symm e,Ne.symm b⟩
theorem Sq.Jh(H:Sq T Dt M m c P q){s V:Nat}(a:s<T)(h:UB M m s V):UB M m (s+1) (2*V):=by
 refine H.ub a h _ (λA C j k b=>?_) aq;obtain⟨e,d,_,h3⟩:=H.new a b j k;have:=(grow h3 (H.hp s aq) (H.mQ s aq) d (H.rm s a A b.1) (H.rm s a C (Ne.symm b.2.1)) (h _ _ _) (h _ _ _)).1;have:=h C j k;have:=h A j k;omega
theorem Sq.Jv(H:Sq T Dt M m c P q){s V E:Nat}(b:s<T)(n:0<E)(h:UB M m s V)(l:¬Ev M m c s E V):UB M m (s+1) (V+V/E):=by
 refine H.ub b h _ (λA C j k d=>?_) (Nat.le_add_right _ _);obtain⟨e,i,_,h3⟩:=H.new b d j k;have g:=grow h3 (H.hp s aq) (H.mQ s aq) i (H.rm s b A d.1) (H.rm s b C (Ne.symm d.2.1)) (h _ _ _) (h _ _ _);by_cases i:M (s+1) A (c s)=0\/M (s+1) C (c s)=0\/0<=mi (M s) (m s) C j k*mi (M s) (m s) A j k
 ·exact Nat.le_trans (g.2 i) (Nat.le_add_right _ _)
 ·have b:=h C j k;have b:=h A j k;have b:=g.1;have a:∀w,¬V<E*w->w<=V/E:=λw b=>(Nat.le_div_iff_mul_le n).2 (by rw[Nat.mul_comm];omega);have g:¬V<E*(mi (M s) (m s) C j k).natAbs\/¬V<E*(mi (M s) (m s) A j k).natAbs:=by
   refine Decidable.byContradiction λb=>l ⟨A,C,j,k,d,λe=>i (.inl e),λe=>i (.inr (.inl e)),aq,?_,?_⟩
   ·exact Decidable.byContradiction λe=>b (.inl e)
   ·exact Decidable.byContradiction λe=>b (.inr e)
  rcases g with f|f
  ·have:=a _ f;omega
  ·have:=a _ f;omega
end
end Go.Ap
namespace Go.Ap
theorem u6(M:M3)(X A C y l z:F3):mi M X C y l*mi M X A y z-mi M X A y l*mi M X C y z=M X y*dt M X A C y z l:=by
 simp only[mi,dt];grind
theorem B4{f be a b e:Int}{W d E V:Nat}(h:f*b-be*a=e)(j:e.natAbs<=d)(j:be.natAbs<=W)(k:a.natAbs<=V)(l:V<E*b.natAbs)(g:0<V):f.natAbs<=E*W+E*d:=by
 have n:f.natAbs*b.natAbs<=W*V+d:=by
  have i:(be*a).natAbs<=W*V:=fr j k;rw[<-Int.natAbs_mul];generalize f*b=j at*;generalize be*a=j at*;omega
 refine Nat.le_of_not_lt λj=>?_;have i:(E*W+E*d+1)*V<=f.natAbs*(E*b.natAbs):=Nat.mul_le_mul j (Nat.le_of_lt l);have i:f.natAbs*(E*b.natAbs)=E*(f.natAbs*b.natAbs):=Nat.mul_left_comm _ _ _;have i:E*(f.natAbs*b.natAbs)<=E*(W*V+d):=Nat.mul_le_mul_left _ n;have f:(E*W+E*d+1)*V=E*(W*V)+E*d*V+V:=aC;have f:E*d<=E*d*V:=Nat.le_mul_of_pos_right _ g;have f:E*(W*V+d)=E*(W*V)+E*d:=Nat.mul_add _ _ _;omega
theorem B5{d be a b e:Int}{g E V:Nat}(h:d*b-be*a=e)(o:e.natAbs<=g)(o:4*g<=be.natAbs)(p:0<g)(l:a*b<0)(p:V<E*a.natAbs)(r:b.natAbs<=V):d*be<0/\be.natAbs<=2*E*d.natAbs:=by
 have i:0<a.natAbs:=Nat.pos_of_ne_zero λr=>by rw[r,Nat.mul_zero]at p;omega
 have p:4*g*1<=(be*a).natAbs:=by rw[Int.natAbs_mul];exact Nat.mul_le_mul o i
 have k:0<(d*b)*(be*a):=by
  generalize d*b=n at*;generalize be*a=j at*;rcases Int.lt_trichotomy j 0 with f|f|f
  ·exact Int.mul_pos_of_neg_of_neg aq f
  ·omega
  ·exact Int.mul_pos aq f
 have f:(d*b)*(be*a)=(d*be)*(a*b):=aC;rw[f]at k;refine⟨oD k l,?_⟩;have f:be.natAbs*a.natAbs<=2*(d.natAbs*b.natAbs):=by
  rw[<-Int.natAbs_mul,<-Int.natAbs_mul];generalize d*b=n at*;generalize be*a=j at*;omega
 have f:d.natAbs*b.natAbs<=d.natAbs*(E*a.natAbs):=Nat.mul_le_mul_left _ aq;refine Nat.le_of_mul_le_mul_right (c:=a.natAbs) ?_ i;have f:2*E*d.natAbs*a.natAbs=2*(d.natAbs*(E*a.natAbs)):=aC;rw[f];omega
section
variable {T Dt:Nat}{M:Nat->M3}{m c:Nat->F3}{P:Nat->Nat}{q:Nat->F3->Int}
theorem Sq.JF(H:Sq T Dt M m c P q){a b t:Nat}(hw:td P a b)(R:b<=T)(ha:a<=t)(hb:t+6<=b){V E X TT:Nat}(hX:P (t+2)<=X)(hE:1<=E)(wj:4000*E<=TT)(W:UB M m (t+3) V)(hV:E*((TT+1)*(X*X))<=V)(a0:Ev M m c (t+3) E V):
 c (t+2)≠c (t+3)/\∀C,D3 (m (t+2)) (m (t+3)) C->(mi (M (t+4)) (m (t+2)) (m (t+3)) (c (t+2)) (c (t+3))).natAbs<=(TT+1)*(X*X)/\(mi (M (t+4)) (m (t+3)) C (c (t+2)) (c (t+3))).natAbs<=E*((TT+1)*(X*X))+E*(X*X):=by
 have l3:P (t+3)<P (t+2):=(H.next (s:=t+2) aq).1;have n3:m (t+3)≠m (t+2):=(H.next (s:=t+2) aq).2.1;have b3:=H.pos (s:=t+3) aq;have mQ:=H.mQ (t+3) aq;have ev:∃C j k:F3,D3 (m (t+2)) (m (t+3)) C/\M (t+4) (m (t+2)) (c (t+3))≠0/\M (t+4) C (c (t+3))≠0/\mi (M (t+3)) (m (t+3)) C j k*mi (M (t+3)) (m (t+3)) (m (t+2)) j k<0/\
  V<E*(mi (M (t+3)) (m (t+3)) C j k).natAbs/\V<E*(mi (M (t+3)) (m (t+3)) (m (t+2)) j k).natAbs:=by
  obtain⟨A,C,j,k,p,z,r,i,n,l⟩:=a0;rcases p.all (m (t+2))with e|e|e
  ·rw[<-e]at p z i l;exact⟨C,j,k,p,z,r,i,n,l⟩
  ·exact(n3 e.symm).elim
  ·rw[<-e]at p r i n;exact⟨A,j,k,⟨Ne.symm p.2.1,Ne.symm p.1,Ne.symm p.2.2⟩,r,z,by rw[Int.mul_comm];exact i,l,n⟩
 obtain⟨C,j,k,B,z,r,i,n,l⟩:=ev;have Q:c (t+2)≠c (t+3):=λe=>by
  obtain⟨L,D,d3,p⟩:=H.EO hw R (s:=t+2) aq aq e.symm;have a0:M (t+3) (m (t+3)) (c (t+2))=P (t+3):=D;have A:M (t+3) C (c (t+2))=0/\q (t+3) C=0\/M (t+3) C (c (t+2))=P (t+3)/\q (t+3) C=1:=p C (Ne.symm B.2.2) (Ne.symm B.2.1);have p:M (t+4) C (c (t+2))=M (t+3) C (c (t+2))-q (t+3) C*M (t+3) (m (t+3)) (c (t+2)):=H.st (t+3) aq _ _;rw[a0]at p;apply r;rw[<-e,p];rcases A with⟨g,f⟩|⟨g,f⟩<;>rw[g,f]<;>omega
 refine⟨Q,λh U=>?_⟩;have eC:h=C:=by
  rcases B.all h with e|e|e
  ·exact(U.2.2 e.symm).elim
  ·exact(U.2.1 e.symm).elim
  ·exact e
 subst eC;have o:=D3.mk' Q;have p:=λj k=>H.fj (s:=t+3) aq (m (t+2)) j k;have e:=λj k=>H.fj (s:=t+3) aq h j k;have eC:mi (M (t+4)) (m (t+2)) (m (t+3)) (c (t+2)) (c (t+3))=- mi (M (t+3)) (m (t+3)) (m (t+2)) (c (t+2)) (c (t+3)):=by rw[cS];exact congrArg _ (p _ _)
 have A:mi (M (t+4)) (m (t+3)) h (c (t+2)) (c (t+3))=mi (M (t+3)) (m (t+3)) h (c (t+2)) (c (t+3)):=e _ _;have e:0<=M (t+3) (m (t+3)) (c (t+2))/\M (t+3) (m (t+3)) (c (t+2))<P (t+2):=H.rm (t+2) aq _ n3;have e:=H.hp (t+3) aq;have e:=H.hp (t+2) aq;have p:M (t+3) (m (t+2)) (c (t+2))=M (t+2) (m (t+2)) (c (t+2)):=H.n8 (s:=t+2) aq _;rw[<-p]at e;have XX:P (t+2)*P (t+2)<=X*X:=Nat.mul_le_mul hX hX;have e:(M (t+3) (m (t+3)) (c (t+3))*M (t+3) (m (t+2)) (c (t+2))).natAbs<=P (t+3)*P (t+2):=fr aq aq;have e:P (t+3)*P (t+2)<=P (t+2)*P (t+2):=Nat.mul_le_mul_right _ aq;have J:=H.ng hw R ha hb B o (E:=2*E) (TT:=TT) aq aq;rw[eC,A]at J⊢;rw[Int.natAbs_neg]at J⊢;have Y:mi (M (t+3)) (m (t+3)) (m (t+2)) (c (t+2)) (c (t+3))=M (t+3) (m (t+3)) (c (t+2))*M (t+3) (m (t+2)) (c (t+3))-M (t+3) (m (t+3)) (c (t+3))*M (t+3) (m (t+2)) (c (t+2)):=F;have EE:(mi (M (t+3)) (m (t+3)) (m (t+2)) (c (t+2)) (c (t+3))).natAbs<=(TT+1)*(X*X)\/
  (M (t+3) (m (t+3)) (c (t+2))≠0/\TT*P (t+2)<=(M (t+3) (m (t+2)) (c (t+3))).natAbs/\4*(P (t+2)*P (t+3))<=(mi (M (t+3)) (m (t+3)) (m (t+2)) (c (t+2)) (c (t+3))).natAbs):=by
  have e:(TT+1)*(X*X)=TT*(X*X)+X*X:=Nat.succ_mul _ _;by_cases g:M (t+3) (m (t+3)) (c (t+2))=0
  ·refine .inl ?_;rw[Y,g,Int.zero_mul];generalize M (t+3) (m (t+3)) (c (t+3))*M (t+3) (m (t+2)) (c (t+2))=w at*;omega
  ·by_cases f:TT*P (t+2)<=(M (t+3) (m (t+2)) (c (t+3))).natAbs
   ·refine .inr ⟨g,f,?_⟩;have e:=H.le (t+3) aq _ _ g;have k4:P (t+3)*(TT*P (t+2))<=(M (t+3) (m (t+3)) (c (t+2))*M (t+3) (m (t+2)) (c (t+3))).natAbs:=by rw[Int.natAbs_mul];exact Nat.mul_le_mul e f
    have k5:P (t+3)*(TT*P (t+2))=TT*(P (t+2)*P (t+3)):=aC;have k6:5*(P (t+2)*P (t+3))<=TT*(P (t+2)*P (t+3)):=Nat.mul_le_mul_right _ aq;have e:P (t+3)*P (t+2)=P (t+2)*P (t+3):=Nat.mul_comm _ _;rw[Y];generalize M (t+3) (m (t+3)) (c (t+3))*M (t+3) (m (t+2)) (c (t+2))=w at*;generalize M (t+3) (m (t+3)) (c (t+2))*M (t+3) (m (t+2)) (c (t+3))=w1 at*;omega
   ·refine .inl ?_;have k4:(M (t+3) (m (t+3)) (c (t+2))*M (t+3) (m (t+2)) (c (t+3))).natAbs<=P (t+2)*(TT*P (t+2)):=fr aq aq;have k5:P (t+2)*(TT*P (t+2))=TT*(P (t+2)*P (t+2)):=Nat.mul_left_comm _ _ _;have k6:TT*(P (t+2)*P (t+2))<=TT*(X*X):=Nat.mul_le_mul_left _ XX;rw[Y];generalize M (t+3) (m (t+3)) (c (t+3))*M (t+3) (m (t+2)) (c (t+2))=w at*;generalize M (t+3) (m (t+3)) (c (t+2))*M (t+3) (m (t+2)) (c (t+3))=w1 at*;omega
 have V0:0<V:=by
  have:0<X*X:=Nat.mul_pos aq aq;have:1*(1*(X*X))<=E*((TT+1)*(X*X)):=Nat.mul_le_mul hE (Nat.mul_le_mul_right _ aq);omega
 have t1:∀g f:Int,g.natAbs=(mi (M (t+3)) (m (t+3)) h (c (t+2)) (c (t+3))).natAbs->f.natAbs=(mi (M (t+3)) (m (t+3)) (m (t+2)) (c (t+2)) (c (t+3))).natAbs->
  g*f=mi (M (t+3)) (m (t+3)) h (c (t+2)) (c (t+3))*mi (M (t+3)) (m (t+3)) (m (t+2)) (c (t+2)) (c (t+3))->g*f<0->V<E*g.natAbs->V<E*f.natAbs->False:=λg f O N a3 a4 a5 a6=>by
  rcases EE with d|⟨L,D,_⟩
  ·have:E*f.natAbs<=E*((TT+1)*(X*X)):=Nat.mul_le_mul_left _ aq;omega
  ·refine J D L z r (by rw[Int.mul_neg,<-a3];omega) ?_;have:=W (m (t+2)) (c (t+2)) (c (t+3));rw[<-O,Nat.mul_assoc];omega
 have I:∀y e:F3,D3 y e (th (c (t+2)) (c (t+3)))->(M (t+3) (m (t+3)) y).natAbs<=P (t+2)->(mi (M (t+3)) (m (t+3)) h y e).natAbs=(mi (M (t+3)) (m (t+3)) h (c (t+2)) (c (t+3))).natAbs->
  (mi (M (t+3)) (m (t+3)) (m (t+2)) y e).natAbs=(mi (M (t+3)) (m (t+3)) (m (t+2)) (c (t+2)) (c (t+3))).natAbs->
  mi (M (t+3)) (m (t+3)) h y e*mi (M (t+3)) (m (t+3)) (m (t+2)) y e=mi (M (t+3)) (m (t+3)) h (c (t+2)) (c (t+3))*mi (M (t+3)) (m (t+3)) (m (t+2)) (c (t+2)) (c (t+3))->
  ∀g f:Int,(g=mi (M (t+3)) (m (t+3)) h y (th (c (t+2)) (c (t+3)))/\f=mi (M (t+3)) (m (t+3)) (m (t+2)) y (th (c (t+2)) (c (t+3)))\/g=- mi (M (t+3)) (m (t+3)) h y (th (c (t+2)) (c (t+3)))/\f=- mi (M (t+3)) (m (t+3)) (m (t+2)) y (th (c (t+2)) (c (t+3))))->
  g*f<0->V<E*g.natAbs->V<E*f.natAbs->(mi (M (t+3)) (m (t+3)) (m (t+2)) (c (t+2)) (c (t+3))).natAbs<=(TT+1)*(X*X)/\(mi (M (t+3)) (m (t+3)) h (c (t+2)) (c (t+3))).natAbs<=E*((TT+1)*(X*X))+E*(X*X):=λy e x p O N a3 g f A a4 a5 a6=>by
  have cr:=u6 (M (t+3)) (m (t+3)) (m (t+2)) h y e (th (c (t+2)) (c (t+3)));have C:=H.dt (s:=t+3) aq (B.sw) x.FP;have S:(M (t+3) (m (t+3)) y*Ap.dt (M (t+3)) (m (t+3)) (m (t+2)) h y (th (c (t+2)) (c (t+3))) e).natAbs<=P (t+2)*P (t+3):=fr p aq;have v1:=W h y (th (c (t+2)) (c (t+3)));have v2:=W (m (t+2)) y (th (c (t+2)) (c (t+3)));have G:g.natAbs=(mi (M (t+3)) (m (t+3)) h y (th (c (t+2)) (c (t+3)))).natAbs/\f.natAbs=(mi (M (t+3)) (m (t+3)) (m (t+2)) y (th (c (t+2)) (c (t+3)))).natAbs/\g*f=mi (M (t+3)) (m (t+3)) h y (th (c (t+2)) (c (t+3)))*mi (M (t+3)) (m (t+3)) (m (t+2)) y (th (c (t+2)) (c (t+3))):=by
   rcases A with⟨b1,b2⟩|⟨b1,b2⟩
   ·rw[b1,b2];exact⟨F,F,F⟩
   ·rw[b1,b2];exact⟨Int.natAbs_neg _,Int.natAbs_neg _,aC⟩
  rw[G.1]at a5;rw[G.2.1]at a6;rw[G.2.2]at a4;rcases EE with d|⟨L,D,d3⟩
  ·refine⟨d,?_⟩;rw[<-O];rw[<-N]at d;refine B4 cr (Nat.le_trans S ?_) d v1 a6 V0;rw[Nat.mul_comm];omega
  ·have K:=B5 cr S (by rw[N];exact d3) (Nat.mul_pos aq b3) a4 a5 v2;refine(J D L z r (by rw[Int.mul_neg,<-a3];omega) ?_).elim;rw[<-O,<-N];exact K.2
 have hu:(M (t+3) (m (t+3)) (c (t+2))).natAbs<=P (t+2):=aq;have K:(M (t+3) (m (t+3)) (c (t+3))).natAbs<=P (t+2):=aq;rcases o.all j with ej|ej|ej<;>rcases o.all k with Z|Z|Z<;>rw[ej,Z]at i n l
 ·rw[show ∀x,mi (M (t+3)) (m (t+3)) x (c (t+2)) (c (t+2))=0 from λx=>by unfold mi;grind]at i;omega
 ·exact(t1 _ _ F rfl rfl i n l).elim
 ·exact I _ _ o hu F rfl rfl _ _ (.inl ⟨F,F⟩) i n l
 ·exact(t1 _ _ (by rw[cY,Int.natAbs_neg]) (by rw[cY,Int.natAbs_neg]) (by rw[cY,cY (M (t+3)) (m (t+3)) (m (t+2)) (c (t+2))];grind) i n l).elim
 ·rw[show ∀x,mi (M (t+3)) (m (t+3)) x (c (t+3)) (c (t+3))=0 from λx=>by unfold mi;grind]at i;omega
 ·exact I _ _ o.sw K (by rw[cY,Int.natAbs_neg]) (by rw[cY,Int.natAbs_neg]) (by rw[cY,cY (M (t+3)) (m (t+3)) (m (t+2)) (c (t+2))];grind) _ _ (.inl ⟨F,F⟩) i n l
 ·exact I _ _ o hu F rfl rfl _ _ (.inr ⟨cY _ _ _ _ _,cY _ _ _ _ _⟩) i n l
 ·exact I _ _ o.sw K (by rw[cY,Int.natAbs_neg]) (by rw[cY,Int.natAbs_neg]) (by rw[cY,cY (M (t+3)) (m (t+3)) (m (t+2)) (c (t+2))];grind) _ _ (.inr ⟨cY _ _ _ _ _,cY _ _ _ _ _⟩) i n l
 ·rw[show ∀x,mi (M (t+3)) (m (t+3)) x (th (c (t+2)) (c (t+3))) (th (c (t+2)) (c (t+3)))=0 from λx=>by unfold mi;grind]at i;omega
end
end Go.Ap
namespace Go.Ap
theorem Jc{M:M3}{X Y Z l a z:F3}{p Dt be S:Nat}(b:(dt M X Y Z l z a).natAbs=Dt)(g:mi M X Z l a≠0)(h:p*(mi M X Z l z).natAbs<=be*(mi M X Z l a).natAbs+S):
 p*(mi M X Y l z).natAbs<=(be+S)*(mi M X Y l a).natAbs+p*((M X l).natAbs*Dt):=by
 have g:=u6 M X Y Z l a z;have f:0<(mi M X Z l a).natAbs:=aq;have i:(mi M X Z l a).natAbs*(mi M X Y l z).natAbs<=(mi M X Y l a).natAbs*(mi M X Z l z).natAbs+(M X l).natAbs*Dt:=by
  rw[<-b,<-Int.natAbs_mul,<-Int.natAbs_mul,<-Int.natAbs_mul,<-g];omega
 refine Nat.le_of_mul_le_mul_left ?_ f;generalize (mi M X Z l a).natAbs=d at*;generalize (mi M X Z l z).natAbs=D at*;generalize (mi M X Y l a).natAbs=d1 at*;generalize (mi M X Y l z).natAbs=D1 at*;generalize (M X l).natAbs*Dt=e at*;have a:p*(d*D1)<=p*(d1*D+e):=Nat.mul_le_mul_left _ i;have a:d1*(p*D)<=d1*(be*d+S):=Nat.mul_le_mul_left _ h;have a:d1*S*1<=d1*S*d:=Nat.mul_le_mul_left _ f;have a:p*e*1<=p*e*d:=Nat.mul_le_mul_left _ f;have b:d*(p*D1)=p*(d*D1):=Nat.mul_left_comm _ _ _;have a:p*(d1*D+e)=d1*(p*D)+p*e:=aC;have a:d1*(be*d+S)=be*d1*d+d1*S:=aC;have a:d*((be+S)*d1+p*e)=be*d1*d+d1*S*d+p*e*d:=aC;rw[b,a];omega
structure XS(M:Nat->M3)(c:Nat->F3)(P:Nat->Nat)(s:Nat)(u v z:F3)(L N be S:Nat):Prop where
 hz:D3 u v z
 cu:c s=u\/c s=v
 lt:∀x l,l=u\/l=v->(M (s+1) x l).natAbs<=L
 mn:∀x y,(mi (M (s+1)) x y u v).natAbs<=N
 J:∀x y l,l=u\/l=v->P s*(mi (M (s+1)) x y l z).natAbs<=be*(mi (M (s+1)) x y u v).natAbs+S
theorem XS.sw{M:Nat->M3}{c:Nat->F3}{P:Nat->Nat}{s:Nat}{u v z:F3}{L N be S:Nat}(h:XS M c P s u v z L N be S):XS M c P s v u z L N be S:=
 ⟨h.hz.sw,h.cu.symm,λx l a=>h.lt x l a.symm,λx y=>by rw[cY,Int.natAbs_neg];exact h.mn x y,λx y l a=>by rw[cY (M (s+1)) x y u,Int.natAbs_neg];exact h.J x y l a.symm⟩
theorem XS.mono{M:Nat->M3}{c:Nat->F3}{P:Nat->Nat}{s:Nat}{u v z:F3}{L N be S b N' a S':Nat}(h:XS M c P s u v z L N be S)(h1:L<=b)(f:N<=N')(e:be<=a)(d:S<=S'):XS M c P s u v z b N' a S':=
 ⟨h.hz,h.cu,λx l a=>Nat.le_trans (h.lt x l a) h1,λx y=>Nat.le_trans (h.mn x y) f,λx y l a=>Nat.le_trans (h.J x y l a) (Nat.add_le_add (Nat.mul_le_mul_right _ e) d)⟩
theorem oB{A B C:F3}(h:D3 A B C)(M:M3)(f:Int->Int->Prop)(j k g d:F3)(l:f 0 0)(i:∀a b,f a b->f (- a) (- b))(h1:f (mi M A B j k) (mi M A B g d))(p:f (mi M B C j k) (mi M B C g d))(o:f (mi M A C j k) (mi M A C g d))(x y:F3):f (mi M x y j k) (mi M x y g d):=by
 rcases h.all x with e|e|e<;>rcases h.all y with n|n|n<;>subst e<;>subst n
 ·rw[ja,ja];exact l
 ·exact h1
 ·exact o
 ·rw[cS M y x,cS M y x];exact i _ _ h1
 ·rw[ja,ja];exact l
 ·exact p
 ·rw[cS M y x,cS M y x];exact i _ _ o
 ·rw[cS M y x,cS M y x];exact i _ _ p
 ·rw[ja,ja];exact l
section
variable {T Dt:Nat}{M:Nat->M3}{m c:Nat->F3}{P:Nat->Nat}{q:Nat->F3->Int}
theorem Sq.I9(H:Sq T Dt M m c P q){s V:Nat}(f:s<T)(h:UB M m s V)(x y j k:F3):(mi (M (s+1)) x y j k).natAbs<=2*V:=by
 have a:=D3.mk' (GA (m s));have e:∀y,(mi (M (s+1)) (m s) y j k).natAbs<=2*V:=λy=>by rw[H.fj f];have:=h y j k;omega
 have d:D3 (m s+1) (m s) (th (m s) (m s+1)):=a.sw;refine oB d (M (s+1)) (λa _=>a.natAbs<=2*V) j k j k aA (λa b h=>by rw[Int.natAbs_neg];exact h) ?_ (e _) ?_ x y
 ·show(mi _ _ _ _ _).natAbs<=_;rw[cS,Int.natAbs_neg];exact e _
 ·obtain⟨e,a,_,g3⟩:=H.new f d j k;have:=(grow g3 (H.hp s aq) (H.mQ s aq) a (H.rm s f _ d.1) (H.rm s f _ (Ne.symm d.2.1)) (h _ _ _) (h _ _ _)).1;have:=h (th (m s) (m s+1)) j k;have:=h (m s+1) j k;show(mi _ _ _ _ _).natAbs<=_;omega
theorem Sq.IS(H:Sq T Dt M m c P q){s p X a W:Nat}(n:s<=T){u v z:F3}(h:D3 u v z)(i:p<=X)(w:Dt<=X)(r:∀x y j k,(mi (M s) x y j k).natAbs<=a)(o:∀x l,l=u\/l=v->(M s x l).natAbs<=W)
 (x y l:F3) (t:l=u\/l=v):p*(mi (M s) x y l z).natAbs<=X*a*(mi (M s) x y u v).natAbs+X*(W*X):=by
 by_cases b:x=y
 ·subst b;rw[ja];simp
 have k:=D3.mk' b;by_cases e:mi (M s) x y u v=0
 ·have f:mi (M s) x (th x y) u v≠0:=λf=>H.Iu n k h e f;have g:∀l b,D3 l b z->(M s x l).natAbs<=W->mi (M s) x y l b=0->mi (M s) x (th x y) l b≠0->p*(mi (M s) x y l z).natAbs<=X*(W*X):=λl b d C B A=>by
   have j:=Jc (p:=p) (be:=X*a) (S:=0) (H.dt n k d.FP) A (by
    have E:p*(mi (M s) x (th x y) l z).natAbs<=X*a:=Nat.mul_le_mul i (r _ _ _ _);have D:X*a*1<=X*a*(mi (M s) x (th x y) l b).natAbs:=Nat.mul_le_mul_left _ aq;omega)
   rw[B]at j;have b:p*((M s x l).natAbs*Dt)<=X*(W*X):=Nat.mul_le_mul i (Nat.mul_le_mul C w);simp at j;omega
  rw[e];have:p*(mi (M s) x y l z).natAbs<=X*(W*X):=by
   rcases t with d|d<;>subst d
   ·exact g _ _ h (o _ _ (.inl F)) e f
   ·exact g _ _ h.sw (o _ _ (.inr F)) (by rw[cY,e];rfl) (λh=>f (by rw[cY,h];rfl))
  exact Nat.le_trans this (Nat.le_add_left _ _)
 ·have E:p*(mi (M s) x y l z).natAbs<=X*a:=Nat.mul_le_mul i (r _ _ _ _);have D:X*a*1<=X*a*(mi (M s) x y u v).natAbs:=Nat.mul_le_mul_left _ aq;omega
theorem oE{a b p q d:Int}{D E n:Nat}(h:a*b-p*q=d)(e:d.natAbs<=D)(e:p.natAbs*q.natAbs<=E)(f:0<n)(f:n<=b.natAbs):a.natAbs<=D+E:=by
 have f:(p*q).natAbs<=E:=by rw[Int.natAbs_mul];exact e
 have e:a.natAbs*1<=(a*b).natAbs:=by rw[Int.natAbs_mul];exact Nat.mul_le_mul_left _ aq
 generalize a*b=w at*;generalize p*q=e at*;omega
theorem Sq.IB(H:Sq T Dt M m c P q){a b t:Nat}(k:td P a b)(j:b<=T)(y:a<=t)(l:t+6<=b){V E X TT:Nat}(D:P (t+2)<=X)(I:1<=E)(wj:4000*E<=TT)(f:UB M m (t+3) V)(G:E*((TT+1)*(X*X))<=V)(h:Ev M m c (t+3) E V)
 {W:Nat} (g:(E+1)*((TT+1)*(X*X))+(E+1)*(X*X)<=W):∃u v z,XS M c P (t+3) u v z W W (X*(2*V)) (X*(W*X)):=by
 obtain⟨i,g⟩:=H.JF k j y l D I wj f G h;have h:m (t+3)≠m (t+2):=(H.next (s:=t+2) aq).2.1;have j:P (t+3)<P (t+2):=(H.next (s:=t+2) aq).1;have A:=H.pos (s:=t+3) aq;have mQ:=H.mQ (t+3) aq;have d:=D3.mk' (Ne.symm h);have w:=D3.mk' i;obtain⟨p,o⟩:=g _ d;have g:0<X:=aq;have i:0<X*X:=Nat.mul_pos g g;have i:X<=X*X:=Nat.le_mul_of_pos_right _ g;have B:∀i j,i<=P (t+2)->j<=P (t+2)->i*j<=X*X:=λi j g g=>Nat.mul_le_mul aq aq;have g:(E+1)*((TT+1)*(X*X))+(E+1)*(X*X)=E*((TT+1)*(X*X))+E*(X*X)+(TT+1)*(X*X)+X*X:=aC;have g:X*X<=(TT+1)*(X*X):=Nat.le_mul_of_pos_left _ aq;have g:X*X<=E*(X*X):=Nat.le_mul_of_pos_left _ aq;have u:=λj k=>H.fj (s:=t+3) aq (m (t+2)) j k;have l:=λj k=>H.fj (s:=t+3) aq (th (m (t+2)) (m (t+3))) j k;have k:∀y,M (t+4) (m (t+3)) y=M (t+3) (m (t+3)) y:=λy=>H.n8 (s:=t+3) aq y;have i:0<=M (t+3) (m (t+3)) (c (t+2))/\M (t+3) (m (t+3)) (c (t+2))<P (t+2):=H.rm (t+2) aq _ h;have j:0<=M (t+4) (m (t+2)) (c (t+3))/\M (t+4) (m (t+2)) (c (t+3))<P (t+3):=H.rm (t+3) aq _ d.1;have h:0<=M (t+4) (th (m (t+2)) (m (t+3))) (c (t+3))/\M (t+4) (th (m (t+2)) (m (t+3))) (c (t+3))<P (t+3):=H.rm (t+3) aq _ (Ne.symm d.2.1);have g:=H.hp (t+3) aq;rw[<-k]at i g;have C:(mi (M (t+4)) (m (t+2)) (th (m (t+2)) (m (t+3))) (c (t+2)) (c (t+3))).natAbs<=W:=by
  obtain⟨e,g,_,h3⟩:=H.new (s:=t+3) aq d (c (t+2)) (c (t+3));have i:=(grow h3 (H.hp (t+3) aq) mQ g j h (f _ _ _) (f _ _ _)).1;have h:mi (M (t+4)) (m (t+2)) (m (t+3)) (c (t+2)) (c (t+3))=- mi (M (t+3)) (m (t+3)) (m (t+2)) (c (t+2)) (c (t+3)):=by rw[cS];exact congrArg _ (u _ _)
  have g:mi (M (t+4)) (m (t+3)) (th (m (t+2)) (m (t+3))) (c (t+2)) (c (t+3))=mi (M (t+3)) (m (t+3)) (th (m (t+2)) (m (t+3))) (c (t+2)) (c (t+3)):=l _ _;rw[h,Int.natAbs_neg]at p;rw[g]at o;have g:(mi (M (t+4)) (m (t+2)) (th (m (t+2)) (m (t+3))) (c (t+2)) (c (t+3))).natAbs<=(mi (M (t+3)) (m (t+3)) (th (m (t+2)) (m (t+3))) (c (t+2)) (c (t+3))).natAbs+(mi (M (t+3)) (m (t+3)) (m (t+2)) (c (t+2)) (c (t+3))).natAbs:=i;omega
 have r:∀x l,l=c (t+2)\/l=c (t+3)->(M (t+4) x l).natAbs<=W:=λx l g=>by
  rcases g with e|e<;>subst e
  ·rcases d.all x with e|e|e<;>subst e
   ·have:=oE (n:=P (t+3)) (E:=X*X) (show M (t+4) (m (t+2)) (c (t+2))*M (t+4) (m (t+3)) (c (t+3))-M (t+4) (m (t+2)) (c (t+3))*M (t+4) (m (t+3)) (c (t+2))=_ from F) p (B _ _ aq aq) A aq;omega
   ·omega
   ·have:=oE (n:=P (t+3)) (E:=X*X) (show M (t+4) (th (m (t+2)) (m (t+3))) (c (t+2))*M (t+4) (m (t+3)) (c (t+3))-M (t+4) (th (m (t+2)) (m (t+3))) (c (t+3))*M (t+4) (m (t+3)) (c (t+2))=_ from F) (by
     show(mi (M (t+4)) (th (m (t+2)) (m (t+3))) (m (t+3)) (c (t+2)) (c (t+3))).natAbs<=_;rw[cS,Int.natAbs_neg];exact o) (B _ _ aq aq) A aq
    omega
  ·rcases d.all x with e|e|e<;>subst e<;>omega
 refine⟨_,_,_,w,.inr F,r,oB d (M (t+4)) (λa _=>a.natAbs<=W) _ _ (c (t+2)) (c (t+3)) aE (λa b h=>by rw[Int.natAbs_neg];exact h) (Nat.le_trans p aq) (Nat.le_trans o aq) C,?_⟩;exact H.IS (s:=t+4) aq w aq aq (H.I9 (s:=t+3) aq f) r
end
end Go.Ap
namespace Go.Ap
theorem ie{a b p q d:Int}{D n:Nat}(h:a*b-p*q=d)(e:d.natAbs<=D)(f:p.natAbs<=n)(e:0<n)(g:n<=b.natAbs):a.natAbs<=D+q.natAbs:=by
 refine Nat.le_of_mul_le_mul_left ?_ e;have i:(p*q).natAbs<=n*q.natAbs:=by rw[Int.natAbs_mul];exact Nat.mul_le_mul_right _ f
 have f:n*a.natAbs<=(a*b).natAbs:=by rw[Int.natAbs_mul,Nat.mul_comm];exact Nat.mul_le_mul_left _ g
 have f:D*1<=D*n:=Nat.mul_le_mul_left _ e;have e:n*(D+q.natAbs)=D*n+n*q.natAbs:=by rw[Nat.mul_add,Nat.mul_comm n D]
 rw[e];generalize a*b=w at*;generalize p*q=e at*;generalize n*q.natAbs=e at*;generalize n*a.natAbs=e at*;generalize D*n=e at*;omega
section
variable {T Dt:Nat}{M:Nat->M3}{m c:Nat->F3}{P:Nat->Nat}{q:Nat->F3->Int}
theorem Sq.EE(H:Sq T Dt M m c P q){t X TT:Nat}(a:t+3<=T)(a:P (t+2)<=X):
 (mi (M (t+3)) (m (t+3)) (m (t+2)) (c (t+2)) (c (t+3))).natAbs<=(TT+1)*(X*X)\/(M (t+3) (m (t+3)) (c (t+2))≠0/\TT*P (t+2)<=(M (t+3) (m (t+2)) (c (t+3))).natAbs):=by
 have e:P (t+3)<P (t+2):=(H.next (s:=t+2) aq).1;have e:m (t+3)≠m (t+2):=(H.next (s:=t+2) aq).2.1;have f:0<=M (t+3) (m (t+3)) (c (t+2))/\M (t+3) (m (t+3)) (c (t+2))<P (t+2):=H.rm (t+2) aq _ e;have e:=H.hp (t+3) aq;have e:=H.hp (t+2) aq;have f:M (t+3) (m (t+2)) (c (t+2))=M (t+2) (m (t+2)) (c (t+2)):=H.n8 (s:=t+2) aq _;rw[<-f]at e;have g:P (t+2)*P (t+2)<=X*X:=Nat.mul_le_mul a a;have a:(M (t+3) (m (t+3)) (c (t+3))*M (t+3) (m (t+2)) (c (t+2))).natAbs<=P (t+3)*P (t+2):=fr aq aq;have a:P (t+3)*P (t+2)<=P (t+2)*P (t+2):=Nat.mul_le_mul_right _ aq;have b:mi (M (t+3)) (m (t+3)) (m (t+2)) (c (t+2)) (c (t+3))=M (t+3) (m (t+3)) (c (t+2))*M (t+3) (m (t+2)) (c (t+3))-M (t+3) (m (t+3)) (c (t+3))*M (t+3) (m (t+2)) (c (t+2)):=F;have a:(TT+1)*(X*X)=TT*(X*X)+X*X:=Nat.succ_mul _ _;by_cases d:M (t+3) (m (t+3)) (c (t+2))=0
 ·refine .inl ?_;rw[b,d,Int.zero_mul];generalize M (t+3) (m (t+3)) (c (t+3))*M (t+3) (m (t+2)) (c (t+2))=w at*;omega
 ·by_cases a:TT*P (t+2)<=(M (t+3) (m (t+2)) (c (t+3))).natAbs
  ·exact .inr ⟨d,a⟩
  ·refine .inl ?_;have a:(M (t+3) (m (t+3)) (c (t+2))*M (t+3) (m (t+2)) (c (t+3))).natAbs<=P (t+2)*(TT*P (t+2)):=fr aq aq;have a:P (t+2)*(TT*P (t+2))=TT*(P (t+2)*P (t+2)):=Nat.mul_left_comm _ _ _;have a:TT*(P (t+2)*P (t+2))<=TT*(X*X):=Nat.mul_le_mul_left _ g;rw[b];generalize M (t+3) (m (t+3)) (c (t+3))*M (t+3) (m (t+2)) (c (t+2))=w at*;generalize M (t+3) (m (t+3)) (c (t+2))*M (t+3) (m (t+2)) (c (t+3))=a at*;omega
theorem Sq.I6(H:Sq T Dt M m c P q){a b s:Nat}(g:td P a b)(d:b<=T)(j:a<=s)(i:s+2<=b)(h:c (s+1)=c s){C:F3}(h1:C≠m s)(k:C≠m (s+1)):M (s+2) C (c s)=0:=by
 obtain⟨l,n,l,l⟩:=H.EO g d j i h;have d:M (s+2) C (c s)=M (s+1) C (c s)-q (s+1) C*M (s+1) (m (s+1)) (c s):=H.st (s+1) aq _ _;rw[d,n];rcases l C h1 k with⟨f,e⟩|⟨f,e⟩<;>rw[f,e]<;>omega
theorem Sq.HP(H:Sq T Dt M m c P q){a b t:Nat}(B:td P a b)(r:b<=T)(J:a<=t)(I:t+6<=b){X TT E N:Nat}(K:P (t+2)<=X)(D:1<=E)(wj:2000*E<=TT){u v:F3}
 (U:c (t+2)=u\/c (t+2)=v) (S:c (t+3)=u\/c (t+3)=v) (k:∀y,(mi (M (t+3)) (m (t+3)) y u v).natAbs<=N) (C:F3) (i:D3 (m (t+2)) (m (t+3)) C):
 (mi (M (t+4)) (m (t+2)) C u v).natAbs<=N+N/E+(TT+1)*(X*X):=by
 obtain⟨e,O,_,h3⟩:=H.new (s:=t+3) aq i u v;have y:0<=M (t+4) (m (t+2)) (c (t+3))/\M (t+4) (m (t+2)) (c (t+3))<P (t+3):=H.rm (t+3) aq _ i.1;have o:0<=M (t+4) C (c (t+3))/\M (t+4) C (c (t+3))<P (t+3):=H.rm (t+3) aq _ (Ne.symm i.2.1);have g:=grow h3 (H.hp (t+3) aq) (H.mQ (t+3) aq) O y o (k _) (k _);by_cases o:M (t+4) (m (t+2)) (c (t+3))=0\/M (t+4) C (c (t+3))=0\/0<=mi (M (t+3)) (m (t+3)) C u v*mi (M (t+3)) (m (t+3)) (m (t+2)) u v
 ·exact Nat.le_trans (g.2 o) (by rw[Nat.add_assoc];exact Nat.le_add_right _ _)
 have L:M (t+4) (m (t+2)) (c (t+3))≠0:=λe=>o (.inl e);have x:M (t+4) C (c (t+3))≠0:=λe=>o (.inr (.inl e));have y:mi (M (t+3)) (m (t+3)) C u v*mi (M (t+3)) (m (t+3)) (m (t+2)) u v<0:=by
  have:¬0<=mi (M (t+3)) (m (t+3)) C u v*mi (M (t+3)) (m (t+3)) (m (t+2)) u v:=λe=>o (.inr (.inr e));omega
 have n:c (t+2)≠c (t+3):=λe=>x (by
  have:=H.I6 B r (s:=t+2) aq aq e.symm (Ne.symm i.2.2) (Ne.symm i.2.1);rw[<-e];exact this)
 have e:(mi (M (t+4)) (m (t+2)) C u v).natAbs<=(mi (M (t+3)) (m (t+3)) C u v).natAbs+(mi (M (t+3)) (m (t+3)) (m (t+2)) u v).natAbs:=g.1;have z:∀l j:Int,l.natAbs=(mi (M (t+3)) (m (t+3)) C u v).natAbs->j.natAbs=(mi (M (t+3)) (m (t+3)) (m (t+2)) u v).natAbs->l*j=mi (M (t+3)) (m (t+3)) C u v*mi (M (t+3)) (m (t+3)) (m (t+2)) u v->
  l=mi (M (t+3)) (m (t+3)) C (c (t+2)) (c (t+3))->j=mi (M (t+3)) (m (t+3)) (m (t+2)) (c (t+2)) (c (t+3))->(mi (M (t+4)) (m (t+2)) C u v).natAbs<=N+N/E+(TT+1)*(X*X):=λl j e W V G A=>by
  have e:=k C;have e:=k (m (t+2));rcases H.EE (t:=t) (X:=X) (TT:=TT) aq K with d|⟨R,Q⟩
  ·rw[<-A,W]at d;generalize N/E=w at*;omega
  ·by_cases g:j.natAbs<=E*l.natAbs
   ·have e:=λj k=>H.fj (s:=t+3) aq (m (t+2)) j k;have o:=λj k=>H.fj (s:=t+3) aq C j k;have d:mi (M (t+4)) (m (t+2)) (m (t+3)) (c (t+2)) (c (t+3))=- mi (M (t+3)) (m (t+3)) (m (t+2)) (c (t+2)) (c (t+3)):=by rw[cS];exact congrArg _ (e _ _)
    have e:mi (M (t+4)) (m (t+3)) C (c (t+2)) (c (t+3))=mi (M (t+3)) (m (t+3)) C (c (t+2)) (c (t+3)):=o _ _;refine(H.ng B r J I i (D3.mk' n) D wj Q R L x ?_ ?_).elim
    ·rw[d,e,<-G,<-A,Int.mul_neg,V];omega
    ·rw[d,e,<-G,<-A,Int.natAbs_neg];exact g
   ·have d:l.natAbs<=N/E:=(Nat.le_div_iff_mul_le D).2 (by rw[Nat.mul_comm];omega);generalize N/E=w at*;generalize (TT+1)*(X*X)=d at*;omega
 rcases U with h|h<;>rcases S with f|f
 ·exact(n (h.trans f.symm)).elim
 ·exact z _ _ (by rw[h,f]) (by rw[h,f]) (by rw[h,f]) F rfl
 ·exact z _ _ (by rw[h,f,cY,Int.natAbs_neg]) (by rw[h,f,cY,Int.natAbs_neg]) (by rw[h,f,cY,cY (M (t+3)) (m (t+3)) (m (t+2)) u];grind) F rfl
 ·exact(n (h.trans f.symm)).elim
theorem Sq.FH(H:Sq T Dt M m c P q){a b t:Nat}(Y:td P a b)(U:b<=T)(ha:a<=t)(hb:t+6<=b){X TT E L N be S:Nat}(hX:P (t+2)<=X)(hE:1<=E)(wj:2000*E<=TT){u v z:F3}(h:XS M c P (t+2) u v z L N be S)
 (G:c (t+3)=u\/c (t+3)=v) (j:X<=L) (hS:X*((N+L)*X)<=S):XS M c P (t+3) u v z (N+L) (N+N/E+(TT+1)*(X*X)) (be+S) S:=by
 have W:P (t+3)<P (t+2):=(H.next (s:=t+2) aq).1;have j:m (t+3)≠m (t+2):=(H.next (s:=t+2) aq).2.1;have b3:=H.pos (s:=t+3) aq;have k:=H.mQ (t+3) aq;have g:=D3.mk' (Ne.symm j);have j:=H.hp (t+3) aq;have I:∀y,M (t+4) (m (t+3)) y=M (t+3) (m (t+3)) y:=λy=>H.n8 (s:=t+3) aq y;have r:=λy j k=>H.fj (s:=t+3) aq y j k;have o:∀y j k,mi (M (t+4)) (m (t+3)) y j k=mi (M (t+3)) (m (t+3)) y j k:=r;have V:∀x,x≠m (t+3)->0<=M (t+4) x (c (t+3))/\M (t+4) x (c (t+3))<P (t+3):=λx j=>H.rm (t+3) aq x j;have k:∀l,l=u\/l=v->(M (t+4) (m (t+3)) l).natAbs<=L:=λl f=>by rw[I];exact h.lt _ l f
 have C:∀y,(mi (M (t+4)) (m (t+3)) y u v).natAbs<=N:=λy=>by rw[o];exact h.mn _ y
 have K:∀x l,l=u\/l=v->(M (t+4) x l).natAbs<=N+L:=λx l f=>by
  by_cases j:x=m (t+3)
  ·rw[j];have:=k l f;omega
  ·have r:=V x j;by_cases e:l=c (t+3)
   ·rw[e];omega
   ·have j:=k l f;have J:=C x;have R:P (t+3)<=(M (t+4) (m (t+3)) (c (t+3))).natAbs:=by rw[I];omega
    have Z:(mi (M (t+4)) x (m (t+3)) l (c (t+3))).natAbs<=N:=by
     rw[cS,Int.natAbs_neg];rcases f with d|d<;>rcases G with i|i
     ·exact(e (d.trans i.symm)).elim
     ·rw[d,i];exact J
     ·rw[d,i,cY,Int.natAbs_neg];exact J
     ·exact(e (d.trans i.symm)).elim
    have:=ie (n:=P (t+3)) (show M (t+4) x l*M (t+4) (m (t+3)) (c (t+3))-M (t+4) x (c (t+3))*M (t+4) (m (t+3)) l=_ from F) Z aq b3 R;omega
 have Q:=H.HP Y U ha hb hX hE wj h.cu G (λy=>h.mn _ y) _ g;have d:∀y l,l=u\/l=v->P (t+3)*(mi (M (t+4)) (m (t+3)) y l z).natAbs<=be*(mi (M (t+4)) (m (t+3)) y u v).natAbs+S:=λy l f=>by
  rw[o,o];exact Nat.le_trans (Nat.mul_le_mul_right _ (Nat.le_of_lt W)) (h.J _ _ l f)
 have B:∀y l,l=u\/l=v->P (t+3)*(mi (M (t+4)) (m (t+3)) y l z).natAbs<=(be+S)*(mi (M (t+4)) (m (t+3)) y u v).natAbs+S:=λy l f=>
  Nat.le_trans (d y l f) (Nat.add_le_add_right (Nat.mul_le_mul_right _ (Nat.le_add_right _ _)) _)
 have O:∀x y l,D3 x y (m (t+3))->mi (M (t+4)) x (m (t+3)) u v≠0->l=u\/l=v->P (t+3)*(mi (M (t+4)) x y l z).natAbs<=(be+S)*(mi (M (t+4)) x y u v).natAbs+S:=λx y l w A f=>by
  have j:P (t+3)*((M (t+4) x l).natAbs*Dt)<=S:=Nat.le_trans (Nat.mul_le_mul aq (Nat.mul_le_mul (K x l f) aq)) hS;have D:=d x l f;rw[<-Int.natAbs_neg,<-cS,<-Int.natAbs_neg (mi _ _ _ u v),<-cS]at D;rcases f with e|e<;>subst e
  ·have:=Jc (p:=P (t+3)) (be:=be) (S:=S) (H.dt (s:=t+4) aq w h.hz.FP) A D;omega
  ·have:=Jc (p:=P (t+3)) (be:=be) (S:=S) (H.dt (s:=t+4) aq w h.hz.sw.FP) (λe=>A (by rw[cY,e];rfl)) (by rw[cY (M (t+4)) x (m (t+3)) u,Int.natAbs_neg];exact D);rw[cY (M (t+4)) x y u,Int.natAbs_neg]at this;omega
 refine⟨h.hz,G,K,oB g (M (t+4)) (λa _=>a.natAbs<=N+N/E+(TT+1)*(X*X)) _ _ u v aE (λa b h=>by rw[Int.natAbs_neg];exact h) ?_ ?_ Q,λx y l f=>?_⟩
 ·rw[cS,Int.natAbs_neg];exact Nat.le_trans (C _) (by rw[Nat.add_assoc];exact Nat.le_add_right _ _)
 ·exact Nat.le_trans (C _) (by rw[Nat.add_assoc];exact Nat.le_add_right _ _)
 ·refine oB g (M (t+4)) (λd D=>P (t+3)*D.natAbs<=(be+S)*d.natAbs+S) u v l z aA (λa b h=>by rw[Int.natAbs_neg,Int.natAbs_neg];exact h) ?_ (B _ l f) ?_ x y
  ·show _<=_;rw[cS,Int.natAbs_neg,cS (M (t+4)) _ _ u,Int.natAbs_neg];exact B _ l f
  ·by_cases e:mi (M (t+4)) (m (t+2)) (m (t+3)) u v=0
   ·have i:mi (M (t+4)) (th (m (t+2)) (m (t+3))) (m (t+3)) u v≠0:=λi=>H.Iu (s:=t+4) aq g.sw h.hz (by rw[cS,e];rfl) (by rw[cS,i];rfl);have:=O (th (m (t+2)) (m (t+3))) (m (t+2)) l ⟨Ne.symm g.2.2,g.1,Ne.symm g.2.1⟩ i f;rw[cS,Int.natAbs_neg,cS (M (t+4)) _ _ u,Int.natAbs_neg]at this;exact this
   ·exact O _ _ l ⟨g.2.2,Ne.symm g.2.1,g.1⟩ e f
end
end Go.Ap
