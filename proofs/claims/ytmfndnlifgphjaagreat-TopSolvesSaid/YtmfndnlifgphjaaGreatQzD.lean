import Derived.Test.YtmfndnlifgphjaaGreatQzC
import Derived.Lib.MinMax
set_option maxHeartbeats 64000000
open Go.Proofs.YtmfndnlifgphjaaGreat
namespace Go.Proofs.Qq
section
open Go Go.cU Go.cV Go.Proofs
open Go.bc (aQ mul)
open Go.Hn (Hf)
theorem G9:dL Tryz.prog 108 3=true:=by kernel_rfl
theorem IA:im Tryz.prog 108 (.agg #[.slice none 0 0,.slice none 0 0,.slice none 0 0]):=by unfold im;kernel_rfl
section
variable {n:Nat}{S:World->World->Prop}{k:Nat}{K:Fr->World->Prop}{f:Fr}{w:World}{d ty:Nat}{x y z:Operand}{pos:String}{aft:Array Edge}{gd:Option (Nat×Bool)}
theorem Df{A B C:Option Addr}{p q c b r a:Nat}(j:ev n f x=.slice A p q)(g:ev n f y=.slice B c b)(e:ev n f z=.slice C r a)(h:K (bS f d (.agg #[.slice A p q,.slice B c b,.slice C r a])) w):
 R1 Tryz.prog n S k ⟨some d,.build 108 #[(0,x),(1,y),(2,z)],ty,pos,aft,gd⟩ K f w:=by
 refine cD (v:=.agg #[.slice A p q,.slice B c b,.slice C r a]) (λw=>?_) h;have l:(#[(0,x),(1,y),(2,z)]:Array (Nat×Operand)).map (λ(i,x)=>(i,ev n f x))=#[(0,.slice A p q),(1,.slice B c b),(2,.slice C r a)]:=by simp[j,g,e]
 have g:(Value.slice A p q).cells=#[.slice A p q]:=F;have e:(Value.slice B c b).cells=#[.slice B c b]:=F;have b:(Value.slice C r a).cells=#[.slice C r a]:=F;have a:(Value.agg #[.slice none 0 0,.slice none 0 0,.slice none 0 0]).cells=#[.slice none 0 0,.slice none 0 0,.slice none 0 0]:=F;simp[execOp,l,Instr.build,run_underlying Tryz.underlying108,Instr.fill,g,e,b,a,cQ lS]
theorem Ho{t e:Nat}{a b:Nat}(i:ev n f x=.int .i64 (a:Int))(g:ev n f y=.int .i64 (b:Int))(c:a=b)(h:K (bS f d (.int .i64 (a:Int))) w):
 R1 Tryz.prog n S k ⟨some d,.call { callee:=.builtin .min,args:=#[x,y],argTypes:=#[t,e] },ty,pos,aft,gd⟩ K f w:=by
 refine cD (v:=.int .i64 (a:Int)) (λw=>?_) h;subst c;simp[execOp,resolve,invoke,builtin,i,g,Go.Lib.run_min_ints]
end
theorem gi{G G':Prop}(h:G')(t:Gw G'->G:=by intro hgg;(repeat (first|refine uP ?_|(refine nO ?_;(first|refine dP dF rfl rfl (by omega) ?_|refine dY dF rfl rfl (by omega) ?_|refine iC dF rfl ?_|refine ki (by decide) (aW F) F (by assumption) ?_|refine l7 (by decide) aN F (by assumption) (by assumption) ?_|refine b6 B2 rfl ?_|refine b6 B0 rfl ?_|refine b6 BZ rfl ?_|refine Df rfl rfl rfl ?_|refine Ho rfl rfl rfl ?_))));exact hgg.out):G:=t ⟨h⟩
theorem nV{e:Value}{r c N:Nat}{X:Nat->Nat->Int}{w:World}(g:cO (EI N) w e r (λ_=>c) X)(l:N<1099511627776)(h1:1<=r)(q:r<=16)(p:1<=c)(o:c<=16):
 aT Tryz.prog 76 #[e] w λv j=>Ext w j/\∃a b,v=.tuple #[.slice (some ⟨a,0,none⟩) c c,.bool true]/\w.heap.size<=a/\(∀i,i<c->w.heap.size<=b i)/\jF j a b c r (λi j=>X j i):=
 (r7 e r N _ X w g l).mono λ_ _ h=>by
  obtain⟨u,rfl,m,a,b,rfl,g,e,i⟩:=h.get (cX.2 ⟨⟨h1,q,p,o⟩,λ_ _=>rfl⟩);exact⟨m,a,b,F,g,e,i⟩
theorem jF.gm{w:World}{gO r c N:Nat}{gs:Nat->Nat}{M:Nat->Nat->Int}(h:jF w gO gs r c M)(hN:∀i j,i<r->j<c->Bd N (M i j))(hc:c<9223372036854775808):bO w gO gs (λ_=>c) r c true (λ_ _=>N) M:=
 ⟨h.outer,λi hi=>((h.wm true hN).row i hi).rg (Nat.le_refl c) hc,h.ne,h.inj⟩
def yc(n:Nat)(M e c:Nat->Nat->Int):Nat->Nat->Int:=λi j=>mul n (λa b=>mul n M e b a) c j i
structure yZ(n:Nat)(M X1 X2:Nat->Nat->Int):Prop where
 h1:Hf n (mul n M X1)
 u1:aQ n X1=1\/aQ n X1=-1
 h2:Hf n (mul n (λa b=>mul n M X1 b a) X2)
 u2:aQ n X2=1\/aQ n X2=-1
theorem sG{p:Nat->Int}:∀{n i:Nat},(∀j,j<n->0<p j)->i<n->p i<=Go.Hn.iH n p
 |n+1,i,h,hi=>by
  simp only[Go.Hn.iH];have a:0<Go.Hn.iH n p:=Go.Hn.lR λj b=>h j aq;have a:=h n aq;by_cases e:i=n
  ·rw[e];have a:=Int.mul_le_mul_of_nonneg_right (show(1:Int)<=Go.Hn.iH n p by omega) (show 0<=p n by omega);rw[Int.one_mul]at a;exact a
  ·have a:=sG (p:=p) (n:=n) (i:=i) (λj b=>h j aq) aq;have b:=Int.mul_le_mul_of_nonneg_left (show(1:Int)<=p n by omega) (show 0<=Go.Hn.iH n p by omega);rw[Int.mul_one]at b;exact Int.le_trans a b
theorem _root_.Go.Hn.Hf.le{n:Nat}{H:Nat->Nat->Int}(h:Hf n H){i j:Nat}(b:i<n)(c:j<n):(H i j).natAbs<=(aQ n H).natAbs:=by
 rw[Go.Hn.lU n H h.up];have e:=sG (p:=λi=>H i i) (n:=n) (i:=i) (λj c=>h.pos j c) b;have e:=h.pos i b;rcases Nat.lt_trichotomy i j with a|a|a
 ·rw[h.up i j b c a];exact Nat.zero_le _
 ·subst a;omega
 ·have:=h.red i j b a;omega
theorem lp{n:Nat}{M X:Nat->Nat->Int}(h:aQ n X=1\/aQ n X=-1):(aQ n (mul n M X)).natAbs=(aQ n M).natAbs:=by
 rw[Go.bc.fV,Int.natAbs_mul];rcases h with e|e<;>rw[e]<;>simp
theorem o7{n:Nat}(M:Nat->Nat->Int):aQ n (λa b=>M b a)=aQ n M:=Go.bc.df n M
theorem yZ.bd{n:Nat}{M b a:Nat->Nat->Int}(h:yZ n M b a){i j:Nat}(e:i<n)(c:j<n):(yc n M b a i j).natAbs<=(aQ n M).natAbs:=by
 have a:=h.h2.le c e;rw[lp h.u2,o7,lp h.u1]at a;exact a
theorem IM{P:Program}{n:Nat}{f:Fr}{w:World}{b:Func}{t u s r:Tmp}{a:Value->World->Prop}{v v' v'' v3:Value}(o:b.results=#[.tmp t,.tmp u,.tmp s,.tmp r])(l:ev n f (.tmp t)=v)(j:ev n f (.tmp u)=v')(m:ev n f (.tmp s)=v'')(p:ev n f (.tmp r)=v3)(h:a (.tuple #[v,v',v'',v3]) w):
 bodyPost P b (xB a) .ret (act n f) w:=by
 refine bodyPost_ret (v:=.tuple #[v,v',v'',v3]) ?_ F ⟨_,F,h⟩;have e:=congrFun (b9 n f) (.tmp t);have c:=congrFun (b9 n f) (.tmp u);have i:=congrFun (b9 n f) (.tmp s);have g:=congrFun (b9 n f) (.tmp r);simp only[Act.eval]at e c i g;have a:(act n f).tmps[t]?.getD undef=v:=by rw[<-l,<-e];simp
 have b:(act n f).tmps[u]?.getD undef=v':=by rw[<-j,<-c];simp
 have c:(act n f).tmps[s]?.getD undef=v'':=by rw[<-m,<-i];simp
 have d:(act n f).tmps[r]?.getD undef=v3:=by rw[<-p,<-g];simp
 simp[results,o,a,b,c,d]
theorem AH(v:Value)(n N ND NU NV:Nat)(M:Nat->Nat->Int)(w:World)(h:cO (EI N) w v n (λ_=>n) M)(e:aQ n M≠0)(X:Bd N (aQ n M))(g:1<=n)(J:n<=16)(a:1<=N)(hN:N<=8)
 (ab:N<=ND) (c:416<=NU) (c:416<=NV) (bB:ND+ND<17592186044416) (bA:ND+NU<17592186044416) (bx:ND+NV<17592186044416)
 (St:Nat->(Nat->Nat->Int)->(Nat->Nat->Int)->(Nat->Nat->Int)->Prop) (a0:∀A I,yZ n M A I->St 0 (yc n M A I) (λi j=>I j i) A)
 (a7:∀t D U V,t<n->St t D U V->∃(q0:Nat) (R:Nat->(Nat->Nat->Int)->(Nat->Nat->Int)->(Nat->Nat->Int)->Prop) (O:(Nat->Nat->Int)->(Nat->Nat->Int)->(Nat->Nat->Int)->Prop),R q0 D U V/\
  (∀q D U V,R q D U V->(∃i j,t<=i/\i<n/\t<=j/\j<n/\D i j≠0)/\∀p c,Go.Sm.nK n t D p c->CR n t ND NU NV q R O (Go.Sm.swp D t p c) (λi j=>U (Go.Sm.sx t p i) j) λi j=>V i (Go.Sm.sx t c j))/\
  ∀D' U' V',O D' U' V'->St (t+1) (jq (D' t t) t D') (jq (D' t t) t U') V'):
 aT Tryz.prog 55 #[v] w λu C=>Ext w C/\∃s r E l m c H G p D U V,u=.tuple #[.slice (some ⟨s,0,none⟩) n n,.slice (some ⟨r,0,none⟩) n n,.slice (some ⟨E,0,none⟩) n n,.bool true]/\St n D U V/\
  bO C s l H n n true (λ_ _=>ND) D/\bO C r m G n n true (λ_ _=>NU) U/\bO C E c p n n true (λ_ _=>NV) V:=by
 refine bF (n:=66) Tryz.func55 F rfl aw aA ?_;refine gi ?_;refine aJ (pR v n N M w h e X g J a hN) ?_;rintro _ w1 ⟨a6,c,gh,E,L,A,rfl,bt,c,bg,b1,hH,hV,a1,Ay⟩;have bH:∀i j,i<n->j<n->Bd N (mul n M A i j):=λi j c p=>by
  have:=a1.le c p;rw[lp Ay]at this;exact Nat.lt_of_le_of_lt this X
 refine gi ?_;refine aP ?_;refine gi ?_;refine aJ (nV ((hH.tight bH).read aq aq) aq g J g J) ?_;rintro _ e ⟨Z,gT,gt,rfl,bl,b4,hT⟩;refine gi ?_;refine aJ (pR _ n N _ e (hT.rd (N:=N) (λi j c p=>bH j i p c) (Nat.le_refl N) aq aq) (by rw[o7];intro e;have:=lp (n:=n) (M:=M) Ay;rw[e]at this;omega) (by unfold Bd;rw[o7,lp Ay];exact X) g J a hN) ?_;rintro _ a ⟨u,a,a,a,a,I,rfl,bs,aH,b5,ay,W,a4,ak,GI⟩;have hB:yZ n M A I:=⟨a1,Ay,ak,GI⟩;have bK:∀i j,i<n->j<n->Bd N (mul n (λa b=>mul n M A b a) I i j):=λi j c p=>Nat.lt_of_le_of_lt (hB.bd p c) X;refine gi ?_;refine aJ (nV ((W.tight bK).read aq aq) aq g J g J) ?_;rintro _ w4 ⟨e,s,l,rfl,bu,X,hD⟩;refine gi ?_;refine aJ (nV ((a4.Y e).read aq aq) aq g J g J) ?_;rintro _ w5 ⟨a,r,m,rfl,bj,g,hU⟩;have bU:∀i j,i<n->j<n->Bd NU (I j i):=λi j c p=>((a4.read aq aq).bd p c).mono aq;have av:=(hD.gm (N:=ND) (λi j c p=>(bK j i p c).mono ab) aq).Y a;have an:=hU.gm bU aq;have al:=(hV.congr (bn':=λ_ _=>NV) (M':=A) λ_ _ _ _=>⟨aq,F⟩).Y (Z.trans (u.trans (e.trans a)));have z0:=a6.size;have z1:=Z.size;have z2:=u.size;have z3:=e.size;have z4:=a.size;have lV:=hV.lt;have ab:∀i,i<n->L i<w1.heap.size:=λi c=>(hV.row i c).lt;have lD:=hD.outer.lt;have ad:∀i,i<n->l i<w4.heap.size:=λi c=>by obtain⟨_,hb,_⟩:=hD.row i c;exact hb.lt
 have a3:=a6.trans (Z.trans (u.trans (e.trans a)));have o:(s≠r/\s≠E/\r≠E)/\(∀i j,i<n->j<n->l i≠m j/\l i≠L j/\m i≠L j)/\w.heap.size<=s/\w.heap.size<=r/\∀t,t<n->w.heap.size<=l t/\w.heap.size<=m t/\w.heap.size<=L t:=by
  refine⟨aq,λi j c p=>?_,aq,aq,λt ht=>?_⟩
  ·have:=ad i c;have:=g j p;have:=g i c;have:=X i c;have:=ab j p;omega
  ·have:=X t ht;have:=g t ht;have:=b1 t ht;omega
 clear a6 Z u e a hH hV hT W a4 hD hU z0 z1 z2 z3 z4 lV ab lD ad bt bg bl b4 bs b5 aH ay bu X bj g bH bK bU a1 ak Ay GI h;refine gi ?_;refine aR (.inl F) IA ?_;intro a Q au b0;replace Q:bh a w5.heap.size 108 #[.slice none 0 0,.slice none 0 0,.slice none 0 0]:=Q;obtain⟨gE,aj⟩ : ∃g,g=w5.heap.size:=⟨_,F⟩;rw[<-aj]at Q⊢;refine gi ?_;refine vJ G9 (.inl F) F rfl (λv T=>?_) Q rfl rfl ?_
 ·rcases List.mem_cons.1 T with rfl|T
  ·rfl
  ·rcases List.mem_cons.1 T with rfl|T
   ·rfl
   ·rcases List.mem_cons.1 T with rfl|T
    ·rfl
    ·cases T
 intro g e c p;have a:Ext w5 g:=c.aK au λb hb=>aq;have a2:=a3.trans a;have u:=a3.size;have Y:El w.heap.size g gE s r E n ND NU NV (yc n M A I) (λi j=>I j i) A l m L (λ_=>n) (λ_=>n) (λ_=>n):=
  ⟨e,av.Y a,an.Y a,al.Y a,o.1,o.2.1,aq,o.2.2.1,o.2.2.2.1,aq,o.2.2.2.2⟩
 clear av an al au c p b0 a u Q e o aj a3;have a5:=a0 A I hB;have ax:=Y.d.at (show 0<n by omega);refine gi ?_;refine aX (λf C=>∃D U V l m H G,f 12=.pointer (some ⟨gE,0,none⟩)/\Ext w C/\El w.heap.size C gE s r E n ND NU NV D U V l m L H G (λ_=>n)/\St n D U V) ?_ ?_
 ·refine gi ?_;clear ax;refine aU (λq f C=>∃t D U V l m H G,q=n-t/\t<=n/\f 12=.pointer (some ⟨gE,0,none⟩)/\f 53=.int .i64 (n:Int)/\f 54=.int .i64 ((t:Nat):Int)/\Ext w C/\El w.heap.size C gE s r E n ND NU NV D U V l m L H G (λ_=>n)/\St t D U V)
   n ⟨0,_,_,_,l,m,_,_,F,aE,F,F,F,a2,Y,a5⟩ ?_
  clear a2 Y a5 a0 l m;rintro q f w8 ⟨t,D,U,V,l,m,H,G,rfl,ht,B,c,a,P,hE,hS⟩;rw[ui B,ui c,ui a];clear B c a;by_cases ai:t<n;rotate_left
  ·obtain rfl:t=n:=aq;refine gi ?_;exact⟨D,U,V,l,m,H,G,F,P,hE,hS⟩
  obtain⟨q0,R,O,c,a,o⟩:=a7 t D U V ai hS;refine gi ?_;refine aJ (AQ w.heap.size gE s r E n ND NU NV t q0 D U V l m L H G (λ_=>n) w8 hE ai J aq bB bA bx R O c a) ?_;rintro _ a ⟨rfl,hC,W,D',U',V',g,a,j,i,c,e⟩;refine gi ?_;refine⟨_,?_,t+1,_,_,_,g,a,j,i,F,aq,F,F,F,hC.aK P λb hb=>hb,e,o D' U' V' c⟩;omega
 clear a2 Y a5 a0 l m ax;rintro f w8 ⟨D,U,V,l,m,H,G,B,P,hE,hS⟩;rw[ui B];clear B;have P:Ext w w8:=P;have W:Ext w8 w8:=Ext.refl _;refine gi ?_;refine b7 [(0,3),(1,0),(2,3),(3,0),(4,3),(5,0),(6,3),(7,3),(8,3),(9,3)] mixed aw λa a _=>?_;replace W:=W.trans a;replace P:=P.trans a;clear a;have a:=hE.Y W;have b:=a.c0;have b:=a.c1;have b:=a.c2;refine gi ?_;exact IM (v:=.slice _ _ _) (v':=.slice _ _ _) (v'':=.slice _ _ _) (v3:=.bool _) F rfl rfl rfl rfl ⟨P,s,r,E,l,m,L,H,G,λ_=>n,D,U,V,rfl,hS,a.d,a.u,a.v⟩
theorem tZ(v:Value)(n N ND NU NV:Nat)(M:Nat->Nat->Int)(w:World)(h:cO (EI N) w v n (λ_=>n) M)(E:aQ n M≠0)(Q:Bd N (aQ n M))(L:1<=n)(Z:n<=16)(X:1<=N)(hN:N<=8)
 (I:N<=ND) (H:416<=NU) (G:416<=NV) (W:ND+ND<17592186044416) (T:ND+NU<17592186044416) (R:ND+NV<17592186044416)
 (A:Nat->(Nat->Nat->Int)->(Nat->Nat->Int)->(Nat->Nat->Int)->Prop) (J:∀c b,yZ n M c b->A 0 (yc n M c b) (λi j=>b j i) c)
 (C:∀t D U V,t<n->A t D U V->∃(c:Nat) (Inv:Nat->(Nat->Nat->Int)->(Nat->Nat->Int)->(Nat->Nat->Int)->Prop) (b:(Nat->Nat->Int)->(Nat->Nat->Int)->(Nat->Nat->Int)->Prop),Inv c D U V/\
  (∀q D U V,Inv q D U V->(∃i j,t<=i/\i<n/\t<=j/\j<n/\D i j≠0)/\∀p c,Go.Sm.nK n t D p c->CR n t ND NU NV q Inv b (Go.Sm.swp D t p c) (λi j=>U (Go.Sm.sx t p i) j) λi j=>V i (Go.Sm.sx t c j))/\
  ∀c p j,b c p j->A (t+1) (jq (c t t) t c) (jq (c t t) t p) j):
 aT Tryz.prog 27 #[v] w λu b=>Ext w b/\∃g D U V,u=.tuple #[.slice (some ⟨g,0,none⟩) n n,.bool true]/\A n D U V/\dk b g n true (λ_=>ND) (λi=>D i i):=by
 refine bF (n:=44) Tryz.func27 F rfl aw aA ?_;refine gi ?_;refine aJ (AH v n N ND NU NV M w h E Q L Z X hN I H G W T R A J C) ?_;rintro _ H ⟨j,u,c,c,C,us,c,J,cu,c,D,U,V,rfl,hS,l,_,_⟩;refine gi ?_;refine aP ?_;have G:=l.at (show 0<n by omega);refine gi ?_;refine cF eE (.inl F) F rfl aD aq aq ?_;intro c p c E;obtain⟨g,A⟩ : ∃g,g=H.heap.size:=⟨_,F⟩;rw[<-A]at p⊢;have o:=ff true ND p;have m:=j.trans c;have H:=j.size;have B:=l.Y c;have P:∀t,t<n->C t≠g:=λt I=>by have:=(l.row t I).lt;omega
 have O:u≠g:=by have:=l.lt;omega
 have t:w.heap.size<=g:=aq;clear p c E j G l H A;refine gi ?_;refine aX (λf b=>f 8=.slice (some ⟨g,0,none⟩) n n/\Ext w b/\dk b g n true (λ_=>ND) λi=>D i i) ?_ ?_
 ·refine gi ?_;refine aU (λq f b=>∃i,q=n-i/\i<=n/\f 4=.slice (some ⟨u,0,none⟩) n n/\f 8=.slice (some ⟨g,0,none⟩) n n/\f 28=.int .i64 (n:Int)/\f 29=.int .i64 ((i:Nat):Int)/\Ext w b/\bO b u C J n n true (λ_ _=>ND) D/\dk b g n true (λ_=>ND) λa=>if a<i then D a a else 0)
   n ⟨0,F,aE,F,F,F,F,m,B,o.congr λa _=>⟨aD,by rw[aa aq]⟩⟩ ?_
  clear m B o;rintro q f Y ⟨i,rfl,b,j,r,c,b,m,l,o⟩;rw[ui j,ui r,ui c,ui b];clear j r c b;by_cases s:i<n;rotate_left
  ·obtain rfl:i=n:=aq;refine gi ?_;exact⟨F,m,o.congr λa j=>⟨aD,by rw[ae j]⟩⟩
  have b:=l.at s;obtain⟨b,b,b,b,b⟩:=(l.row i s).at s;refine gi ?_;refine dW (.inl F) F rfl o s b ?_;intro b s c p b;have q:=c.aK m λb b=>aq;have b:=l.kp p c O P;refine gi ?_;refine⟨_,?_,i+1,F,aq,F,F,F,F,q,b,s.congr λa j=>⟨?_,?_⟩⟩
  ·omega
  ·simp only[cZ];split<;>exact Nat.le_refl _
  ·simp only[fR];by_cases e:a=i
   ·subst e;rw[ae F,ae aq]
   ·rw[aa e];by_cases b:a<i
    ·rw[ae b,ae aq]
    ·rw[aa b,aa aq]
 clear m B o;rintro f Y ⟨r,m,o⟩;rw[ui r];clear r;refine gi ?_;exact fK (v:=.slice _ _ _) (v':=.bool _) F rfl rfl ⟨m,g,D,U,V,F,hS,o⟩
end
end Go.Proofs.Qq
namespace Go.Se
section
open Go.bc Go.Sm Go.Hn
theorem oa:∀{n:Nat} {f:Nat->Int},(∀i,i<n->0<=f i)->∀i,i<n->f i<=sm n f
 |n+1,f,h,i,a=>by
  simp only[sm];have b:=h n aq;have b:0<=sm n f:=by
   rcases Nat.eq_zero_or_pos n with e|e
   ·subst e;exact Int.le_refl _
   ·exact Int.le_trans (h 0 aq) (oa (n:=n) (λi a=>h i aq) 0 e)
  by_cases e:i=n
  ·rw[e];omega
  ·have:=oa (n:=n) (f:=f) (λi a=>h i aq) i aq;omega
theorem uC{p:Nat->Int}:∀{n i:Nat},i<n->p i=0->iH n p=0
 |n+1,i,hi,h0=>by
  simp only[iH];by_cases e:i=n
  ·rw[<-e,h0,Int.mul_zero]
  ·rw[uC (n:=n) (i:=i) aq h0,Int.zero_mul]
theorem yu{p:Nat->Int}:∀{n:Nat},(∀i,i<n->p i=1)->iH n p=1
 |0,_=>rfl
 |n+1,h=>by
  simp only[iH];rw[yu (n:=n) λi a=>h i aq,h n aq];rfl
theorem uk(n:Nat)(c:Int):sm n (λ_=>c)=(n:Int)*c:=by
 induction n with
 |zero=>simp[sm]
 |succ n a=>simp only[sm];rw[a];push_cast;grind
theorem wQ{n:Nat}{c:Nat->Int}(e:∀i,i<n->0<=c i)(a:sm n c<=n):0<=iH n c/\iH n c<=1:=by
 by_cases a:∃i,i<n/\c i=0
 ·obtain⟨i,b,a⟩:=a;rw[uC b a];omega
 ·have g:∀i,i<n->c i=1:=λi b=>by
   have d:∀j,j<n->0<=c j-1:=λj f=>by
    have:=e j f;have:c j≠0:=λe=>a ⟨j,f,e⟩;omega
   have a:=oa d i b;have a:(sm n λj=>c j-1)=sm n c-n:=by
    have e:(sm n λj=>c j-1)=sm n λj=>1*c j+(-1)*(λ_=>(1:Int)) j:=aO λj _=>by show c j-1=1*c j+(-1)*1;omega
    rw[e,e8,uk];omega
   have:=d i b;omega
  rw[yu g];omega
theorem oI{n:Nat}{J:Nat->Nat}(o:∀t,t<n->J t<n):(aQ n λi k=>one i (J k)).natAbs<=1:=by
 have g:∀i k,i<n->k<n->i≠k->mul n (λi k=>one i (J k)) (tr λi k=>one i (J k)) i k=0:=λi k _ _ b=>iD λl _=>by
  show one i (J l)*one k (J l)=0;simp only[one];by_cases e:i=J l
  ·rw[aa (show¬k=J l by omega),Int.mul_zero]
  ·rw[aa e,Int.zero_mul]
 have d:aQ n (mul n (λi k=>one i (J k)) (tr λi k=>one i (J k)))=iH n λi=>sm n λl=>one i (J l):=by
  rw[lU n _ λi j a b p=>g i j a b aq];refine jm λi a=>aO λl _=>?_;show one i (J l)*one i (J l)=one i (J l);simp only[one];split<;>rfl
 have f:=wQ (n:=n) (c:=λi=>sm n λl=>one i (J l)) (λi _=>by
  have:∀m,0<=sm m λl=>one i (J l):=λm=>by
   induction m with
   |zero=>exact Int.le_refl _
   |succ m b=>
    have b:0<=one i (J m):=by simp only[one];split<;>decide
    simp only[sm];omega
  exact this n) (by
  show(sm n λi=>sm n λl=>one i (J l))<=n;rw[oS];have e:(sm n λl=>sm n λi=>one i (J l))=sm n λ_=>1:=aO λl b=>by
   rw[cG (c:=J l) (o l b) λi _ a=>by simp only[one];exact aa a];show(if J l=J l then(1:Int)else 0)=1;exact ae F
  rw[e,uk];omega)
 rw[<-d,fV,df]at f;obtain⟨d,a⟩ : ∃d,d=aQ n λi k=>one i (J k):=⟨_,F⟩;rw[<-a]at f⊢;have a:d.natAbs*d.natAbs<=1:=by
  have:((d.natAbs*d.natAbs:Nat):Int)=d*d:=by rw[<-Int.natAbs_mul];exact Int.natAbs_of_nonneg f.1
  omega
 rcases Nat.lt_or_ge d.natAbs 2 with h|h
 ·omega
 ·have:=Nat.mul_le_mul h h;omega
theorem uY{n:Nat}(A:Mt){J:Nat->Nat}(f:∀t,t<n->J t<n):aQ n (λi k=>A i (J k))=aQ n A*aQ n (λi k=>one i (J k)):=by
 refine MA.unique (D:=λA=>aQ n λi k=>A i (J k)) ?_ A;have h:=eI n;have e:∀(A:Mt) (i:Nat) (u:Nat->Int),(λr k=>bJ A i u r (J k))=bJ (λr k=>A r (J k)) i λk=>u (J k):=λA i u=>by
  funext r k;simp only[bJ]
 refine⟨λA C a=>aY λi j d c=>a i (J j) d (f j c),λA i u v a b d=>?_,λA i d g=>h.alt _ i d λj c=>g (J j) (f j c)⟩;show aQ n (λr k=>bJ A i (λc=>a*u c+b*v c) r (J k))=a*aQ n (λr k=>bJ A i u r (J k))+b*aQ n λr k=>bJ A i v r (J k);rw[e,e,e];exact h.kT (λr k=>A r (J k)) i (λk=>u (J k)) (λk=>v (J k)) a b d
theorem AX{n:Nat}(A:Mt){I J:Nat->Nat}(b:∀t,t<n->I t<n)(a:∀t,t<n->J t<n):(aQ n (cj A I J)).natAbs<=(aQ n A).natAbs:=by
 have c:(aQ n λi k=>(λi j=>A (I i) j) i (J k)).natAbs<=(aQ n λi j=>A (I i) j).natAbs:=by
  rw[uY (λi j=>A (I i) j) a,Int.natAbs_mul];exact Nat.le_trans (Nat.mul_le_mul_left _ (oI a)) aq
 have a:(aQ n λi j=>A (I i) j).natAbs<=(aQ n A).natAbs:=by
  rw[<-df];have e:tr (λi j=>A (I i) j)=λi k=>tr A i (I k):=F;rw[e,uY (tr A) b,Int.natAbs_mul,df];exact Nat.le_trans (Nat.mul_le_mul_left _ (oI b)) aq
 exact Nat.le_trans c a
theorem EF{s a b:Nat}{A:Mt}(e:a<s)(d:b<s)(c:a≠b)(h:∀i,i<s->A i a=A i b):aQ s A=0:=by
 rw[<-df];exact(eI s).GO _ a b e d c λj c=>h j c
theorem yF{B:Mt}{x:Nat}(h:(B 0 0).natAbs<=x):(aQ 1 B).natAbs<=x:=by
 simpa[aQ,sm,fq]using h
theorem yE{B:Mt}{c:Nat->Nat}(h:∀i j,i<2->j<2->(B i j).natAbs<=c j):(aQ 2 B).natAbs<=2*(c 0*c 1):=by
 show(sm 2 λj=>fq j*B 0 j*aQ 1 (minor B 0 j)).natAbs<=_;refine mz λj a=>?_;have b:(fq j).natAbs=1:=by unfold fq;split<;>rfl
 rw[Int.natAbs_mul,Int.natAbs_mul,b,Nat.one_mul];have b:(aQ 1 (minor B 0 j)).natAbs<=c (skip j 0):=yF (h (skip 0 0) (skip j 0) ar (by unfold skip;split<;>omega));refine Nat.le_trans (Nat.mul_le_mul (h 0 j ar a) b) ?_
 match j,a with
 |0,_=>exact Nat.le_refl _
 |1,_=>rw[Nat.mul_comm];exact Nat.le_refl _
theorem EJ{B:Mt}{c:Nat->Nat}(h:∀i j,i<3->j<3->(B i j).natAbs<=c j):(aQ 3 B).natAbs<=3*(2*(c 0*c 1*c 2)):=by
 show(sm 3 λj=>fq j*B 0 j*aQ 2 (minor B 0 j)).natAbs<=_;refine mz λj a=>?_;have b:(fq j).natAbs=1:=by unfold fq;split<;>rfl
 rw[Int.natAbs_mul,Int.natAbs_mul,b,Nat.one_mul];have b:(aQ 2 (minor B 0 j)).natAbs<=2*(c (skip j 0)*c (skip j 1)):=yE (c:=λt=>c (skip j t)) λi k d d=>h (skip 0 i) (skip j k) (by unfold skip;split<;>omega) (by unfold skip;split<;>omega);refine Nat.le_trans (Nat.mul_le_mul (h 0 j ar a) b) ?_
 match j,a with
 |0,_=>show c 0*(2*(c 1*c 2))<=_;rw[Nat.mul_left_comm,<-Nat.mul_assoc (c 0)];exact Nat.le_refl _
 |1,_=>show c 1*(2*(c 0*c 2))<=_;rw[Nat.mul_left_comm,<-Nat.mul_assoc (c 1),Nat.mul_comm (c 1)];exact Nat.le_refl _
 |2,_=>show c 2*(2*(c 0*c 1))<=_;rw[Nat.mul_left_comm,Nat.mul_comm (c 2)];exact Nat.le_refl _
theorem wP{p:Nat->Int}{i:Nat}:∀{n:Nat},(∀j,j<n->0<p j)->i<=n->iH i p<=iH n p
 |0,_,hi=>by
  have:i=0:=aq;rw[this];exact Int.le_refl _
 |n+1,h,hi=>by
  by_cases e:i=n+1
  ·rw[e];exact Int.le_refl _
  ·have d:=wP (n:=n) (i:=i) (λj c=>h j aq) aq;have b:=Int.mul_le_mul_of_nonneg_left (show(1:Int)<=p n from h n aq) (show 0<=iH n p from Int.le_of_lt (lR λj c=>h j aq));rw[Int.mul_one]at b;exact Int.le_trans d b
theorem Bh{n:Nat}{p:Nat->Int}(h:∀j,j<n->0<p j){x y:Nat}(b:x<y)(a:y<n):p x*p y<=iH n p:=
 Int.le_trans (Int.mul_le_mul_of_nonneg_right (Go.Proofs.Qq.sG (n:=y) (i:=x) (λj c=>h j aq) b) (Int.le_of_lt (h y a))) (wP (n:=n) (i:=y+1) h a)
theorem HL{n:Nat}{p:Nat->Int}(h:∀j,j<n->0<p j){x y z:Nat}(c:x<y)(b:y<z)(a:z<n):p x*p y*p z<=iH n p:=
 Int.le_trans (Int.mul_le_mul_of_nonneg_right (Bh (n:=z) (λj d=>h j aq) c b) (Int.le_of_lt (h z a))) (wP (n:=n) (i:=z+1) h a)
structure Hy(n:Nat)(T:Mt):Prop where
 pos:∀j,j<n->0<T j j
 wk:∀i j,i<n->j<n->(T i j).natAbs<=(T j j).natAbs
theorem rv{a b:Int}{D:Nat}(d:0<a)(c:0<b)(h:a*b<=(D:Int)):a.natAbs*b.natAbs<=D:=by
 rw[<-Int.natAbs_mul];have:=Int.mul_pos d c;omega
theorem zD{a b c:Int}{D:Nat}(f:0<a)(e:0<b)(d:0<c)(h:a*b*c<=(D:Int)):a.natAbs*b.natAbs*c.natAbs<=D:=by
 rw[<-Int.natAbs_mul,<-Int.natAbs_mul];have:=Int.mul_pos (Int.mul_pos f e) d;omega
theorem Hy.tm{n D:Nat}{T:Mt}(h:Hy n T)(a:n<=4)(w:iH n (λj=>T j j)=(D:Int))(C:(aQ n T).natAbs=D):Tm n 0 (6*D) T:=by
 have a:1<=D:=by have:=lR (p:=λj=>T j j) h.pos;omega
 intro s I J a;have k:∀t,t<s->I t<n:=λt u=>(a t u).1.2;have d:∀t,t<s->J t<n:=λt u=>(a t u).2.2;have g:∀i j,i<s->j<s->(cj T I J i j).natAbs<=(T (J j) (J j)).natAbs:=λi j b a=>h.wk _ _ (k i b) (d j a);have f:∀a b,a<s->b<s->a≠b->J a=J b->aQ s (cj T I J)=0:=λa b z b a e=>EF z b a λi _=>by simp only[cj,e]
 by_cases B:n<s
 ·rw[k_ (λt u=>⟨k t u,d t u⟩) B];exact Nat.zero_le _
 match s,B,k,d,g,f with
 |0,_,_,_,_,_=>
  have:(aQ 0 (cj T I J)).natAbs=1:=F;omega
 |1,_,k,d,g,_=>
  have A:=yF (g 0 0 ar ar);have r:=Go.Proofs.Qq.sG (p:=λj=>T j j) (n:=n) (i:=J 0) h.pos (d 0 ar);have a:=h.pos _ (d 0 ar);rw[w]at r;omega
 |2,_,k,d,g,f=>
  have A:=yE (c:=λt=>(T (J t) (J t)).natAbs) g;have y:=h.pos _ (d 0 ar);have x:=h.pos _ (d 1 ar);have l:(T (J 0) (J 0)).natAbs*(T (J 1) (J 1)).natAbs<=D\/J 0=J 1:=by
   rcases Nat.lt_trichotomy (J 0) (J 1)with r|r|r
   ·exact .inl (rv y x (by rw[<-w];exact Bh (p:=λj=>T j j) h.pos r (d 1 ar)))
   ·exact .inr r
   ·rw[Nat.mul_comm];exact .inl (rv x y (by rw[<-w];exact Bh (p:=λj=>T j j) h.pos r (d 0 ar)))
  rcases l with l|l
  ·exact Nat.le_trans A aq
  ·rw[f 0 1 ar ar ar l];exact Nat.zero_le _
 |3,_,k,d,g,f=>
  have A:=EJ (c:=λt=>(T (J t) (J t)).natAbs) g;by_cases a:J 0=J 1
  ·rw[f 0 1 ar ar ar a];exact Nat.zero_le _
  by_cases a:J 0=J 2
  ·rw[f 0 2 ar ar ar a];exact Nat.zero_le _
  by_cases a:J 1=J 2
  ·rw[f 1 2 ar ar ar a];exact Nat.zero_le _
  have q:∀x y z,x<y->y<z->z<n->(T x x).natAbs*(T y y).natAbs*(T z z).natAbs<=D:=λx y z f b a=>
   zD (h.pos x aq) (h.pos y aq) (h.pos z a) (by rw[<-w];exact HL (p:=λj=>T j j) h.pos f b a)
  have H:=d 0 ar;have G:=d 1 ar;have E:=d 2 ar;have l:(T (J 0) (J 0)).natAbs*(T (J 1) (J 1)).natAbs*(T (J 2) (J 2)).natAbs<=D:=by
   rcases Nat.lt_or_ge (J 0) (J 1)with v|v
   ·rcases Nat.lt_or_ge (J 1) (J 2)with m|m
    ·exact q _ _ _ v m E
    ·rcases Nat.lt_or_ge (J 0) (J 2)with o|o
     ·have:=q _ _ _ o (show J 2<J 1 by omega) G;rwa[Nat.mul_right_comm]at this
     ·have:=q _ _ _ (show J 2<J 0 by omega) v G;rw[Nat.mul_comm (T (J 2) (J 2)).natAbs,Nat.mul_right_comm]at this;exact this
   ·rcases Nat.lt_or_ge (J 0) (J 2)with o|o
    ·have:=q _ _ _ (show J 1<J 0 by omega) o E;rwa[Nat.mul_comm (T (J 1) (J 1)).natAbs]at this
    ·rcases Nat.lt_or_ge (J 1) (J 2)with m|m
     ·have:=q _ _ _ m (show J 2<J 0 by omega) H;rw[Nat.mul_comm,<-Nat.mul_assoc]at this;exact this
     ·have:=q _ _ _ (show J 2<J 1 by omega) (show J 1<J 0 by omega) H;rw[Nat.mul_comm,Nat.mul_comm (T (J 2) (J 2)).natAbs,<-Nat.mul_assoc]at this;exact this
  exact Nat.le_trans A aq
 |s+4,B,k,d,g,_=>
  have e:s+4=n:=aq;subst e;have:=AX T k d;rw[C]at this;omega
theorem Bi{x:Int}(a:0<=x){p:Nat->Int}:∀{n:Nat},(∀j,j<n->x<=p j)->x^n<=iH n p
 |0,_=>by rw[Int.pow_zero];exact Int.le_refl _
 |n+1,h=>by
  simp only[iH];rw[Int.pow_succ];have b:=Bi a (n:=n) (p:=p) λj c=>h j aq;exact Int.mul_le_mul b (h n aq) a (Int.le_trans (Int.pow_nonneg a) b)
end
end Go.Se
namespace Go.Proofs.Qq
section
open Go Go.cU Go.cV Go.Proofs Go.Se
open Go.bc (aQ fa mul sm tr one)
open Go.Hn (Hf iH)
open Go.Sm (sx bo red dh nK Sg Dg iT gj fy)
theorem g3{K c:Nat}(hK:K<=1099511627776):2*(K*2^K*2^c)<=2^(K+c+41):=by
 have e:2^(K+c+41)=2199023255552*(2^K*2^c):=by
  rw[Nat.pow_add,Nat.pow_add,Nat.mul_comm]
 rw[e,Nat.mul_assoc K,<-Nat.mul_assoc 2];exact Nat.mul_le_mul_right _ aq
theorem zl{n t:Nat}{D:Nat->Nat->Int}(d:Dg n t D)(b:t<n)(a:aQ n D≠0):∃j,t<=j/\j<n/\D t j≠0:=by
 refine Classical.byContradiction λc=>a ?_;obtain⟨m,rfl⟩ : ∃m,n=m+1:=⟨n-1,aq⟩;rw[<-Go.bc.jd m D t b];refine Go.bc.iD λj a=>?_;have z:D t j=0:=by
  by_cases h:j<t
  ·exact d t j b a (.inr h) aq
  ·exact Decidable.byContradiction λe=>c ⟨j,aq,a,e⟩
 rw[z];grind
theorem Cy{n e:Nat}{X:Nat->Nat->Int}(a:n<=4)(b:1<=n)(h:Bz n e X):Bz n (4*e+5) (fa (n-1) X):=λi j b b=>by
 obtain⟨m,rfl⟩ : ∃m,n=m+1:=⟨n-1,aq⟩;have c:=Go.Sm.Mn.start a h m (Go.bc.skip j) (Go.bc.skip i) λt a=>⟨Go.bc.iE a,Go.bc.iE a⟩;have b:(fa m X i j).natAbs=(aQ m (Go.Sm.cj X (Go.bc.skip j) (Go.bc.skip i))).natAbs:=by
  show(Go.bc.s6 m X j i).natAbs=_;unfold Go.bc.s6;rw[Int.natAbs_mul];have a:(Go.bc.fq (j+i)).natAbs=1:=by unfold Go.bc.fq;split<;>rfl
  rw[a,Nat.one_mul];rfl
 show(fa m X i j).natAbs<=_;rw[b];exact c
theorem H8{n N:Nat}{X:Nat->Nat->Int}(h:∀i j,i<n->j<n->Bd N (X i j)):Bz n (32*N) X:=λi j c b=>by
 have a:=h i j c b;unfold Bd at a;have e:B^N=2^(32*N):=by
  show(4294967296:Nat)^N=2^(32*N);rw[Nat.pow_mul]
 rw[e]at a;omega
theorem yZ.Jw{n:Nat}{M f e:Nat->Nat->Int}(h:yZ n M f e):Hy n (yc n M f e):=by
 refine⟨λj d=>h.h2.pos j d,λi j g d=>?_⟩;show(mul n (λa b=>mul n M f b a) e j i).natAbs<=(mul n (λa b=>mul n M f b a) e j j).natAbs;rcases Nat.lt_trichotomy i j with c|c|c
 ·have:=h.h2.red j i d c;omega
 ·rw[c];exact Nat.le_refl _
 ·rw[h.h2.up j i d g c];exact Nat.zero_le _
theorem yZ.eqv{n:Nat}{M a b:Nat->Nat->Int}(h:yZ n M a b)(c:1<=n):gj n M (yc n M a b):=by
 obtain⟨m,rfl⟩ : ∃m,n=m+1:=⟨n-1,aq⟩;have d:gj (m+1) M (mul (m+1) M a):=gj.right (Go.Sm.Inv.sL h.u1) λ_ _ _ _=>rfl;have c:gj (m+1) (tr (mul (m+1) M a)) (mul (m+1) (tr (mul (m+1) M a)) b):=gj.right (Go.Sm.Inv.sL h.u2) λ_ _ _ _=>rfl;exact d.trans c.tr
theorem yZ.rel{n b:Nat}{M a c:Nat->Nat->Int}(h:yZ n M a c)(l:1<=n)(g:n<=4)(p:Bz n b a):∃W,Rel n (λi j=>c j i) M (yc n M a c) W/\Bz n (4*b+5) W:=by
 obtain⟨m,rfl⟩ : ∃m,n=m+1:=⟨n-1,aq⟩;have q:=Go.Sm.Inv.sL h.u1;refine⟨λi j=>aQ (m+1) a*fa m a i j,λi j f d=>?_,λi j f d=>?_⟩
 ·have s:∀i k,yc (m+1) M a c i k=mul (m+1) (mul (m+1) (tr c) M) a i k:=λi k=>by
   show tr (mul (m+1) (tr (mul (m+1) M a)) c) i k=_;rw[Go.bc.ph,Go.bc.mul_assoc];rfl
  have r:mul (m+1) (yc (m+1) M a c) (λi j=>aQ (m+1) a*fa m a i j) i j=mul (m+1) (mul (m+1) (mul (m+1) (tr c) M) a) (λi j=>aQ (m+1) a*fa m a i j) i j:=Go.bc.aO λk _=>by rw[s]
  rw[r,Go.bc.mul_assoc,Go.Sm.mul_congr (A':=mul (m+1) (tr c) M) (C':=one) (λk _=>rfl) λk c=>q.r k j c d,Go.bc.mul_one _ _ _ _ d];rfl
 ·show(aQ (m+1) a*fa m a i j).natAbs<=_;have o:(aQ (m+1) a).natAbs=1:=by rcases h.u1 with e|e<;>rw[e]<;>rfl
  rw[Int.natAbs_mul,o,Nat.one_mul];exact Cy g l p i j f d
