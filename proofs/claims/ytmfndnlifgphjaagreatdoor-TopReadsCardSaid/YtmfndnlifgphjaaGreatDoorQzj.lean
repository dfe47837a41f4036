import Derived.Test.YtmfndnlifgphjaaGreatDoorQzi
set_option maxHeartbeats 64000000
open Go.Proofs.YtmfndnlifgphjaaGreatDoor
namespace Go.Proofs.Qq
section
open Go Go.cW Go.c7 Go.Proofs
theorem jD{P:Program}{n:Nat}{S:World->World->Prop}{k:Nat}{K:Fr->World->Prop}{f:Fr}{w:World}{d ty:Nat}{a:String}{b:Array Edge}{c:Option (Nat×Bool)}{g:Fn}{l:List Operand}
 (h:K (cg f d (.func g #[] (l.map (ev n f)).toArray)) w):R1 P n S k ⟨some d,.makeFunc g #[] l.toArray,ty,a,b,c⟩ K f w:=
 Lg (by simpa using h)
theorem rf{P:Program}{n:Nat}{S:World->World->Prop}{k:Nat}{K:Fr->World->Prop}{f:Fr}{w:World}{d ty:Nat}{j:String}{m:Array Edge}{r:Option (Nat×Bool)}{g:FuncId}{x i e:Operand}{l:Array TypeId}{cap:List Value}{v0 v1:Value}{b:Value->World->Prop}
 (q:k=2\/k=1) (o:ev n f x=.func (.func g) #[] cap.toArray) (t:ev n f i=v0) (s:ev n f e=v1) (p:aT P g (v0::v1::cap).toArray w b)
 (h:∀v c,b v c->(k=1->S w c)/\K (cg f d v) c):R1 P n S k ⟨some d,.call { callee:=.value x,args:=#[i,e],argTypes:=l },ty,j,m,r⟩ K f w:=
 ue q o (by simp[t,s]) p h
def arr(n:Nat)(h:Nat->Value):Array Value:=(Array.range n).map h
theorem bf(n:Nat)(h:Nat->Value):(arr n h).size=n:=by simp[arr]
theorem cE{n i:Nat}{h:Nat->Value}(a:i<n):(arr n h)[i]?=some (h i):=by simp[arr,a]
theorem jA(z:Array Value)(n:Nat):madeCells z n=arr n (λk=>z[k%z.size]!):=F
theorem ct(h:Nat->Value)(i:Nat)(v:Value):cg h i v i=v:=by simp[cg]
theorem b9(h:Nat->Value){i j:Nat}(v:Value)(a:j≠i):cg h i v j=h j:=by
 have:Nat.beq j i=false:=by
  cases b:Nat.beq j i
  ·rfl
  ·exact absurd (Nat.eq_of_beq_eq_true b) a
 simp[cg,this]
theorem cT(n i:Nat)(h:Nat->Value)(v:Value):(arr n h).setIfInBounds i v=arr n (cg h i v):=by
 apply Array.ext_getElem?;intro j;rw[Array.getElem?_setIfInBounds];by_cases a:j<n
 ·rw[cE a];by_cases b:i=j
  ·subst b;rw[ab F,ab (by rw[bf];exact a),cE a,ct]
  ·rw[aa b,cE a,b9 h v (Ne.symm b)]
 ·have c:(arr n h)[j]?=none:=by simp[arr,a]
  have b:(arr n (cg h i v))[j]?=none:=by simp[arr,a]
  rw[c,b];split
  ·rw[aa (by rw[bf];omega)]
  ·rfl
def ef(M:Nat->Int)(j:Nat)(z:Int):Nat->Int:=λk=>if k=j then z else M k
def jP(w:World)(g c:Nat)(M:Nat->Int):Prop:=∃h,bg w g 44 (arr (c*2) h)/\∀j,j<c->CV w (h (j*2)) (h (j*2+1)) (M j)
theorem CV.zero(w:World):CV w (.bool false) (.slice none 0 0) 0:=⟨false,none,[],0,F,F,Nat.le_refl _,by omega,fM.nil _ _,dz.nil,λ_=>rfl,rfl⟩
theorem vu{w:World}{g c:Nat}(h:bg w g 44 (madeCells (Value.agg #[.bool false,.slice none 0 0]).cells (c*2))):jP w g c (λ_=>0):=by
 refine⟨_,by rw[jA]at h;exact h,λj a=>?_⟩;have b:j*2%2=0:=aq;have a:(j*2+1)%2=1:=aq;have:(Value.agg #[.bool false,.slice none 0 0]).cells=#[.bool false,.slice none 0 0]:=F;simp only[this];show CV w (#[Value.bool false,.slice none 0 0][j*2%2]!) (#[Value.bool false,.slice none 0 0][(j*2+1)%2]!) 0;rw[b,a];exact CV.zero w
theorem jP.Y{w w':World}{g c:Nat}{M:Nat->Int}(h:jP w g c M)(a:Ext w w'):jP w' g c M:=by
 obtain⟨h,b,d⟩:=h;exact⟨h,b.Y a,λj b=>(d j b).Y a⟩
theorem jP.lT{w:World}{c:Nat}{h:Nat->Value}{M:Nat->Int}(f:∀j,j<c->CV w (h (j*2)) (h (j*2+1)) (M j)):nX (arr (c*2) h):=by
 intro i k z a;by_cases b:i<c*2
 ·rw[cE b]at a;have a:=Option.some.inj a;obtain⟨g,A,l,g,e,d,_⟩:=f (i/2) aq;rcases Nat.mod_two_eq_zero_or_one i with f|f
  ·rw[show i/2*2=i by omega]at e;rw[e]at a;cases a
  ·rw[show i/2*2+1=i by omega]at d;rw[d]at a;cases a
 ·simp[arr,b]at a
theorem jP.congr{w:World}{g c:Nat}{M M':Nat->Int}(h:jP w g c M)(e:∀j,j<c->M j=M' j):jP w g c M':=by
 obtain⟨h,a,b⟩:=h;exact⟨h,a,λj a=>by rw[<-e j a];exact b j a⟩
theorem jP.lt{w:World}{g c:Nat}{M:Nat->Int}(h:jP w g c M):g<w.heap.size:=by
 obtain⟨h,a,b⟩:=h;exact a.lt
theorem dO{n:Nat}{h h':Nat->Value}(e:∀k,k<n->h k=h' k):arr n h=arr n h':=by
 apply Array.ext_getElem?;intro j;by_cases a:j<n
 ·rw[cE a,cE a,e j a]
 ·simp[arr,a]
theorem jP.dT{w w':World}{g c G T:Nat}{cs:Array Value}{M:Nat->Int}(h:jP w g c M)(i:bg w G T cs)(e:nX cs)(a:Ch (λb=>b=G) w w')(b:g≠G):jP w' g c M:=by
 obtain⟨h,d,f⟩:=h;exact⟨h,d.ch a b,λj b=>(f j b).dT i e a⟩
theorem jP.set{w w':World}{g c j:Nat}{h:Nat->Value}{M:Nat->Int}{x y:Value}{z:Int}(f:bg w g 44 (arr (c*2) h))(e:∀j,j<c->CV w (h (j*2)) (h (j*2+1)) (M j))
 (l:CV w x y z) (i:Ch (λb=>b=g) w w') (b:bg w' g 44 (((arr (c*2) h).setIfInBounds (0+j*2) x).setIfInBounds (0+j*2+1) y)):jP w' g c (ef M j z):=by
 refine⟨_,by rw[cT,cT]at b;exact b,λk m=>?_⟩;have d:=jP.lT e;by_cases a:k=j
 ·subst a;rw[Nat.zero_add,b9 _ _ (show k*2≠k*2+1 by omega),ct,ct];simp only[ef,if_true];exact l.dT f d i
 ·rw[Nat.zero_add,b9 _ _ aq,b9 _ _ aq,b9 _ _ aq,b9 _ _ aq];simp only[ef,aa a];exact(e k m).dT f d i
theorem ff{r:Nat}{h:Nat->Value}(d:∀i,i<r->∃A m c,h i=.slice A m c):nX (arr r h):=by
 intro i k z a;by_cases b:i<r
 ·rw[cE b]at a;obtain⟨A,m,c,e⟩:=d i b;rw[e]at a;cases a
 ·simp[arr,b]at a
structure iF(w:World)(gO:Nat)(gs:Nat->Nat)(r c:Nat)(M:Nat->Nat->Int):Prop where
 outer:bg w gO 49 (arr r λi=>.slice (some ⟨gs i,0,none⟩) c c)
 row:∀i,i<r->jP w (gs i) c (M i)
 ne:∀i,i<r->gs i≠gO
 inj:∀i j,i<r->j<r->gs i=gs j->i=j
theorem iF.Y{w w':World}{d:Nat}{b:Nat->Nat}{r c:Nat}{M:Nat->Nat->Int}(h:iF w d b r c M)(a:Ext w w'):iF w' d b r c M:=
 ⟨h.outer.Y a,λi b=>(h.row i b).Y a,h.ne,h.inj⟩
def RM(w:World)(r c:Nat)(M:Nat->Nat->Int)(v:Value)(w':World):Prop:=
 Ext w w'/\∃b d,v=.slice (some ⟨b,0,none⟩) r r/\w.heap.size<=b/\(∀i,i<r->w.heap.size<=d i)/\iF w' b d r c M
def gY(E:World->Value->Value->Int->Prop)(w:World)(v:Value)(c:Nat)(g:Nat->Int):Prop:=
 ∃A b,v=.slice A c b/\c<=b/\b<9223372036854775808/\∀j,j<c->∃b x y,A=some b/\w.cell? (b.add (j*2))=some x/\w.cell? ((b.add (j*2)).add 1)=some y/\E w x y (g j)
def cB(E:World->Value->Value->Int->Prop)(w:World)(v:Value)(r:Nat)(len:Nat->Nat)(M:Nat->Nat->Int):Prop:=
 ∃A b,v=.slice A r b/\r<=b/\b<9223372036854775808/\∀i,i<r->∃b u,A=some b/\w.cell? (b.add (i*1))=some u/\gY E w u (len i) (M i)
def EI(N:Nat):World->Value->Value->Int->Prop:=λw x y z=>IV w N x y z
theorem gY.Y{w w':World}{N c:Nat}{v:Value}{g:Nat->Int}(h:gY (EI N) w v c g)(a:Ext w w'):gY (EI N) w' v c g:=by
 obtain⟨A,b,rfl,e,d,i⟩:=h;refine⟨A,b,F,e,d,λj f=>?_⟩;obtain⟨k,x,y,e,d,b,h⟩:=i j f;exact⟨k,x,y,e,aP a d,aP a b,IV.Y h a⟩
theorem cB.Y{w w':World}{N r:Nat}{len:Nat->Nat}{v:Value}{M:Nat->Nat->Int}(h:cB (EI N) w v r len M)(a:Ext w w'):cB (EI N) w' v r len M:=by
 obtain⟨A,b,rfl,d,c,f⟩:=h;refine⟨A,b,F,d,c,λj d=>?_⟩;obtain⟨g,u,e,b,c⟩:=f j d;exact⟨g,u,e,aP a b,c.Y a⟩
theorem jP.read{w:World}{g c N:Nat}{M:Nat->Int}(h:jP w g c M)(e:∀j,j<c->(M j).natAbs<B^N)(a:c<9223372036854775808):gY (EI N) w (.slice (some ⟨g,0,none⟩) c c) c M:=by
 obtain⟨h,b,d⟩:=h;refine⟨_,_,F,aD,a,λj a=>⟨_,h (j*2),h (j*2+1),rfl,?_,?_,(d j a).iv (e j a)⟩⟩
 ·rw[add_lit,b.cell,cE aq,Nat.zero_add]
 ·rw[add_lit,add_lit,b.cell,cE aq,Nat.zero_add]
theorem iF.read{w:World}{a:Nat}{b:Nat->Nat}{r c N:Nat}{M:Nat->Nat->Int}(h:iF w a b r c M)(e:∀i j,i<r->j<c->(M i j).natAbs<B^N)(b:r<9223372036854775808)(d:c<9223372036854775808):
 cB (EI N) w (.slice (some ⟨a,0,none⟩) r r) r (λ_=>c) M:=
 ⟨_,_,F,aD,b,λi a=>⟨_,_,rfl,by rw[add_lit,h.outer.cell,cE aq,Nat.zero_add,Nat.mul_one],(h.row i a).read (λj b=>e i j a b) d⟩⟩
theorem lW(r c g:Nat)(cap:List Value)(M:Nat->Nat->Int)(w:World)(hr:r<1073741824)(hc:c<1073741824)
 (hf:∀i j,i<r->j<c->∀l,Ext w l->aT Tryz.prog g (.int .i64 ((i:Nat):Int)::.int .i64 ((j:Nat):Int)::cap).toArray l (RI l (M i j))):
 aT Tryz.prog 86 #[.int .i64 (r:Int),.int .i64 (c:Int),.func (.func g) #[] cap.toArray] w (RM w r c M):=by
 refine bo (n:=43) Tryz.func86 F rfl az aA ?_;refine gg ?_;refine cJ fL (.inl F) F rfl aD aq aq ?_;intro s B S ak;rw[jA,Nat.mul_one]at B;refine gg ?_;refine aY (λf l=>∃d,f 7=.slice (some ⟨w.heap.size,0,none⟩) r r/\Ext w l/\(∀i,i<r->w.heap.size<d i)/\iF l w.heap.size d r c M) ?_ ?_
 ·refine gg ?_;refine aU (λm f l=>∃i d h,m=r-i/\i<=r/\f 1=.int .i64 (c:Int)/\f 2=.func (.func g) #[] cap.toArray/\f 7=.slice (some ⟨w.heap.size,0,none⟩) r r/\f 13=.int .i64 (r:Int)/\f 14=.int .i64 ((i:Nat):Int)/\
   Ext w l/\bg l w.heap.size 49 (arr r h)/\(∀k,k<r->∃A m c,h k=.slice A m c)/\(∀k,k<i->h k=.slice (some ⟨d k,0,none⟩) c c/\jP l (d k) c (M k)/\w.heap.size<d k)/\(∀k O,k<i->O<i->d k=d O->k=O))
   r ⟨0,λ_=>0,_,rfl,aE,rfl,rfl,rfl,rfl,rfl,S,B,λk _=>⟨none,0,0,by simp[Value.cells,Nat.mod_one]⟩,λk a=>absurd a aq,λk O a=>absurd a aq⟩ ?_
  clear B S ak s;rintro m f s ⟨i,d,h,rfl,hi,K,J,C,E,D,S,B,T,t,X⟩;rw[ui K,ui J,ui C,ui E,ui D];clear K J C E D;by_cases U:i<r
  ·refine gg ?_;refine cJ dJ (.inl F) F rfl aD aq aq ?_;intro w2 ae u an;have hO:=vu ae;refine gg ?_;refine cZ (aX F) (.inl F) F rfl (B.Y u) (by rw[bf];omega) ?_;intro R o Q al;have hg:w.heap.size≠s.heap.size:=by have:=B.lt;omega
   have L:=hO.dT (B.Y u) (ff T) Q hg.symm;rw[cT,Nat.zero_add,Nat.mul_one]at o;have I:Ext w R:=Q.aK (S.trans u) λb hb=>aq;have aj:s.heap.size<R.heap.size:=aq;have hx:R.cell? ⟨w.heap.size,0+i*1,none⟩=some (.slice (some ⟨s.heap.size,0,none⟩) c c):=by
    rw[o.cell,cE aq,Nat.zero_add,Nat.mul_one,ct]
   have z:∀k,k<i->h k=.slice (some ⟨d k,0,none⟩) c c/\jP R (d k) c (M k)/\w.heap.size<d k/\d k<s.heap.size:=λk a=>by
    obtain⟨e,ho,hl⟩:=t k a;refine⟨e,(ho.Y u).dT (B.Y u) (ff T) Q aq,hl,?_⟩;obtain⟨_,hb,_⟩:=ho;exact hb.lt
   clear t Q hO ae B u;refine gg ?_;refine aU (λm f l=>∃j Z,m=c-j/\j<=c/\f 1=.int .i64 (c:Int)/\f 2=.func (.func g) #[] cap.toArray/\f 7=.slice (some ⟨w.heap.size,0,none⟩) r r/\f 8=.int .i64 (i:Int)/\f 13=.int .i64 (r:Int)/\f 14=.int .i64 (i:Int)/\
    f 26=.int .i64 (c:Int)/\f 27=.int .i64 (j:Int)/\Ext w l/\bg l w.heap.size 49 (arr r (cg h i (.slice (some ⟨s.heap.size,0,none⟩) c c)))/\(∀k,k<i->jP l (d k) c (M k))/\jP l s.heap.size c Z/\∀q,q<j->Z q=M i q)
    c ⟨0,λ_=>0,rfl,aE,rfl,rfl,rfl,rfl,rfl,rfl,rfl,rfl,I,o,λk a=>(z k a).2.1,L,λq hq=>absurd hq aq⟩ ?_
   have p:∀k,k<i->h k=.slice (some ⟨d k,0,none⟩) c c/\w.heap.size<d k/\d k<s.heap.size:=λk a=>⟨(z k a).1,(z k a).2.2⟩;have ay:=S.size;have ai:∀k,k<r->∃A m cc,cg h i (.slice (some ⟨s.heap.size,0,none⟩) c c) k=.slice A m cc:=λk a=>by
    by_cases G:k=i
    ·subst G;exact⟨_,_,_,ct _ _ _⟩
    ·rw[b9 _ _ G];exact T k a
   clear z L o I hx al aj R an w2 f;rintro m f R ⟨j,Z,rfl,hj,K,J,C,a6,E,D,a1,Y,I,o,a8,L,hZ⟩;rw[ui K,ui J,ui C,ui a6,ui E,ui D,ui a1,ui Y];clear K J C a6 E D a1 Y;by_cases ar:j<c
   ·refine gg ?_;refine cP [(0,3),(1,3),(2,3),(3,0),(4,3),(5,3),(6,3),(7,3),(8,1),(9,3),(10,2)] mixed az λw4 H _=>?_;have hx:w4.cell? ⟨w.heap.size,0+i*1,none⟩=some (.slice (some ⟨s.heap.size,0,none⟩) c c):=by
     rw[(o.Y H).cell,cE aq,Nat.zero_add,Nat.mul_one,ct]
    refine gg ?_;refine rf (.inr F) F rfl rfl (hf i j U ar w4 (I.trans H)) ?_;rintro _ w5 ⟨N,x,y,rfl,V⟩;refine⟨λ_=>N,?_⟩;obtain⟨hh,W,a7⟩:=L.Y (H.trans N);refine gg ?_;refine aZ aQ (.inl F) F rfl V.ep V.eN W (by rw[bf];omega) ?_;intro w6 ax P aH;have au:=jP.set W a7 V P ax;have av:Ext w w6:=P.aK ((I.trans H).trans N) λb hb=>aq;have hg:w.heap.size≠s.heap.size:=by have:=o.lt;omega
    refine gg ?_;refine⟨_,?_,j+1,_,F,aq,F,F,F,F,F,F,F,F,av,(o.Y (H.trans N)).ch P hg,λk a=>((a8 k a).Y (H.trans N)).dT W (jP.lT a7) P (by have:=(p k a).2.2;omega),au,λq hq=>?_⟩
    ·omega
    ·unfold ef;split
     ·rename_i e;rw[e]
     ·exact hZ q aq
   ·refine gg ?_;have:j=c:=aq;subst this;refine⟨_,?_,i+1,λk=>if k=i then s.heap.size else d k,_,rfl,aq,F,F,F,F,F,I,o,ai,λk a=>?_,λk O a b0 e=>?_⟩
    ·omega
    ·by_cases G:k=i
     ·subst G;rw[ct];simp only[if_true];exact⟨trivial,L.congr hZ,aq⟩
     ·rw[b9 _ _ G];simp only[aa G];exact⟨(p k aq).1,a8 k aq,(p k aq).2.1⟩
    ·simp only at e;split at e<;>split at e
     ·omega
     ·have:=(p O aq).2.2;omega
     ·have:=(p k aq).2.2;omega
     ·exact X k O aq aq e
  ·refine gg ?_;have:i=r:=aq;subst this;refine⟨d,F,S,λk a=>(t k a).2.2,⟨?_,λk a=>(t k a).2.1,λk a=>by have:=(t k a).2.2;omega,X⟩⟩;rw[dO λk a=>(t k a).1]at B;exact B
 ·rintro f w2 ⟨d,C,u,U,hO⟩;rw[ui C];refine gg ?_;exact bF (v:=.slice _ _ _) F rfl ⟨u,_,d,F,aD,λi hi=>Nat.le_of_lt (U i hi),hO⟩
theorem jG{P:Program}{n:Nat}{f:Fr}{w:World}{b:Func}{t u s:Tmp}{a:Value->World->Prop}{v v' v'':Value}(k:b.results=#[.tmp t,.tmp u,.tmp s])(i:ev n f (.tmp t)=v)(g:ev n f (.tmp u)=v')(j:ev n f (.tmp s)=v'')(h:a (.tuple #[v,v',v'']) w):
 bodyPost P b (Et a) .ret (act n f) w:=by
 refine bodyPost_ret (v:=.tuple #[v,v',v'']) ?_ F ⟨_,F,h⟩;have e:=congrFun (cO n f) (.tmp t);have c:=congrFun (cO n f) (.tmp u);have d:=congrFun (cO n f) (.tmp s);simp only[Act.eval]at e c d;have a:(act n f).tmps[t]?.getD undef=v:=by rw[<-i,<-e];simp
 have b:(act n f).tmps[u]?.getD undef=v':=by rw[<-g,<-c];simp
 have c:(act n f).tmps[s]?.getD undef=v'':=by rw[<-j,<-d];simp
 simp[results,k,a,b,c]
def kF(r:Nat)(len:Nat->Nat):Bool:=decide (1<=r/\r<=16/\1<=len 0/\len 0<=16)&&(List.range r).all λi=>len i == len 0
theorem cD{r:Nat}{len:Nat->Nat}:kF r len=true↔(1<=r/\r<=16/\1<=len 0/\len 0<=16)/\∀i,i<r->len i=len 0:=by
 simp[kF,List.all_eq_true]
def ky(r:Nat)(len:Nat->Nat):Value:=
 bif kF r len then .tuple #[.int .i64 (r:Int),.int .i64 ((len 0:Nat):Int),.bool true]else .tuple #[.int .i64 ((0:Nat):Int),.int .i64 ((0:Nat):Int),.bool false]
theorem js{r:Nat}{len:Nat->Nat}(h:kF r len=true):ky r len=.tuple #[.int .i64 (r:Int),.int .i64 ((len 0:Nat):Int),.bool true]:=by rw[ky,h];rfl
theorem dG{r:Nat}{len:Nat->Nat}(h:¬kF r len=true):ky r len=.tuple #[.int .i64 ((0:Nat):Int),.int .i64 ((0:Nat):Int),.bool false]:=by
 rw[ky];simp at h;rw[h];rfl
theorem jr(E:World->Value->Value->Int->Prop)(v:Value)(r:Nat)(len:Nat->Nat)(M:Nat->Nat->Int)(w:World)(h:cB E w v r len M):
 aT Tryz.prog 85 #[v] w λv' b=>w=b/\v'=ky r len:=by
 obtain⟨A,c,rfl,s,s,a⟩:=h;refine bo (n:=40) Tryz.func85 F rfl az aA ?_;refine gg ?_;refine aN ?_;by_cases s:r<1
 ·refine gg ?_;refine jG (v:=.int _ _) (v':=.int _ _) (v'':=.bool _) F rfl rfl rfl ⟨F,?_⟩;rw[dG (λe=>by have:=cD.1 e;omega)]
 by_cases s:16<r
 ·refine gg ?_;refine jG (v:=.int _ _) (v':=.int _ _) (v'':=.bool _) F rfl rfl rfl ⟨F,?_⟩;rw[dG (λe=>by have:=cD.1 e;omega)]
 obtain⟨j,u,rfl,f,m,d,rfl,s⟩:=a 0 aq;have s:w.cell? (j.add (((0:Nat):Nat)*1))=some (.slice m (len 0) d):=f;refine gg ?_;refine aN ?_;by_cases d:len 0<1
 ·refine gg ?_;refine jG (v:=.int _ _) (v':=.int _ _) (v'':=.bool _) F rfl rfl rfl ⟨F,?_⟩;rw[dG (λe=>by have:=cD.1 e;omega)]
 by_cases d:16<len 0
 ·refine gg ?_;refine jG (v:=.int _ _) (v':=.int _ _) (v'':=.bool _) F rfl rfl rfl ⟨F,?_⟩;rw[dG (λe=>by have:=cD.1 e;omega)]
 refine gg ?_;refine aN ?_;refine gg ?_;refine aU (λm f b=>w=b/\∃i,m=r-i/\i<=r/\f 0=.slice (some j) r c/\f 5=.int .i64 ((len 0:Nat):Int)/\f 26=.slice (some j) r c/\f 27=.int .i64 (r:Int)/\f 28=.int .i64 ((i:Nat):Int)/\∀k,k<i->len k=len 0)
  r ⟨F,0,F,aE,F,F,F,F,F,λk g=>absurd g aq⟩ ?_
 rintro m f b ⟨rfl,i,rfl,b,m,f,d,c,b,g⟩;rw[ui m,ui f,ui d,ui c,ui b];clear m f d c b;by_cases o:i<r
 ·obtain⟨q,u,e,b,b,b,rfl,b⟩:=a i o;obtain rfl:j=q:=Option.some.inj e;by_cases l:len i=len 0
  ·refine gg ?_;refine⟨_,?_,F,i+1,F,aq,F,F,F,F,F,λk p=>?_⟩
   ·omega
   ·rcases Nat.lt_succ_iff_lt_or_eq.1 p with h|h
    ·exact g k h
    ·rw[h];exact l
  ·refine gg ?_;refine jG (v:=.int _ _) (v':=.int _ _) (v'':=.bool _) F rfl rfl rfl ⟨F,?_⟩;rw[dG λe=>l ((cD.1 e).2 i o)]
 ·refine gg ?_;refine jG (v:=.int _ _) (v':=.int _ _) (v'':=.bool _) F rfl rfl rfl ⟨F,?_⟩;rw[js (cD.2 ⟨⟨aq,aq,aq,aq⟩,λk p=>g k aq⟩)]
theorem qQ(E:World->Value->Value->Int->Prop)(v:Value)(r:Nat)(len:Nat->Nat)(M:Nat->Nat->Int)(w:World)(h:cB E w v r len M):
 aT Tryz.prog 123 #[v] w λv' b=>Ext w b/\v'=ky r len:=by
 obtain⟨A,g,rfl,t,t,a⟩:=h;refine bo (n:=45) Tryz.func123 F rfl az aA ?_;refine gg ?_;refine aN ?_;by_cases t:r<1
 ·refine gg ?_;refine jG (v:=.int _ _) (v':=.int _ _) (v'':=.bool _) F rfl rfl rfl ⟨Ext.refl _,?_⟩;rw[dG (λe=>by have:=cD.1 e;omega)]
 by_cases t:16<r
 ·refine gg ?_;refine jG (v:=.int _ _) (v':=.int _ _) (v'':=.bool _) F rfl rfl rfl ⟨Ext.refl _,?_⟩;rw[dG (λe=>by have:=cD.1 e;omega)]
 obtain⟨j,u,rfl,m,s,f,rfl,t⟩:=a 0 aq;have o:w.cell? (j.add (((0:Nat):Nat)*1))=some (.slice s (len 0) f):=m;refine gg ?_;refine aN ?_;refine gg ?_;refine aU (λm f b=>w=b/\∃i,m=r-i/\i<=r/\f 0=.slice (some j) r g/\f 15=.slice (some j) r g/\f 16=.int .i64 (r:Int)/\f 17=.int .i64 ((i:Nat):Int)/\∀k,k<i->len k=len 0/\1<=len 0/\len 0<=16)
  r ⟨F,0,F,aE,F,F,F,F,λk d=>absurd d aq⟩ ?_
 rintro m f b ⟨rfl,i,rfl,b,m,g,f,b,d⟩;rw[ui m,ui g,ui f,ui b];clear m g f b;by_cases c:i<r
 ·obtain⟨q,u,e,b,b,b,rfl,b⟩:=a i c;obtain rfl:j=q:=Option.some.inj e;by_cases a:len i<1
  ·refine gg ?_;refine jG (v:=.int _ _) (v':=.int _ _) (v'':=.bool _) F rfl rfl rfl ⟨Ext.refl _,?_⟩;rw[dG (λe=>by have a:=cD.1 e;have b:=a.2 i c;omega)]
  by_cases f:16<len i
  ·refine gg ?_;refine jG (v:=.int _ _) (v':=.int _ _) (v'':=.bool _) F rfl rfl rfl ⟨Ext.refl _,?_⟩;rw[dG (λe=>by have a:=cD.1 e;have b:=a.2 i c;omega)]
  by_cases p:len i=len 0
  ·refine gg ?_;refine⟨_,?_,F,i+1,F,aq,F,F,F,F,λk l=>?_⟩
   ·omega
   ·rcases Nat.lt_succ_iff_lt_or_eq.1 l with h|h
    ·exact d k h
    ·rw[h];omega
  ·refine gg ?_;refine jG (v:=.int _ _) (v':=.int _ _) (v'':=.bool _) F rfl rfl rfl ⟨Ext.refl _,?_⟩;rw[dG λe=>p ((cD.1 e).2 i c)]
 ·refine gg ?_;refine b_ [(0,3),(1,3),(2,3),(3,3),(4,0),(5,3),(6,3),(7,3),(8,3)] mixed az λa a _=>?_;have b:=aP a o;refine gg ?_;refine jG (v:=.int _ _) (v':=.int _ _) (v'':=.bool _) F rfl rfl rfl ⟨a,?_⟩;have:=d 0 aq;rw[js (cD.2 ⟨⟨aq,aq,aq,aq⟩,λk l=>(d k aq).1⟩)]
def gn:Nat->(Nat->Int)->Int
 |0,_=>0
 |k+1,f=>gn k f+f k
def Bd(N:Nat)(z:Int):Prop:=z.natAbs<B^N
theorem BC(N:Nat):0<B^N:=Nat.pow_pos (by decide)
theorem Bd.mono{N N':Nat}{z:Int}(h:Bd N z)(a:N<=N'):Bd N' z:=Nat.lt_of_lt_of_le h (Nat.pow_le_pow_right (by decide) a)
theorem Bd.mul{N N':Nat}{a b:Int}(d:Bd N a)(c:Bd N' b):Bd (N+N') (a*b):=by
 unfold Bd at*;rw[Int.natAbs_mul,Nat.pow_add];exact Nat.mul_lt_mul'' d c
theorem Bd.neg{N:Nat}{a:Int}(b:Bd N a):Bd N (-a):=by unfold Bd at *;rw[Int.natAbs_neg];exact b
theorem Lv(N:Nat):B^N+B^N<=B^(N+1):=by
 have:=Nat.mul_le_mul (Nat.le_refl (B^N)) (show 2<=B by decide);rw[Nat.pow_succ];omega
theorem Bd.add{N:Nat}{a b:Int}(c:Bd N a)(c:Bd N b):Bd (N+1) (a+b):=by
 unfold Bd at*;have:=Int.natAbs_add_le a b;have:=Lv N;omega
theorem Bd.sub{N:Nat}{a b:Int}(d:Bd N a)(c:Bd N b):Bd (N+1) (a-b):=by
 rw[Int.sub_eq_add_neg];exact d.add c.neg
theorem Bd.ediv{N:Nat}{a b:Int}(c:Bd N a):Bd N (a/b):=by
 unfold Bd at*;exact Nat.lt_of_le_of_lt (Int.natAbs_ediv_le_natAbs _ _) c
theorem Bd.zero(N:Nat):Bd N 0:=BC N
theorem Gy(n N:Nat)(f:Nat->Int)(h:∀k,k<n->Bd N (f k)):(gn n f).natAbs<=n*B^N:=by
 induction n with
 |zero=>simp[gn]
 |succ n a=>
  have b:=a λk a=>h k aq;have a:(f n).natAbs<B^N:=h n aq;have:=Int.natAbs_add_le (gn n f) (f n);rw[Nat.succ_mul];show(gn n f+f n).natAbs<=_;omega
theorem im{n N:Nat}{f:Nat->Int}(a:n<4294967296)(h:∀k,k<n->Bd N (f k)):Bd (N+1) (gn n f):=by
 have b:=Gy n N f h;have b:n*B^N<B*B^N:=Nat.mul_lt_mul_of_pos_right a (BC N);unfold Bd;rw[Nat.pow_succ,Nat.mul_comm (B^N)];omega
theorem IV.mono{w:World}{N N':Nat}{x y:Value}{z:Int}(h:IV w N x y z)(a:N<=N'):IV w N' x y z:=by
 obtain⟨a,A,l,c,i,g,f,e,d,b,b⟩:=h;exact⟨a,A,l,c,i,g,f,e,d,aq,b⟩
theorem gY.mono{w:World}{N N' c:Nat}{v:Value}{g:Nat->Int}(h:gY (EI N) w v c g)(i:N<=N'):gY (EI N') w v c g:=by
 obtain⟨A,a,rfl,d,b,k⟩:=h;refine⟨A,a,F,d,b,λj d=>?_⟩;obtain⟨h,x,y,e,b,a,f⟩:=k j d;exact⟨h,x,y,e,b,a,IV.mono f i⟩
theorem cB.mono{w:World}{N N' r:Nat}{len:Nat->Nat}{v:Value}{M:Nat->Nat->Int}(h:cB (EI N) w v r len M)(d:N<=N'):cB (EI N') w v r len M:=by
 obtain⟨A,a,rfl,c,b,f⟩:=h;refine⟨A,a,F,c,b,λj c=>?_⟩;obtain⟨g,u,e,a,b⟩:=f j c;exact⟨g,u,e,a,b.mono d⟩
theorem bh{w:World}{g T:Nat}{x y:Value}(h:bg w g T #[x,y]):w.cell? ⟨g,0,none⟩=some x/\w.cell? ((⟨g,0,none⟩ : Addr).add 1)=some y:=by
 refine⟨by rw[h.cell];rfl,by rw[add_lit,h.cell];rfl⟩
theorem iY{w:World}{g T:Nat}{x:Value}(h:bg w g T #[x]):w.cell? ⟨g,0,none⟩=some x:=by rw[h.cell];rfl
def uB(a:Int):Nat->Nat->Int:=λi j=>if i=j then a else 0
def mulM(n:Nat)(X Y:Nat->Nat->Int):Nat->Nat->Int:=λi j=>gn n λk=>X i k*Y k j
theorem BY(i j g N:Nat)(x y:Value)(z:Int)(w:World)(m:bg w g 44 #[x,y])(h:IV w N x y z)(b:N<1099511627776):
 aT Tryz.prog 175 #[.int .i64 (i:Int),.int .i64 (j:Int),.pointer (some ⟨g,0,none⟩)] w (RI w (uB z i j)):=by
 refine bo (n:=12) Tryz.func175 F rfl az aA ?_;refine gg ?_;refine aS (.inl F) a_ ?_;intro a o k c;obtain⟨c,c⟩:=bh (m.Y k);refine gg ?_;refine aN ?_;by_cases l:i=j
 ·refine gg ?_;refine aJ (iz _ _ _ N a (h.Y k) b) ?_;rintro _ a ⟨e,a,a,rfl,c⟩;refine gg ?_;refine aZ aQ (.inl F) F rfl c.ep c.eN (o.Y e) aw ?_;intro h f a p;refine gg ?_;have d:Ext w h:=a.aK (k.trans e) λb m=>aq;refine eZ F aQ F f ⟨d,_,_,F,?_⟩;rw[uB,ab l];exact c.dT (o.Y e) dn a
 ·refine gg ?_;refine dR fm ?_;refine gg ?_;refine aZ aQ (.inl F) F rfl rfl rfl o aw ?_;intro h f a p;refine gg ?_;have d:Ext w h:=a.aK k λb m=>aq;refine eZ F aQ F f ⟨d,_,_,F,?_⟩;rw[uB,aa l];exact CV.zero _
theorem u7(n N:Nat)(x y:Value)(z:Int)(w:World)(h:IV w N x y z)(e:N<1099511627776)(a:n<1073741824)(_ho0:x.oneCell'=true):
 aT Tryz.prog 137 #[.int .i64 (n:Int),.agg #[x,y]] w (RM w n n (uB z)):=by
 refine bo (n:=9) Tryz.func137 F rfl az aA ?_;refine gg ?_;refine bO (v:=.agg _) (.inl F) F ?_;intro d f b j;refine gg ?_;refine jD ?_;refine gg ?_;refine aJ (lW n n _ _ (uB z) d a a λi j _ _ d a=>BY i j _ N x y z d (f.Y a) (h.Y (b.trans a)) e) ?_;rintro v a ⟨c,k,g,rfl,a,a,d⟩;refine gg ?_;have:=b.size;exact bF (v:=.slice _ _ _) F rfl ⟨b.trans c,k,g,F,aq,λi b=>by have:=a i b;omega,d⟩
