import Derived.Test.YtmfndnlifgphjaaGreatQzj
set_option maxHeartbeats 64000000
open Go.Proofs.YtmfndnlifgphjaaGreat
namespace Go.Proofs.Qq
section
open Go Go.cU Go.cV Go.Proofs
def fN:Nat->(Nat->Int)->Int
 |0,_=>0
 |k+1,f=>fN k f+f k
def Bd(N:Nat)(z:Int):Prop:=z.natAbs<B^N
theorem Dk(N:Nat):0<B^N:=Nat.pow_pos (by decide)
theorem Bd.mono{N N':Nat}{z:Int}(h:Bd N z)(a:N<=N'):Bd N' z:=Nat.lt_of_lt_of_le h (Nat.pow_le_pow_right (by decide) a)
theorem Bd.mul{N N':Nat}{a b:Int}(d:Bd N a)(c:Bd N' b):Bd (N+N') (a*b):=by
 unfold Bd at*;rw[Int.natAbs_mul,Nat.pow_add];exact Nat.mul_lt_mul'' d c
theorem Bd.neg{N:Nat}{a:Int}(b:Bd N a):Bd N (-a):=by unfold Bd at *;rw[Int.natAbs_neg];exact b
theorem HD(N:Nat):B^N+B^N<=B^(N+1):=by
 have:=Nat.mul_le_mul (Nat.le_refl (B^N)) (show 2<=B by decide);rw[Nat.pow_succ];omega
theorem Bd.add{N:Nat}{a b:Int}(c:Bd N a)(c:Bd N b):Bd (N+1) (a+b):=by
 unfold Bd at*;have:=Int.natAbs_add_le a b;have:=HD N;omega
theorem Bd.sub{N:Nat}{a b:Int}(d:Bd N a)(c:Bd N b):Bd (N+1) (a-b):=by
 rw[Int.sub_eq_add_neg];exact d.add c.neg
theorem Bd.ediv{N:Nat}{a b:Int}(c:Bd N a):Bd N (a/b):=by
 unfold Bd at*;exact Nat.lt_of_le_of_lt (Int.natAbs_ediv_le_natAbs _ _) c
theorem Bd.zero(N:Nat):Bd N 0:=Dk N
theorem AN(n N:Nat)(f:Nat->Int)(h:∀k,k<n->Bd N (f k)):(fN n f).natAbs<=n*B^N:=by
 induction n with
 |zero=>simp[fN]
 |succ n a=>
  have b:=a λk a=>h k aq;have a:(f n).natAbs<B^N:=h n aq;have:=Int.natAbs_add_le (fN n f) (f n);rw[Nat.succ_mul];show(fN n f+f n).natAbs<=_;omega
theorem mX{n N:Nat}{f:Nat->Int}(a:n<4294967296)(h:∀k,k<n->Bd N (f k)):Bd (N+1) (fN n f):=by
 have b:=AN n N f h;have b:n*B^N<B*B^N:=Nat.mul_lt_mul_of_pos_right a (Dk N);unfold Bd;rw[Nat.pow_succ,Nat.mul_comm (B^N)];omega
theorem IV.mono{w:World}{N N':Nat}{x y:Value}{z:Int}(h:IV w N x y z)(a:N<=N'):IV w N' x y z:=by
 obtain⟨a,A,l,c,i,g,f,e,d,b,b⟩:=h;exact⟨a,A,l,c,i,g,f,e,d,aq,b⟩
theorem iN.mono{w:World}{N N' c:Nat}{v:Value}{g:Nat->Int}(h:iN (EI N) w v c g)(i:N<=N'):iN (EI N') w v c g:=by
 obtain⟨A,a,rfl,d,b,k⟩:=h;refine⟨A,a,F,d,b,λj d=>?_⟩;obtain⟨l,x,y,e,b,a,f⟩:=k j d;exact⟨l,x,y,e,b,a,IV.mono f i⟩
theorem cO.mono{w:World}{N N' r:Nat}{a:Nat->Nat}{v:Value}{M:Nat->Nat->Int}(h:cO (EI N) w v r a M)(d:N<=N'):cO (EI N') w v r a M:=by
 obtain⟨A,b,rfl,c,a,f⟩:=h;refine⟨A,b,F,c,a,λj c=>?_⟩;obtain⟨g,u,e,a,b⟩:=f j c;exact⟨g,u,e,a,b.mono d⟩
theorem a9{w:World}{g T:Nat}{x y:Value}(h:bh w g T #[x,y]):w.cell? ⟨g,0,none⟩=some x/\w.cell? ((⟨g,0,none⟩ : Addr).add 1)=some y:=by
 refine⟨by rw[h.cell];rfl,by rw[add_lit,h.cell];rfl⟩
theorem ir{w:World}{g T:Nat}{x:Value}(h:bh w g T #[x]):w.cell? ⟨g,0,none⟩=some x:=by rw[h.cell];rfl
def qN(a:Int):Nat->Nat->Int:=λi j=>if i=j then a else 0
def mulM(n:Nat)(X Y:Nat->Nat->Int):Nat->Nat->Int:=λi j=>fN n λk=>X i k*Y k j
theorem wJ(i j g N:Nat)(x y:Value)(z:Int)(w:World)(o:bh w g 35 #[x,y])(h:IV w N x y z)(b:N<1099511627776):
 aT Tryz.prog 125 #[.int .i64 (i:Int),.int .i64 (j:Int),.pointer (some ⟨g,0,none⟩)] w (RI w (qN z i j)):=by
 refine bF (n:=12) Tryz.func125 F rfl aw aA ?_;refine gg ?_;refine aR (.inl F) a_ ?_;intro a p k c;obtain⟨c,c⟩:=a9 (o.Y k);refine gg ?_;refine aP ?_;by_cases l:i=j
 ·refine gg ?_;refine aJ (kx _ _ _ N a (h.Y k) b) ?_;rintro _ a ⟨e,a,a,rfl,c⟩;refine gg ?_;refine aV aN (.inl F) F rfl c.db c.de (p.Y e) ar ?_;intro m f a q;refine gg ?_;have d:Ext w m:=a.aK (k.trans e) λb o=>aq;refine dO F aN F f ⟨d,_,_,F,?_⟩;rw[qN,ae l];exact c.dj (p.Y e) cN a
 ·refine gg ?_;refine fp ij ?_;refine gg ?_;refine aV aN (.inl F) F rfl rfl rfl p ar ?_;intro m f a q;refine gg ?_;have d:Ext w m:=a.aK k λb o=>aq;refine dO F aN F f ⟨d,_,_,F,?_⟩;rw[qN,aa l];exact CV.zero _
theorem zu(n N:Nat)(x y:Value)(z:Int)(w:World)(h:IV w N x y z)(e:N<1099511627776)(a:n<1073741824)(_ho0:x.oneCell'=true):
 aT Tryz.prog 123 #[.int .i64 (n:Int),.agg #[x,y]] w (RM w n n (qN z)):=by
 refine bF (n:=9) Tryz.func123 F rfl aw aA ?_;refine gg ?_;refine aZ (v:=.agg _) (.inl F) F ?_;intro d f b j;refine gg ?_;refine kl ?_;refine gg ?_;refine aJ (lT n n _ _ (qN z) d a a λi j _ _ d a=>wJ i j _ N x y z d (f.Y a) (h.Y (b.trans a)) e) ?_;rintro v a ⟨c,k,g,rfl,a,a,d⟩;refine gg ?_;have:=b.size;exact cI (v:=.slice _ _ _) F rfl ⟨b.trans c,k,g,F,aq,λi b=>by have:=a i b;omega,d⟩
end
end Go.Proofs.Qq
namespace Go.cU
section
open Go
structure FC where
 i:Nat
 d:Nat
 T:Nat
 cs:Array Value
 vl:Nat->Value
def Ag(D:List Nat)(f f1:Fr):Prop:=∀i,D.contains i=false->f i=f1 i
def xh(ops:Array Oper)(D:List Nat)(o:Oper):Bool:=D.all λd=>!(o.looksAt ops).contains d&&o.dst != some d
def uU(E:List Nat)(o:Oper):Bool:=match o.dst with|none=>true|some d=>E.contains d
def uS(ops:Array Oper)(D E:List Nat)(i:Nat):Bool:=match ops[i]? with|none=>false|some o=>xh ops D o&&uU E o
def AA(n:Nat)(E:List Nat)(f f1:Fr):Prop:=∀i,i<n->E.contains i=false->f i=f1 i
section
variable {P:Program}{n:Nat}{ops:Array Oper}{D E:List Nat}{f f1:Fr}{w w':World}{o:Oper}{K:Fr->World->Prop}
theorem Ag.refl(D:List Nat)(f:Fr):Ag D f f:=λ_ _=>rfl
theorem uR(a:xh ops D o=true){t:Nat}(c:t∈o.looksAt ops):D.contains t=false:=by
 cases hc:D.contains t with
 |false=>rfl
 |true=>
  exfalso;simp only[xh,List.all_eq_true,Bool.and_eq_true,Bool.not_eq_true']at a;have b:=(a t (by simpa using hc)).1;have a:(o.looksAt ops).contains t=true:=by simpa using c
  rw[a]at b;cases b
theorem Er(a:xh ops D o=true){t:Nat}(c:o.dst=some t):D.contains t=false:=by
 cases hc:D.contains t with
 |false=>rfl
 |true=>
  exfalso;simp only[xh,List.all_eq_true,Bool.and_eq_true,Bool.not_eq_true']at a;have b:=(a t (by simpa using hc)).2;rw[c]at b;simp at b
theorem BP(c:∀h b,o.op≠.select h b)(d:xh ops D o=true)(e:Ag D f f1):execOp (ev n f) o=execOp (ev n f1) o:=by
 refine execOp_congr o c λx a=>?_;cases x with
 |tmp t=>
  have:D.contains t=false:=uR d (List.mem_append_left _ (List.mem_filterMap.2 ⟨.tmp t,by simpa using a,F⟩));simp only[ev];rw[e t this]
 |const v=>rfl
 |global g=>rfl
 |func g=>rfl
theorem BO(d:xh ops D o=true)(e:Ag D f f1):want n ops f o=want n ops f1 o:=by
 unfold want Region.wanted;cases c:o.guard with
 |none=>rfl
 |some h=>
  obtain⟨g,i⟩:=h;have b:yielded ops (act n f).tmps g=yielded ops (act n f1).tmps g:=by
   unfold yielded;cases a:(ops[g]?).bind (·.dst)with
   |none=>rfl
   |some t=>
    have:D.contains t=false:=uR d (by simp[Oper.looksAt,c,a]);by_cases a:t<n
    ·simp[act,a,e t this]
    ·simp[act,a]
  simp only[b]
theorem Ag.bS(b:Ag D f f1)(d:Option Nat)(v:Value):Ag D (fh f d v) (fh f1 d v):=by
 intro i a;cases d with
 |none=>exact b i a
 |some d=>
  simp only[fh];by_cases h:i=d
  ·subst h;rw[jX,jX]
  ·rw[bw f v h,bw f1 v h];exact b i a
theorem np(a:xh ops D o=true)(v:Value){d:Nat}(b:D.contains d=true):fh f o.dst v d=f d:=by
 cases h:o.dst with
 |none=>rfl
 |some t=>
  have:=Er a h;refine bw f v ?_;rintro rfl;rw[b]at this;cases this
theorem AA.refl(n:Nat)(E:List Nat)(f:Fr):AA n E f f:=λ_ _ _=>rfl
theorem AA.trans{a:Fr}(h:AA n E f f1)(k:AA n E f1 a):AA n E f a:=λi a b=>(h i a b).trans (k i a b)
theorem nw(a:uU E o=true)(v:Value){i:Nat}(b:E.contains i=false):fh f o.dst v i=f i:=by
 cases h:o.dst with
 |none=>rfl
 |some t=>
  refine bw f v ?_;rintro rfl;simp only[uU,h]at a;rw[b]at a;cases a
def Jg(n:Nat)(D E:List Nat)(f:Fr)(w:World)(K:Fr->World->Prop)(b:Fr)(w':World):Prop:=
 Ext w w'/\(∀d,D.contains d=true->b d=f d)/\AA n E b f/\∃a,Ag D b a/\K a w'
theorem Ip{k:Nat}(b:k≠2)(G:∀B b,o.op≠.select B b)(z:xh ops D o=true)(C:uU E o=true)(A:Ag D f f1)(h:R1 P n Ext k o K f1 w):R1 P n Ext k o (Jg n D E f w K) f w:=by
 have B:=BP (n:=n) G z A;unfold R1 at h⊢;by_cases G:k=0
 ·rw[ae G]at h⊢;obtain⟨v,b,t⟩:=h;exact⟨v,λw' H=>by rw[B];exact b w' H,Ext.refl _,λd p=>np z v p,λi _ j=>nw C v j,_,A.bS o.dst v,t⟩
 by_cases H:k=3
 ·rw[aa G,ae H]at h⊢;obtain⟨v,b,t⟩:=h;exact⟨v,λw'=>by rw[B];exact b w',Ext.refl _,λd p=>np z v p,λi _ j=>nw C v j,_,A.bS o.dst v,t⟩
 ·rw[aa G,aa H]at h⊢;unfold Oper.wp at h⊢;rw[b9]at h⊢;rw[B];have q:∀v w',(∃l,act n (fh f1 o.dst v)=act n l/\(k=2\/w'=w\/Ext w w')/\K l w')->∃l,act n (fh f o.dst v)=act n l/\(k=2\/w'=w\/Ext w w')/\Jg n D E f w K l w':=by
   rintro v w' ⟨l,e,s,t⟩;have J:∀i,D.contains i=true->(bif D.contains i then f i else l i)=f i:=λi j=>by rw[j];rfl
   have L:∀i,D.contains i=false->(bif D.contains i then f i else l i)=l i:=λi j=>by rw[j];rfl
   have I:∀i,i<n->fh f o.dst v i=bif D.contains i then f i else l i:=λi j=>by
    have M:fh f1 o.dst v i=l i:=by
     have:=congrArg (λa=>a.tmps[i]?) e;simpa[act,j]using this
    cases p:D.contains i with
    |true=>exact np z v p
    |false=>exact((A.bS o.dst v) i p).trans M
   refine⟨λi=>bif D.contains i then f i else l i,?_,s,?_,J,λi j b=>(I i j).symm.trans (nw C v b),l,L,t⟩
   ·unfold act;congr 1;apply Array.ext_getElem?;intro i;by_cases j:i<n
    ·rw[Array.getElem?_ofFn,Array.getElem?_ofFn,dif_pos j,dif_pos j,I i j]
    ·rw[Array.getElem?_ofFn,Array.getElem?_ofFn,dif_neg j,dif_neg j]
   ·rcases s with s|rfl|s
    ·omega
    ·exact Ext.refl _
    ·exact s
  generalize (execOp (ev n f1) o).run P w=r at*;cases r with
  |ok nx w'=>
   cases nx<;>simp only[Oper.upon]at h⊢
   case value v=>rw[fH]at h⊢;exact q v w' h
   case skip=>rw[fH]at h⊢;exact q _ w' h
   case defer d=>
    exfalso;obtain⟨l,e,_⟩:=h;have:=congrArg (λa=>a.defers) e;cases p:o.dst<;>simp[act,p,Act.put]at this
   case enter g args=>
    refine Calls.mono h λe y m=>?_;cases e with
    |returned u=>simp only[]at m⊢;rw[fH]at m⊢;exact q u y m
    |panicked c=>exact m
    |outgrown=>obtain⟨a,w,a⟩:=m;exact a.elim
   case row row args=>exact Rows.mono h λu y m=>by rw[fH]at m⊢;exact q u y m
  |halt x w'=>
   cases x<;>simp only[Oper.upon]at h⊢
   case panic=>exact h
theorem yW{k:Nat}{i:Fr->World->Prop}(c:∀f w,K f w->i f w)(h:R1 P n Ext k o K f w):R1 P n Ext k o i f w:=by
 unfold R1 at h⊢;split
 ·rename_i g;rw[ae g]at h;obtain⟨v,b,a⟩:=h;exact⟨v,b,c _ _ a⟩
 rename_i g;rw[aa g]at h;split
 ·rename_i d;rw[ae d]at h;obtain⟨v,b,a⟩:=h;exact⟨v,b,c _ _ a⟩
 ·rename_i d;rw[aa d]at h;exact Oper.wp_mono (λm w' ⟨l,e,j,a⟩=>⟨l,e,j,c _ _ a⟩) h
theorem nL{d:Fr->World->Prop}(j:∀f w,K f w->d f w):∀(a:List (Nat×Nat)) (f:Fr) (w:World),Ro P n ops Ext K a f w->Ro P n ops Ext d a f w:=by
 intro a;induction a with
 |nil=>intro f w h;unfold Ro at h⊢;exact j f w h
 |cons e rest c=>
  obtain⟨i,k⟩:=e;intro f w h;unfold Ro at h⊢;obtain⟨o,g,h⟩:=h;refine⟨o,g,?_⟩;split
  ·rename_i b;rw[ae b]at h;exact yW c h
  ·rename_i b;rw[aa b]at h;exact c _ _ h
theorem Il(B:Region.noSelect ops=true):∀(a:List (Nat×Nat)) (f f1:Fr) (w:World),(a.all λq=>uS ops D E q.1&&q.2 != 2)=true->Ag D f f1->Ro P n ops Ext K a f1 w->Ro P n ops Ext (Jg n D E f w K) a f w:=by
 intro a;induction a with
 |nil=>
  intro f f1 w _ m h;unfold Ro at h⊢;exact⟨Ext.refl _,λ_ _=>rfl,AA.refl _ _ _,f1,m,h⟩
 |cons O rest C=>
  obtain⟨i,k⟩:=O;intro f f1 w u m h;simp only[List.all_cons,Bool.and_eq_true]at u;obtain⟨⟨J,z⟩,l⟩:=u;unfold Ro at h⊢;obtain⟨o,y,h⟩:=h;have c:xh ops D o=true/\uU E o=true:=by simpa[uS,y]using J
  obtain⟨c,v⟩:=c;have z:k≠2:=by simpa using z
  have Q:∀A b,o.op≠.select A b:=λA b=>Region.noSelect_spec B i o A b y;refine⟨o,y,?_⟩;rw[BO c m];split
  ·rename_i x;rw[ae x]at h;refine yW ?_ (Ip z Q c v m h);rintro H w' ⟨V,S,T,M,L,U⟩;refine nL ?_ rest H w' (C H M w' (by simpa using l) L U);rintro N I ⟨t,p,r,j,g,s⟩;exact⟨V.trans t,λd e=>(p d e).trans (S d e),r.trans T,j,g,s⟩
  ·rename_i x;rw[aa x]at h;refine nL ?_ rest _ w (C _ _ w (by simpa using l) (m.bS o.dst undef) h);rintro N I ⟨t,p,r,j,g,s⟩;exact⟨t,λd e=>(p d e).trans (np c _ e),λi R G=>(r i R G).trans (nw v _ G),j,g,s⟩
def Rc(P:Program)(n:Nat)(ops:Array Oper)(K:Fr->World->Prop):List (Nat×List (Nat×Nat))->Fr->World->Prop
 |[],f,w=>∀w',Ext w w'->K f w'
 |(i,a)::C,f,w=>∀w',Ext w w'->Ro P n ops Ext (Rc P n ops K C) ((i,1)::a) f w'
theorem Rc.Y{C:List (Nat×List (Nat×Nat))}(h:Rc P n ops K C f w)(c:Ext w w'):Rc P n ops K C f w':=by
 match C,h with
 |[],h=>exact λa b=>h a (c.trans b)
 |(i,d)::C,h=>exact λa b=>h a (c.trans b)
theorem fM(h:∀w',Ext w w'->K f w'):Rc P n ops K [] f w:=h
theorem cT{i:Nat}{a:List (Nat×Nat)}{C:List (Nat×List (Nat×Nat))}(h:∀w',Ext w w'->Ro P n ops Ext (Rc P n ops K C) ((i,1)::a) f w'):Rc P n ops K ((i,a)::C) f w:=h
def Dx(b:Nat->Nat):List FC->Fr->Fr
 |[],f=>f
 |a::aI,f=>bS (Dx b aI f) a.d (a.vl (b a.d))
def Gc(g:Nat->Nat)(d v:Nat):Nat->Nat:=λi=>if i=d then v else g i
theorem nR(g:Nat->Nat)(d v:Nat):Gc g d v d=v:=ae F
theorem mU(g:Nat->Nat){d i:Nat}(v:Nat)(h:i≠d):Gc g d v i=g i:=aa h
def pP:Option Nat->List (Nat×List (Nat×Nat))->nP->Bool
 |_,[],_=>false
 |pv,(i,b)::C,g=>if i == g.1 then b == g.2.1&&(match pv with|none=>true|some p=>g.2.2.contains p)else pP (some i) C g
def BL(ops:Array Oper)(G:List nP)(C:List (Nat×List (Nat×Nat)))(aI:List (Nat×Nat))(E:List Nat):Bool:=
 Region.noSelect ops &&
 (C.all λc=>uS ops (aI.map (·.2)) E c.1&&c.2.all λq=>uS ops (aI.map (·.2)) E q.1&&q.2 != 2) &&
 (G.all λg=>((aI.map (·.1)).contains g.1&&g.2.1 == []) || pP none C g) &&
 (C.all λc=>(G.map (·.1)).contains c.1&&!(aI.map (·.1)).contains c.1) &&
 (aI.all λa=>(G.map (·.1)).contains a.1&&E.contains a.2) &&
 decide (C.map (·.1)).Nodup&&decide (aI.map (·.1)).Nodup&&decide (aI.map (·.2)).Nodup
theorem uM{b:Option Nat}{C:List (Nat×List (Nat×Nat))}{g:nP}(h:pP b C g=true):
 (∃Y,C=(g.1,g.2.1)::Y/\∀p,b=some p->g.2.2.contains p=true)\/∃X p d Y,C=X++(p,d)::(g.1,g.2.1)::Y/\g.2.2.contains p=true:=by
 induction C generalizing b with
 |nil=>simp[pP]at h
 |cons c C k=>
  obtain⟨i,j⟩:=c;unfold pP at h;split at h
  ·rename_i e;have e:i=g.1:=by simpa using e
   simp only[Bool.and_eq_true,beq_iff_eq]at h;refine .inl ⟨C,by rw[e,h.1],λp a=>?_⟩;subst a;exact h.2
  ·rcases k h with⟨Y,rfl,a⟩|⟨X,p,d,Y,rfl,a⟩
   ·exact .inr ⟨[],i,j,Y,F,a i F⟩
   ·exact .inr ⟨(i,j)::X,p,d,Y,F,a⟩
theorem Dw(c:Nat->Nat)(aI:List FC)(f:Fr){i:Nat}(h:(aI.map (·.d)).contains i=false):Dx c aI f i=f i:=by
 induction aI with
 |nil=>rfl
 |cons a aI b=>
  simp only[List.map_cons,List.contains_cons,Bool.or_eq_false_iff,beq_eq_false_iff_ne]at h;unfold Dx;rw[bw _ _ h.1];exact b h.2
theorem Gd(e:Nat->Nat)(aI:List FC)(f:Fr)(d:(aI.map (·.d)).Nodup){a:FC}(c:a∈aI):Dx e aI f a.d=a.vl (e a.d):=by
 induction aI with
 |nil=>cases c
 |cons b aI g=>
  simp only[List.map_cons,List.nodup_cons]at d;unfold Dx;rcases List.mem_cons.1 c with rfl|c
  ·rw[jX]
  ·have:a.d≠b.d:=λe=>d.1 (by rw[<-e];exact List.mem_map_of_mem (f:=(·.d)) c);rw[bw _ _ this];exact g d.2 c
theorem dT{G:List nP}{a3:List (Nat×Nat)}(C:List (Nat×List (Nat×Nat)))(aI:List FC)(E:List Nat)(an:BL ops G C (aI.map λa=>(a.i,a.d)) E=true)
 (hF:∀a,a∈aI->∀u w',AA n E u f->Ext w w'->Ro P n ops Ext (λad T=>ad=bS u a.d (a.vl w'.heap.size)/\bh T w'.heap.size a.T a.cs/\Ext w' T) [(a.i,1)] u w')
 (hC:Rc P n ops (λf1 w1=>∀k:Nat->Nat,(∀a,a∈aI->w.heap.size<=k a.d/\bh w1 (k a.d) a.T a.cs)->(∀a b,a∈aI->b∈aI->a.d≠b.d->k a.d≠k b.d)->Ro P n ops Ext K a3 (Dx k aI f1) w1) C f w):
 Rg P n ops Ext G a3 K f w:=by
 have e1:(aI.map λa=>(a.i,a.d)).map (·.1)=aI.map (·.i):=aA;have e2:(aI.map λa=>(a.i,a.d)).map (·.2)=aI.map (·.d):=aA;simp only[BL,Bool.and_eq_true,e1,e2,decide_eq_true_eq]at an;obtain⟨⟨⟨⟨⟨⟨⟨bj,bl⟩,hG⟩,ab⟩,b5⟩,ax⟩,bB⟩,av⟩:=an;generalize bI:(λf1 w1=>∀k:Nat->Nat,(∀a,a∈aI->w.heap.size<=k a.d/\bh w1 (k a.d) a.T a.cs)->(∀a b,a∈aI->b∈aI->a.d≠b.d->k a.d≠k b.d)->Ro P n ops Ext K a3 (Dx k aI f1) w1)=K0 at hC;have b4:∀a b,a∈aI->b∈aI->a.i=b.i->a=b:=by
  intro a b d l he;obtain⟨i,R,rfl⟩:=List.getElem_of_mem d;obtain⟨j,s,rfl⟩:=List.getElem_of_mem l;have:i=j:=(List.getElem_inj (h₀:=by simpa using R) (h₁:=by simpa using s) bB).1 (by simpa using he);subst this;rfl
 have bg:∀a b,a∈aI->b∈aI->a.d=b.d->a=b:=by
  intro a b d l he;obtain⟨i,R,rfl⟩:=List.getElem_of_mem d;obtain⟨j,s,rfl⟩:=List.getElem_of_mem l;have:i=j:=(List.getElem_inj (h₀:=by simpa using R) (h₁:=by simpa using s) av).1 (by simpa using he);subst this;rfl
 have bK:∀a,a∈aI->E.contains a.d=true:=λa d=>by
  have:=List.all_eq_true.1 b5 (a.i,a.d) (List.mem_map.2 ⟨a,d,F⟩);simp only[Bool.and_eq_true]at this;exact this.2
 refine vH (λL u w'=>Ext w w'/\AA n E u f/\∃I A f1,C=I++A/\(∀c,c∈I->L.contains c.1=true)/\(∀c,c∈A->L.contains c.1=false)/\Ag (aI.map (·.d)) u f1/\
  Rc P n ops K0 A f1 w'/\
  ∃k:Nat->Nat,(∀a,a∈aI->L.contains a.i=true->u a.d=a.vl (k a.d)/\w.heap.size<=k a.d/\bh w' (k a.d) a.T a.cs)/\
   (∀a b,a∈aI->b∈aI->L.contains a.i=true->L.contains b.i=true->a.d≠b.d->k a.d≠k b.d)) ?_ ?_ ?_
 ·exact⟨Ext.refl _,AA.refl _ _ _,[],C,f,F,(λc m=>by cases m),(λc _=>rfl),Ag.refl _ _,hC,λ_=>0,(λa _ h=>by cases h),λa b _ _ h=>by cases h⟩
 ·intro i qs nd a3 L u w' bx V ⟨hE,hN,I,A,f1,r,a1,Q,hA,W,k,B,J⟩;have hg:=List.all_eq_true.1 hG _ a3;simp only[Bool.or_eq_true,Bool.and_eq_true,beq_iff_eq]at hg;rcases hg with⟨a4,bu⟩|aj
  ·
   subst bu;have a4:i∈aI.map (·.i):=by simpa using a4
   obtain⟨a,d,rfl⟩:=List.mem_map.1 a4;refine nL ?_ _ _ _ (hF a d u w' hN hE);rintro ad T ⟨rfl,hB,H⟩;have ay:∀b,b∈aI->L.contains b.i=true->k b.d<w'.heap.size:=λb l M=>(B b l M).2.2.lt;have au:∀b,b∈aI->L.contains b.i=true->b.d≠a.d:=λb l M e=>by
    have:=bg b a l d e;subst this;rw[M]at V;cases V
   refine⟨hE.trans H,λj s a7=>?_,I,A,f1,r,λc m=>?_,λc m=>?_,λj s=>?_,W.Y H,Gc k a.d w'.heap.size,λb l M=>?_,λb c l m N a5 b0=>?_⟩
   ·rw[bw _ _ (by rintro rfl;rw[bK a d]at a7;cases a7)];exact hN j s a7
   ·have:=a1 c m;simp only[List.contains_cons,Bool.or_eq_true];exact .inr this
   ·have t:=Q c m;have y:c∈C:=by rw[r];exact List.mem_append_right _ m
    have v:=List.all_eq_true.1 ab c y;simp only[Bool.and_eq_true,Bool.not_eq_true']at v;simp only[List.contains_cons,Bool.or_eq_false_iff,beq_eq_false_iff_ne];refine⟨λe=>?_,t⟩;have:(aI.map (·.i)).contains c.1=true:=by rw[e];simpa using⟨a,d,F⟩
    rw[this]at v;cases v.2
   ·rw[bw _ _ (by
     rintro rfl;have:(aI.map (·.d)).contains a.d=true:=by simpa using⟨a,d,F⟩
     rw[this]at s;cases s)]
    exact hA j s
   ·simp only[List.contains_cons,Bool.or_eq_true,beq_iff_eq]at M;by_cases q:b.d=a.d
    ·have:=bg b a l d q;subst this;rw[jX,nR];exact⟨F,hE.size,hB⟩
    ·have N:L.contains b.i=true:=by
      rcases M with h|h
      ·exact absurd (congrArg FC.d (b4 b a l d h)) q
      ·exact h
     obtain⟨t,y,v⟩:=B b l N;rw[bw _ _ q,mU _ _ q];exact⟨t,y,v.Y H⟩
   ·simp only[List.contains_cons,Bool.or_eq_true,beq_iff_eq]at N a5;have U:∀x,x∈aI->(x.i=a.i\/L.contains x.i=true)->x.d≠a.d->L.contains x.i=true:=λx hx h au=>by
     rcases h with h|h
     ·exact absurd (congrArg FC.d (b4 x a hx d h)) au
     ·exact h
    by_cases q:b.d=a.d
    ·have x:c.d≠a.d:=λe=>b0 (q.trans e.symm);have:=ay c m (U c m a5 x);rw[q,nR,mU _ _ x];omega
    ·by_cases x:c.d=a.d
     ·have:=ay b l (U b l N q);rw[x,nR,mU _ _ q];omega
     ·rw[mU _ _ q,mU _ _ x];exact J b c l m (U b l N q) (U c m a5 x) b0
  ·
   have ak:∃C3,A=(i,qs)::C3:=by
    have a2:(i,qs)∉I:=λh=>by rw[a1 _ h]at V;cases V
    rcases uM aj with⟨Y,S,_⟩|⟨X,p,pq,Y,S,hp⟩
    ·rcases I with _|⟨c1,I⟩
     ·exact⟨Y,by rw[r]at S;exact S⟩
     ·exfalso;rw[r]at S;injection S with t _;exact a2 (by rw[t];exact aG)
    ·have q:L.contains p=true:=List.all_eq_true.1 bx p (by simpa using hp);have ai:∀pq,(p,pq)∉A:=λpq h=>by have:=Q _ h;rw[q]at this;cases this
     rw[r]at S;rcases List.append_eq_append_iff.1 S with⟨Z,b1,O⟩|⟨Z,b1,O⟩
     ·exfalso;exact ai pq (by rw[O];exact List.mem_append_right _ aG)
     ·rcases Z with _|⟨z,Z⟩
      ·exfalso;exact ai pq (by rw[List.nil_append]at O;rw[<-O];exact aG)
      ·injection O with q al;rcases Z with _|⟨q,Z⟩
       ·exact⟨Y,al.symm⟩
       ·exfalso;injection al with q _;exact a2 (by rw[b1,<-q];exact List.mem_append_right _ (List.mem_cons_of_mem _ aG))
   obtain⟨C3,rfl⟩:=ak;have x:=List.all_eq_true.1 bl (i,qs) (by rw[r];exact List.mem_append_right _ aG);have x:(((i,1)::qs).all λq=>uS ops (aI.map (·.d)) E q.1&&q.2 != 2)=true:=by
    simp only[Bool.and_eq_true]at x;simp only[List.all_cons,Bool.and_eq_true];exact⟨⟨x.1,F⟩,x.2⟩
   refine nL ?_ _ _ _ (Il bj _ u f1 w' x hA (W w' (Ext.refl _)));rintro ad T ⟨H,hd,bD,bW,bM,bt⟩;have bA:∀c,c∈C3->c.1≠i:=λc m e=>by
    rw[r,List.map_append,List.map_cons]at ax;have:=(List.nodup_append.1 ax).2.1;rw[List.nodup_cons]at this;exact this.1 (by rw[<-e];exact List.mem_map_of_mem (f:=(·.1)) m)
   have bC:∀a,a∈aI->a.i≠i:=λa d e=>by
    have v:=List.all_eq_true.1 ab (i,qs) (by rw[r];exact List.mem_append_right _ aG);simp only[Bool.and_eq_true,Bool.not_eq_true']at v;have:(aI.map (·.i)).contains i=true:=by rw[<-e];simpa using⟨a,d,F⟩
    rw[this]at v;cases v.2
   have a6:∀a,a∈aI->(i::L).contains a.i=true->L.contains a.i=true:=λa d h=>by
    simp only[List.contains_cons,Bool.or_eq_true,beq_iff_eq]at h;rcases h with h|h
    ·exact absurd h (bC a d)
    ·exact h
   refine⟨hE.trans H,bD.trans hN,I++[(i,qs)],C3,bW,by rw[r,List.append_assoc];rfl,λc m=>?_,λc m=>?_,bM,bt,k,λa d M=>?_,λa b d l t y=>J a b d l (a6 a d t) (a6 b l y)⟩
   ·simp only[List.contains_cons,Bool.or_eq_true,beq_iff_eq];rcases List.mem_append.1 m with h|h
    ·exact .inr (a1 c h)
    ·left;simp at h;rw[h]
   ·simp only[List.contains_cons,Bool.or_eq_false_iff,beq_eq_false_iff_ne];exact⟨bA c m,Q c (List.mem_cons_of_mem _ m)⟩
   ·obtain⟨t,y,v⟩:=B a d (a6 a d M);exact⟨(hd a.d (by simpa using⟨a,d,F⟩)).trans t,y,v.Y H⟩
 ·intro L u w' bs ⟨hE,hN,I,A,f1,r,a1,Q,hA,W,k,B,J⟩;have aH:∀i,(G.map (·.1)).contains i=true->L.contains i=true:=λi R=>by
   have R:i∈G.map (·.1):=by simpa using R
   obtain⟨g,hg,rfl⟩:=List.mem_map.1 R;exact List.all_eq_true.1 bs g hg
  rcases A with _|⟨c,A⟩
  ·have a0:∀a,a∈aI->L.contains a.i=true:=λa d=>aH _ (by
    have:=List.all_eq_true.1 b5 (a.i,a.d) (List.mem_map.2 ⟨a,d,F⟩);simp only[Bool.and_eq_true]at this;exact this.1)
   have g:=W w' (Ext.refl _);rw[<-bI]at g;have:=g k (λa d=>(B a d (a0 a d)).2) λa b d l=>J a b d l (a0 a d) (a0 b l);have e:Dx k aI f1=u:=by
    funext j;cases s:(aI.map (·.d)).contains j with
    |false=>rw[Dw k aI f1 s];exact(hA j s).symm
    |true=>
     have s:j∈aI.map (·.d):=by simpa using s
     obtain⟨a,d,rfl⟩:=List.mem_map.1 s;rw[Gd k aI f1 av d];exact(B a d (a0 a d)).1.symm
   rw[e]at this;exact this
  ·exfalso;have t:=Q c aG;have y:=List.all_eq_true.1 ab c (by rw[r];exact List.mem_append_right _ aG);simp only[Bool.and_eq_true]at y;rw[aH _ y.1]at t;cases t
def fA(i d t:Nat)(z:Value):FC:=⟨i,d,t,z.cells,λg=>.pointer (some ⟨g,0,none⟩)⟩
theorem b_{i d t ty:Nat}{z:Value}{a:String}{b:Array Edge}(e:im P t z)(g:ops[i]?=some ⟨some d,.alloc t,ty,a,b,none⟩)(b:Fr)(w':World):
 Ro P n ops Ext (λc a=>c=bS b d ((fA i d t z).vl w'.heap.size)/\bh a w'.heap.size t z.cells/\Ext w' a) [(i,1)] b w':=by
 refine yU g F ?_;refine aR (.inr ⟨F,λ_ h=>h⟩) e ?_;intro a b a _;exact tg ⟨F,b,a⟩
end
end
end Go.cU
namespace Go.Proofs.Qq
section
open Go Go.cU Go.cV Go.Proofs
def Kp(w w':World):Prop:=∀p z,w.cell? p=some (.int .u32 z)->w'.cell? p=some (.int .u32 z)
theorem Kp.trans{w w' a:World}(h:Kp w w')(k:Kp w' a):Kp w a:=λp z a=>k p z (h p z a)
theorem bN{w w':World}(h:Ext w w'):Kp w w':=λ_ _ a=>aS h a
def Hq(cs:Array Value):Prop:=∀(i:Nat) (z:Int),cs[i]?≠some (.int .u32 z)
theorem jL.jn{cs:Array Value}(h:jL cs):Hq cs:=λi z=>h i .u32 z
theorem cK{w w':World}{g T:Nat}{cs:Array Value}(j:bh w g T cs)(e:Hq cs)(h:Ch (λb=>b=g) w w'):Kp w w':=λp z a=>by
 rw[<-a];refine jK h (World.block_lt_of_cell? w _ a) λh=>?_;obtain⟨i,b⟩:=qc j h a;exact e _ _ b
theorem eP.kp{w w':World}{A:Option Addr}{l:List Nat}(h:eP w A l)(a:Kp w w'):eP w' A l:=
 ⟨h.e_,λj b=>by obtain⟨i,e,g⟩:=h.cell j b;exact⟨i,e,a _ _ g⟩⟩
theorem IV.kp{w w':World}{N:Nat}{x y:Value}{z:Int}(h:IV w N x y z)(b:Kp w w'):IV w' N x y z:=by
 obtain⟨a,A,l,c,p,o,m,j,i,g,e⟩:=h;exact⟨a,A,l,c,p,o,m,j,i.kp b,g,e⟩
theorem CV.kp{w w':World}{x y:Value}{z:Int}(h:CV w x y z)(b:Kp w w'):CV w' x y z:=by
 obtain⟨a,A,l,c,p,o,m,j,i,g,e⟩:=h;exact⟨a,A,l,c,p,o,m,j,i.kp b,g,e⟩
def EV(w:World)(N:Nat)(cn:Bool)(x y:Value)(z:Int):Prop:=IV w N x y z/\(cn=true->CV w x y z)
theorem EV.kp{w w':World}{N:Nat}{cn:Bool}{x y:Value}{z:Int}(h:EV w N cn x y z)(a:Kp w w'):EV w' N cn x y z:=⟨h.1.kp a,λe=>(h.2 e).kp a⟩
theorem EV.Y{w w':World}{N:Nat}{cn:Bool}{x y:Value}{z:Int}(h:EV w N cn x y z)(a:Ext w w'):EV w' N cn x y z:=h.kp (bN a)
theorem EV.mono{w:World}{N N':Nat}{cn:Bool}{x y:Value}{z:Int}(h:EV w N cn x y z)(a:N<=N'):EV w N' cn x y z:=⟨h.1.mono a,h.2⟩
theorem CV.ev{w:World}{N:Nat}{x y:Value}{z:Int}(cn:Bool)(h:CV w x y z)(a:Bd N z):EV w N cn x y z:=⟨h.iv a,λ_=>h⟩
theorem IV.db{w:World}{N:Nat}{x y:Value}{z:Int}(h:IV w N x y z):x.oneCell'=true:=by obtain⟨a,A,l,c,rfl,_⟩:=h;rfl
theorem IV.de{w:World}{N:Nat}{x y:Value}{z:Int}(h:IV w N x y z):y.oneCell'=true:=by obtain⟨a,A,l,c,_,rfl,_⟩:=h;rfl
theorem IV.jn{w:World}{N:Nat}{x y:Value}{z:Int}(h:IV w N x y z):Hq #[x,y]:=by
 obtain⟨a,A,l,c,rfl,rfl,_⟩:=h;exact cN.jn
theorem IV.bd{w:World}{N:Nat}{x y:Value}{z:Int}(h:IV w N x y z):Bd N z:=h.abs
theorem EV.bd{w:World}{N:Nat}{cn:Bool}{x y:Value}{z:Int}(h:EV w N cn x y z):Bd N z:=h.1.abs
def Bx(w:World)(g N:Nat)(cn:Bool)(z:Int):Prop:=∃x y,bh w g 35 #[x,y]/\EV w N cn x y z
theorem Bx.kp{w w':World}{g N:Nat}{cn:Bool}{z:Int}{M:Nat->Prop}(h:Bx w g N cn z)(e:Kp w w')(j:Ch M w w')(b:¬M g):Bx w' g N cn z:=by
 obtain⟨x,y,i,a⟩:=h;exact⟨x,y,i.ch j b,a.kp e⟩
theorem Bx.Y{w w':World}{g N:Nat}{cn:Bool}{z:Int}(h:Bx w g N cn z)(a:Ext w w'):Bx w' g N cn z:=h.kp (bN a) a id
theorem Bx.lt{w:World}{g N:Nat}{cn:Bool}{z:Int}(h:Bx w g N cn z):g<w.heap.size:=by obtain⟨x,y,a,_⟩:=h;exact a.lt
theorem Bx.zero{w:World}{g N:Nat}(cn:Bool)(h:bh w g 35 (Value.agg #[.bool false,.slice none 0 0]).cells):Bx w g N cn 0:=
 ⟨_,_,h,(CV.zero w).ev cn (Bd.zero N)⟩
section
variable {n:Nat}{S:World->World->Prop}{k:Nat}{K:Fr->World->Prop}{f:Fr}{w:World}
 {d ty t t2:Nat} {x y:Operand} {pos:String} {aft:Array Edge} {gd:Option (Nat×Bool)}
theorem aL{g N N':Nat}{cn:Bool}{z z':Int}{a b:Value}(p:k=2\/k=1/\∀w',Ch (λb=>b=g) w w'->S w w')(j:ev n f x=.pointer (some ⟨g,0,none⟩))(i:ev n f y=.agg #[a,b])(m:Bx w g N cn z)(e:EV w N' cn a b z')
 (h:∀w',Bx w' g N' cn z'->Ch (λb=>b=g) w w'->Kp w w'->w'.heap.size=w.heap.size->K f w'):
 R1 Tryz.prog n S k ⟨none,.store 35 x y,ty,pos,aft,gd⟩ K f w:=by
 obtain⟨u,v,l,o⟩:=m;refine aV aN p j i e.1.db e.1.de l aA ?_;intro w' m j p;have i:=cK l o.1.jn j;exact h w' ⟨a,b,m,e.kp i⟩ j i p
end
def cZ(b:Nat->Nat)(j N:Nat):Nat->Nat:=λk=>if k=j then N else b k
def dk(w:World)(g c:Nat)(cn:Bool)(bn:Nat->Nat)(M:Nat->Int):Prop:=
 ∃h,bh w g 35 (arr (c*2) h)/\∀j,j<c->EV w (bn j) cn (h (j*2)) (h (j*2+1)) (M j)
theorem dk.lt{w:World}{g c:Nat}{cn:Bool}{bn:Nat->Nat}{M:Nat->Int}(h:dk w g c cn bn M):g<w.heap.size:=by obtain⟨_,a,_⟩:=h;exact a.lt
theorem dk.kp{w w':World}{g c:Nat}{cn:Bool}{bn:Nat->Nat}{M:Nat->Int}{a:Nat->Prop}(h:dk w g c cn bn M)(e:Kp w w')(j:Ch a w w')(b:¬a g):dk w' g c cn bn M:=by
 obtain⟨h,a,i⟩:=h;exact⟨h,a.ch j b,λj a=>(i j a).kp e⟩
theorem dk.Y{w w':World}{g c:Nat}{cn:Bool}{bn:Nat->Nat}{M:Nat->Int}(h:dk w g c cn bn M)(a:Ext w w'):dk w' g c cn bn M:=h.kp (bN a) a id
theorem dk.congr{w:World}{g c:Nat}{cn:Bool}{bn bn':Nat->Nat}{M M':Nat->Int}(h:dk w g c cn bn M)(e:∀j,j<c->bn j<=bn' j/\M j=M' j):dk w g c cn bn' M':=by
 obtain⟨h,a,b⟩:=h;exact⟨h,a,λj a=>by rw[<-(e j a).2];exact(b j a).mono (e j a).1⟩
theorem js{w:World}{c:Nat}{cn:Bool}{h:Nat->Value}{bn:Nat->Nat}{M:Nat->Int}(m:∀j,j<c->EV w (bn j) cn (h (j*2)) (h (j*2+1)) (M j)):jL (arr (c*2) h):=by
 intro i k z a;by_cases b:i<c*2
 ·rw[b8 b]at a;have a:=Option.some.inj a;obtain⟨j,A,l,j,g,e,_⟩:=(m (i/2) aq).1;rcases Nat.mod_two_eq_zero_or_one i with j|j
  ·rw[show i/2*2=i by omega]at g;rw[g]at a;cases a
  ·rw[show i/2*2+1=i by omega]at e;rw[e]at a;cases a
 ·simp[arr,b]at a
theorem dk.at{w:World}{g c j:Nat}{cn:Bool}{bn:Nat->Nat}{M:Nat->Int}(h:dk w g c cn bn M)(b:j<c):
 ∃x y,w.cell? ⟨g,0+j*2,none⟩=some x/\w.cell? ((⟨g,0+j*2,none⟩ : Addr).add 1)=some y/\EV w (bn j) cn x y (M j):=by
 obtain⟨h,a,e⟩:=h;refine⟨_,_,?_,?_,e j b⟩
 ·rw[a.cell,b8 aq,Nat.zero_add]
 ·rw[add_lit,a.cell,b8 aq,Nat.zero_add]
theorem ff{w:World}{g c:Nat}(cn:Bool)(N:Nat)(h:bh w g 35 (madeCells (Value.agg #[.bool false,.slice none 0 0]).cells (c*2))):dk w g c cn (λ_=>N) (λ_=>0):=by
 obtain⟨h,a,b⟩:=rq h;exact⟨h,a,λj a=>(b j a).ev cn (Bd.zero N)⟩
section
variable {n:Nat}{S:World->World->Prop}{k:Nat}{K:Fr->World->Prop}{f:Fr}{w:World}
 {d ty t t2:Nat} {x y:Operand} {pos:String} {aft:Array Edge} {gd:Option (Nat×Bool)}
theorem dW{g c j N:Nat}{cn:Bool}{bn:Nat->Nat}{M:Nat->Int}{z:Int}{a b:Value}(A:k=2\/k=1/\∀w',Ch (λb=>b=g) w w'->S w w')(p:ev n f x=.pointer (some ⟨g,0+j*2,none⟩))(i:ev n f y=.agg #[a,b])(u:dk w g c cn bn M)(s:j<c)(l:EV w N cn a b z)
 (h:∀w',dk w' g c cn (cZ bn j N) (fR M j z)->Ch (λb=>b=g) w w'->Kp w w'->w'.heap.size=w.heap.size->K f w'):
 R1 Tryz.prog n S k ⟨none,.store 35 x y,ty,pos,aft,gd⟩ K f w:=by
 obtain⟨s,s,o⟩:=u;refine aV aN A p i l.1.db l.1.de s (by rw[bk];omega) ?_;intro w' i p u;have m:=cK s (js o).jn p;refine h w' ⟨_,by rw[cC,cC]at i;exact i,λq v=>?_⟩ p m u;by_cases e:q=j
 ·subst e;rw[Nat.zero_add,bw _ _ (show q*2≠q*2+1 by omega),bG,bG];simp only[fR,cZ,if_true];exact l.kp m
 ·rw[Nat.zero_add,bw _ _ aq,bw _ _ aq,bw _ _ aq,bw _ _ aq];simp only[fR,cZ,aa e];exact(o q v).kp m
end
def dM{α:Type}(M:Nat->Nat->α)(i j:Nat)(z:α):Nat->Nat->α:=λa b=>if a=i/\b=j then z else M a b
theorem m7{α:Type}(M:Nat->Nat->α)(i j:Nat)(z:α):dM M i j z i=λb=>if b=j then z else M i b:=by funext b;simp[dM]
theorem m8{α:Type}(M:Nat->Nat->α){i a:Nat}(j:Nat)(z:α)(h:a≠i):dM M i j z a=M a:=by funext b;simp[dM,h]
structure fk(w:World)(gO:Nat)(gs:Nat->Nat)(r c:Nat)(cn:Bool)(bn:Nat->Nat->Nat)(M:Nat->Nat->Int):Prop where
 outer:bh w gO 27 (arr r λi=>.slice (some ⟨gs i,0,none⟩) c c)
 row:∀i,i<r->dk w (gs i) c cn (bn i) (M i)
 ne:∀i,i<r->gs i≠gO
 inj:∀i j,i<r->j<r->gs i=gs j->i=j
section
variable {w w':World}{gO r c:Nat}{gs:Nat->Nat}{cn:Bool}{bn bn':Nat->Nat->Nat}{M M':Nat->Nat->Int}
theorem fk.kp{a:Nat->Prop}(h:fk w gO gs r c cn bn M)(j:Kp w w')(b:Ch a w w')(g:¬a gO)(e:∀i,i<r->¬a (gs i)):fk w' gO gs r c cn bn M:=
 ⟨h.outer.ch b g,λi a=>(h.row i a).kp j b (e i a),h.ne,h.inj⟩
theorem fk.Y(h:fk w gO gs r c cn bn M)(a:Ext w w'):fk w' gO gs r c cn bn M:=h.kp (bN a) a id (λ_ _=>id)
theorem fk.congr(h:fk w gO gs r c cn bn M)(e:∀i j,i<r->j<c->bn i j<=bn' i j/\M i j=M' i j):fk w gO gs r c cn bn' M':=
 ⟨h.outer,λi a=>(h.row i a).congr λj b=>e i j a b,h.ne,h.inj⟩
theorem fk.at(h:fk w gO gs r c cn bn M){i:Nat}(a:i<r):w.cell? ⟨gO,0+i*1,none⟩=some (.slice (some ⟨gs i,0,none⟩) c c):=by
 rw[h.outer.cell,b8 aq,Nat.zero_add,Nat.mul_one]
theorem fk.lt(h:fk w gO gs r c cn bn M):gO<w.heap.size:=h.outer.lt
theorem fk.put{i j N:Nat}{z:Int}(h:fk w gO gs r c cn bn M)(g:i<r)(o:dk w' (gs i) c cn (cZ (bn i) j N) (fR (M i) j z))(m:Ch (λb=>b=gs i) w w')(p:Kp w w'):
 fk w' gO gs r c cn (dM bn i j N) (dM M i j z):=by
 refine⟨h.outer.ch m (Ne.symm (h.ne i g)),λa l=>?_,h.ne,h.inj⟩;by_cases e:a=i
 ·subst e;rw[m7,m7];exact o
 ·rw[m8 _ _ _ e,m8 _ _ _ e];exact(h.row a l).kp p m λb=>e (h.inj a i l g b)
theorem jF.wm(h:jF w gO gs r c M)(cn:Bool){N:Nat}(l:∀i j,i<r->j<c->Bd N (M i j)):fk w gO gs r c cn (λ_ _=>N) M:=
 ⟨h.outer,λi b=>by obtain⟨a,g,e⟩:=h.row i b;exact⟨a,g,λj a=>(e j a).ev cn (l i j b a)⟩,h.ne,h.inj⟩
theorem fk.o(h:fk w gO gs r c true bn M):jF w gO gs r c M:=
 ⟨h.outer,λi a=>by obtain⟨b,g,e⟩:=h.row i a;exact⟨b,g,λj a=>(e j a).2 rfl⟩,h.ne,h.inj⟩
end
def EC(N:Nat):World->Value->Value->Int->Prop:=λw x y z=>CV w x y z/\Bd N z
theorem iN.imp{E b:World->Value->Value->Int->Prop}{w w':World}{c:Nat}{v:Value}{g:Nat->Int}(h:iN E w v c g)(a:∀p u,w.cell? p=some u->w'.cell? p=some u)(o:∀x y z,E w x y z->b w' x y z):iN b w' v c g:=by
 obtain⟨A,e,rfl,i,b,p⟩:=h;refine⟨A,e,F,i,b,λj l=>?_⟩;obtain⟨q,x,y,e,i,b,m⟩:=p j l;exact⟨q,x,y,e,a _ _ i,a _ _ b,o _ _ _ m⟩
theorem cO.imp{E e:World->Value->Value->Int->Prop}{w w':World}{r:Nat}{a:Nat->Nat}{v:Value}{M:Nat->Nat->Int}(h:cO E w v r a M)(b:∀p u,w.cell? p=some u->w'.cell? p=some u)(l:∀x y z,E w x y z->e w' x y z):cO e w' v r a M:=by
 obtain⟨A,g,rfl,e,a,m⟩:=h;refine⟨A,g,F,e,a,λj i=>?_⟩;obtain⟨o,u,e,a,g⟩:=m j i;exact⟨o,u,e,b _ _ a,g.imp b l⟩
theorem iN.ei{w:World}{N c:Nat}{v:Value}{g:Nat->Int}(h:iN (EC N) w v c g):iN (EI N) w v c g:=
 h.imp (λ_ _ a=>a) λ_ _ _ a=>a.1.iv a.2
theorem cO.ei{w:World}{N r:Nat}{a:Nat->Nat}{v:Value}{M:Nat->Nat->Int}(h:cO (EC N) w v r a M):cO (EI N) w v r a M:=
 h.imp (λ_ _ a=>a) λ_ _ _ a=>a.1.iv a.2
def eO(T:Nat)(w:World)(gO r i c:Nat)(gs:Nat->Nat):Prop:=
 ∃h,bh w gO T (arr r h)/\(∀k,k<r->∃A m b,h k=.slice A m b)/\∀k,k<i->h k=.slice (some ⟨gs k,0,none⟩) c c
section
variable {T:Nat}{w w':World}{gO r i c:Nat}{gs:Nat->Nat}
theorem eO.kp{a:Nat->Prop}(h:eO T w gO r i c gs)(e:Ch a w w')(b:¬a gO):eO T w' gO r i c gs:=by
 obtain⟨h,a,j,g⟩:=h;exact⟨h,a.ch e b,j,g⟩
theorem eO.Y(h:eO T w gO r i c gs)(a:Ext w w'):eO T w' gO r i c gs:=h.kp a id
theorem eO.lt(h:eO T w gO r i c gs):gO<w.heap.size:=by obtain⟨h,a,b,b⟩:=h;exact a.lt
theorem eO.at(h:eO T w gO r i c gs){k:Nat}(a:k<i)(b:k<r):w.cell? ⟨gO,0+k*1,none⟩=some (.slice (some ⟨gs k,0,none⟩) c c):=by
 obtain⟨h,b,e,e⟩:=h;rw[b.cell,b8 aq,Nat.zero_add,Nat.mul_one,e k a]
theorem iz{gs:Nat->Nat}(h:bh w gO T (madeCells (Value.slice none 0 0).cells (r*1))):eO T w gO r 0 c gs:=by
 rw[il,Nat.mul_one]at h;exact⟨_,h,λk _=>⟨none,0,0,by simp[Value.cells,Nat.mod_one]⟩,λk a=>absurd a aq⟩
theorem eO.full(h:eO T w gO r r c gs):bh w gO T (arr r λi=>.slice (some ⟨gs i,0,none⟩) c c):=by
 obtain⟨h,a,b,b⟩:=h;rw[du b]at a;exact a
theorem wT(h:bh w gO T (arr r λi=>.slice (some ⟨gs i,0,none⟩) c c)):eO T w gO r r c gs:=⟨_,h,λ_ _=>⟨_,_,_,rfl⟩,λ_ _=>rfl⟩
end
section
variable {P:Program}{n:Nat}{S:World->World->Prop}{k:Nat}{K:Fr->World->Prop}{f:Fr}{w:World}
 {d ty t t2:Nat} {x y:Operand} {pos:String} {aft:Array Edge} {gd:Option (Nat×Bool)}
theorem eY{T gO r i j c g:Nat}{gs:Nat->Nat}(z:ia P t=true)(D:k=2\/k=1/\∀w',Ch (λb=>b=gO) w w'->S w w')(v:ev n f x=.pointer (some ⟨gO,0+j*1,none⟩))(m:ev n f y=.slice (some ⟨g,0,none⟩) c c)(A:eO T w gO r i c gs)(E:j<r)
 (h:∀w',(eO T w' gO r i c (cZ gs j g)/\(j=i->eO T w' gO r (i+1) c (cZ gs j g)))->Ch (λb=>b=gO) w w'->Kp w w'->w'.heap.size=w.heap.size->K f w'):
 R1 P n S k ⟨none,.store t x y,ty,pos,aft,gd⟩ K f w:=by
 obtain⟨p,q,u,C⟩:=A;refine cH z D v m q (by rw[bk];omega) ?_;intro w' o s B;rw[cC,Nat.zero_add,Nat.mul_one]at o;have a:∀k,k<r->∃A m v,bS p j (.slice (some ⟨g,0,none⟩) c c) k=.slice A m v:=λk l=>by
  by_cases e:k=j
  ·subst e;exact⟨_,_,_,bG _ _ _⟩
  ·rw[bw _ _ e];exact u k l
 have b:∀k,k<i\/k=j->bS p j (.slice (some ⟨g,0,none⟩) c c) k=.slice (some ⟨cZ gs j g k,0,none⟩) c c:=λk l=>by
  by_cases e:k=j
  ·subst e;rw[bG];simp[cZ]
  ·rw[bw _ _ e];simp only[cZ,aa e];exact C k aq
 exact h w' ⟨⟨_,o,a,λk l=>b k (.inl l)⟩,λe=>⟨_,o,a,λk l=>b k aq⟩⟩ s (cK q (dJ u).jn s) B
end
theorem Dr(r c:Nat)(w:World)(b:r<1073741824)(b:c<1073741824):
 aT Tryz.prog 97 #[.int .i64 (r:Int),.int .i64 (c:Int)] w (RM w r c λ_ _=>0):=by
 refine bF (n:=21) Tryz.func97 F rfl aw aA ?_;refine gg ?_;refine cF fU (.inl F) F rfl aD aq aq ?_;intro q b j u;refine gg ?_;refine aP ?_;refine gg ?_;refine aU (λm f w'=>∃i gs,m=r-i/\i<=r/\f 1=.int .i64 (c:Int)/\f 5=.slice (some ⟨w.heap.size,0,none⟩) r r/\f 10=.int .i64 (r:Int)/\f 11=.int .i64 ((i:Nat):Int)/\
  Ext w w'/\eO 27 w' w.heap.size r i c gs/\(∀k,k<i->dk w' (gs k) c true (λ_=>0) (λ_=>0)/\w.heap.size<gs k)/\(∀k h,k<i->h<i->gs k=gs h->k=h))
  r ⟨0,λ_=>0,rfl,aE,rfl,rfl,rfl,rfl,j,iz b,λk a=>absurd a aq,λk h a=>absurd a aq⟩ ?_
 clear b j u q;rintro m f q ⟨i,gs,rfl,b,z,u,m,b,j,A,g,p⟩;rw[ui z,ui u,ui m,ui b];clear z u m b;by_cases b:i<r
 ·refine gg ?_;refine cF eE (.inl F) F rfl aD aq aq ?_;intro m B l m;refine gg ?_;refine eY (aW F) (.inl F) F rfl (A.Y l) b ?_;intro b ⟨_,m⟩ o s b;have b:=A.lt;refine gg ?_;refine⟨_,?_,i+1,cZ gs i q.heap.size,F,aq,F,F,F,F,o.aK (j.trans l) λb b=>aq,m F,λk a=>?_,λk h a b e=>?_⟩
  ·omega
  ·by_cases e:k=i
   ·subst e;simp only[cZ,if_true];exact⟨(ff true 0 B).kp s o aq,aq⟩
   ·simp only[cZ,aa e];obtain⟨m,b⟩:=g k aq;exact⟨(m.Y l).kp s o aq,b⟩
  ·have b:∀k,k<i->gs k<q.heap.size:=λk a=>(g k a).1.lt;simp only[cZ]at e;split at e<;>split at e
   ·omega
   ·have:=b h aq;omega
   ·have:=b k aq;omega
   ·exact p k h aq aq e
 ·refine gg ?_;have:i=r:=aq;subst this;refine cI (v:=.slice _ _ _) F rfl ⟨j,_,gs,F,aD,λk a=>Nat.le_of_lt (g k a).2,?_⟩;exact(fk.mk (bn:=λ_ _=>0) A.full (λk a=>(g k a).1) (λk a=>by have:=(g k a).2;omega) p).o
def tj(w:World)(ok:Bool)(r c:Nat)(M:Nat->Nat->Int)(v:Value)(w':World):Prop:=
 if ok then ∃u,v=.tuple #[u,.bool true]/\RM w r c M u w' else Ext w w'/\v=.tuple #[.slice none 0 0,.bool false]
