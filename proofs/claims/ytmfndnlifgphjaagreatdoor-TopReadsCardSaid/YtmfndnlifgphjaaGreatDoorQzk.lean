import Derived.Test.YtmfndnlifgphjaaGreatDoorQzj
set_option maxHeartbeats 64000000
open Go.Proofs.YtmfndnlifgphjaaGreatDoor
namespace Go.cW
section
open Go
structure Lo where
 i:Nat
 d:Nat
 T:Nat
 cs:Array Value
 vl:Nat->Value
def Ag(D:List Nat)(f f1:Fr):Prop:=∀i,D.contains i=false->f i=f1 i
def Cx(ops:Array Oper)(D:List Nat)(o:Oper):Bool:=D.all λd=>!(o.looksAt ops).contains d&&o.dst != some d
def AD(E:List Nat)(o:Oper):Bool:=match o.dst with|none=>true|some d=>E.contains d
def Ay(ops:Array Oper)(D E:List Nat)(i:Nat):Bool:=match ops[i]? with|none=>false|some o=>Cx ops D o&&AD E o
def Gd(n:Nat)(E:List Nat)(f f1:Fr):Prop:=∀i,i<n->E.contains i=false->f i=f1 i
section
variable {P:Program}{n:Nat}{ops:Array Oper}{D E:List Nat}{f f1:Fr}{w w':World}{o:Oper}{K:Fr->World->Prop}
theorem Ag.refl(D:List Nat)(f:Fr):Ag D f f:=λ_ _=>rfl
theorem Aw(a:Cx ops D o=true){t:Nat}(c:t∈o.looksAt ops):D.contains t=false:=by
 cases hc:D.contains t with
 |false=>rfl
 |true=>
  exfalso;simp only[Cx,List.all_eq_true,Bool.and_eq_true,Bool.not_eq_true']at a;have b:=(a t (by simpa using hc)).1;have a:(o.looksAt ops).contains t=true:=by simpa using c
  rw[a]at b;cases b
theorem Kg(a:Cx ops D o=true){t:Nat}(c:o.dst=some t):D.contains t=false:=by
 cases hc:D.contains t with
 |false=>rfl
 |true=>
  exfalso;simp only[Cx,List.all_eq_true,Bool.and_eq_true,Bool.not_eq_true']at a;have b:=(a t (by simpa using hc)).2;rw[c]at b;simp at b
theorem HE(c:∀h b,o.op≠.select h b)(d:Cx ops D o=true)(e:Ag D f f1):execOp (ev n f) o=execOp (ev n f1) o:=by
 refine execOp_congr o c λx a=>?_;cases x with
 |tmp t=>
  have:D.contains t=false:=Aw d (List.mem_append_left _ (List.mem_filterMap.2 ⟨.tmp t,by simpa using a,F⟩));simp only[ev];rw[e t this]
 |const v=>rfl
 |global g=>rfl
 |func g=>rfl
theorem HD(d:Cx ops D o=true)(e:Ag D f f1):want n ops f o=want n ops f1 o:=by
 unfold want Region.wanted;cases c:o.guard with
 |none=>rfl
 |some h=>
  obtain⟨g,i⟩:=h;have b:yielded ops (act n f).tmps g=yielded ops (act n f1).tmps g:=by
   unfold yielded;cases a:(ops[g]?).bind (·.dst)with
   |none=>rfl
   |some t=>
    have:D.contains t=false:=Aw d (by simp[Oper.looksAt,c,a]);by_cases a:t<n
    ·simp[act,a,e t this]
    ·simp[act,a]
  simp only[b]
theorem Ag.cg(b:Ag D f f1)(d:Option Nat)(v:Value):Ag D (fZ f d v) (fZ f1 d v):=by
 intro i a;cases d with
 |none=>exact b i a
 |some d=>
  simp only[fZ];by_cases h:i=d
  ·subst h;rw[lC,lC]
  ·rw[b9 f v h,b9 f1 v h];exact b i a
theorem qb(a:Cx ops D o=true)(v:Value){d:Nat}(b:D.contains d=true):fZ f o.dst v d=f d:=by
 cases h:o.dst with
 |none=>rfl
 |some t=>
  have:=Kg a h;refine b9 f v ?_;rintro rfl;rw[b]at this;cases this
theorem Gd.refl(n:Nat)(E:List Nat)(f:Fr):Gd n E f f:=λ_ _ _=>rfl
theorem Gd.trans{a:Fr}(h:Gd n E f f1)(k:Gd n E f1 a):Gd n E f a:=λi a b=>(h i a b).trans (k i a b)
theorem qe(a:AD E o=true)(v:Value){i:Nat}(b:E.contains i=false):fZ f o.dst v i=f i:=by
 cases h:o.dst with
 |none=>rfl
 |some t=>
  refine b9 f v ?_;rintro rfl;simp only[AD,h]at a;rw[b]at a;cases a
def Pf(n:Nat)(D E:List Nat)(f:Fr)(w:World)(K:Fr->World->Prop)(b:Fr)(w':World):Prop:=
 Ext w w'/\(∀d,D.contains d=true->b d=f d)/\Gd n E b f/\∃a,Ag D b a/\K a w'
theorem OA{k:Nat}(b:k≠2)(G:∀B b,o.op≠.select B b)(z:Cx ops D o=true)(C:AD E o=true)(A:Ag D f f1)(h:R1 P n Ext k o K f1 w):R1 P n Ext k o (Pf n D E f w K) f w:=by
 have B:=HE (n:=n) G z A;unfold R1 at h⊢;by_cases G:k=0
 ·rw[ab G]at h⊢;obtain⟨v,b,t⟩:=h;exact⟨v,λw' H=>by rw[B];exact b w' H,Ext.refl _,λd p=>qb z v p,λi _ j=>qe C v j,_,A.cg o.dst v,t⟩
 by_cases H:k=3
 ·rw[aa G,ab H]at h⊢;obtain⟨v,b,t⟩:=h;exact⟨v,λw'=>by rw[B];exact b w',Ext.refl _,λd p=>qb z v p,λi _ j=>qe C v j,_,A.cg o.dst v,t⟩
 ·rw[aa G,aa H]at h⊢;unfold Oper.wp at h⊢;rw[cO]at h⊢;rw[B];have q:∀v w',(∃l,act n (fZ f1 o.dst v)=act n l/\(k=2\/w'=w\/Ext w w')/\K l w')->∃l,act n (fZ f o.dst v)=act n l/\(k=2\/w'=w\/Ext w w')/\Pf n D E f w K l w':=by
   rintro v w' ⟨l,e,s,t⟩;have J:∀i,D.contains i=true->(bif D.contains i then f i else l i)=f i:=λi j=>by rw[j];rfl
   have L:∀i,D.contains i=false->(bif D.contains i then f i else l i)=l i:=λi j=>by rw[j];rfl
   have I:∀i,i<n->fZ f o.dst v i=bif D.contains i then f i else l i:=λi j=>by
    have M:fZ f1 o.dst v i=l i:=by
     have:=congrArg (λa=>a.tmps[i]?) e;simpa[act,j]using this
    cases p:D.contains i with
    |true=>exact qb z v p
    |false=>exact((A.cg o.dst v) i p).trans M
   refine⟨λi=>bif D.contains i then f i else l i,?_,s,?_,J,λi j b=>(I i j).symm.trans (qe C v b),l,L,t⟩
   ·unfold act;congr 1;apply Array.ext_getElem?;intro i;by_cases j:i<n
    ·rw[Array.getElem?_ofFn,Array.getElem?_ofFn,dif_pos j,dif_pos j,I i j]
    ·rw[Array.getElem?_ofFn,Array.getElem?_ofFn,dif_neg j,dif_neg j]
   ·rcases s with s|rfl|s
    ·omega
    ·exact Ext.refl _
    ·exact s
  generalize (execOp (ev n f1) o).run P w=r at*;cases r with
  |ok nx w'=>
   cases nx<;>simp only[Oper.upon]at h⊢
   case value v=>rw[iC]at h⊢;exact q v w' h
   case skip=>rw[iC]at h⊢;exact q _ w' h
   case defer d=>
    exfalso;obtain⟨l,e,_⟩:=h;have:=congrArg (λa=>a.defers) e;cases p:o.dst<;>simp[act,p,Act.put]at this
   case enter g args=>
    refine Calls.mono h λe y m=>?_;cases e with
    |returned u=>simp only[]at m⊢;rw[iC]at m⊢;exact q u y m
    |panicked c=>exact m
    |outgrown=>obtain⟨a,w,a⟩:=m;exact a.elim
   case row row args=>exact Rows.mono h λu y m=>by rw[iC]at m⊢;exact q u y m
  |halt x w'=>
   cases x<;>simp only[Oper.upon]at h⊢
   case panic=>exact h
theorem Ev{k:Nat}{i:Fr->World->Prop}(c:∀f w,K f w->i f w)(h:R1 P n Ext k o K f w):R1 P n Ext k o i f w:=by
 unfold R1 at h⊢;split
 ·rename_i g;rw[ab g]at h;obtain⟨v,b,a⟩:=h;exact⟨v,b,c _ _ a⟩
 rename_i g;rw[aa g]at h;split
 ·rename_i d;rw[ab d]at h;obtain⟨v,b,a⟩:=h;exact⟨v,b,c _ _ a⟩
 ·rename_i d;rw[aa d]at h;exact Oper.wp_mono (λm w' ⟨l,e,j,a⟩=>⟨l,e,j,c _ _ a⟩) h
theorem qA{d:Fr->World->Prop}(j:∀f w,K f w->d f w):∀(a:List (Nat×Nat)) (f:Fr) (w:World),Ro P n ops Ext K a f w->Ro P n ops Ext d a f w:=by
 intro a;induction a with
 |nil=>intro f w h;unfold Ro at h⊢;exact j f w h
 |cons e rest c=>
  obtain⟨i,k⟩:=e;intro f w h;unfold Ro at h⊢;obtain⟨o,g,h⟩:=h;refine⟨o,g,?_⟩;split
  ·rename_i b;rw[ab b]at h;exact Ev c h
  ·rename_i b;rw[aa b]at h;exact c _ _ h
theorem Ov(B:Region.noSelect ops=true):∀(a:List (Nat×Nat)) (f f1:Fr) (w:World),(a.all λq=>Ay ops D E q.1&&q.2 != 2)=true->Ag D f f1->Ro P n ops Ext K a f1 w->Ro P n ops Ext (Pf n D E f w K) a f w:=by
 intro a;induction a with
 |nil=>
  intro f f1 w _ m h;unfold Ro at h⊢;exact⟨Ext.refl _,λ_ _=>rfl,Gd.refl _ _ _,f1,m,h⟩
 |cons O rest C=>
  obtain⟨i,k⟩:=O;intro f f1 w u m h;simp only[List.all_cons,Bool.and_eq_true]at u;obtain⟨⟨J,z⟩,l⟩:=u;unfold Ro at h⊢;obtain⟨o,y,h⟩:=h;have c:Cx ops D o=true/\AD E o=true:=by simpa[Ay,y]using J
  obtain⟨c,v⟩:=c;have z:k≠2:=by simpa using z
  have Q:∀A b,o.op≠.select A b:=λA b=>Region.noSelect_spec B i o A b y;refine⟨o,y,?_⟩;rw[HD c m];split
  ·rename_i x;rw[ab x]at h;refine Ev ?_ (OA z Q c v m h);rintro H w' ⟨V,S,T,M,L,U⟩;refine qA ?_ rest H w' (C H M w' (by simpa using l) L U);rintro N I ⟨t,p,r,j,g,s⟩;exact⟨V.trans t,λd e=>(p d e).trans (S d e),r.trans T,j,g,s⟩
  ·rename_i x;rw[aa x]at h;refine qA ?_ rest _ w (C _ _ w (by simpa using l) (m.cg o.dst undef) h);rintro N I ⟨t,p,r,j,g,s⟩;exact⟨t,λd e=>(p d e).trans (qb c _ e),λi R G=>(r i R G).trans (qe v _ G),j,g,s⟩
def Rc(P:Program)(n:Nat)(ops:Array Oper)(K:Fr->World->Prop):List (Nat×List (Nat×Nat))->Fr->World->Prop
 |[],f,w=>∀w',Ext w w'->K f w'
 |(i,a)::C,f,w=>∀w',Ext w w'->Ro P n ops Ext (Rc P n ops K C) ((i,1)::a) f w'
theorem Rc.Y{C:List (Nat×List (Nat×Nat))}(h:Rc P n ops K C f w)(c:Ext w w'):Rc P n ops K C f w':=by
 match C,h with
 |[],h=>exact λa b=>h a (c.trans b)
 |(i,d)::C,h=>exact λa b=>h a (c.trans b)
theorem eW(h:∀w',Ext w w'->K f w'):Rc P n ops K [] f w:=h
theorem cS{i:Nat}{a:List (Nat×Nat)}{C:List (Nat×List (Nat×Nat))}(h:∀w',Ext w w'->Ro P n ops Ext (Rc P n ops K C) ((i,1)::a) f w'):Rc P n ops K ((i,a)::C) f w:=h
def Jc(b:Nat->Nat):List Lo->Fr->Fr
 |[],f=>f
 |a::aI,f=>cg (Jc b aI f) a.d (a.vl (b a.d))
def LW(g:Nat->Nat)(d v:Nat):Nat->Nat:=λi=>if i=d then v else g i
theorem qI(g:Nat->Nat)(d v:Nat):LW g d v d=v:=ab F
theorem pD(g:Nat->Nat){d i:Nat}(v:Nat)(h:i≠d):LW g d v i=g i:=aa h
def sW:Option Nat->List (Nat×List (Nat×Nat))->qE->Bool
 |_,[],_=>false
 |pv,(i,b)::C,g=>if i == g.1 then b == g.2.1&&(match pv with|none=>true|some p=>g.2.2.contains p)else sW (some i) C g
def HA(ops:Array Oper)(G:List qE)(C:List (Nat×List (Nat×Nat)))(aI:List (Nat×Nat))(E:List Nat):Bool:=
 Region.noSelect ops &&
 (C.all λc=>Ay ops (aI.map (·.2)) E c.1&&c.2.all λq=>Ay ops (aI.map (·.2)) E q.1&&q.2 != 2) &&
 (G.all λg=>((aI.map (·.1)).contains g.1&&g.2.1 == []) || sW none C g) &&
 (C.all λc=>(G.map (·.1)).contains c.1&&!(aI.map (·.1)).contains c.1) &&
 (aI.all λa=>(G.map (·.1)).contains a.1&&E.contains a.2) &&
 decide (C.map (·.1)).Nodup&&decide (aI.map (·.1)).Nodup&&decide (aI.map (·.2)).Nodup
theorem zQ{b:Option Nat}{C:List (Nat×List (Nat×Nat))}{g:qE}(h:sW b C g=true):
 (∃Y,C=(g.1,g.2.1)::Y/\∀p,b=some p->g.2.2.contains p=true)\/∃X p d Y,C=X++(p,d)::(g.1,g.2.1)::Y/\g.2.2.contains p=true:=by
 induction C generalizing b with
 |nil=>simp[sW]at h
 |cons c C k=>
  obtain⟨i,j⟩:=c;unfold sW at h;split at h
  ·rename_i e;have e:i=g.1:=by simpa using e
   simp only[Bool.and_eq_true,beq_iff_eq]at h;refine .inl ⟨C,by rw[e,h.1],λp a=>?_⟩;subst a;exact h.2
  ·rcases k h with⟨Y,rfl,a⟩|⟨X,p,d,Y,rfl,a⟩
   ·exact .inr ⟨[],i,j,Y,F,a i F⟩
   ·exact .inr ⟨(i,j)::X,p,d,Y,F,a⟩
theorem Jb(c:Nat->Nat)(aI:List Lo)(f:Fr){i:Nat}(h:(aI.map (·.d)).contains i=false):Jc c aI f i=f i:=by
 induction aI with
 |nil=>rfl
 |cons a aI b=>
  simp only[List.map_cons,List.contains_cons,Bool.or_eq_false_iff,beq_eq_false_iff_ne]at h;unfold Jc;rw[b9 _ _ h.1];exact b h.2
theorem LX(e:Nat->Nat)(aI:List Lo)(f:Fr)(d:(aI.map (·.d)).Nodup){a:Lo}(c:a∈aI):Jc e aI f a.d=a.vl (e a.d):=by
 induction aI with
 |nil=>cases c
 |cons b aI g=>
  simp only[List.map_cons,List.nodup_cons]at d;unfold Jc;rcases List.mem_cons.1 c with rfl|c
  ·rw[lC]
  ·have:a.d≠b.d:=λe=>d.1 (by rw[<-e];exact List.mem_map_of_mem (f:=(·.d)) c);rw[b9 _ _ this];exact g d.2 c
theorem dN{G:List qE}{a8:List (Nat×Nat)}(C:List (Nat×List (Nat×Nat)))(aI:List Lo)(E:List Nat)(ay:HA ops G C (aI.map λa=>(a.i,a.d)) E=true)
 (hF:∀a,a∈aI->∀u w',Gd n E u f->Ext w w'->Ro P n ops Ext (λan T=>an=cg u a.d (a.vl w'.heap.size)/\bg T w'.heap.size a.T a.cs/\Ext w' T) [(a.i,1)] u w')
 (hC:Rc P n ops (λf1 w1=>∀k:Nat->Nat,(∀a,a∈aI->w.heap.size<=k a.d/\bg w1 (k a.d) a.T a.cs)->(∀a b,a∈aI->b∈aI->a.d≠b.d->k a.d≠k b.d)->Ro P n ops Ext K a8 (Jc k aI f1) w1) C f w):
 Rg P n ops Ext G a8 K f w:=by
 have e1:(aI.map λa=>(a.i,a.d)).map (·.1)=aI.map (·.i):=aA;have e2:(aI.map λa=>(a.i,a.d)).map (·.2)=aI.map (·.d):=aA;simp only[HA,Bool.and_eq_true,e1,e2,decide_eq_true_eq]at ay;obtain⟨⟨⟨⟨⟨⟨⟨bl,bs⟩,hG⟩,al⟩,bc⟩,b1⟩,bC⟩,b0⟩:=ay;generalize bI:(λf1 w1=>∀k:Nat->Nat,(∀a,a∈aI->w.heap.size<=k a.d/\bg w1 (k a.d) a.T a.cs)->(∀a b,a∈aI->b∈aI->a.d≠b.d->k a.d≠k b.d)->Ro P n ops Ext K a8 (Jc k aI f1) w1)=K0 at hC;have b8:∀a b,a∈aI->b∈aI->a.i=b.i->a=b:=by
  intro a b d l he;obtain⟨i,R,rfl⟩:=List.getElem_of_mem d;obtain⟨j,s,rfl⟩:=List.getElem_of_mem l;have:i=j:=(List.getElem_inj (h₀:=by simpa using R) (h₁:=by simpa using s) bC).1 (by simpa using he);subst this;rfl
 have bj:∀a b,a∈aI->b∈aI->a.d=b.d->a=b:=by
  intro a b d l he;obtain⟨i,R,rfl⟩:=List.getElem_of_mem d;obtain⟨j,s,rfl⟩:=List.getElem_of_mem l;have:i=j:=(List.getElem_inj (h₀:=by simpa using R) (h₁:=by simpa using s) b0).1 (by simpa using he);subst this;rfl
 have bK:∀a,a∈aI->E.contains a.d=true:=λa d=>by
  have:=List.all_eq_true.1 bc (a.i,a.d) (List.mem_map.2 ⟨a,d,F⟩);simp only[Bool.and_eq_true]at this;exact this.2
 refine A8 (λL u w'=>Ext w w'/\Gd n E u f/\∃I A f1,C=I++A/\(∀c,c∈I->L.contains c.1=true)/\(∀c,c∈A->L.contains c.1=false)/\Ag (aI.map (·.d)) u f1/\
  Rc P n ops K0 A f1 w'/\
  ∃k:Nat->Nat,(∀a,a∈aI->L.contains a.i=true->u a.d=a.vl (k a.d)/\w.heap.size<=k a.d/\bg w' (k a.d) a.T a.cs)/\
   (∀a b,a∈aI->b∈aI->L.contains a.i=true->L.contains b.i=true->a.d≠b.d->k a.d≠k b.d)) ?_ ?_ ?_
 ·exact⟨Ext.refl _,Gd.refl _ _ _,[],C,f,F,(λc m=>by cases m),(λc _=>rfl),Ag.refl _ _,hC,λ_=>0,(λa _ h=>by cases h),λa b _ _ h=>by cases h⟩
 ·intro i qs nd a8 L u w' bA V ⟨hE,hN,I,A,f1,r,a6,Q,hA,W,k,B,J⟩;have hg:=List.all_eq_true.1 hG _ a8;simp only[Bool.or_eq_true,Bool.and_eq_true,beq_iff_eq]at hg;rcases hg with⟨ae,bx⟩|au
  ·
   subst bx;have ae:i∈aI.map (·.i):=by simpa using ae
   obtain⟨a,d,rfl⟩:=List.mem_map.1 ae;refine qA ?_ _ _ _ (hF a d u w' hN hE);rintro an T ⟨rfl,hB,H⟩;have b4:∀b,b∈aI->L.contains b.i=true->k b.d<w'.heap.size:=λb l M=>(B b l M).2.2.lt;have aH:∀b,b∈aI->L.contains b.i=true->b.d≠a.d:=λb l M e=>by
    have:=bj b a l d e;subst this;rw[M]at V;cases V
   refine⟨hE.trans H,λj s ak=>?_,I,A,f1,r,λc m=>?_,λc m=>?_,λj s=>?_,W.Y H,LW k a.d w'.heap.size,λb l M=>?_,λb c l m N ai b6=>?_⟩
   ·rw[b9 _ _ (by rintro rfl;rw[bK a d]at ak;cases ak)];exact hN j s ak
   ·have:=a6 c m;simp only[List.contains_cons,Bool.or_eq_true];exact .inr this
   ·have t:=Q c m;have y:c∈C:=by rw[r];exact List.mem_append_right _ m
    have v:=List.all_eq_true.1 al c y;simp only[Bool.and_eq_true,Bool.not_eq_true']at v;simp only[List.contains_cons,Bool.or_eq_false_iff,beq_eq_false_iff_ne];refine⟨λe=>?_,t⟩;have:(aI.map (·.i)).contains c.1=true:=by rw[e];simpa using⟨a,d,F⟩
    rw[this]at v;cases v.2
   ·rw[b9 _ _ (by
     rintro rfl;have:(aI.map (·.d)).contains a.d=true:=by simpa using⟨a,d,F⟩
     rw[this]at s;cases s)]
    exact hA j s
   ·simp only[List.contains_cons,Bool.or_eq_true,beq_iff_eq]at M;by_cases q:b.d=a.d
    ·have:=bj b a l d q;subst this;rw[lC,qI];exact⟨F,hE.size,hB⟩
    ·have N:L.contains b.i=true:=by
      rcases M with h|h
      ·exact absurd (congrArg Lo.d (b8 b a l d h)) q
      ·exact h
     obtain⟨t,y,v⟩:=B b l N;rw[b9 _ _ q,pD _ _ q];exact⟨t,y,v.Y H⟩
   ·simp only[List.contains_cons,Bool.or_eq_true,beq_iff_eq]at N ai;have U:∀x,x∈aI->(x.i=a.i\/L.contains x.i=true)->x.d≠a.d->L.contains x.i=true:=λx hx h aH=>by
     rcases h with h|h
     ·exact absurd (congrArg Lo.d (b8 x a hx d h)) aH
     ·exact h
    by_cases q:b.d=a.d
    ·have x:c.d≠a.d:=λe=>b6 (q.trans e.symm);have:=b4 c m (U c m ai x);rw[q,qI,pD _ _ x];omega
    ·by_cases x:c.d=a.d
     ·have:=b4 b l (U b l N q);rw[x,qI,pD _ _ q];omega
     ·rw[pD _ _ q,pD _ _ x];exact J b c l m (U b l N q) (U c m ai x) b6
  ·
   have av:∃C3,A=(i,qs)::C3:=by
    have a7:(i,qs)∉I:=λh=>by rw[a6 _ h]at V;cases V
    rcases zQ au with⟨Y,S,_⟩|⟨X,p,pq,Y,S,hp⟩
    ·rcases I with _|⟨c1,I⟩
     ·exact⟨Y,by rw[r]at S;exact S⟩
     ·exfalso;rw[r]at S;injection S with t _;exact a7 (by rw[t];exact aG)
    ·have q:L.contains p=true:=List.all_eq_true.1 bA p (by simpa using hp);have ar:∀pq,(p,pq)∉A:=λpq h=>by have:=Q _ h;rw[q]at this;cases this
     rw[r]at S;rcases List.append_eq_append_iff.1 S with⟨Z,b7,O⟩|⟨Z,b7,O⟩
     ·exfalso;exact ar pq (by rw[O];exact List.mem_append_right _ aG)
     ·rcases Z with _|⟨z,Z⟩
      ·exfalso;exact ar pq (by rw[List.nil_append]at O;rw[<-O];exact aG)
      ·injection O with q ax;rcases Z with _|⟨q,Z⟩
       ·exact⟨Y,ax.symm⟩
       ·exfalso;injection ax with q _;exact a7 (by rw[b7,<-q];exact List.mem_append_right _ (List.mem_cons_of_mem _ aG))
   obtain⟨C3,rfl⟩:=av;have x:=List.all_eq_true.1 bs (i,qs) (by rw[r];exact List.mem_append_right _ aG);have x:(((i,1)::qs).all λq=>Ay ops (aI.map (·.d)) E q.1&&q.2 != 2)=true:=by
    simp only[Bool.and_eq_true]at x;simp only[List.all_cons,Bool.and_eq_true];exact⟨⟨x.1,F⟩,x.2⟩
   refine qA ?_ _ _ _ (Ov bl _ u f1 w' x hA (W w' (Ext.refl _)));rintro an T ⟨H,hd,bG,bS,bM,bu⟩;have bB:∀c,c∈C3->c.1≠i:=λc m e=>by
    rw[r,List.map_append,List.map_cons]at b1;have:=(List.nodup_append.1 b1).2.1;rw[List.nodup_cons]at this;exact this.1 (by rw[<-e];exact List.mem_map_of_mem (f:=(·.1)) m)
   have bD:∀a,a∈aI->a.i≠i:=λa d e=>by
    have v:=List.all_eq_true.1 al (i,qs) (by rw[r];exact List.mem_append_right _ aG);simp only[Bool.and_eq_true,Bool.not_eq_true']at v;have:(aI.map (·.i)).contains i=true:=by rw[<-e];simpa using⟨a,d,F⟩
    rw[this]at v;cases v.2
   have aj:∀a,a∈aI->(i::L).contains a.i=true->L.contains a.i=true:=λa d h=>by
    simp only[List.contains_cons,Bool.or_eq_true,beq_iff_eq]at h;rcases h with h|h
    ·exact absurd h (bD a d)
    ·exact h
   refine⟨hE.trans H,bG.trans hN,I++[(i,qs)],C3,bS,by rw[r,List.append_assoc];rfl,λc m=>?_,λc m=>?_,bM,bu,k,λa d M=>?_,λa b d l t y=>J a b d l (aj a d t) (aj b l y)⟩
   ·simp only[List.contains_cons,Bool.or_eq_true,beq_iff_eq];rcases List.mem_append.1 m with h|h
    ·exact .inr (a6 c h)
    ·left;simp at h;rw[h]
   ·simp only[List.contains_cons,Bool.or_eq_false_iff,beq_eq_false_iff_ne];exact⟨bB c m,Q c (List.mem_cons_of_mem _ m)⟩
   ·obtain⟨t,y,v⟩:=B a d (aj a d M);exact⟨(hd a.d (by simpa using⟨a,d,F⟩)).trans t,y,v.Y H⟩
 ·intro L u w' bt ⟨hE,hN,I,A,f1,r,a6,Q,hA,W,k,B,J⟩;have b5:∀i,(G.map (·.1)).contains i=true->L.contains i=true:=λi R=>by
   have R:i∈G.map (·.1):=by simpa using R
   obtain⟨g,hg,rfl⟩:=List.mem_map.1 R;exact List.all_eq_true.1 bt g hg
  rcases A with _|⟨c,A⟩
  ·have a1:∀a,a∈aI->L.contains a.i=true:=λa d=>b5 _ (by
    have:=List.all_eq_true.1 bc (a.i,a.d) (List.mem_map.2 ⟨a,d,F⟩);simp only[Bool.and_eq_true]at this;exact this.1)
   have g:=W w' (Ext.refl _);rw[<-bI]at g;have:=g k (λa d=>(B a d (a1 a d)).2) λa b d l=>J a b d l (a1 a d) (a1 b l);have e:Jc k aI f1=u:=by
    funext j;cases s:(aI.map (·.d)).contains j with
    |false=>rw[Jb k aI f1 s];exact(hA j s).symm
    |true=>
     have s:j∈aI.map (·.d):=by simpa using s
     obtain⟨a,d,rfl⟩:=List.mem_map.1 s;rw[LX k aI f1 b0 d];exact(B a d (a1 a d)).1.symm
   rw[e]at this;exact this
  ·exfalso;have t:=Q c aG;have y:=List.all_eq_true.1 al c (by rw[r];exact List.mem_append_right _ aG);simp only[Bool.and_eq_true]at y;rw[b5 _ y.1]at t;cases t
def fA(i d t:Nat)(z:Value):Lo:=⟨i,d,t,z.cells,λg=>.pointer (some ⟨g,0,none⟩)⟩
theorem cm{i d t ty:Nat}{z:Value}{a:String}{b:Array Edge}(e:fo P t z)(g:ops[i]?=some ⟨some d,.alloc t,ty,a,b,none⟩)(b:Fr)(w':World):
 Ro P n ops Ext (λc a=>c=cg b d ((fA i d t z).vl w'.heap.size)/\bg a w'.heap.size t z.cells/\Ext w' a) [(i,1)] b w':=by
 refine Es g F ?_;refine aS (.inr ⟨F,λ_ h=>h⟩) e ?_;intro a b a _;exact qZ ⟨F,b,a⟩
end
end
end Go.cW
namespace Go.Proofs.Qq
section
open Go Go.cW Go.c7 Go.Proofs
def Kp(w w':World):Prop:=∀p z,w.cell? p=some (.int .u32 z)->w'.cell? p=some (.int .u32 z)
theorem Kp.refl(w:World):Kp w w:=λ_ _ h=>h
theorem Kp.trans{w w' a:World}(h:Kp w w')(k:Kp w' a):Kp w a:=λp z a=>k p z (h p z a)
theorem bJ{w w':World}(h:Ext w w'):Kp w w':=λ_ _ a=>aP h a
def Ll(cs:Array Value):Prop:=∀(i:Nat) (z:Int),cs[i]?≠some (.int .u32 z)
theorem nX.lh{cs:Array Value}(h:nX cs):Ll cs:=λi z=>h i .u32 z
theorem c8{w w':World}{g T:Nat}{cs:Array Value}(j:bg w g T cs)(e:Ll cs)(h:Ch (λb=>b=g) w w'):Kp w w':=λp z a=>by
 rw[<-a];refine jz h (World.block_lt_of_cell? w _ a) λh=>?_;obtain⟨i,b⟩:=AT j h a;exact e _ _ b
theorem fM.kp{w w':World}{A:Option Addr}{l:List Nat}(h:fM w A l)(a:Kp w w'):fM w' A l:=
 ⟨h.fD,λj b=>by obtain⟨i,e,g⟩:=h.cell j b;exact⟨i,e,a _ _ g⟩⟩
theorem IV.kp{w w':World}{N:Nat}{x y:Value}{z:Int}(h:IV w N x y z)(b:Kp w w'):IV w' N x y z:=by
 obtain⟨a,A,l,c,p,o,m,j,i,g,e⟩:=h;exact⟨a,A,l,c,p,o,m,j,i.kp b,g,e⟩
theorem CV.kp{w w':World}{x y:Value}{z:Int}(h:CV w x y z)(b:Kp w w'):CV w' x y z:=by
 obtain⟨a,A,l,c,p,o,m,j,i,g,e⟩:=h;exact⟨a,A,l,c,p,o,m,j,i.kp b,g,e⟩
def EV(w:World)(N:Nat)(cn:Bool)(x y:Value)(z:Int):Prop:=IV w N x y z/\(cn=true->CV w x y z)
theorem EV.kp{w w':World}{N:Nat}{cn:Bool}{x y:Value}{z:Int}(h:EV w N cn x y z)(a:Kp w w'):EV w' N cn x y z:=⟨h.1.kp a,λe=>(h.2 e).kp a⟩
theorem EV.Y{w w':World}{N:Nat}{cn:Bool}{x y:Value}{z:Int}(h:EV w N cn x y z)(a:Ext w w'):EV w' N cn x y z:=h.kp (bJ a)
theorem EV.mono{w:World}{N N':Nat}{cn:Bool}{x y:Value}{z:Int}(h:EV w N cn x y z)(a:N<=N'):EV w N' cn x y z:=⟨h.1.mono a,h.2⟩
theorem CV.ev{w:World}{N:Nat}{x y:Value}{z:Int}(cn:Bool)(h:CV w x y z)(a:Bd N z):EV w N cn x y z:=⟨h.iv a,λ_=>h⟩
theorem IV.ep{w:World}{N:Nat}{x y:Value}{z:Int}(h:IV w N x y z):x.oneCell'=true:=by obtain⟨a,A,l,c,rfl,_⟩:=h;rfl
theorem IV.eN{w:World}{N:Nat}{x y:Value}{z:Int}(h:IV w N x y z):y.oneCell'=true:=by obtain⟨a,A,l,c,_,rfl,_⟩:=h;rfl
theorem IV.lh{w:World}{N:Nat}{x y:Value}{z:Int}(h:IV w N x y z):Ll #[x,y]:=by
 obtain⟨a,A,l,c,rfl,rfl,_⟩:=h;exact dn.lh
theorem IV.bd{w:World}{N:Nat}{x y:Value}{z:Int}(h:IV w N x y z):Bd N z:=h.abs
theorem EV.bd{w:World}{N:Nat}{cn:Bool}{x y:Value}{z:Int}(h:EV w N cn x y z):Bd N z:=h.1.abs
def Bx(w:World)(g N:Nat)(cn:Bool)(z:Int):Prop:=∃x y,bg w g 44 #[x,y]/\EV w N cn x y z
theorem Bx.kp{w w':World}{g N:Nat}{cn:Bool}{z:Int}{M:Nat->Prop}(h:Bx w g N cn z)(e:Kp w w')(j:Ch M w w')(b:¬M g):Bx w' g N cn z:=by
 obtain⟨x,y,i,a⟩:=h;exact⟨x,y,i.ch j b,a.kp e⟩
theorem Bx.Y{w w':World}{g N:Nat}{cn:Bool}{z:Int}(h:Bx w g N cn z)(a:Ext w w'):Bx w' g N cn z:=h.kp (bJ a) a id
theorem Bx.lt{w:World}{g N:Nat}{cn:Bool}{z:Int}(h:Bx w g N cn z):g<w.heap.size:=by obtain⟨x,y,a,_⟩:=h;exact a.lt
theorem Bx.zero{w:World}{g N:Nat}(cn:Bool)(h:bg w g 44 (Value.agg #[.bool false,.slice none 0 0]).cells):Bx w g N cn 0:=
 ⟨_,_,h,(CV.zero w).ev cn (Bd.zero N)⟩
section
variable {n:Nat}{S:World->World->Prop}{k:Nat}{K:Fr->World->Prop}{f:Fr}{w:World}
 {d ty t t2:Nat} {x y:Operand} {pos:String} {aft:Array Edge} {gd:Option (Nat×Bool)}
theorem aL{g N N':Nat}{cn:Bool}{z z':Int}{a b:Value}(p:k=2\/k=1/\∀w',Ch (λb=>b=g) w w'->S w w')(j:ev n f x=.pointer (some ⟨g,0,none⟩))(i:ev n f y=.agg #[a,b])(m:Bx w g N cn z)(e:EV w N' cn a b z')
 (h:∀w',Bx w' g N' cn z'->Ch (λb=>b=g) w w'->Kp w w'->w'.heap.size=w.heap.size->K f w'):
 R1 Tryz.prog n S k ⟨none,.store 44 x y,ty,pos,aft,gd⟩ K f w:=by
 obtain⟨u,v,l,o⟩:=m;refine aZ aQ p j i e.1.ep e.1.eN l aA ?_;intro w' m j p;have i:=c8 l o.1.lh j;exact h w' ⟨a,b,m,e.kp i⟩ j i p
end
def cC(b:Nat->Nat)(j N:Nat):Nat->Nat:=λk=>if k=j then N else b k
def di(w:World)(g c:Nat)(cn:Bool)(bn:Nat->Nat)(M:Nat->Int):Prop:=
 ∃h,bg w g 44 (arr (c*2) h)/\∀j,j<c->EV w (bn j) cn (h (j*2)) (h (j*2+1)) (M j)
theorem di.lt{w:World}{g c:Nat}{cn:Bool}{bn:Nat->Nat}{M:Nat->Int}(h:di w g c cn bn M):g<w.heap.size:=by obtain⟨_,a,_⟩:=h;exact a.lt
theorem di.kp{w w':World}{g c:Nat}{cn:Bool}{bn:Nat->Nat}{M:Nat->Int}{a:Nat->Prop}(h:di w g c cn bn M)(e:Kp w w')(j:Ch a w w')(b:¬a g):di w' g c cn bn M:=by
 obtain⟨h,a,i⟩:=h;exact⟨h,a.ch j b,λj a=>(i j a).kp e⟩
theorem di.Y{w w':World}{g c:Nat}{cn:Bool}{bn:Nat->Nat}{M:Nat->Int}(h:di w g c cn bn M)(a:Ext w w'):di w' g c cn bn M:=h.kp (bJ a) a id
theorem di.congr{w:World}{g c:Nat}{cn:Bool}{bn bn':Nat->Nat}{M M':Nat->Int}(h:di w g c cn bn M)(e:∀j,j<c->bn j<=bn' j/\M j=M' j):di w g c cn bn' M':=by
 obtain⟨h,a,b⟩:=h;exact⟨h,a,λj a=>by rw[<-(e j a).2];exact(b j a).mono (e j a).1⟩
theorem jK{w:World}{c:Nat}{cn:Bool}{h:Nat->Value}{bn:Nat->Nat}{M:Nat->Int}(m:∀j,j<c->EV w (bn j) cn (h (j*2)) (h (j*2+1)) (M j)):nX (arr (c*2) h):=by
 intro i k z a;by_cases b:i<c*2
 ·rw[cE b]at a;have a:=Option.some.inj a;obtain⟨h,A,l,h,g,e,_⟩:=(m (i/2) aq).1;rcases Nat.mod_two_eq_zero_or_one i with h|h
  ·rw[show i/2*2=i by omega]at g;rw[g]at a;cases a
  ·rw[show i/2*2+1=i by omega]at e;rw[e]at a;cases a
 ·simp[arr,b]at a
theorem di.at{w:World}{g c j:Nat}{cn:Bool}{bn:Nat->Nat}{M:Nat->Int}(h:di w g c cn bn M)(b:j<c):
 ∃x y,w.cell? ⟨g,0+j*2,none⟩=some x/\w.cell? ((⟨g,0+j*2,none⟩ : Addr).add 1)=some y/\EV w (bn j) cn x y (M j):=by
 obtain⟨h,a,e⟩:=h;refine⟨_,_,?_,?_,e j b⟩
 ·rw[a.cell,cE aq,Nat.zero_add]
 ·rw[add_lit,a.cell,cE aq,Nat.zero_add]
theorem fq{w:World}{g c:Nat}(cn:Bool)(N:Nat)(h:bg w g 44 (madeCells (Value.agg #[.bool false,.slice none 0 0]).cells (c*2))):di w g c cn (λ_=>N) (λ_=>0):=by
 obtain⟨h,a,b⟩:=vu h;exact⟨h,a,λj a=>(b j a).ev cn (Bd.zero N)⟩
section
variable {n:Nat}{S:World->World->Prop}{k:Nat}{K:Fr->World->Prop}{f:Fr}{w:World}
 {d ty t t2:Nat} {x y:Operand} {pos:String} {aft:Array Edge} {gd:Option (Nat×Bool)}
theorem c_{g c j N:Nat}{cn:Bool}{bn:Nat->Nat}{M:Nat->Int}{z:Int}{a b:Value}(A:k=2\/k=1/\∀w',Ch (λb=>b=g) w w'->S w w')(p:ev n f x=.pointer (some ⟨g,0+j*2,none⟩))(i:ev n f y=.agg #[a,b])(u:di w g c cn bn M)(h:j<c)(l:EV w N cn a b z)
 (h:∀w',di w' g c cn (cC bn j N) (ef M j z)->Ch (λb=>b=g) w w'->Kp w w'->w'.heap.size=w.heap.size->K f w'):
 R1 Tryz.prog n S k ⟨none,.store 44 x y,ty,pos,aft,gd⟩ K f w:=by
 obtain⟨s,s,o⟩:=u;refine aZ aQ A p i l.1.ep l.1.eN s (by rw[bf];omega) ?_;intro w' i p u;have m:=c8 s (jK o).lh p;refine h w' ⟨_,by rw[cT,cT]at i;exact i,λq v=>?_⟩ p m u;by_cases e:q=j
 ·subst e;rw[Nat.zero_add,b9 _ _ (show q*2≠q*2+1 by omega),ct,ct];simp only[ef,cC,if_true];exact l.kp m
 ·rw[Nat.zero_add,b9 _ _ aq,b9 _ _ aq,b9 _ _ aq,b9 _ _ aq];simp only[ef,cC,aa e];exact(o q v).kp m
end
def cV{α:Type}(M:Nat->Nat->α)(i j:Nat)(z:α):Nat->Nat->α:=λa b=>if a=i/\b=j then z else M a b
theorem kA{α:Type}(M:Nat->Nat->α)(i j:Nat)(z:α):cV M i j z i=λb=>if b=j then z else M i b:=by funext b;simp[cV]
theorem kR{α:Type}(M:Nat->Nat->α){i a:Nat}(j:Nat)(z:α)(h:a≠i):cV M i j z a=M a:=by funext b;simp[cV,h]
structure eM(w:World)(gO:Nat)(gs:Nat->Nat)(r c:Nat)(cn:Bool)(bn:Nat->Nat->Nat)(M:Nat->Nat->Int):Prop where
 outer:bg w gO 49 (arr r λi=>.slice (some ⟨gs i,0,none⟩) c c)
 row:∀i,i<r->di w (gs i) c cn (bn i) (M i)
 ne:∀i,i<r->gs i≠gO
 inj:∀i j,i<r->j<r->gs i=gs j->i=j
section
variable {w w':World}{gO r c:Nat}{gs:Nat->Nat}{cn:Bool}{bn bn':Nat->Nat->Nat}{M M':Nat->Nat->Int}
theorem eM.kp{a:Nat->Prop}(h:eM w gO gs r c cn bn M)(j:Kp w w')(b:Ch a w w')(g:¬a gO)(e:∀i,i<r->¬a (gs i)):eM w' gO gs r c cn bn M:=
 ⟨h.outer.ch b g,λi a=>(h.row i a).kp j b (e i a),h.ne,h.inj⟩
theorem eM.Y(h:eM w gO gs r c cn bn M)(a:Ext w w'):eM w' gO gs r c cn bn M:=h.kp (bJ a) a id (λ_ _=>id)
theorem eM.congr(h:eM w gO gs r c cn bn M)(e:∀i j,i<r->j<c->bn i j<=bn' i j/\M i j=M' i j):eM w gO gs r c cn bn' M':=
 ⟨h.outer,λi a=>(h.row i a).congr λj b=>e i j a b,h.ne,h.inj⟩
theorem eM.at(h:eM w gO gs r c cn bn M){i:Nat}(a:i<r):w.cell? ⟨gO,0+i*1,none⟩=some (.slice (some ⟨gs i,0,none⟩) c c):=by
 rw[h.outer.cell,cE aq,Nat.zero_add,Nat.mul_one]
theorem eM.lt(h:eM w gO gs r c cn bn M):gO<w.heap.size:=h.outer.lt
theorem eM.put{i j N:Nat}{z:Int}(h:eM w gO gs r c cn bn M)(g:i<r)(o:di w' (gs i) c cn (cC (bn i) j N) (ef (M i) j z))(m:Ch (λb=>b=gs i) w w')(p:Kp w w'):
 eM w' gO gs r c cn (cV bn i j N) (cV M i j z):=by
 refine⟨h.outer.ch m (Ne.symm (h.ne i g)),λa l=>?_,h.ne,h.inj⟩;by_cases e:a=i
 ·subst e;rw[kA,kA];exact o
 ·rw[kR _ _ _ e,kR _ _ _ e];exact(h.row a l).kp p m λb=>e (h.inj a i l g b)
theorem iF.wm(h:iF w gO gs r c M)(cn:Bool){N:Nat}(l:∀i j,i<r->j<c->Bd N (M i j)):eM w gO gs r c cn (λ_ _=>N) M:=
 ⟨h.outer,λi b=>by obtain⟨a,g,e⟩:=h.row i b;exact⟨a,g,λj a=>(e j a).ev cn (l i j b a)⟩,h.ne,h.inj⟩
theorem eM.o(h:eM w gO gs r c true bn M):iF w gO gs r c M:=
 ⟨h.outer,λi a=>by obtain⟨b,g,e⟩:=h.row i a;exact⟨b,g,λj a=>(e j a).2 rfl⟩,h.ne,h.inj⟩
end
def EC(N:Nat):World->Value->Value->Int->Prop:=λw x y z=>CV w x y z/\Bd N z
theorem gY.imp{E b:World->Value->Value->Int->Prop}{w w':World}{c:Nat}{v:Value}{g:Nat->Int}(h:gY E w v c g)(a:∀p u,w.cell? p=some u->w'.cell? p=some u)(m:∀x y z,E w x y z->b w' x y z):gY b w' v c g:=by
 obtain⟨A,e,rfl,i,b,o⟩:=h;refine⟨A,e,F,i,b,λj i=>?_⟩;obtain⟨p,x,y,e,h,b,l⟩:=o j i;exact⟨p,x,y,e,a _ _ h,a _ _ b,m _ _ _ l⟩
theorem cB.imp{E b:World->Value->Value->Int->Prop}{w w':World}{r:Nat}{len:Nat->Nat}{v:Value}{M:Nat->Nat->Int}(h:cB E w v r len M)(a:∀p u,w.cell? p=some u->w'.cell? p=some u)(i:∀x y z,E w x y z->b w' x y z):cB b w' v r len M:=by
 obtain⟨A,e,rfl,g,b,l⟩:=h;refine⟨A,e,F,g,b,λj h=>?_⟩;obtain⟨m,u,e,b,g⟩:=l j h;exact⟨m,u,e,a _ _ b,g.imp a i⟩
theorem gY.N_{w w':World}{N c:Nat}{v:Value}{g:Nat->Int}(h:gY (EC N) w v c g)(b:Ext w w'):gY (EC N) w' v c g:=
 h.imp (λ_ _ a=>aP b a) λ_ _ _ a=>⟨a.1.Y b,a.2⟩
theorem gY.ei{w:World}{N c:Nat}{v:Value}{g:Nat->Int}(h:gY (EC N) w v c g):gY (EI N) w v c g:=
 h.imp (λ_ _ a=>a) λ_ _ _ a=>a.1.iv a.2
theorem cB.ei{w:World}{N r:Nat}{len:Nat->Nat}{v:Value}{M:Nat->Nat->Int}(h:cB (EC N) w v r len M):cB (EI N) w v r len M:=
 h.imp (λ_ _ a=>a) λ_ _ _ a=>a.1.iv a.2
theorem jP.sN{w:World}{g c N:Nat}{M:Nat->Int}(h:jP w g c M)(i:∀j,j<c->Bd N (M j))(a:c<9223372036854775808):gY (EC N) w (.slice (some ⟨g,0,none⟩) c c) c M:=by
 obtain⟨h,b,e⟩:=h;refine⟨_,_,F,aD,a,λj a=>⟨_,h (j*2),h (j*2+1),rfl,?_,?_,e j a,i j a⟩⟩
 ·rw[add_lit,b.cell,cE aq,Nat.zero_add]
 ·rw[add_lit,add_lit,b.cell,cE aq,Nat.zero_add]
theorem iF.sN{w:World}{gO:Nat}{gs:Nat->Nat}{r c N:Nat}{M:Nat->Nat->Int}(h:iF w gO gs r c M)(g:∀i j,i<r->j<c->Bd N (M i j))(a:r<9223372036854775808)(e:c<9223372036854775808):
 cB (EC N) w (.slice (some ⟨gO,0,none⟩) r r) r (λ_=>c) M:=
 ⟨_,_,F,aD,a,λi a=>⟨_,_,rfl,by rw[add_lit,h.outer.cell,cE aq,Nat.zero_add,Nat.mul_one],(h.row i a).sN (λj b=>g i j a b) e⟩⟩
def dZ(T:Nat)(w:World)(gO r i c:Nat)(gs:Nat->Nat):Prop:=
 ∃h,bg w gO T (arr r h)/\(∀k,k<r->∃A m b,h k=.slice A m b)/\∀k,k<i->h k=.slice (some ⟨gs k,0,none⟩) c c
section
variable {T:Nat}{w w':World}{gO r i c:Nat}{gs:Nat->Nat}
theorem dZ.kp{a:Nat->Prop}(h:dZ T w gO r i c gs)(e:Ch a w w')(b:¬a gO):dZ T w' gO r i c gs:=by
 obtain⟨h,a,j,g⟩:=h;exact⟨h,a.ch e b,j,g⟩
theorem dZ.Y(h:dZ T w gO r i c gs)(a:Ext w w'):dZ T w' gO r i c gs:=h.kp a id
theorem dZ.lt(h:dZ T w gO r i c gs):gO<w.heap.size:=by obtain⟨h,a,b,b⟩:=h;exact a.lt
theorem dZ.at(h:dZ T w gO r i c gs){k:Nat}(a:k<i)(b:k<r):w.cell? ⟨gO,0+k*1,none⟩=some (.slice (some ⟨gs k,0,none⟩) c c):=by
 obtain⟨h,b,e,e⟩:=h;rw[b.cell,cE aq,Nat.zero_add,Nat.mul_one,e k a]
theorem fe{gs:Nat->Nat}(h:bg w gO T (madeCells (Value.slice none 0 0).cells (r*1))):dZ T w gO r 0 c gs:=by
 rw[jA,Nat.mul_one]at h;exact⟨_,h,λk _=>⟨none,0,0,by simp[Value.cells,Nat.mod_one]⟩,λk a=>absurd a aq⟩
theorem dZ.full(h:dZ T w gO r r c gs):bg w gO T (arr r λi=>.slice (some ⟨gs i,0,none⟩) c c):=by
 obtain⟨h,a,b,b⟩:=h;rw[dO b]at a;exact a
theorem Cb(h:bg w gO T (arr r λi=>.slice (some ⟨gs i,0,none⟩) c c)):dZ T w gO r r c gs:=⟨_,h,λ_ _=>⟨_,_,_,rfl⟩,λ_ _=>rfl⟩
end
section
variable {P:Program}{n:Nat}{S:World->World->Prop}{k:Nat}{K:Fr->World->Prop}{f:Fr}{w:World}
 {d ty t t2:Nat} {x y:Operand} {pos:String} {aft:Array Edge} {gd:Option (Nat×Bool)}
theorem dI{T gO r i j c g:Nat}{gs:Nat->Nat}(z:gz P t=true)(D:k=2\/k=1/\∀w',Ch (λb=>b=gO) w w'->S w w')(v:ev n f x=.pointer (some ⟨gO,0+j*1,none⟩))(m:ev n f y=.slice (some ⟨g,0,none⟩) c c)(A:dZ T w gO r i c gs)(E:j<r)
 (h:∀w',(dZ T w' gO r i c (cC gs j g)/\(j=i->dZ T w' gO r (i+1) c (cC gs j g)))->Ch (λb=>b=gO) w w'->Kp w w'->w'.heap.size=w.heap.size->K f w'):
 R1 P n S k ⟨none,.store t x y,ty,pos,aft,gd⟩ K f w:=by
 obtain⟨p,q,u,C⟩:=A;refine cZ z D v m q (by rw[bf];omega) ?_;intro w' o s B;rw[cT,Nat.zero_add,Nat.mul_one]at o;have a:∀k,k<r->∃A m v,cg p j (.slice (some ⟨g,0,none⟩) c c) k=.slice A m v:=λk l=>by
  by_cases e:k=j
  ·subst e;exact⟨_,_,_,ct _ _ _⟩
  ·rw[b9 _ _ e];exact u k l
 have b:∀k,k<i\/k=j->cg p j (.slice (some ⟨g,0,none⟩) c c) k=.slice (some ⟨cC gs j g k,0,none⟩) c c:=λk l=>by
  by_cases e:k=j
  ·subst e;rw[ct];simp[cC]
  ·rw[b9 _ _ e];simp only[cC,aa e];exact C k aq
 exact h w' ⟨⟨_,o,a,λk l=>b k (.inl l)⟩,λe=>⟨_,o,a,λk l=>b k aq⟩⟩ s (c8 q (ff u).lh s) B
end
theorem rW(r c:Nat)(w:World)(b:r<1073741824)(b:c<1073741824):
 aT Tryz.prog 90 #[.int .i64 (r:Int),.int .i64 (c:Int)] w (RM w r c λ_ _=>0):=by
 refine bo (n:=21) Tryz.func90 F rfl az aA ?_;refine gg ?_;refine cJ fL (.inl F) F rfl aD aq aq ?_;intro q b j u;refine gg ?_;refine aN ?_;refine gg ?_;refine aU (λm f w'=>∃i gs,m=r-i/\i<=r/\f 1=.int .i64 (c:Int)/\f 5=.slice (some ⟨w.heap.size,0,none⟩) r r/\f 10=.int .i64 (r:Int)/\f 11=.int .i64 ((i:Nat):Int)/\
  Ext w w'/\dZ 49 w' w.heap.size r i c gs/\(∀k,k<i->di w' (gs k) c true (λ_=>0) (λ_=>0)/\w.heap.size<gs k)/\(∀k h,k<i->h<i->gs k=gs h->k=h))
  r ⟨0,λ_=>0,rfl,aE,rfl,rfl,rfl,rfl,j,fe b,λk a=>absurd a aq,λk h a=>absurd a aq⟩ ?_
 clear b j u q;rintro m f q ⟨i,gs,rfl,b,z,u,m,b,j,A,g,p⟩;rw[ui z,ui u,ui m,ui b];clear z u m b;by_cases b:i<r
 ·refine gg ?_;refine cJ dJ (.inl F) F rfl aD aq aq ?_;intro m B l m;refine gg ?_;refine dI (aX F) (.inl F) F rfl (A.Y l) b ?_;intro b ⟨_,m⟩ o s b;have b:=A.lt;refine gg ?_;refine⟨_,?_,i+1,cC gs i q.heap.size,F,aq,F,F,F,F,o.aK (j.trans l) λb b=>aq,m F,λk a=>?_,λk h a b e=>?_⟩
  ·omega
  ·by_cases e:k=i
   ·subst e;simp only[cC,if_true];exact⟨(fq true 0 B).kp s o aq,aq⟩
   ·simp only[cC,aa e];obtain⟨m,b⟩:=g k aq;exact⟨(m.Y l).kp s o aq,b⟩
  ·have b:∀k,k<i->gs k<q.heap.size:=λk a=>(g k a).1.lt;simp only[cC]at e;split at e<;>split at e
   ·omega
   ·have:=b h aq;omega
   ·have:=b k aq;omega
   ·exact p k h aq aq e
 ·refine gg ?_;have:i=r:=aq;subst this;refine bF (v:=.slice _ _ _) F rfl ⟨j,_,gs,F,aD,λk a=>Nat.le_of_lt (g k a).2,?_⟩;exact(eM.mk (bn:=λ_ _=>0) A.full (λk a=>(g k a).1) (λk a=>by have:=(g k a).2;omega) p).o
def Ht(z:Int):Bool:=decide (1<=z/\z<=16)
def oq(w:World)(ok:Bool)(r c:Nat)(M:Nat->Nat->Int)(v:Value)(w':World):Prop:=
 if ok then ∃u,v=.tuple #[u,.bool true]/\RM w r c M u w' else Ext w w'/\v=.tuple #[.slice none 0 0,.bool false]
theorem z8(z:Int)(w:World)(h1:-9223372036854775808<=z)(a:z<9223372036854775808):
 aT Tryz.prog 80 #[.int .i64 z] w (oq w (Ht z) z.toNat z.toNat (uB 1)):=by
 refine bo (n:=13) Tryz.func80 F rfl az aA ?_;refine gg ?_;refine aN ?_;by_cases a:z<1
 ·refine gg ?_;refine cU (v:=.slice _ _ _) (v':=.bool _) F rfl rfl ?_;unfold oq Ht;rw[aa (by simp;omega)];exact⟨Ext.refl _,F⟩
 by_cases a:16<z
 ·refine gg ?_;refine cU (v:=.slice _ _ _) (v':=.bool _) F rfl rfl ?_;unfold oq Ht;rw[aa (by simp;omega)];exact⟨Ext.refl _,F⟩
 obtain⟨m,rfl⟩ : ∃m:Nat,z=m:=⟨z.toNat,aq⟩;refine gg ?_;refine aJ (du 1 w aq aq) ?_;rintro _ g ⟨b,x,y,rfl,a⟩;refine gg ?_;refine aJ (u7 m 1 x y 1 g (a.iv aw) aq aq a.ep) ?_;rintro v a ⟨e,gO,gs,rfl,a,a,g⟩;refine gg ?_;refine cU (v:=.slice _ _ _) (v':=.bool _) F rfl rfl ?_;unfold oq Ht;rw[ab (by simp;omega)];have:=b.size;exact⟨_,F,b.trans e,gO,gs,F,aq,λi b=>by have:=a i b;omega,g⟩
