import Derived.Test.YtmfndnlifgphjaaGreatDoorQzz
set_option maxHeartbeats 64000000
open Go.Proofs.YtmfndnlifgphjaaGreatDoor
namespace Go.cW
section
open Go Go.RowKit
section
variable {P:Program}{n:Nat}{ops:Array Oper}{S:World->World->Prop}{K:Fr->World->Prop}{f:Fr}{w:World}{o:Oper}
theorem Er(h:Ro P n ops S K [] f w):K f w:=by unfold Ro at h;exact h
theorem Ld(p:∀a b,Ext a b->S a b){k:Nat}{j:Fr->World->Prop}(i:∀f w,K f w->j f w)(c:k≠0)(h:R1 P n Ext k o K f w):R1 P n S k o j f w:=by
 unfold R1 at h⊢;rw[aa c]at h⊢;split
 ·rename_i g;rw[ab g]at h;obtain⟨v,l,c⟩:=h;exact⟨v,l,i _ _ c⟩
 ·rename_i g;rw[aa g]at h;refine Oper.wp_mono (λy u m=>?_) h;obtain⟨s,e,r,q⟩:=m;exact⟨s,e,r.imp id λh=>h.imp id (p _ _),i _ _ q⟩
theorem yg(j:∀a b,Ext a b->S a b){m:Fr->World->Prop}(l:∀f w,K f w->m f w):∀(c:List (Nat×Nat)) (f:Fr) (w:World),(c.all λq=>q.2 != 0)=true->Ro P n ops Ext K c f w->Ro P n ops S m c f w
 |[],f,w,_,h=>qZ (l _ _ (Er h))
 |(i,k)::rest,f,w,e,h=>by
  rw[List.all_cons,Bool.and_eq_true]at e;have p:k≠0:=by simpa using e.1
  unfold Ro at h⊢;obtain⟨o,r,h⟩:=h;refine⟨o,r,?_⟩;split
  ·rename_i g;rw[ab g]at h;exact Ld j (λf w h=>yg j l rest f w e.2 h) p h
  ·rename_i g;rw[aa g]at h;exact yg j l rest _ _ e.2 h
theorem K6(l:∀a b,Ext a b->S a b){G:List qE}{a:List (Nat×Nat)}(j:(G.all λg=>g.2.1.all λq=>q.2 != 0)=true)(h:Rg P n ops Ext G [] (λf w=>Ro P n ops S K a f w) f w):Rg P n ops S G a K f w:=by
 unfold Rg at h;obtain⟨a,b,m,p⟩:=h;refine A8 a b (λi e g c L f w b a q=>?_) λL f w b a=>Er (p L f w b a);refine yg l (λ_ _ h=>h) _ f w ?_ (m i e g c L f w b a q);rw[List.all_cons,Bool.and_eq_true];exact⟨F,List.all_eq_true.1 j _ c⟩
theorem Eu{a:Fr->World->Prop}(c:∀f w,K f w->a f w):∀(C:List (Nat×List (Nat×Nat))) (f:Fr) (w:World),Rc P n ops K C f w->Rc P n ops a C f w
 |[],f,w,h=>eW λa b=>c _ _ (by unfold Rc at h;exact h a b)
 |(i,e)::C,f,w,h=>cS λa b=>qA (λf w h=>Eu c C f w h) _ _ _ (by unfold Rc at h;exact h a b)
theorem kt{M:Nat->Prop}{G:List qE}{e:List (Nat×Nat)}(C:List (Nat×List (Nat×Nat)))(aI:List Lo)(E:List Nat)(i:HA ops G C (aI.map λa=>(a.i,a.d)) E=true)(j:(G.all λg=>g.2.1.all λq=>q.2 != 0)=true)
 (l:∀a,a∈aI->∀g b,Gd n E g f->Ext w b->Ro P n ops Ext (λh c=>h=cg g a.d (a.vl b.heap.size)/\bg c b.heap.size a.T a.cs/\Ext b c) [(a.i,1)] g b)
 (m:Rc P n ops (λh g=>∀c:Nat->Nat,(∀a,a∈aI->w.heap.size<=c a.d/\bg g (c a.d) a.T a.cs)->(∀a b,a∈aI->b∈aI->a.d≠b.d->c a.d≠c b.d)->Ro P n ops (Ch M) K e (Jc c aI h) g) C f w):
 Rg P n ops (Ch M) G e K f w:=
 K6 (λ_ _ h=>h.mono λ_ _ e=>e.elim) j (dN C aI E i l (Eu (λ_ _ h c b a=>qZ (h c b a)) C f w m))
theorem om{Q:Exit->Fr->World->Prop}{j:Nat}{ops:Array Oper}{c:Code}{f:Fr}{w:World}(g:List (Nat×Nat))(G:List qE)(e:List (Nat×Nat))(l:P.follows .mixedOrders=true)
 (i:DP ops g G e=true)
 (h:∀a,Ext w a->a.heap=w.heap->Ro P n ops (Ch λb=>a.heap.size<=b) (Rg P n ops (Ch λb=>a.heap.size<=b) G e (W P n c Q)) g f a):W P n (.seq (.region j ops true) c) Q f w:=
 aN (Ep (S:=Ch λb=>w.heap.size<=b) (λ_ _ _ h k=>h.trans k) g G e l i (by rw[kg];exact h _ (mI w) F))
end
section
variable {P:Program}{n:Nat}{k:Nat}{K:Fr->World->Prop}{f:Fr}{w:World}{d ty t:Nat}{x:Operand}{pos:String}{aft:Array Edge}{gd:Option (Nat×Bool)}
theorem ku{p:Addr}{v:Value}(j:k≠3)(i:gz P t=true)(g:ev n f x=.pointer (some p))(c:w.cell? p=some v)(h:K (cg f d v) w):
 R1 P n (Ch λb=>w.heap.size<=b) k ⟨some d,.load t x,ty,pos,aft,gd⟩ K f w:=by
 refine iD j (v:=v) (λb a=>?_) h;have e:b.cell? p=some v:=by
  rcases a with a|rfl
  ·have b:=World.block_lt_of_cell? w _ c;rw[jz a b (λh=>by have:w.heap.size<=p.block:=h;omega)];exact c
  ·exact c
 simp only[execOp,g,Sem.run_bind,j7 i e,Result.andThen_ok,Sem.run_pure]
theorem l9{p:Addr}{v0 v1:Value}(j:k≠3)(i:eP P t 2=true)(g:ev n f x=.pointer (some p))(l:w.cell? p=some v0)(h1:w.cell? (p.add 1)=some v1)(h:K (cg f d (.agg #[v0,v1])) w):
 R1 P n (Ch λb=>w.heap.size<=b) k ⟨some d,.load t x,ty,pos,aft,gd⟩ K f w:=by
 refine iD j (v:=.agg #[v0,v1]) (λb c=>?_) h;have a:∀q u,w.cell? q=some u->b.cell? q=some u:=λq u e=>by
  rcases c with c|rfl
  ·have b:=World.block_lt_of_cell? w _ e;rw[jz c b (λh=>by have:w.heap.size<=q.block:=h;omega)];exact e
  ·exact e
 simp only[execOp,g,Sem.run_bind,dB i (a _ _ l) (a _ _ h1),Result.andThen_ok,Sem.run_pure]
end
end
end Go.cW
namespace Go.Proofs.Qq
section
open Go Go.cW Go.c7 Go.Proofs
open Go.aW (dC)
structure Ga where
 gS:Nat
 gM:Nat
 gL:Nat
 gB:Nat
 gl:Nat->Nat
 gb:Nat->Nat
structure Ga.ok(I:Ga)(n:Nat):Prop where
 SM:I.gS≠I.gM
 SL:I.gS≠I.gL
 SB:I.gS≠I.gB
 ML:I.gM≠I.gL
 MB:I.gM≠I.gB
 LB:I.gL≠I.gB
 l:∀i,i<n->I.gl i≠I.gS/\I.gl i≠I.gM/\I.gl i≠I.gL/\I.gl i≠I.gB
 b:∀i,i<n->I.gb i≠I.gS/\I.gb i≠I.gM/\I.gb i≠I.gL/\I.gb i≠I.gB
 lb:∀i j,i<n->j<n->I.gl i≠I.gb j
 ll:∀i j,i<n->j<n->I.gl i=I.gl j->i=j
def rM(I:Ga)(n:Nat)(b:Nat):Prop:=b=I.gS\/b=I.gM\/b=I.gL\/b=I.gB\/∃i,i<n/\(b=I.gl i\/b=I.gb i)
def fk(I:Ga)(n:Nat)(b:Nat):Prop:=b=I.gM\/∃i,i<n/\(b=I.gl i\/b=I.gb i)
theorem fk.mb{I:Ga}{n b:Nat}(h:fk I n b):rM I n b:=by
 rcases h with h|h
 ·exact .inr (.inl h)
 ·exact .inr (.inr (.inr (.inr h)))
structure jf(w:World)(I:Ga)(n N:Nat)(d:Nat->Int)(l T:Nat->Nat->Int):Prop where
 st:bg w I.gS 84 #[.slice (some ⟨I.gM,0,none⟩) (n+1) (n+1),.slice (some ⟨I.gL,0,none⟩) n n,.slice (some ⟨I.gB,0,none⟩) n n,.func (.func 81) #[.pointer (some ⟨I.gS,0,none⟩)] #[]]
 mi:di w I.gM (n+1) true (λ_=>N) d
 lo:bg w I.gL 49 (arr n λi=>.slice (some ⟨I.gl i,0,none⟩) i i)
 la:∀i,i<n->di w (I.gl i) i true (λ_=>N) (l i)
 ba:eM w I.gB I.gb n n true (λ_ _=>N) T
section
variable {w w':World}{I:Ga}{n N N':Nat}{d d':Nat->Int}{l l' T T':Nat->Nat->Int}
theorem jf.kp{e:Nat->Prop}(h:jf w I n N d l T)(g:Kp w w')(c:Ch e w w')(a:∀b,e b->¬rM I n b):jf w' I n N d l T where
 st:=h.st.ch c λe=>a _ e aF
 mi:=h.mi.kp g c λe=>a _ e (.inr aF)
 lo:=h.lo.ch c λe=>a _ e (.inr (.inr aF))
 la:=λi b=>(h.la i b).kp g c λe=>a _ e (.inr (.inr (.inr (.inr ⟨i,b,aF⟩))))
 ba:=h.ba.kp g c (λe=>a _ e (.inr (.inr (.inr aF)))) λi b e=>a _ e (.inr (.inr (.inr (.inr ⟨i,b,.inr rfl⟩))))
theorem jf.Y(h:jf w I n N d l T)(a:Ext w w'):jf w' I n N d l T:=h.kp (bJ a) a λ_ e=>e.elim
theorem jf.congr(h:jf w I n N d l T)(e:N<=N')(b:∀m,m<=n->d m=d' m)(o:∀i c,c<i->i<n->l i c=l' i c)(g:∀i c,i<n->c<n->T i c=T' i c):jf w I n N' d' l' T' where
 st:=h.st
 mi:=h.mi.congr λj a=>⟨e,b j aq⟩
 lo:=h.lo
 la:=λi b=>(h.la i b).congr λj a=>⟨e,o i j a b⟩
 ba:=h.ba.congr λi j b a=>⟨e,g i j b a⟩
theorem jf.mb(h:jf w I n N d l T){b:Nat}(a:rM I n b):b<w.heap.size:=by
 rcases a with rfl|rfl|rfl|rfl|⟨i,hi,rfl|rfl⟩
 ·exact h.st.lt
 ·exact h.mi.lt
 ·exact h.lo.lt
 ·exact h.ba.lt
 ·exact(h.la i hi).lt
 ·exact(h.ba.row i hi).lt
theorem jf.c0(h:jf w I n N d l T):w.cell? ⟨I.gS,0+0,none⟩=some (.slice (some ⟨I.gM,0,none⟩) (n+1) (n+1)):=by rw[h.st.cell];rfl
theorem jf.c1(h:jf w I n N d l T):w.cell? ⟨I.gS,0+1,none⟩=some (.slice (some ⟨I.gL,0,none⟩) n n):=by rw[h.st.cell];rfl
theorem jf.c2(h:jf w I n N d l T):w.cell? ⟨I.gS,0+2,none⟩=some (.slice (some ⟨I.gB,0,none⟩) n n):=by rw[h.st.cell];rfl
theorem jf.c3(h:jf w I n N d l T):w.cell? ⟨I.gS,0+3,none⟩=some (.func (.func 81) #[.pointer (some ⟨I.gS,0,none⟩)] #[]):=by rw[h.st.cell];rfl
theorem jf.pZ(h:jf w I n N d l T){i:Nat}(a:i<n):w.cell? ⟨I.gL,0+i*1,none⟩=some (.slice (some ⟨I.gl i,0,none⟩) i i):=by
 rw[h.lo.cell,show 0+i*1=i by omega,cE a]
theorem jf.OY{i j:Nat}{z:Int}(h:jf w I n N d l T)(e:I.ok n)(a:i<n)(p:di w' (I.gb i) n true (cC (λ_=>N) j N) (ef (T i) j z))(c:Ch (λb=>b=I.gb i) w w')(g:Kp w w'):jf w' I n N d l (cV T i j z) where
 st:=h.st.ch c (e.b i a).1.symm
 mi:=h.mi.kp g c (e.b i a).2.1.symm
 lo:=h.lo.ch c (e.b i a).2.2.1.symm
 la:=λq o=>(h.la q o).kp g c (e.lb q i o a)
 ba:=(h.ba.put a p c g).congr λa b _ _=>⟨by simp only[cV];split<;>exact Nat.le_refl _,F⟩
theorem jf.OX{i j:Nat}{z:Int}(h:jf w I n N d l T)(c:I.ok n)(a:i<n)(r:di w' (I.gl i) i true (cC (λ_=>N) j N) (ef (l i) j z))(g:Ch (λb=>b=I.gl i) w w')(p:Kp w w'):jf w' I n N d (cV l i j z) T where
 st:=h.st.ch g (c.l i a).1.symm
 mi:=h.mi.kp p g (c.l i a).2.1.symm
 lo:=h.lo.ch g (c.l i a).2.2.1.symm
 la:=λq o=>by
  by_cases e:q=i
  ·subst e;refine r.congr λb _=>⟨by simp only[cC];split<;>exact Nat.le_refl _,?_⟩;rw[kA];rfl
  ·rw[kR _ _ _ e];exact(h.la q o).kp p g λb=>e (c.ll q i o a b)
 ba:=h.ba.kp p g (c.l i a).2.2.2.symm λq o=>(c.lb i q a o).symm
theorem jf.OW{j:Nat}{z:Int}(h:jf w I n N d l T)(a:I.ok n)(g:di w' I.gM (n+1) true (cC (λ_=>N) j N) (ef d j z))(c:Ch (λb=>b=I.gM) w w')(e:Kp w w'):jf w' I n N (ef d j z) l T where
 st:=h.st.ch c a.SM
 mi:=g.congr λb _=>⟨by simp only[cC];split<;>exact Nat.le_refl _,F⟩
 lo:=h.lo.ch c a.ML.symm
 la:=λq b=>(h.la q b).kp e c (a.l q b).2.1
 ba:=h.ba.kp e c a.MB.symm λq b=>(a.b q b).2.1
theorem _root_.Go.cW.Ch.add{M:Nat->Prop}{w b a:World}(h:Ch M w b)(c:Ext b a):Ch M w a:=h.trans (c.mono λ_ _ e=>e.elim)
end
section
variable {n:Nat}{S:World->World->Prop}{k:Nat}{K:Fr->World->Prop}{f:Fr}{w:World}{dd ty t t2:Nat}{x y:Operand}{pos:String}{aft:Array Edge}{gd:Option (Nat×Bool)}
variable {I:Ga}{m N:Nat}{d:Nat->Int}{l T:Nat->Nat->Int}
theorem pd{i j:Nat}{z:Int}{a b:Value}(s:k=2\/k=1/\∀w',Ch (λb=>b=I.gb i) w w'->S w w')(o:ev n f x=.pointer (some ⟨I.gb i,0+j*2,none⟩))(g:ev n f y=.agg #[a,b])(e:jf w I m N d l T)(r:I.ok m)(c:i<m)(q:j<m)(p:EV w N true a b z)
 (h:∀w',jf w' I m N d l (cV T i j z)->Ch (fk I m) w w'->Kp w w'->w'.heap.size=w.heap.size->K f w'):
 R1 Tryz.prog n S k ⟨none,.store 44 x y,ty,pos,aft,gd⟩ K f w:=
 c_ s o g (e.ba.row i c) q p λw' q o g p=>h w' (e.OY r c q o g) (o.mono λ_b _ e=>.inr ⟨i,c,.inr e⟩) g p
theorem i_{i j:Nat}{z:Int}{a b:Value}(s:k=2\/k=1/\∀w',Ch (λb=>b=I.gl i) w w'->S w w')(o:ev n f x=.pointer (some ⟨I.gl i,0+j*2,none⟩))(g:ev n f y=.agg #[a,b])(e:jf w I m N d l T)(r:I.ok m)(c:i<m)(q:j<i)(p:EV w N true a b z)
 (h:∀w',jf w' I m N d (cV l i j z) T->Ch (fk I m) w w'->Kp w w'->w'.heap.size=w.heap.size->K f w'):
 R1 Tryz.prog n S k ⟨none,.store 44 x y,ty,pos,aft,gd⟩ K f w:=
 c_ s o g (e.la i c) q p λw' q o g p=>h w' (e.OX r c q o g) (o.mono λ_b _ e=>.inr ⟨i,c,.inl e⟩) g p
theorem CR{j:Nat}{z:Int}{a b:Value}(q:k=2\/k=1/\∀w',Ch (λb=>b=I.gM) w w'->S w w')(g:ev n f x=.pointer (some ⟨I.gM,0+j*2,none⟩))(c:ev n f y=.agg #[a,b])(e:jf w I m N d l T)(p:I.ok m)(o:j<m+1)(i:EV w N true a b z)
 (h:∀w',jf w' I m N (ef d j z) l T->Ch (fk I m) w w'->Kp w w'->w'.heap.size=w.heap.size->K f w'):
 R1 Tryz.prog n S k ⟨none,.store 44 x y,ty,pos,aft,gd⟩ K f w:=
 c_ q g c e.mi o i λw' o g c i=>h w' (e.OW p o g c) (g.mono λ_b _ e=>.inl e) c i
end
theorem MO:cI Tryz.prog 84 0 0:=by
 unfold cI;intro a w;simp[Instr.fieldAt,run_underlying Tryz.underlying84,Instr.sureAddr,fieldPlace,cK (aX (t:=49) F)]
theorem MN:cI Tryz.prog 84 1 1:=by
 unfold cI;intro a w;simp[Instr.fieldAt,run_underlying Tryz.underlying84,Instr.sureAddr,fieldPlace,cK (aX (t:=25) F)]
theorem MK:cI Tryz.prog 84 2 2:=by
 unfold cI;intro a w;simp[Instr.fieldAt,run_underlying Tryz.underlying84,Instr.sureAddr,fieldPlace,cK (aX (t:=25) F)]
theorem NY{P:Program}{n:Nat}{f:Fr}{w:World}{b:Func}{a:Value->World->Prop}(c:b.results=#[])(h:a (.tuple #[]) w):bodyPost P b (Et a) .ret (act n f) w:=by
 exact bodyPost_ret (results_none c _ _ _) F ⟨_,F,h⟩
theorem qn{a b:Int}:e_ a b<=0↔a<=b:=by
 unfold e_;constructor
 ·intro h;by_cases c:a<b
  ·omega
  ·rw[aa c]at h;by_cases e:b<a
   ·rw[ab e]at h;omega
   ·omega
 ·intro h;by_cases c:a<b
  ·rw[ab c];decide
  ·rw[aa c,aa aq];decide
theorem gh{G G':Prop}(h:G')(t:Gw G'->G:=by intro hgg;(repeat (first|refine ta ?_|(refine mT ?_;(first|refine ku (by decide) (aX F) F (by assumption) ?_|refine l9 (by decide) aQ F (by assumption) (by assumption) ?_|refine aV MO rfl ?_|refine aV MN rfl ?_|refine aV MK rfl ?_|refine aV ks rfl ?_|refine aV lZ rfl ?_|refine aV kr rfl ?_|refine aV ob rfl ?_|refine aV lY rfl ?_))));exact hgg.out):G:=t ⟨h⟩
def oT(T:Nat->Nat->Int)(q:Int)(i j:Nat):Nat->Nat->Int:=λa c=>if a=i then T i c-q*T j c else T a c
def oU(d:Nat->Int)(l:Nat->Nat->Int)(q:Int)(i j:Nat):Nat->Nat->Int:=λa c=>if a=i then(if c<j then l i c-q*l j c else if c=j then l i j-q*d (j+1)else l i c)else l a c
end
section
open Go Go.cW Go.c7 Go.Proofs
open Go.aW (gr bm aO Sy PM po)
theorem Ec{n N j:Nat}{M:Nat->Nat->Int}(a:1<=N)(b:j<=n)(b:n<=16)(h:∀i j,i<n->j<n->Bd N (M i j)):Bd (Nb N 16) (aO j M):=by
 rw[<-eJ];exact(ie a λa b a a=>h _ _ aq aq).mono (mW N _ aq)
end
section
open Go Go.cW Go.c7 Go.Proofs
open Go.aW (dC)
theorem oS(I:Ga)(n N i j v:Nat)(d:Nat->Int)(l T:Nat->Nat->Int)(w:World)(o:jf w I n N d l T)(hI:I.ok n)(bM:I.gS=v)(hi:i<n)(hj:j<i)(hn:n<=8)(hN:N<10000000)(hd:0<d (j+1))
 (bA:¬(2*l i j<=d (j+1)/\-(2*l i j)<=d (j+1))->∀c,c<n->Bd N (T i c-dC (l i j) (d (j+1))*T j c))
 (b1:¬(2*l i j<=d (j+1)/\-(2*l i j)<=d (j+1))->∀c,c<i->Bd N (oU d l (dC (l i j) (d (j+1))) i j i c)):
 aT Tryz.prog 81 #[.pointer (some ⟨v,0,none⟩),.int .i64 (i:Int),.int .i64 (j:Int)] w λv y=>v=.tuple #[]/\Ch (fk I n) w y/\Kp w y/\
  (if 2*l i j<=d (j+1)/\-(2*l i j)<=d (j+1)then jf y I n N d l T else jf y I n N d (oU d l (dC (l i j) (d (j+1))) i j) (oT T (dC (l i j) (d (j+1))) i j)):=by
 refine bo (n:=137) Tryz.func81 F rfl az aA ?_;subst bM;have O:∀b,rM I n b->b<w.heap.size:=λb C=>o.mb C;have s:Ext w w:=Ext.refl w;refine gh ?_;refine om [(0,3),(1,3),(2,3),(3,0),(4,3),(5,3),(6,0),(7,3),(8,3),(9,0),(10,3),(11,3),(12,3),(13,0),(14,3),(15,3),(16,3),(17,0)] [(18,[],[]),(19,[],[])] [(20,1),(21,2)] mixed az λbS k _=>?_;replace o:=o.Y k;replace s:=s.trans k;clear k;have e0:=o.c0;have e1:=o.c1;have e2:=o.pZ hi;obtain⟨x0,y0,p0,aH,A⟩:=(o.la i hi).at hj;obtain⟨x1,y1,p1,ay,Z⟩:=o.mi.at (j:=j+1) aq;refine gh ?_;refine kt [] [fA 18 6 44 (.agg #[.bool false,.slice none 0 0]),fA 19 7 44 (.agg #[.bool false,.slice none 0 0])] [6,7] az az (λa ha f' y _ _=>by
  rcases List.mem_cons.1 ha with rfl|ha
  ·exact cm a_ F f' y
  ·skip;rcases List.mem_singleton.1 ha with rfl;exact cm a_ F f' y) ?_
 have bX:=s.size;clear e0 e1 e2 p0 aH p1 ay;refine eW λbM k bs bu bx=>?_;replace o:=o.Y k;replace A:=A.Y k;replace Z:=Z.Y k;replace s:=s.trans k;clear k;obtain⟨v,bt⟩:=bu _ aG;have v:bS.heap.size<=bs 6:=v;have r:Bx bM (bs 6) 1 true 0:=Bx.zero true bt;obtain⟨v,b0⟩:=bu _ (List.mem_cons_of_mem _ aG);have v:bS.heap.size<=bs 7:=v;have p:Bx bM (bs 7) 1 true 0:=Bx.zero true b0;have v:bs 7≠bs 6:=bx _ _ (List.mem_cons_of_mem _ aG) aG (show(7:Nat)≠6 by decide);show Ro _ _ _ _ _ _ (cg (cg _ 7 (.pointer (some ⟨bs 7,0,none⟩))) 6 (.pointer (some ⟨bs 6,0,none⟩))) _;generalize bs 6=g6 at*;generalize bs 7=g7 at*;have v:w.heap.size<=g6:=aq;have v:w.heap.size<=g7:=aq;clear bu bx bX bt b0;refine gh ?_;refine aL ag F rfl r (A) ?_;intro v r u t z;replace o:=o.kp t u (λb C h=>by have:=O b h;omega);replace A:=A.kp t;replace Z:=Z.kp t;replace p:=p.kp t u ah;replace s:=u.aK s λb C=>aq;clear u t z;refine gh ?_;refine aL ag F rfl p (Z) ?_;intro v p u t z;replace o:=o.kp t u (λb C h=>by have:=O b h;omega);replace A:=A.kp t;replace Z:=Z.kp t;replace r:=r.kp t u ah;replace s:=u.aK s λb C=>aq;clear u t z;have bl:Bd N (l i j):=A.bd;have ca:Bd N (d (j+1)):=Z.bd;clear A Z;obtain⟨bI,bG,an,ae⟩:=id r;obtain⟨au,ar⟩:=bh an;obtain⟨ax,av,P,Y⟩:=id p;obtain⟨R,Q⟩:=bh P;refine gh ?_;refine aJ (kH _ _ _ _ _ _ N v ae.1 ae.1 aq) ?_;rintro _ bt ⟨k,a0,v,rfl,b0⟩;replace o:=o.Y k;replace r:=r.Y k;replace p:=p.Y k;replace s:=s.trans k;clear k;clear au ar R Q;refine gh ?_;refine aS (.inl F) a_ ?_;intro v B k z;have v:=Bx.zero (N:=1) true B;obtain⟨g8,V⟩ : ∃g,g=bt.heap.size:=⟨_,F⟩;rw[<-V]at v⊢;have bt:w.heap.size<=g8:=by have:=s.size;omega
 have bt:g6<g8:=by have:=r.lt;omega
 have bt:g7<g8:=by have:=p.lt;omega
 replace o:=o.Y k;replace r:=r.Y k;replace p:=p.Y k;replace b0:=b0.Y k;replace s:=s.trans k;clear B z V k;refine gh ?_;refine aL ag F rfl v (b0.ev true (bl.add bl)) ?_;intro bt v u t z;replace o:=o.kp t u (λb C h=>by have:=O b h;omega);replace r:=r.kp t u ah;replace p:=p.kp t u ah;replace b0:=b0.kp t;replace s:=u.aK s λb C=>aq;clear u t z;refine gh ?_;obtain⟨q,hq⟩ : ∃q,q=dC (l i j) (d (j+1)):=⟨_,F⟩;rw[<-hq]at bA b1⊢;refine aY (λf y=>¬(2*l i j<=d (j+1)/\-(2*l i j)<=d (j+1))/\f 0=.pointer (some ⟨I.gS,0,none⟩)/\f 1=.int .i64 (i:Int)/\f 2=.int .i64 (j:Int)/\f 6=.pointer (some ⟨g6,0,none⟩)/\f 7=.pointer (some ⟨g7,0,none⟩)/\Ext w y/\jf y I n N d l T/\Bx y g6 N true (l i j)/\Bx y g7 N true (d (j+1))) ?_ ?_
 ·refine gh ?_;refine b_ [(0,0),(1,0),(2,2),(3,3),(4,3),(5,0),(7,0),(6,1),(8,1),(9,3),(10,3)] mixed az λbX k _=>?_;replace o:=o.Y k;replace r:=r.Y k;replace p:=p.Y k;replace v:=v.Y k;replace s:=s.trans k;clear k;obtain⟨ax,av,P,Y⟩:=id p;obtain⟨R,Q⟩:=bh P;obtain⟨bS,bM,bt,b0⟩:=id v;obtain⟨bx,bu⟩:=bh bt;refine gh ?_;refine aJ (o8 _ _ _ _ _ _ (N+1) bX b0.1 (Y.1.mono aq) aq) ?_;rintro _ bX ⟨k,rfl⟩;replace o:=o.Y k;replace r:=r.Y k;replace p:=p.Y k;replace v:=v.Y k;replace s:=s.trans k;clear k;clear R Q bx bu;by_cases k1:e_ (l i j+l i j) (d (j+1))<=0;rotate_left
  ·refine gh ?_;exact⟨λh=>k1 (qn.2 aq),F,F,F,F,F,s,o,r,p⟩
  obtain⟨ax,av,P,Y⟩:=id p;obtain⟨R,Q⟩:=bh P;obtain⟨bS,bM,bt,b0⟩:=id v;obtain⟨bx,bu⟩:=bh bt;have w7:=Y.1;have w8:=b0.1;refine gh ?_;refine aM (Cj _ _ _ (N+1) bX w8 aq) ?_;rintro _ b0 ⟨k,a2,a3,rfl,o6⟩;refine⟨k,?_⟩;replace o:=o.Y k;replace r:=r.Y k;replace p:=p.Y k;replace v:=v.Y k;replace w7:=w7.Y k;replace w8:=w8.Y k;replace s:=s.trans k;clear k;clear R Q bx bu;refine gh ?_;refine aM (o8 _ _ _ _ _ _ (N+1) b0 (o6.iv (bl.add bl).O2) (w7.mono aq) aq) ?_;rintro _ b0 ⟨k,rfl⟩;refine⟨k,?_⟩;replace o:=o.Y k;replace r:=r.Y k;replace p:=p.Y k;replace v:=v.Y k;replace w7:=w7.Y k;replace w8:=w8.Y k;replace o6:=o6.Y k;replace s:=s.trans k;clear k;by_cases k2:e_ (-(l i j+l i j)) (d (j+1))<=0
  ·refine gh ?_;refine NY F ⟨F,s.mono λ_ _ h=>h.elim,bJ s,?_⟩;rw[ab ⟨by have:=qn.1 k1;omega,by have:=qn.1 k2;omega⟩];exact o
  ·refine gh ?_;exact⟨λh=>k2 (qn.2 aq),F,F,F,F,F,s,o,r,p⟩
 clear s o r p v;rintro f w1 ⟨bB,K,J,H,G,E,s,o,r,p⟩;rw[ui K,ui J,ui H,ui G,ui E];clear K J H G E;replace bA:=bA bB;replace b1:=b1 bB;have c9:∀c,c<n->Bd N (T j c):=λc hc=>by
  obtain⟨_,_,_,_,v⟩:=(o.ba.row j aq).at hc;exact v.bd
 have bY:∀c,c<j->Bd N (l j c):=λc hc=>by
  obtain⟨_,_,_,_,v⟩:=(o.la j aq).at hc;exact v.bd
 have s:Ext w w1:=s;obtain⟨bI,bG,an,ae⟩:=id r;obtain⟨au,ar⟩:=bh an;obtain⟨ax,av,P,Y⟩:=id p;obtain⟨R,Q⟩:=bh P;refine gh ?_;refine aJ (sV _ _ _ _ _ _ N w1 ae.1 Y.1 aq hd) ?_;rintro _ b0 ⟨k,a4,a5,rfl,v⟩;replace o:=o.Y k;replace r:=r.Y k;replace p:=p.Y k;replace s:=s.trans k;clear k;clear au ar R Q;have bq:Bd (N+1) q:=by rw[hq];exact zM bl hd
 rw[<-hq]at v;refine gh ?_;refine aS (.inl F) a_ ?_;intro bt B k z;have x:=Bx.zero (N:=1) true B;obtain⟨g9,V⟩ : ∃g,g=b0.heap.size:=⟨_,F⟩;rw[<-V]at x⊢;have b0:w.heap.size<=g9:=by have:=s.size;omega
 have b0:g6<g9:=by have:=r.lt;omega
 have b0:g7<g9:=by have:=p.lt;omega
 replace o:=o.Y k;replace r:=r.Y k;replace p:=p.Y k;replace v:=v.Y k;replace s:=s.trans k;clear B z V k;refine gh ?_;refine aL ag F rfl x (v.ev true bq) ?_;intro b0 x u t z;replace o:=o.kp t u (λb C h=>by have:=O b h;omega);replace r:=r.kp t u ah;replace p:=p.kp t u ah;replace v:=v.kp t;replace s:=u.aK s λb C=>aq;clear u t z;have bt:¬fk I n g6:=λh=>by have:=O _ h.mb;omega
 have bt:¬fk I n g7:=λh=>by have:=O _ h.mb;omega
 have bt:¬fk I n g9:=λh=>by have:=O _ h.mb;omega
 have D:Ch (fk I n) w b0:=s.mono λ_ _ h=>h.elim;have M:Kp w b0:=bJ s;clear v hq;refine gh ?_;refine aY (λf y=>f 0=.pointer (some ⟨I.gS,0,none⟩)/\f 1=.int .i64 (i:Int)/\f 2=.int .i64 (j:Int)/\f 6=.pointer (some ⟨g6,0,none⟩)/\f 7=.pointer (some ⟨g7,0,none⟩)/\f 9=.pointer (some ⟨g9,0,none⟩)/\Ch (fk I n) w y/\Kp w y/\jf y I n N d l (oT T q i j)/\Bx y g6 N true (l i j)/\Bx y g7 N true (d (j+1))/\Bx y g9 (N+1) true q) ?_ ?_
 ·have e2:=o.c2;have e3:=o.ba.at (show j<n by omega);refine gh ?_;refine aU (λm f y=>∃c,m=n-c/\c<=n/\f 0=.pointer (some ⟨I.gS,0,none⟩)/\f 1=.int .i64 (i:Int)/\f 2=.int .i64 (j:Int)/\f 6=.pointer (some ⟨g6,0,none⟩)/\f 7=.pointer (some ⟨g7,0,none⟩)/\f 9=.pointer (some ⟨g9,0,none⟩)/\f 55=.slice (some ⟨I.gb j,0,none⟩) n n/\f 56=.int .i64 (n:Int)/\f 57=.int .i64 ((c:Nat):Int)/\Ch (fk I n) w y/\Kp w y/\jf y I n N d l (λa b=>if a=i/\b<c then T i b-q*T j b else T a b)/\Bx y g6 N true (l i j)/\Bx y g7 N true (d (j+1))/\Bx y g9 (N+1) true q)
   n ⟨0,F,aE,F,F,F,F,F,F,F,F,F,D,M,o.congr aD (λ_ _=>rfl) (λ_ _ _ _=>rfl) (λa b _ _=>by rw[aa aq]),r,p,x⟩ ?_
  clear s o r p x D M e2 e3;rintro m f w2 ⟨c,rfl,hc,K,J,H,G,E,W,bt,b0,v,D,M,o,r,p,x⟩;rw[ui K,ui J,ui H,ui G,ui E,ui W,ui bt,ui b0,ui v];clear K J H G E W bt b0 v;by_cases X:c<n;rotate_left
  ·refine gh ?_;refine⟨F,F,F,F,F,F,D,M,o.congr aD (λ_ _=>rfl) (λ_ _ _ _=>rfl) λa b _ C=>?_,r,p,x⟩;unfold oT;by_cases e:a=i
   ·rw[ab ⟨e,aq⟩,ab e]
   ·rw[aa λh=>e h.1,aa e]
  have bW:=D.size;obtain⟨x0,y0,p0,aH,A⟩:=(o.ba.row j aq).at X;rw[aa aq]at A;have s:Ext w2 w2:=Ext.refl w2;refine gh ?_;refine aS (.inl F) a_ ?_;intro v B k z;have L:=Bx.zero (N:=1) true B;obtain⟨gE,V⟩ : ∃g,g=w2.heap.size:=⟨_,F⟩;rw[<-V]at L⊢;have bK:w2.heap.size<=gE:=by have:=s.size;omega
  have b6:g6<gE:=by have:=r.lt;omega
  have b5:g7<gE:=by have:=p.lt;omega
  have b4:g9<gE:=by have:=x.lt;omega
  replace o:=o.Y k;replace r:=r.Y k;replace p:=p.Y k;replace x:=x.Y k;replace A:=A.Y k;replace s:=s.trans k;clear B z V k;refine gh ?_;refine aL ag F rfl L (A) ?_;intro v L u t z;replace o:=o.kp t u (λb C h=>by have:=O b h;omega);replace r:=r.kp t u ah;replace p:=p.kp t u ah;replace x:=x.kp t u ah;replace A:=A.kp t;replace s:=u.aK s λb C=>aq;clear u t z;clear p0 aH;refine gh ?_;refine cP [(0,3),(1,3),(2,3),(3,0),(4,3),(5,3),(6,0),(7,3),(8,3),(9,3),(10,3),(11,0),(12,3),(13,3),(14,0),(15,3),(16,3),(17,0),(18,0),(19,0),(20,1),(21,1),(22,3),(23,2)] mixed az λv k _=>?_;replace o:=o.Y k;replace r:=r.Y k;replace p:=p.Y k;replace x:=x.Y k;replace L:=L.Y k;replace s:=s.trans k;clear k;have e2:=o.c2;have e3:=o.ba.at hi;obtain⟨x1,y1,p1,ay,Z⟩:=(o.ba.row i hi).at X;rw[aa aq]at Z;obtain⟨bD,bC,aj,ai⟩:=id x;obtain⟨al,ak⟩:=bh aj;obtain⟨c5,c4,b8,b7⟩:=id L;obtain⟨bj,bc⟩:=bh b8;have S:=Z.1;have U:=ai.1;have wE:=b7.1;refine gh ?_;refine aM (fy _ _ _ _ _ _ (N+1) v U (wE.mono aq) aq) ?_;rintro _ v ⟨k,a6,a7,rfl,hm⟩;refine⟨k,?_⟩;replace o:=o.Y k;replace r:=r.Y k;replace p:=p.Y k;replace x:=x.Y k;replace L:=L.Y k;replace S:=S.Y k;replace U:=U.Y k;replace wE:=wE.Y k;replace s:=s.trans k;clear k;clear e2 e3 p1 ay al ak bj bc;have bT:=IV.bd S;refine gh ?_;refine aM (mj _ _ _ _ _ _ (N+1+N) v (S.mono aq) (hm.iv (bq.mul (c9 c X))) aq) ?_;rintro _ v ⟨k,a8,a9,rfl,hs⟩;refine⟨k,?_⟩;replace o:=o.Y k;replace r:=r.Y k;replace p:=p.Y k;replace x:=x.Y k;replace L:=L.Y k;replace S:=S.Y k;replace U:=U.Y k;replace wE:=wE.Y k;replace hm:=hm.Y k;replace s:=s.trans k;clear k;refine gh ?_;refine gh ?_;refine pd (.inl F) F rfl o hI hi X (hs.ev true (bA c X)) ?_;intro v o u t z;replace r:=r.kp t u ah;replace p:=p.kp t u ah;replace x:=x.kp t u ah;replace D:=(D.add s).trans u;replace M:=(M.trans (bJ s)).trans t;refine gh ?_;refine⟨_,?_,c+1,F,X,F,F,F,F,F,F,F,F,F,D,M,o.congr aD (λ_ _=>rfl) (λ_ _ _ _=>rfl) λa b _ _=>?_,r,p,x⟩
  ·omega
  ·simp only[cV];by_cases e:a=i/\b=c
   ·rw[ab e,ab ⟨e.1,aq⟩,e.2]
   ·rw[aa e];by_cases h:a=i/\b<c
    ·rw[ab h,ab ⟨h.1,aq⟩]
    ·rw[aa h,aa aq]
 clear s o r p x D M;rintro f w2 ⟨K,J,H,G,E,W,D,M,o,r,p,x⟩;rw[ui K,ui J,ui H,ui G,ui E,ui W];clear K J H G E W;refine aY (λf y=>f 0=.pointer (some ⟨I.gS,0,none⟩)/\f 1=.int .i64 (i:Int)/\f 2=.int .i64 (j:Int)/\f 6=.pointer (some ⟨g6,0,none⟩)/\f 7=.pointer (some ⟨g7,0,none⟩)/\f 9=.pointer (some ⟨g9,0,none⟩)/\Ch (fk I n) w y/\Kp w y/\jf y I n N d (λa b=>if a=i/\b<j then l i b-q*l j b else l a b) (oT T q i j)/\Bx y g6 N true (l i j)/\Bx y g7 N true (d (j+1))/\Bx y g9 (N+1) true q) ?_ ?_
 ·have e1:=o.c1;have e3:=o.pZ (show j<n by omega);refine gh ?_;refine aU (λm f y=>∃c,m=j-c/\c<=j/\f 0=.pointer (some ⟨I.gS,0,none⟩)/\f 1=.int .i64 (i:Int)/\f 2=.int .i64 (j:Int)/\f 6=.pointer (some ⟨g6,0,none⟩)/\f 7=.pointer (some ⟨g7,0,none⟩)/\f 9=.pointer (some ⟨g9,0,none⟩)/\f 92=.slice (some ⟨I.gl j,0,none⟩) j j/\f 93=.int .i64 (j:Int)/\f 94=.int .i64 ((c:Nat):Int)/\Ch (fk I n) w y/\Kp w y/\jf y I n N d (λa b=>if a=i/\b<c then l i b-q*l j b else l a b) (oT T q i j)/\Bx y g6 N true (l i j)/\Bx y g7 N true (d (j+1))/\Bx y g9 (N+1) true q)
   j ⟨0,F,aE,F,F,F,F,F,F,F,F,F,D,M,o.congr aD (λ_ _=>rfl) (λa b _ _=>by rw[aa aq]) (λ_ _ _ _=>rfl),r,p,x⟩ ?_
  clear o r p x D M e1 e3;rintro m f w3 ⟨c,rfl,hc,K,J,H,G,E,W,y,v,m,D,M,o,r,p,x⟩;rw[ui K,ui J,ui H,ui G,ui E,ui W,ui y,ui v,ui m];clear K J H G E W y v m;by_cases X:c<j;rotate_left
  ·obtain rfl:c=j:=aq;refine gh ?_;exact⟨F,F,F,F,F,F,D,M,o,r,p,x⟩
  have bW:=D.size;obtain⟨x0,y0,p0,aH,A⟩:=(o.la j aq).at X;rw[aa aq]at A;have s:Ext w3 w3:=Ext.refl w3;refine gh ?_;refine aS (.inl F) a_ ?_;intro m B k z;have L:=Bx.zero (N:=1) true B;obtain⟨gE,V⟩ : ∃g,g=w3.heap.size:=⟨_,F⟩;rw[<-V]at L⊢;have bK:w3.heap.size<=gE:=by have:=s.size;omega
  have b6:g6<gE:=by have:=r.lt;omega
  have b5:g7<gE:=by have:=p.lt;omega
  have b4:g9<gE:=by have:=x.lt;omega
  replace o:=o.Y k;replace r:=r.Y k;replace p:=p.Y k;replace x:=x.Y k;replace A:=A.Y k;replace s:=s.trans k;clear B z V k;refine gh ?_;refine aL ag F rfl L (A) ?_;intro g L u t z;replace o:=o.kp t u (λb C h=>by have:=O b h;omega);replace r:=r.kp t u ah;replace p:=p.kp t u ah;replace x:=x.kp t u ah;replace A:=A.kp t;replace s:=u.aK s λb C=>aq;clear u t z;clear p0 aH;refine gh ?_;refine cP [(0,3),(1,3),(2,3),(3,0),(4,3),(5,3),(6,0),(7,3),(8,3),(9,3),(10,3),(11,0),(12,3),(13,3),(14,0),(15,3),(16,3),(17,0),(18,0),(19,0),(20,1),(21,1),(22,3),(23,2)] mixed az λg k _=>?_;replace o:=o.Y k;replace r:=r.Y k;replace p:=p.Y k;replace x:=x.Y k;replace L:=L.Y k;replace s:=s.trans k;clear k;have e1:=o.c1;have e3:=o.pZ hi;obtain⟨x1,y1,p1,ay,Z⟩:=(o.la i hi).at (show c<i by omega);rw[aa aq]at Z;obtain⟨bD,bC,aj,ai⟩:=id x;obtain⟨al,ak⟩:=bh aj;obtain⟨c5,c4,b8,b7⟩:=id L;obtain⟨bj,bc⟩:=bh b8;have S:=Z.1;have U:=ai.1;have wE:=b7.1;refine gh ?_;refine aM (fy _ _ _ _ _ _ (N+1) g U (wE.mono aq) aq) ?_;rintro _ g ⟨k,a6,a7,rfl,hm⟩;refine⟨k,?_⟩;replace o:=o.Y k;replace r:=r.Y k;replace p:=p.Y k;replace x:=x.Y k;replace L:=L.Y k;replace S:=S.Y k;replace U:=U.Y k;replace wE:=wE.Y k;replace s:=s.trans k;clear k;clear e1 e3 p1 ay al ak bj bc;refine gh ?_;refine aM (mj _ _ _ _ _ _ (N+1+N) g (S.mono aq) (hm.iv (bq.mul (bY c X))) aq) ?_;rintro _ g ⟨k,a8,a9,rfl,hs⟩;refine⟨k,?_⟩;replace o:=o.Y k;replace r:=r.Y k;replace p:=p.Y k;replace x:=x.Y k;replace L:=L.Y k;replace S:=S.Y k;replace U:=U.Y k;replace wE:=wE.Y k;replace hm:=hm.Y k;replace s:=s.trans k;clear k;have C:=b1 c aq;unfold oU at C;rw[ab F,ab X]at C;refine gh ?_;refine gh ?_;refine i_ (.inl F) F rfl o hI hi (show c<i by omega) (hs.ev true C) ?_;intro g o u t z;replace r:=r.kp t u ah;replace p:=p.kp t u ah;replace x:=x.kp t u ah;replace D:=(D.add s).trans u;replace M:=(M.trans (bJ s)).trans t;refine gh ?_;refine⟨_,?_,c+1,F,X,F,F,F,F,F,F,F,F,F,D,M,o.congr aD (λ_ _=>rfl) (λa b _ _=>?_) λ_ _ _ _=>rfl,r,p,x⟩
  ·omega
  ·simp only[cV];by_cases e:a=i/\b=c
   ·rw[ab e,ab ⟨e.1,aq⟩,e.2]
   ·rw[aa e];by_cases h:a=i/\b<c
    ·rw[ab h,ab ⟨h.1,aq⟩]
    ·rw[aa h,aa aq]
 clear o r p x D M;rintro f w3 ⟨K,J,H,G,E,W,D,M,o,r,p,x⟩;rw[ui K,ui J,ui H,ui G,ui E,ui W];clear K J H G E W;have bW:=D.size;have s:Ext w3 w3:=Ext.refl w3;refine gh ?_;refine cP [(0,3),(1,3),(2,3),(3,0),(4,3),(5,3),(6,0),(7,3),(8,0),(9,0),(10,0),(11,1),(12,1),(13,3),(14,2)] mixed az λf k _=>?_;replace o:=o.Y k;replace r:=r.Y k;replace p:=p.Y k;replace x:=x.Y k;replace s:=s.trans k;clear k;have e1:=o.c1;have e3:=o.pZ hi;obtain⟨bI,bG,an,ae⟩:=id r;obtain⟨au,ar⟩:=bh an;obtain⟨ax,av,P,Y⟩:=id p;obtain⟨R,Q⟩:=bh P;obtain⟨bD,bC,aj,ai⟩:=id x;obtain⟨al,ak⟩:=bh aj;have c:=ae.1;have w7:=Y.1;have U:=ai.1;refine gh ?_;refine aM (fy _ _ _ _ _ _ (N+1) f U (w7.mono aq) aq) ?_;rintro _ f ⟨k,a6,a7,rfl,hm⟩;refine⟨k,?_⟩;replace o:=o.Y k;replace r:=r.Y k;replace p:=p.Y k;replace x:=x.Y k;replace c:=c.Y k;replace w7:=w7.Y k;replace U:=U.Y k;replace s:=s.trans k;clear k;clear e1 e3 au ar R Q al ak;refine gh ?_;refine aM (mj _ _ _ _ _ _ (N+1+N) f (c.mono aq) (hm.iv (bq.mul ca)) aq) ?_;rintro _ f ⟨k,a8,a9,rfl,hs⟩;refine⟨k,?_⟩;replace o:=o.Y k;replace r:=r.Y k;replace p:=p.Y k;replace x:=x.Y k;replace c:=c.Y k;replace w7:=w7.Y k;replace U:=U.Y k;replace hm:=hm.Y k;replace s:=s.trans k;clear k;have C:=b1 j hj;unfold oU at C;rw[ab F,aa (Nat.lt_irrefl j),ab F]at C;refine gh ?_;refine gh ?_;refine i_ (.inl F) F rfl o hI hi hj (hs.ev true C) ?_;intro c o u t z;replace r:=r.kp t u ah;replace p:=p.kp t u ah;replace x:=x.kp t u ah;refine gh ?_;refine lP F ⟨F,(D.add s).trans u,(M.trans (bJ s)).trans t,?_⟩;rw[aa bB];refine o.congr aD (λ_ _=>rfl) (λa b _ _=>?_) λ_ _ _ _=>rfl;simp only[cV,oU];by_cases e:a=i
 ·subst e;rw[ab F];by_cases e2:b=j
  ·subst e2;rw[ab ⟨F,F⟩,aa (Nat.lt_irrefl b),ab F]
  ·rw[aa λh=>e2 h.2];by_cases h:b<j
   ·rw[ab ⟨F,h⟩,ab h]
   ·rw[aa λq=>h q.2,aa h,aa e2]
 ·rw[aa λh=>e h.1,aa λh=>e h.1,aa e]
end
end Go.Proofs.Qq
namespace Go.cW
section
open Go
def BX(cs:Array Value)(i:Nat):List Value->Array Value
 |[]=>cs
 |v::r=>BX (cs.setIfInBounds i v) (i+1) r
theorem E0(cs:Array Value)(i:Nat)(a:List Value):(BX cs i a).size=cs.size:=by
 induction a generalizing cs i with
 |nil=>rfl
 |cons v r b=>simp only[BX];rw[b];simp
theorem Jt(b:List Value):∀(a:Array Value) (i k:Nat),k<a.size->(BX a i b)[k]?=if i<=k/\k<i+b.length then b[k-i]? else a[k]?:=by
 induction b with
 |nil=>intro a i k _;rw[aa (by simp only[List.length_nil];omega)];rfl
 |cons v r h=>
  intro a i k c;simp only[BX];rw[h _ _ k (by simpa using c)];by_cases e:k=i
  ·subst e;rw[aa aq,ab aA,Nat.sub_self,Array.getElem?_setIfInBounds_self_of_lt c];rfl
  ·rw[Array.getElem?_setIfInBounds_ne (Ne.symm e)];by_cases h:i+1<=k/\k<i+1+r.length
   ·rw[ab h,ab (by simp only[List.length_cons];omega),show k-i=(k-(i+1))+1 by omega];rfl
   ·rw[aa h,aa (by simp only[List.length_cons];omega)]
theorem GJ{cs:Array Value}{a:List Value}(h:a.length=cs.size):BX cs 0 a=a.toArray:=by
 apply Array.ext_getElem?;intro k;by_cases b:k<cs.size
 ·rw[Jt a cs 0 k b,ab aq];simp
 ·have b:=E0 cs 0 a;rw[Array.getElem?_eq_none aq,Array.getElem?_eq_none (by simp;omega)]
section
variable {P:Program}{w:World}{g T:Nat}
theorem nC:∀(b:List Value) (cs:Array Value) (i:Nat) (w:World),bg w g T cs->i+b.length<=cs.size->(∀v∈b,v.oneCell'=true)->
 ∃a,(storeCells ⟨g,0,none⟩ b i).run P w=.ok () a/\bg a g T (BX cs i b)/\Ch (λb=>b=g) w a/\a.heap.size=w.heap.size
 |[],cs,i,w,b,_,_=>⟨w,rfl,b,Ch.refl _ _,rfl⟩
 |v::r,cs,i,w,b,e,c=>by
  simp only[List.length_cons]at e;have e:w.cell? ⟨g,i,none⟩=some (cs[i]'aq):=by rw[b.cell];simp
  have m:=ir (P:=P) (c v aG) e (b.frozen i);obtain⟨a,l,j,h,e⟩:=nC r _ (i+1) _ (b.set i v) (by simp;omega) (λu b=>c u (List.mem_cons_of_mem _ b));refine⟨a,?_,j,(fF w ⟨g,i,none⟩ v).trans h,by rw[e,size_setCell]⟩;unfold storeCells;simp only[Sem.run_bind,add_lit,Nat.zero_add,m,Result.andThen_ok];exact l
theorem run_loadCells:∀(m i:Nat) (acc cs:Array Value),bg w g T cs->i+m<=cs.size->(loadCellsFrom ⟨g,0,none⟩ i m acc).run P w=.ok (acc++cs.extract i (i+m)) w
 |0,i,acc,cs,a,b=>by
  unfold loadCellsFrom;rw[show cs.extract i (i+0)=#[] by apply Array.ext';simp,Array.append_empty];rfl
 |m+1,i,acc,cs,a,b=>by
  have b:w.cell? ⟨g,i,none⟩=some (cs[i]'aq):=by rw[a.cell];simp
  unfold loadCellsFrom;have c:(load (⟨g,i,none⟩ : Addr)).run P w=.ok (cs[i]'aq) w:=by simp[load,Sem.run,b]
  simp only[Sem.run_bind,add_lit,Nat.zero_add,c,Result.andThen_ok];rw[run_loadCells m (i+1) _ cs a aq];congr 1;apply Array.ext';simp only[Array.toList_append,Array.toList_push,Array.toList_extract,List.append_assoc];congr 1;rw[List.extract_eq_take_drop,List.extract_eq_take_drop,show i+(m+1)-i=m+1 by omega,show i+1+m-(i+1)=m by omega];have a:i<cs.toList.length:=by simpa using(by omega:i<cs.size)
  rw[show List.take (m+1) (List.drop i cs.toList)=cs.toList[i]::List.take m (List.drop (i+1) cs.toList) by rw[List.drop_eq_getElem_cons a,List.take_succ_cons]];rfl
theorem rm{t m:Nat}{cs:Array Value}(a:eP P t m=true)(c:bg w g T cs)(b:cs.size=m):(Instr.loadAt t (.pointer (some ⟨g,0,none⟩))).run P w=.ok (.agg cs) w:=by
 have:=run_loadCells (P:=P) m 0 #[] cs c aq;subst b;rw[Nat.zero_add,Array.extract_size,Array.empty_append]at this;simp[Instr.loadAt,Instr.sureAddr,loadVar,iN a,eu a,loadCells,this]
end
section
variable {P:Program}{n:Nat}{S:World->World->Prop}{k:Nat}{K:Fr->World->Prop}{f:Fr}{w:World}{d ty t:Nat}{x y:Operand}{pos:String}{aft:Array Edge}{gd:Option (Nat×Bool)}
theorem rN{m g T:Nat}{cs a:Array Value}(j:eP P t m=true)(s:k=2\/k=1/\∀w',Ch (λb=>b=g) w w'->S w w')(i:ev n f x=.pointer (some ⟨g,0,none⟩))(e:ev n f y=.agg a)(p:∀v∈a.toList,v.oneCell'=true)(q:bg w g T cs)(h1:cs.size=m)(r:a.size=m)
 (h:∀w',bg w' g T a->Ch (λb=>b=g) w w'->w'.heap.size=w.heap.size->K f w'):R1 P n S k ⟨none,.store t x y,ty,pos,aft,gd⟩ K f w:=by
 obtain⟨w',o,c,b,l⟩:=nC (P:=P) a.toList cs 0 w q (by simp;omega) p;rw[GJ (by simp;omega)]at c;refine qB (w':=w') (s.imp id λh=>⟨h.1,h.2 _ b⟩) rfl ?_ (h w' (by simpa using c) b l);simp only[execOp,i,e,Sem.run_bind,Instr.storeAt,Instr.sureAddr,Sem.run_pure,Result.andThen_ok,storeVar,eu j,Value.cells];rw[aa (by simp[r])];simp only[Result.andThen_ok,o]
theorem Bj{m g T:Nat}{cs:Array Value}(j:k≠3)(c:eP P t m=true)(a:ev n f x=.pointer (some ⟨g,0,none⟩))(i:bg w g T cs)(e:cs.size=m)(h:K (cg f d (.agg cs)) w):R1 P n (λ_ _=>False) k ⟨some d,.load t x,ty,pos,aft,gd⟩ K f w:=by
 refine iD j (v:=.agg cs) (λj b=>?_) h;obtain rfl:=b.resolve_left id;simp only[execOp,a,Sem.run_bind,rm c i e,Result.andThen_ok,Sem.run_pure]
theorem Mg{c:Func}{b:Tmp}{T G m:Nat}{cs:Array Value}{a:Value->World->Prop}(i:c.results=#[.cell b T])(o:eP P T m=true)(e:ev n f (.tmp b)=.pointer (some ⟨G,0,none⟩))(l:bg w G T cs)(j:cs.size=m)(h:a (.agg cs) w):bodyPost P c (Et a) .ret (act n f) w:=by
 refine bodyPost_ret (v:=.agg cs) ?_ F ⟨_,F,h⟩;have c:=congrFun (cO n f) (.tmp b);simp only[Act.eval]at c;have a:=rm (P:=P) o l j;simp only[Instr.loadAt,Instr.sureAddr,Sem.run_bind,Sem.run_pure,Result.andThen_ok]at a;have h:(act n f).tmps[b]?.getD undef=.pointer (some ⟨G,0,none⟩):=by rw[<-e,<-c];simp
 simp[results,i,h,asAddr,a]
