import Derived.Test.YtmfndnlifgphjaaGreatQz0
set_option maxHeartbeats 64000000
namespace Go.cU
section
open Go Go.RowKit
abbrev Fr:=Nat->Value
def bS(f:Fr)(d:Nat)(v:Value):Fr:=λi=>bif Nat.beq i d then v else f i
def fh(f:Fr):Option Nat->Value->Fr
 |some d,v=>bS f d v
 |none,_=>f
def act(n:Nat)(f:Fr):Act:=⟨Array.ofFn (n:=n) λi=>f i.val,[]⟩
def ev(n:Nat)(f:Fr):Operand->Value
 |.tmp t=>bif Nat.blt t n then f t else undef
 |.const v=>v
 |.global g=>.pointer (some ⟨g,0,none⟩)
 |.func g=>.func (.func g) #[] #[]
theorem G4{i d:Nat}(h:i≠d):Nat.beq i d=false:=by
 cases a:Nat.beq i d with
 |false=>rfl
 |true=>exact absurd (Nat.eq_of_beq_eq_true a) h
theorem jX(f:Fr)(d:Nat)(v:Value):bS f d v d=v:=by simp[bS,Nat.beq_refl]
theorem bw(f:Fr){d i:Nat}(v:Value)(h:i≠d):bS f d v i=f i:=by simp[bS,G4 h]
theorem Ga{f:Fr}{d:Nat}{v:Value}(h:f d=v):bS f d v=f:=by
 funext i;by_cases e:i=d
 ·subst e;rw[jX,h]
 ·rw[bw f v e]
theorem ui{f:Fr}{d:Nat}{v:Value}(h:f d=v):f=bS f d v:=(Ga h).symm
theorem b9(n:Nat)(f:Fr):(act n f).eval=ev n f:=by
 funext x;cases x with
 |tmp t=>
  simp only[Act.eval,act,ev];by_cases h:t<n
  ·have a:Nat.blt t n=true:=by simpa[Nat.blt_eq]using h
   simp[a,h,Array.getD]
  ·have a:Nat.blt t n=false:=by
    cases e:Nat.blt t n with
    |false=>rfl
    |true=>exact absurd (by simpa using e) h
   simp[a,h,Array.getD]
 |const v=>rfl
 |global g=>rfl
 |func g=>rfl
theorem fH(n:Nat)(f:Fr)(d:Option Nat)(v:Value):(act n f).put d v=act n (fh f d v):=by
 cases d with
 |none=>rfl
 |some d=>
  simp only[Act.put,act,fh];congr 1;apply Array.ext_getElem?;intro i;by_cases h:d=i
  ·subst h;by_cases a:d<n<;>simp[a,jX]
  ·rw[Array.getElem?_setIfInBounds_ne h];by_cases a:i<n<;>simp[a,bw f v (Ne.symm h)]
theorem jV{P:Program}{o:Oper}{a:Act}{w:World}{K:Act->World->Prop}{Q d:Exit->Act->World->Prop}
 (h:∀e a w,Q e a w->d e a w) (b:o.wp P a w K Q):o.wp P a w K d:=by
 unfold Oper.wp at*;generalize (execOp a.eval o).run P w=r at*;cases r with
 |ok n i=>
  cases n<;>simp only[Oper.upon]at b⊢
  case value=>exact b
  case skip=>exact b
  case defer=>exact b
  case enter=>
   refine Calls.mono b λe d g=>?_;cases e with
   |returned u=>exact g
   |panicked c=>exact h _ _ _ g
   |outgrown=>obtain⟨a,w,d⟩:=g;exact⟨a,w,h _ _ _ d⟩
  case row=>exact b
 |halt x i=>
  cases x<;>simp only[Oper.upon]at b⊢
  case panic=>exact h _ _ _ b
def QF:Exit->Act->World->Prop:=λ_ _ _=>False
theorem ot{Q:Exit->Act->World->Prop}:∀e a w,QF e a w->Q e a w:=λ_ _ _ h=>h.elim
def R1(P:Program)(n:Nat)(S:World->World->Prop)(k:Nat)(o:Oper)(K:Fr->World->Prop)(f:Fr)(w:World):Prop:=
 if k=0 then ∃v,(∀a,S w a\/a=w->(execOp (ev n f) o).run P a=.ok (.value v) a)/\K (fh f o.dst v) w
 else if k=3 then ∃v,(∀a,(execOp (ev n f) o).run P a=.ok (.value v) a)/\K (fh f o.dst v) w
 else o.wp P (act n f) w (λc a=>∃b,c=act n b/\(k=2\/a=w\/S w a)/\K b a) QF
section
variable {P:Program}{n:Nat}{S:World->World->Prop}{k:Nat}{o:Oper}{K:Fr->World->Prop}{f:Fr}{w:World}
theorem cD{v:Value}(h:∀w,(execOp (ev n f) o).run P w=.ok (.value v) w)(b:K (fh f o.dst v) w):R1 P n S k o K f w:=by
 unfold R1;split
 ·exact⟨v,λa _=>h a,b⟩
 ·split
  ·exact⟨v,λa=>h a,b⟩
  ·unfold Oper.wp;rw[b9,h w,Oper.upon_value,fH];exact⟨_,F,.inr (.inl F),b⟩
theorem fX{v:Value}(a:k≠3)(h:∀a,S w a\/a=w->(execOp (ev n f) o).run P a=.ok (.value v) a)(a:K (fh f o.dst v) w):R1 P n S k o K f w:=by
 unfold R1;split
 ·exact⟨v,h,a⟩
 ·unfold Oper.wp;rw[b9,h w (.inr F),Oper.upon_value,fH];exact⟨_,F,.inr (.inl F),a⟩
theorem kJ{v:Value}{w':World}(b:k=2\/k=1/\S w w')(h:(execOp (ev n f) o).run P w=.ok (.value v) w')(a:K (fh f o.dst v) w'):R1 P n S k o K f w:=by
 unfold R1;rw[aa aq,aa aq];unfold Oper.wp;rw[b9,h,Oper.upon_value,fH];exact⟨_,F,b.imp id λh=>.inr h.2,a⟩
theorem nM{w':World}(c:k=2\/k=1/\S w w')(b:o.dst=none)(h:(execOp (ev n f) o).run P w=.ok .skip w')(a:K f w'):R1 P n S k o K f w:=by
 unfold R1;rw[aa aq,aa aq];unfold Oper.wp;rw[b9,h,Oper.upon_skip,fH,b];exact⟨_,F,c.imp id λh=>.inr h.2,a⟩
theorem v7{g:FuncId}{args:Array Value}{R:Ending->World->Prop}(i:k=2\/k=1)(h:(execOp (ev n f) o).run P w=.ok (.enter g args) w)
 (c:Calls P g args w R) (b:∀e a,R e a->∃v,e=.returned v/\(k=1->S w a)/\K (fh f o.dst v) a):R1 P n S k o K f w:=by
 unfold R1;rw[aa aq,aa aq];unfold Oper.wp;rw[b9,h,Oper.upon_enter];refine c.mono λe a d=>?_;obtain⟨v,rfl,c,b⟩:=b e a d;simp only[];rw[fH];exact⟨_,F,i.imp id λh=>.inr (c h),b⟩
theorem R1.wp(b:k≠0/\k≠3)(h:R1 P n S k o K f w):o.wp P (act n f) w (λd a=>∃c,d=act n c/\(k=2\/a=w\/S w a)/\K c a) QF:=by
 unfold R1 at h;rwa[aa b.1,aa b.2]at h
end
def want(n:Nat)(ops:Array Oper)(f:Fr)(o:Oper):Bool:=Region.wanted o (yielded ops (act n f).tmps)
def Rl(P:Program)(n:Nat)(ops:Array Oper)(K:Fr->World->Prop):List Oper->Fr->World->Prop
 |[],f,w=>K f w
 |o::rest,f,w=>if want n ops f o then R1 P n (λ_ _=>False) 2 o (Rl P n ops K rest) f w else Rl P n ops K rest (fh f o.dst undef) w
def Ro(P:Program)(n:Nat)(ops:Array Oper)(S:World->World->Prop)(K:Fr->World->Prop):List (Nat×Nat)->Fr->World->Prop
 |[],f,w=>K f w
 |(i,k)::rest,f,w=>∃o,ops[i]?=some o/\if want n ops f o then R1 P n S k o (Ro P n ops S K rest) f w else Ro P n ops S K rest (fh f o.dst undef) w
section
variable {P:Program}{n:Nat}{ops:Array Oper}{S:World->World->Prop}{K:Fr->World->Prop}{f:Fr}{w:World}{o:Oper}{rest:List Oper}
theorem qV(h:o.guard=none):want n ops f o=true:=by simp[want,Region.wanted,h]
theorem oP{j:Nat}{b c:Bool}{t:Tmp}(h:o.guard=some (j,b))(i:(ops[j]?).bind (·.dst)=some t)(g:ev n f (.tmp t)=.bool c)(a:Nat.blt t n=true):want n ops f o=(c == b):=by
 have d:t<n:=by simpa using a
 have e:f t=.bool c:=by simpa[ev,a]using g
 simp[want,Region.wanted,h,yielded,i,act,d,e]
theorem Hk(h:K f w):Rl P n ops K [] f w:=h
theorem Fp(a:o.guard=none)(h:R1 P n (λ_ _=>False) 2 o (Rl P n ops K rest) f w):Rl P n ops K (o::rest) f w:=by
 unfold Rl;rw[qV a];exact h
theorem xA{j:Nat}{b:Bool}{t:Tmp}(h:o.guard=some (j,b))(e:(ops[j]?).bind (·.dst)=some t)(a:ev n f (.tmp t)=.bool b)(d:Nat.blt t n=true)
 (c:R1 P n (λ_ _=>False) 2 o (Rl P n ops K rest) f w):Rl P n ops K (o::rest) f w:=by
 unfold Rl;rw[oP h e a d];simpa using c
theorem CU{j:Nat}{b c:Bool}{t:Tmp}(h:o.guard=some (j,b))(g:(ops[j]?).bind (·.dst)=some t)(a:ev n f (.tmp t)=.bool c)(e:Nat.blt t n=true)(i:(c == b)=false)
 (d:Rl P n ops K rest (fh f o.dst undef) w):Rl P n ops K (o::rest) f w:=by
 unfold Rl;rw[oP h g a e,i];simpa using d
theorem tg(h:K f w):Ro P n ops S K [] f w:=h
theorem yU{i k:Nat}{a:List (Nat×Nat)}(b:ops[i]?=some o)(c:o.guard=none)(h:R1 P n S k o (Ro P n ops S K a) f w):Ro P n ops S K ((i,k)::a) f w:=by
 unfold Ro;exact⟨o,b,by rw[qV c];exact h⟩
theorem Hd{i k:Nat}{a:List (Nat×Nat)}{j:Nat}{b:Bool}{t:Tmp}(e:ops[i]?=some o)(h:o.guard=some (j,b))(l:(ops[j]?).bind (·.dst)=some t)(c:ev n f (.tmp t)=.bool b)(g:Nat.blt t n=true)
 (d:R1 P n S k o (Ro P n ops S K a) f w):Ro P n ops S K ((i,k)::a) f w:=by
 unfold Ro;refine⟨o,e,?_⟩;rw[oP h l c g];simpa using d
theorem Ik{i k:Nat}{a:List (Nat×Nat)}{j:Nat}{b c:Bool}{t:Tmp}(g:ops[i]?=some o)(h:o.guard=some (j,b))(m:(ops[j]?).bind (·.dst)=some t)(d:ev n f (.tmp t)=.bool c)(l:Nat.blt t n=true)(p:(c == b)=false)
 (e:Ro P n ops S K a (fh f o.dst undef) w):Ro P n ops S K ((i,k)::a) f w:=by
 unfold Ro;refine⟨o,g,?_⟩;rw[oP h m d l,p];simpa using e
theorem CQ{l:List Oper}{i k:Nat}{a:List (Nat×Nat)}(b:l[i]?=some o)(c:o.guard=none)(h:R1 P n S k o (Ro P n l.toArray S K a) f w):Ro P n l.toArray S K ((i,k)::a) f w:=
 yU (by simpa using b) c h
theorem yS{l:List Oper}{i k:Nat}{a:List (Nat×Nat)}{j:Nat}{b:Bool}{t:Tmp}(e:l[i]?=some o)(h:o.guard=some (j,b))(m:(l[j]?).bind (·.dst)=some t)(c:ev n f (.tmp t)=.bool b)(g:Nat.blt t n=true)
 (d:R1 P n S k o (Ro P n l.toArray S K a) f w):Ro P n l.toArray S K ((i,k)::a) f w:=
 Hd (by simpa using e) h (by simpa using m) c g d
theorem CP{l:List Oper}{i k:Nat}{a:List (Nat×Nat)}{j:Nat}{b c:Bool}{t:Tmp}(g:l[i]?=some o)(h:o.guard=some (j,b))(p:(l[j]?).bind (·.dst)=some t)(d:ev n f (.tmp t)=.bool c)(m:Nat.blt t n=true)(q:(c == b)=false)
 (e:Ro P n l.toArray S K a (fh f o.dst undef) w):Ro P n l.toArray S K ((i,k)::a) f w:=
 Ik (by simpa using g) h (by simpa using p) d m q e
theorem Fm{j:Nat}{t:Tmp}{p:Prop}{a:Decidable p}(h:o.guard=some (j,true))(e:(ops[j]?).bind (·.dst)=some t)(b:ev n f (.tmp t)=.bool (@decide p a))(d:Nat.blt t n=true)(c:p)
 (a:R1 P n (λ_ _=>False) 2 o (Rl P n ops K rest) f w):Rl P n ops K (o::rest) f w:=
 xA h e (by rw[b,decide_eq_true c]) d a
theorem Hg{j:Nat}{t:Tmp}{p:Prop}{a:Decidable p}(h:o.guard=some (j,true))(e:(ops[j]?).bind (·.dst)=some t)(b:ev n f (.tmp t)=.bool (@decide p a))(d:Nat.blt t n=true)(c:¬p)
 (a:Rl P n ops K rest (fh f o.dst undef) w):Rl P n ops K (o::rest) f w:=
 CU h e (by rw[b,decide_eq_false c]) d F a
theorem Fo{j:Nat}{t:Tmp}{p:Prop}{a:Decidable p}(h:o.guard=some (j,false))(e:(ops[j]?).bind (·.dst)=some t)(b:ev n f (.tmp t)=.bool (@decide p a))(d:Nat.blt t n=true)(c:¬p)
 (a:R1 P n (λ_ _=>False) 2 o (Rl P n ops K rest) f w):Rl P n ops K (o::rest) f w:=
 xA h e (by rw[b,decide_eq_false c]) d a
theorem Hj{j:Nat}{t:Tmp}{p:Prop}{a:Decidable p}(h:o.guard=some (j,false))(e:(ops[j]?).bind (·.dst)=some t)(b:ev n f (.tmp t)=.bool (@decide p a))(d:Nat.blt t n=true)(c:p)
 (a:Rl P n ops K rest (fh f o.dst undef) w):Rl P n ops K (o::rest) f w:=
 CU h e (by rw[b,decide_eq_true c]) d F a
theorem Fl{l:List Oper}{i k:Nat}{a:List (Nat×Nat)}{j:Nat}{t:Tmp}{p:Prop}{b:Decidable p}(e:l[i]?=some o)(h:o.guard=some (j,false))(m:(l[j]?).bind (·.dst)=some t)(c:ev n f (.tmp t)=.bool (@decide p b))(g:Nat.blt t n=true)(d:¬p)
 (b:R1 P n S k o (Ro P n l.toArray S K a) f w):Ro P n l.toArray S K ((i,k)::a) f w:=
 yS e h m (by rw[c,decide_eq_false d]) g b
theorem He{l:List Oper}{i k:Nat}{a:List (Nat×Nat)}{j:Nat}{t:Tmp}{p:Prop}{b:Decidable p}(e:l[i]?=some o)(h:o.guard=some (j,false))(m:(l[j]?).bind (·.dst)=some t)(c:ev n f (.tmp t)=.bool (@decide p b))(g:Nat.blt t n=true)(d:p)
 (b:Ro P n l.toArray S K a (fh f o.dst undef) w):Ro P n l.toArray S K ((i,k)::a) f w:=
 CP e h m (by rw[c,decide_eq_true d]) g F b
theorem CT{Q:Exit->Act->World->Prop}(e:∀f w,K f w->Q .normal (act n f) w):∀(l:List Oper) (f:Fr) (w:World),Rl P n ops K l f w->wpList P ops Q l (act n f) w:=by
 intro l;induction l with
 |nil=>intro f w h;exact e f w h
 |cons o rest b=>
  intro f w h;unfold Rl at h;unfold wpList;change (if Region.wanted o (yielded ops (act n f).tmps)=true then _ else _)at h;split
  ·rename_i a;rw[ae a]at h;refine .inl (Oper.wp_mono (λj c g=>?_) (jV ot (h.wp aq)));obtain⟨i,rfl,_,d⟩:=g;exact b i c d
  ·rename_i a;rw[aa a]at h;rw[fH];exact b _ _ h
end
def kW(ops:Array Oper)(j:Nat):Nat->Oper->Bool
 |0,o=>o.after.any λe=>Region.binds .any e&&e.on == j
 |d+1,o=>o.after.any λe=>Region.binds .any e&&(e.on == j || match ops[e.on]? with|none=>false|some u=>kW ops j d u)
def waits(ops:Array Oper)(o:Oper)(j:Nat):Bool:=kW ops j 4 o
theorem oz{ops:Array Oper}{j:Nat}:∀{d:Nat} {o:Oper},kW ops j d o=true->
 ∃e∈o.after,Region.binds .any e=true/\(e.on=j\/∃u,ops[e.on]?=some u/\∃g,g<d/\kW ops j g u=true):=by
 intro d o h;cases d with
 |zero=>
  unfold kW at h;obtain⟨e,b,a⟩:=Array.any_eq_true'.1 h;simp only[Bool.and_eq_true,beq_iff_eq]at a;exact⟨e,b,a.1,.inl a.2⟩
 |succ d=>
  unfold kW at h;obtain⟨e,b,a⟩:=Array.any_eq_true'.1 h;simp only[Bool.and_eq_true,Bool.or_eq_true,beq_iff_eq]at a;refine⟨e,b,a.1,a.2.imp id λc=>?_⟩;split at c
  ·cases c
  ·rename_i u i;exact⟨u,i,d,Nat.lt_succ_self d,c⟩
def F5(ops:Array Oper)(H:List Nat)(a:Array Bool)(i:Nat):Bool:=
 match ops[i]? with
 |none=>false
 |some o=>H.all λj=>!a.getD j false || waits ops o j
def jS(ops:Array Oper)(b:Array Bool):Prop:=∀(a:Nat) (u:Oper),ops[a]?=some u->b.getD a false=true->∀e∈u.after,Region.binds .any e=true->b.getD e.on false=true
theorem qG{ops:Array Oper}{b:Array Bool}{j:Nat}(l:jS ops b):∀(d:Nat) (a:Nat) (u:Oper),ops[a]?=some u->b.getD a false=true->kW ops j d u=true->b.getD j false=true:=by
 intro d;induction d using Nat.strongRecOn with
 |_ d p=>
  intro a u s b h;obtain⟨e,d,r,g⟩:=oz h;have c:=l a u s b e d r;rcases g with g|⟨m,i,v,q,t⟩
  ·rw[g]at c;exact c
  ·exact p v q e.on m i c t
theorem CF{ops:Array Oper}{H:List Nat}{a:Array Bool}{i j:Nat}{o:Oper}(c:ops[i]?=some o)(b:F5 ops H a i=true)(l:H.contains j=true)(g:a.getD j false=true):
 ∃e∈o.after,Region.binds .any e=true/\(e.on=j\/∃u,ops[e.on]?=some u/\∃d,kW ops j d u=true):=by
 simp only[F5,c,List.all_eq_true]at b;have h:=b j (by simpa using l);rw[g]at h;simp only[Bool.not_true,Bool.false_or]at h;unfold waits at h;obtain⟨e,a,c,b⟩:=oz h;exact⟨e,a,c,b.imp id λ⟨u,a,d,_,h⟩=>⟨u,a,d,h⟩⟩
theorem lu(ops:Array Oper):jS ops (Array.replicate ops.size false):=λa u _ h=>by
 by_cases b:a<ops.size<;>simp[b]at h
theorem cm{ops:Array Oper}{b:Array Bool}{i:Nat}(h:jS ops b)(z:i∈Region.ready .any ops b):jS ops (b.setIfInBounds i true):=by
 have d:∀x,b.getD x false=true->(b.setIfInBounds i true).getD x false=true:=λx q=>by
  by_cases g:i=x
  ·subst g;have y:i<b.size:=by
    rcases Nat.lt_or_ge i b.size with c|c
    ·exact c
    ·simp[Array.getD,Nat.not_lt.2 c]at q
   simp[y]
  ·rw[getD_set_ne false g];exact q
 intro a u l r e s t;obtain⟨_,g,v,p⟩:=mem_ready.1 z;by_cases j:i=a
 ·subst j;rw[v]at l;cases l;have m:=p e s t;refine d _ ?_;rcases Nat.lt_or_ge e.on b.size with c|c
  ·simp[c]at m⊢;exact m
  ·simp[Array.getElem?_eq_none c]at m
 ·rw[getD_set_ne false j]at r;exact d _ (h a u l r e s t)
def Ds(P:Program)(ops:Array Oper)(H:List Nat)(Q:Exit->Act->World->Prop)(S:World->World->Prop):Nat->Array Bool->Act->World->Prop
 |0,b,a,w=>Region.ready .any ops b=[]/\Q .normal a w
 |fuel+1,b,a,w=>
  (Region.ready .any ops b=[]->Q .normal a w)/\
  ∀i∈Region.ready .any ops b,wpOp P ops Q i (λd c=>(F5 ops H b i=true\/c=w\/S w c)/\Ds P ops H Q S fuel (b.setIfInBounds i true) d c) a w
section
variable {P:Program}{ops:Array Oper}{H:List Nat}{Q:Exit->Act->World->Prop}{S:World->World->Prop}
theorem x7:∀(c:Nat) (b:Array Bool) (a:Act) (w:World),Ds P ops H Q S c b a w->wpAny P .any ops Q c b a w:=by
 intro c;induction c with
 |zero=>intro b a w h;exact h
 |succ c d=>intro b a w h;exact⟨h.1,λi b=>wpOp_mono (λe a c=>d _ e a c.2) (h.2 i b)⟩
theorem y8{j:Nat}{g i:Oper}{v:Value}(L:ops[j]?=some i)(J:g.apart ops i=true)
 (I:∀B b,g.op≠.select B b) (t:∀B b,i.op≠.select B b)
 (D:∀c a w,¬Q (.panic c) a w) {K:Act->World->Prop} {a:Act} {w:World} (h:wpOp P ops Q j K (a.put g.dst v) w):
 wpOp P ops Q j (λC y=>(execOp C.eval g=execOp a.eval g/\Region.wanted g (yielded ops C.tmps)=Region.wanted g (yielded ops a.tmps))/\K (C.put g.dst v) y) a w:=by
 obtain⟨A,p,E⟩:=Oper.apart_spec J;have dj:∀(l:Act) (u:Value),execOp (l.put i.dst u).eval g=execOp l.eval g/\Region.wanted g (yielded ops (l.put i.dst u).tmps)=Region.wanted g (yielded ops l.tmps):=λl u=>
  ⟨execOp_put g I l i.dst u E,wanted_put g l i.dst u E⟩
 unfold wpOp at*;simp only[L]at*;rw[wanted_put i a g.dst v A]at h;split
 ·rename_i z;simp only[z,if_true]at h;rcases h with h|⟨m,s⟩
  case inr=>exact .inr ⟨by unfold Oper.asks at *;rw[execOp_put i t a g.dst v A]at m;exact m,s⟩
  refine .inl ?_;unfold Oper.wp at*;rw[execOp_put i t a g.dst v A]at h;generalize (execOp a.eval i).run P w=r at*;cases r with
  |ok n y=>
   cases n<;>simp only[Oper.upon]at h⊢
   case value u=>exact⟨dj a u,by rw[<-Act.put_comm a v u p];exact h⟩
   case skip=>exact⟨dj a _,by rw[<-Act.put_comm a v undef p];exact h⟩
   case defer d=>
    refine⟨?_,?_⟩
    ·have:=dj { a with defers:=d::a.defers } undef;exact this
    ·rw[<-Act.put_comm _ v undef p,<-Act.put_defers];exact h
   case enter f args=>
    refine Calls.mono h λe G q=>?_;cases e with
    |returned u=>exact⟨dj a u,by rw[<-Act.put_comm a v u p];exact q⟩
    |panicked c=>exact absurd q (D _ _ _)
    |outgrown=>exact q
   case row row args=>exact Rows.mono h λu G q=>⟨dj a u,by rw[<-Act.put_comm a v u p];exact q⟩
  |halt x y=>
   cases x<;>simp only[Oper.upon]at h⊢
   case panic u=>exact absurd h (D _ _ _)
 ·rename_i z;simp only[z]at h;exact⟨dj a _,by rw[<-Act.put_comm a v undef p];exact h⟩
def YS(P:Program)(ops:Array Oper)(S:World->World->Prop)(o:Oper)(v:Value)(a:Act)(w:World):Prop:=
 (Region.wanted o (yielded ops a.tmps)=true/\∀b,S w b\/b=w->(execOp a.eval o).run P b=.ok (.value v) b)\/
 (Region.wanted o (yielded ops a.tmps)=false/\v=undef)
theorem YS.wpOp{i:Nat}{o:Oper}{v:Value}{a:Act}{w:World}(e:ops[i]?=some o)(c:YS P ops S o v a w)
 {K:Act->World->Prop} (h:K (a.put o.dst v) w):wpOp P ops Q i K a w:=by
 unfold Go.wpOp;simp only[e];rcases c with⟨b,d⟩|⟨b,rfl⟩
 ·simp only[b,if_true,Oper.wp,d w (.inr F),Oper.upon];exact .inl h
 ·simp only[b,Bool.false_eq_true,if_false];exact h
theorem YS.FY(l:∀a b c,S a b->S b c->S a c){o:Oper}{v:Value}{a b:Act}{w w':World}(g:YS P ops S o v a w)(e:w'=w\/S w w')
 (j:execOp b.eval o=execOp a.eval o) (i:Region.wanted o (yielded ops b.tmps)=Region.wanted o (yielded ops a.tmps)):YS P ops S o v b w':=by
 unfold YS at*;rw[j,i];rcases g with⟨p,m⟩|h
 ·refine .inl ⟨p,λb d=>m b ?_⟩;rcases e with rfl|e
  ·exact d
  ·rcases d with d|rfl
   ·exact .inl (l _ _ _ e d)
   ·exact .inl e
 ·exact .inr h
theorem gn{S':World->World->Prop}(hT:∀a b c,S' a b->S' b c->S' a c)(hSS:∀a b,S a b->S' a b){i:Nat}(hH:H.contains i=true\/∀a b,S' a b){oi:Oper}{v:Value}(hi:ops[i]?=some oi)(hsel:∀(j:Nat) (o:Oper) cs b,ops[j]?=some o->o.op≠.select cs b)
 (hQ:∀c a w,¬Q (.panic c) a w):
 ∀(fuel:Nat) (listed:Array Bool) (a:Act) (w:World),listed.size=ops.size->jS ops listed->
  (∀j oj,ops[j]?=some oj->j≠i->listed.getD j true=false->(∀e∈oj.after,Region.binds .any e=true->e.on≠i)->oi.apart ops oj=true)->
  i∈Region.ready .any ops listed->YS P ops S' oi v a w->
  Ds P ops H Q S fuel (listed.setIfInBounds i true) (a.put oi.dst v) w->Ds P ops H Q S (fuel+1) listed a w:=by
 have hilt:i<ops.size:=(Array.getElem?_eq_some_iff.1 hi).1;intro fuel;induction fuel with
 |zero=>
  intro listed a w _ _ _ hr hy HH;refine⟨λh=>(by rw[h]at hr;cases hr),λj hj=>?_⟩;by_cases hji:j=i
  ·subst hji;exact hy.wpOp hi ⟨.inr (.inl F),HH⟩
  ·have:=ready_mono hj hji;rw[HH.1]at this;cases this
 |succ fuel ih=>
  intro listed a w hsz hcl hfree hr hy HH;refine⟨λh=>(by rw[h]at hr;cases hr),λj hj=>?_⟩;by_cases hji:j=i
  ·subst hji;exact hy.wpOp hi ⟨.inr (.inl F),HH⟩
  ·have h1:=HH.2 j (ready_mono hj hji);obtain⟨hjun,oj,hoj,hall⟩:=mem_ready.1 hj;have hnot:∀e∈oj.after,Region.binds .any e=true->e.on≠i:=λe he hb heq=>by
    have h1:=hall e he hb;have h0:=(mem_ready.1 hr).1;rw[heq]at h1;rcases Nat.lt_or_ge i listed.size with h'|h'
    ·simp[h']at h0 h1;rw[h0]at h1;cases h1
    ·simp[Array.getElem?_eq_none h']at h1
   have h2:=y8 hoj (hfree j oj hoj hji hjun hnot) (λcs b=>hsel i oi cs b hi) (λcs b=>hsel j oj cs b hoj) hQ h1;have hfree':∀k ok,ops[k]?=some ok->k≠i->(listed.setIfInBounds j true).getD k true=false->
    (∀e∈ok.after,Region.binds .any e=true->e.on≠i)->oi.apart ops ok=true:=λk ok hk hki hun hno=>by
    refine hfree k ok hk hki ?_ hno;by_cases hjk:j=k
    ·subst hjk;exact hjun
    ·rw[getD_set_ne true hjk]at hun;exact hun
   refine wpOp_mono (λa' w' h3=>?_) h2;obtain⟨⟨he,hw⟩,hs,h4⟩:=h3;have hs':w'=w\/S' w w':=by
    rcases hH with hH|hH
    ·rcases hs with hb|hw'|hs
     ·exfalso;have hl:(listed.setIfInBounds i true).getD i false=true:=by simp[hsz,hilt]
      obtain⟨e,he,hb,heq|⟨u,hu,d,hd⟩⟩:=CF hoj hb hH hl
      ·exact hnot e he hb heq
      ·have h1:=hall e he hb;have h2:listed.getD e.on false=true:=by
        rcases Nat.lt_or_ge e.on listed.size with h'|h'
        ·simp[h']at h1⊢;exact h1
        ·simp[Array.getElem?_eq_none h']at h1
       have h3:=qG hcl d e.on u hu h2 hd;have h0:=(mem_ready.1 hr).1;have hlt:i<listed.size:=by rw[hsz];exact hilt
       simp[hlt]at h0 h3;rw[h0]at h3;cases h3
     ·exact .inl hw'
     ·exact .inr (hSS _ _ hs)
    ·exact .inr (hH w w')
   have hmono:F5 ops H (listed.setIfInBounds i true) j=true->F5 ops H listed j=true:=λhb=>by
    simp only[F5,hoj,List.all_eq_true]at hb⊢;intro x hx;have:=hb x hx;simp only[Bool.or_eq_true,Bool.not_eq_true']at this⊢;rcases this with h|h
    ·left;by_cases hxi:i=x
     ·subst hxi;simp[hsz,hilt]at h
     ·rw[getD_set_ne false hxi]at h;exact h
    ·exact .inr h
   refine⟨hs.imp hmono id,ih (listed.setIfInBounds j true) a' w' (by simp[hsz]) (cm hcl hj) hfree' (ready_mono hr (Ne.symm hji)) (hy.FY hT hs' he hw) ?_⟩;rw[Array.setIfInBounds_comm _ _ hji];exact h4
def qF(a:List (Nat×Nat)):List Nat:=a.filterMap λq=>if q.2=0 then some q.1 else none
def iu(ops:Array Oper)(H:List Nat):List (Nat×Nat)->Array Bool->Bool
 |[],a=>(Region.ready .any ops a).isEmpty
 |(i,0)::rest,a=>(Region.ready .any ops a).contains i&&Region.free .any ops a i&&H.contains i&&iu ops H rest (a.setIfInBounds i true)
 |(i,1)::rest,a=>Region.ready .any ops a == [i]&&iu ops H rest (a.setIfInBounds i true)
 |(i,2)::rest,a=>Region.ready .any ops a == [i]&&F5 ops H a i&&iu ops H rest (a.setIfInBounds i true)
 |(i,3)::rest,a=>(Region.ready .any ops a).contains i&&Region.free .any ops a i&&iu ops H rest (a.setIfInBounds i true)
 |(_,_+4)::_,_=>false
theorem lN:∀a b c:World,(λ_ _:World=>True) a b->(λ_ _:World=>True) b c->(λ_ _:World=>True) a c:=λ_ _ _ _ _=>trivial
def QK(n:Nat)(K:Fr->World->Prop):Exit->Act->World->Prop
 |.normal,a,w=>∃f,a=act n f/\K f w
 |_,_,_=>False
theorem vG{n:Nat}{K:Fr->World->Prop}(I:∀a b c,S a b->S b c->S a c)(t:Region.noSelect ops=true):
 ∀(a:List (Nat×Nat)) (e:Array Bool) (f:Fr) (w:World),e.size=ops.size->jS ops e->iu ops H a e=true->Ro P n ops S K a f w->
  Ds P ops H (QK n K) S a.length e (act n f) w:=by
 intro a;induction a with
 |nil=>
  intro e f w _ _ d h;exact⟨by simpa[iu]using d,⟨f,F,h⟩⟩
 |cons J rest u=>
  obtain⟨i,k⟩:=J;intro e f w g l d h;unfold Ro at h;obtain⟨o,s,h⟩:=h;have r:∀v,(act n f).put o.dst v=act n (fh f o.dst v):=fH n f o.dst
  match k,d with
  |0,d=>
   simp only[iu,Bool.and_eq_true]at d;obtain⟨⟨⟨D,q⟩,a⟩,d⟩:=d;have p:i∈Region.ready .any ops e:=by simpa using D
   by_cases m:want n ops f o=true
   ·rw[ae m]at h;unfold R1 at h;rw[ae F]at h;obtain⟨v,C,y⟩:=h;refine gn I (λ_ _ h=>h) (.inl a) s (Region.noSelect_spec t) (λ_ _ _ h=>h) _ e (act n f) w g l (Region.free_spec s q) p (v:=v) (.inl ⟨m,λA B=>?_⟩) ?_
    ·rw[b9];exact C A B
    ·rw[r];exact u _ _ _ (by simp[g]) (cm l p) d y
   ·rw[aa m]at h;refine gn I (λ_ _ h=>h) (.inl a) s (Region.noSelect_spec t) (λ_ _ _ h=>h) _ e (act n f) w g l (Region.free_spec s q) p (v:=undef) (.inr ⟨by simpa[want]using m,F⟩) ?_;rw[r];exact u _ _ _ (by simp[g]) (cm l p) d h
  |1,d=>
   simp only[iu,Bool.and_eq_true,beq_iff_eq]at d;refine⟨λE=>by simp[E]at d,λj z=>?_⟩;have x:=z;rw[d.1]at z;obtain rfl:j=i:=by simpa using z
   unfold Go.wpOp;simp only[s];change (if want n ops f o=true then _ else _);by_cases m:want n ops f o=true
   ·rw[ae m]at h⊢;refine .inl (Oper.wp_mono (λM A G=>?_) (jV ot (h.wp aq)));obtain⟨L,rfl,B,y⟩:=G;exact⟨.inr (B.resolve_left aq),u _ _ _ (by simp[g]) (cm l x) d.2 y⟩
   ·rw[aa m]at h⊢;exact⟨aA,by rw[r];exact u _ _ _ (by simp[g]) (cm l x) d.2 h⟩
  |2,d=>
   simp only[iu,Bool.and_eq_true,beq_iff_eq]at d;refine⟨λE=>by simp[E]at d,λj z=>?_⟩;have x:=z;rw[d.1.1]at z;obtain rfl:j=i:=by simpa using z
   unfold Go.wpOp;simp only[s];change (if want n ops f o=true then _ else _);by_cases m:want n ops f o=true
   ·rw[ae m]at h⊢;refine .inl (Oper.wp_mono (λM A G=>?_) (jV ot (h.wp aq)));obtain⟨L,rfl,B,y⟩:=G;exact⟨.inl d.1.2,u _ _ _ (by simp[g]) (cm l x) d.2 y⟩
   ·rw[aa m]at h⊢;exact⟨.inl d.1.2,by rw[r];exact u _ _ _ (by simp[g]) (cm l x) d.2 h⟩
  |3,d=>
   simp only[iu,Bool.and_eq_true]at d;obtain⟨⟨D,q⟩,d⟩:=d;have p:i∈Region.ready .any ops e:=by simpa using D
   by_cases m:want n ops f o=true
   ·rw[ae m]at h;unfold R1 at h;rw[aa ar,ae F]at h;obtain⟨v,C,y⟩:=h;refine gn lN (λ_ _ _=>trivial) (.inr λ_ _=>trivial) s (Region.noSelect_spec t) (λ_ _ _ h=>h) _ e (act n f) w g l (Region.free_spec s q) p (v:=v) (.inl ⟨m,λA B=>?_⟩) ?_
    ·rw[b9];exact C A
    ·rw[r];exact u _ _ _ (by simp[g]) (cm l p) d y
   ·rw[aa m]at h;refine gn lN (λ_ _ _=>trivial) (.inr λ_ _=>trivial) s (Region.noSelect_spec t) (λ_ _ _ h=>h) _ e (act n f) w g l (Region.free_spec s q) p (v:=undef) (.inr ⟨by simpa[want]using m,F⟩) ?_;rw[r];exact u _ _ _ (by simp[g]) (cm l p) d h
  |_+4,d=>simp[iu]at d
end
def FX(n:Nat)(Q:Exit->Fr->World->Prop):Exit->Act->World->Prop:=λe a w=>∃f,a=act n f/\Q e f w
def W(P:Program)(n:Nat)(c:Code)(Q:Exit->Fr->World->Prop)(f:Fr)(w:World):Prop:=c.wp P (FX n Q) (act n f) w
def jY(next:Fr->World->Prop)(Q:Exit->Fr->World->Prop):Exit->Fr->World->Prop
 |.normal,f,w=>next f w
 |e,f,w=>Q e f w
def iS(id:Nat)(Q:Exit->Fr->World->Prop):Exit->Fr->World->Prop
 |.exit id',f,w=>if id'=id then Q .normal f w else Q (.exit id') f w
 |e,f,w=>Q e f w
section
variable {P:Program}{n:Nat}{Q:Exit->Fr->World->Prop}{f:Fr}{w:World}
theorem aP{x y:Code}(h:W P n x (jY (W P n y Q) Q) f w):W P n (.seq x y) Q f w:=by
 unfold W at*;refine wp_seq (Code.wp_mono (λe a w b=>?_) h);obtain⟨f,rfl,b⟩:=b;cases e<;>first|exact b|exact⟨f,rfl,b⟩
theorem aX{x y:Code}(M:Fr->World->Prop)(h1:W P n x (jY M Q) f w)(c:∀f w,M f w->W P n y Q f w):W P n (.seq x y) Q f w:=by
 refine aP (Code.wp_mono (λe a w b=>?_) h1);obtain⟨f,rfl,b⟩:=b;cases e with
 |normal=>exact⟨f,rfl,c f w b⟩
 |_=>exact⟨f,rfl,b⟩
theorem xx(h:Q .normal f w):W P n .skip Q f w:=wp_skip ⟨f,F,h⟩
theorem CJ{id:Nat}(h:Q (.exit id) f w):W P n (.exit id) Q f w:=wp_exit ⟨f,F,h⟩
theorem Ic(h:Q .ret f w):W P n .ret Q f w:=wp_ret ⟨f,F,h⟩
theorem kF{id:Nat}{c:Code}(h:W P n c (iS id Q) f w):W P n (.block id c) Q f w:=by
 unfold W at*;refine wp_block (Code.wp_mono (λe a w b=>?_) h);obtain⟨f,rfl,b⟩:=b;cases e with
 |exit id'=>
  simp only[iS,Exit.inBlock]at b⊢;split
  ·rename_i h;rw[ae h]at b;exact⟨f,F,b⟩
  ·rename_i h;rw[aa h]at b;exact⟨f,F,b⟩
 |_=>exact⟨f,rfl,b⟩
theorem qh{c:Operand}{x y:Code}{t:Bool}(d:ev n f c=.bool t)(a:t=true->W P n x Q f w)(b:t=false->W P n y Q f w):W P n (.cond c x y) Q f w:=
 wp_cond_split (by rw[b9];exact d) a b
theorem te{c:Operand}{x y:Code}(b:ev n f c=.bool true)(a:W P n x Q f w):W P n (.cond c x y) Q f w:=qh b (λ_=>a) (λh=>by cases h)
theorem o9{c:Operand}{x y:Code}(b:ev n f c=.bool false)(a:W P n y Q f w):W P n (.cond c x y) Q f w:=qh b (λh=>by cases h) (λ_=>a)
theorem CK{c:Operand}{x y:Code}{p:Prop}{a:Decidable p}(d:ev n f c=.bool (@decide p a))(b:p)(a:W P n x Q f w):W P n (.cond c x y) Q f w:=
 te (by rw[d,decide_eq_true b]) a
theorem CL{c:Operand}{x y:Code}{p:Prop}{a:Decidable p}(d:ev n f c=.bool (@decide p a))(a:¬p)(b:W P n y Q f w):W P n (.cond c x y) Q f w:=
 o9 (by rw[d,decide_eq_false a]) b
theorem Fi{id:Nat}{x y z:Code}(h:W P n (.seq x y) (iS id (jY (W P n z Q) Q)) f w):W P n (.seq (.block id (.seq x y)) z) Q f w:=aP (kF h)
theorem Fh{id i:Nat}{ops:Array Oper}{b:Bool}{z:Code}(h:W P n (.region i ops b) (iS id (jY (W P n z Q) Q)) f w):W P n (.seq (.block id (.region i ops b)) z) Q f w:=aP (kF h)
theorem Fg{id id':Nat}{c z:Code}(h:W P n (.block id' c) (iS id (jY (W P n z Q) Q)) f w):W P n (.seq (.block id (.block id' c)) z) Q f w:=aP (kF h)
theorem Fc{c:Operand}{y z:Code}{p:Prop}{a:Decidable p}(b:ev n f c=.bool (@decide p a))(a:p)(h:W P n z Q f w):W P n (.seq (.cond c .skip y) z) Q f w:=
 aP (CK b a (xx h))
theorem Fe{c:Operand}{x z:Code}{id:Nat}{p:Prop}{a:Decidable p}(b:ev n f c=.bool (@decide p a))(a:¬p)(h:Q (.exit id) f w):W P n (.seq (.cond c x (.exit id)) z) Q f w:=
 aP (CL b a (CJ h))
theorem aU{c:Code}(I:Nat->Fr->World->Prop)(b:Nat)(h₀:I b f w)
 (i:∀m f w,I m f w->W P n c (jY (λh j=>∃d,d<m/\I d h j) Q) f w):W P n (.loop c) Q f w:=by
 unfold W;refine wp_loop_ghost (λm a w=>∃f,a=act n f/\I m f w) b ⟨f,rfl,h₀⟩ ?_;rintro m a w ⟨f,rfl,b⟩;refine Code.wp_mono (λe a w g=>?_) (i m f w b);obtain⟨h,rfl,g⟩:=g;cases e with
 |normal=>obtain⟨d,b,a⟩:=g;exact⟨d,b,h,F,a⟩
 |_=>exact⟨h,rfl,g⟩
theorem vz{id:Nat}{l:List Oper}(h:Rl P n l.toArray (λf w=>Q .normal f w) l f w):W P n (.region id l.toArray false) Q f w:=
 wp_region_lit (CT (λf _ h=>⟨f,rfl,h⟩) l f w h)
theorem qg{id:Nat}{ops:Array Oper}(S:World->World->Prop)(e:∀a b c,S a b->S b c->S a c)(c:List (Nat×Nat))(i:P.follows .mixedOrders=true)
 (b:(c.length == ops.size&&Region.noSelect ops&&iu ops (qF c) c (Array.replicate ops.size false))=true)
 (h:Ro P n ops S (λf w=>Q .normal f w) c f { w with drawn:=w.drawn+1 }):W P n (.region id ops true) Q f w:=by
 simp only[Bool.and_eq_true,beq_iff_eq]at b;have g:=vG (n:=n) e b.1.2 c _ f _ aA (lu ops) b.2 h;rw[b.1.1]at g;refine Code.wp_mono (λe a w d=>?_) (wp_region_any i (x7 _ _ _ _ g));cases e<;>first|exact d|exact d.elim
theorem EZ{g:FuncId}{b:Func}{c:Code}{args:Array Value}{R:Ending->World->Prop}(a:P.funcs[g]?=some b)(l:b.body=some c)(j:b.ntmps=n)(m:args.size<=n)
 (h:W P n c (λe f w=>bodyPost P b R e (act n f) w) (λi=>args.getD i undef) w):Calls P g args w R:=by
 refine calls_of_wp a l (Code.wp_mono (Q:=FX n λe f w=>bodyPost P b R e (act n f) w) (λe a w d=>?_) ?_)
 ·obtain⟨f,rfl,d⟩:=d;exact d
 ·have e:({ tmps:=args++Array.replicate (b.ntmps-args.size) undef,defers:=[] }:Act)=act n (λi=>args.getD i undef):=by
   unfold act;congr 1;apply Array.ext_getElem?;intro i;rw[j];by_cases a:i<args.size
   ·have:i<n:=aq;simp[Array.getElem?_append,a,this]
   ·by_cases b:i<n
    ·have:i-args.size<n-args.size:=aq;simp[Array.getElem?_append,a,b,this]
    ·have:¬i-args.size<n-args.size:=aq;simp[Array.getElem?_append,a,b,this]
  rw[e];exact h
end
section
variable {Q:Exit->Fr->World->Prop}{next:Fr->World->Prop}{id id':Nat}{f:Fr}{w:World}
theorem ji:(λf w=>jY next Q .normal f w)=next:=F
theorem qi(h:next f w):jY next Q .normal f w:=h
theorem Ha(h:Q (.exit id) f w):jY next Q (.exit id) f w:=h
theorem Ii(h:Q .ret f w):jY next Q .ret f w:=h
theorem Dm(h:Q .normal f w):iS id Q .normal f w:=h
theorem Ir(h:Q .ret f w):iS id Q .ret f w:=h
theorem Hw(h:Q .normal f w):iS id Q (.exit id) f w:=by simp[iS,h]
theorem FE(a:Nat.beq id' id=false)(h:Q (.exit id') f w):iS id Q (.exit id') f w:=by
 have:id'≠id:=λe=>by rw[e,Nat.beq_refl]at a;cases a
 simp[iS,this,h]
end
attribute [irreducible] W R1 Rl Ro jY iS
