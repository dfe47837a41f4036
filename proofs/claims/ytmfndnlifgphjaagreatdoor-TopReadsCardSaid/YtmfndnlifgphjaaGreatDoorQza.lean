import Derived.Test.YtmfndnlifgphjaaGreatDoorQz0
set_option maxHeartbeats 64000000
namespace Go.cW
section
open Go Go.RowKit
abbrev Fr:=Nat->Value
def cg(f:Fr)(d:Nat)(v:Value):Fr:=λi=>bif Nat.beq i d then v else f i
def fZ(f:Fr):Option Nat->Value->Fr
 |some d,v=>cg f d v
 |none,_=>f
def act(n:Nat)(f:Fr):Act:=⟨Array.ofFn (n:=n) λi=>f i.val,[]⟩
def ev(n:Nat)(f:Fr):Operand->Value
 |.tmp t=>bif Nat.blt t n then f t else undef
 |.const v=>v
 |.global g=>.pointer (some ⟨g,0,none⟩)
 |.func g=>.func (.func g) #[] #[]
theorem Nc{i d:Nat}(h:i≠d):Nat.beq i d=false:=by
 cases a:Nat.beq i d with
 |false=>rfl
 |true=>exact absurd (Nat.eq_of_beq_eq_true a) h
theorem lC(f:Fr)(d:Nat)(v:Value):cg f d v d=v:=by simp[cg,Nat.beq_refl]
theorem b9(f:Fr){d i:Nat}(v:Value)(h:i≠d):cg f d v i=f i:=by simp[cg,Nc h]
theorem LV{f:Fr}{d:Nat}{v:Value}(h:f d=v):cg f d v=f:=by
 funext i;by_cases e:i=d
 ·subst e;rw[lC,h]
 ·rw[b9 f v e]
theorem ui{f:Fr}{d:Nat}{v:Value}(h:f d=v):f=cg f d v:=(LV h).symm
theorem cO(n:Nat)(f:Fr):(act n f).eval=ev n f:=by
 funext x;cases x with
 |tmp t=>
  simp only[Act.eval,act,ev];by_cases h:t<n
  ·have a:Nat.blt t n=true:=by simpa[Nat.blt_eq]using h
   simp[a,h,Array.getD]
  ·have a:Nat.blt t n=false:=by
    cases e:Nat.blt t n with
    |false=>rfl
    |true=>exact absurd (by simpa using e) h
   simp[a,h,Array.getD]
 |const v=>rfl
 |global g=>rfl
 |func g=>rfl
theorem iC(n:Nat)(f:Fr)(d:Option Nat)(v:Value):(act n f).put d v=act n (fZ f d v):=by
 cases d with
 |none=>rfl
 |some d=>
  simp only[Act.put,act,fZ];congr 1;apply Array.ext_getElem?;intro i;by_cases h:d=i
  ·subst h;by_cases a:d<n<;>simp[a,lC]
  ·rw[Array.getElem?_setIfInBounds_ne h];by_cases a:i<n<;>simp[a,b9 f v (Ne.symm h)]
theorem lA{P:Program}{o:Oper}{a:Act}{w:World}{K:Act->World->Prop}{Q d:Exit->Act->World->Prop}
 (h:∀e a w,Q e a w->d e a w) (b:o.wp P a w K Q):o.wp P a w K d:=by
 unfold Oper.wp at*;generalize (execOp a.eval o).run P w=r at*;cases r with
 |ok n i=>
  cases n<;>simp only[Oper.upon]at b⊢
  case value=>exact b
  case skip=>exact b
  case defer=>exact b
  case enter=>
   refine Calls.mono b λe d g=>?_;cases e with
   |returned u=>exact g
   |panicked c=>exact h _ _ _ g
   |outgrown=>obtain⟨a,w,d⟩:=g;exact⟨a,w,h _ _ _ d⟩
  case row=>exact b
 |halt x i=>
  cases x<;>simp only[Oper.upon]at b⊢
  case panic=>exact h _ _ _ b
def QF:Exit->Act->World->Prop:=λ_ _ _=>False
theorem rh{Q:Exit->Act->World->Prop}:∀e a w,QF e a w->Q e a w:=λ_ _ _ h=>h.elim
def R1(P:Program)(n:Nat)(S:World->World->Prop)(k:Nat)(o:Oper)(K:Fr->World->Prop)(f:Fr)(w:World):Prop:=
 if k=0 then ∃v,(∀a,S w a\/a=w->(execOp (ev n f) o).run P a=.ok (.value v) a)/\K (fZ f o.dst v) w
 else if k=3 then ∃v,(∀a,(execOp (ev n f) o).run P a=.ok (.value v) a)/\K (fZ f o.dst v) w
 else o.wp P (act n f) w (λc a=>∃b,c=act n b/\(k=2\/a=w\/S w a)/\K b a) QF
section
variable {P:Program}{n:Nat}{S:World->World->Prop}{k:Nat}{o:Oper}{K:Fr->World->Prop}{f:Fr}{w:World}
theorem cH{v:Value}(h:∀w,(execOp (ev n f) o).run P w=.ok (.value v) w)(b:K (fZ f o.dst v) w):R1 P n S k o K f w:=by
 unfold R1;split
 ·exact⟨v,λa _=>h a,b⟩
 ·split
  ·exact⟨v,λa=>h a,b⟩
  ·unfold Oper.wp;rw[cO,h w,Oper.upon_value,iC];exact⟨_,F,.inr (.inl F),b⟩
theorem iD{v:Value}(a:k≠3)(h:∀a,S w a\/a=w->(execOp (ev n f) o).run P a=.ok (.value v) a)(a:K (fZ f o.dst v) w):R1 P n S k o K f w:=by
 unfold R1;split
 ·exact⟨v,h,a⟩
 ·unfold Oper.wp;rw[cO,h w (.inr F),Oper.upon_value,iC];exact⟨_,F,.inr (.inl F),a⟩
theorem iE{v:Value}{w':World}(b:k=2\/k=1/\S w w')(h:(execOp (ev n f) o).run P w=.ok (.value v) w')(a:K (fZ f o.dst v) w'):R1 P n S k o K f w:=by
 unfold R1;rw[aa aq,aa aq];unfold Oper.wp;rw[cO,h,Oper.upon_value,iC];exact⟨_,F,b.imp id λh=>.inr h.2,a⟩
theorem qB{w':World}(c:k=2\/k=1/\S w w')(b:o.dst=none)(h:(execOp (ev n f) o).run P w=.ok .skip w')(a:K f w'):R1 P n S k o K f w:=by
 unfold R1;rw[aa aq,aa aq];unfold Oper.wp;rw[cO,h,Oper.upon_skip,iC,b];exact⟨_,F,c.imp id λh=>.inr h.2,a⟩
theorem Bo{g:FuncId}{args:Array Value}{R:Ending->World->Prop}(i:k=2\/k=1)(h:(execOp (ev n f) o).run P w=.ok (.enter g args) w)
 (c:Calls P g args w R) (b:∀e a,R e a->∃v,e=.returned v/\(k=1->S w a)/\K (fZ f o.dst v) a):R1 P n S k o K f w:=by
 unfold R1;rw[aa aq,aa aq];unfold Oper.wp;rw[cO,h,Oper.upon_enter];refine c.mono λe a d=>?_;obtain⟨v,rfl,c,b⟩:=b e a d;simp only[];rw[iC];exact⟨_,F,i.imp id λh=>.inr (c h),b⟩
theorem R1.wp(b:k≠0/\k≠3)(h:R1 P n S k o K f w):o.wp P (act n f) w (λd a=>∃c,d=act n c/\(k=2\/a=w\/S w a)/\K c a) QF:=by
 unfold R1 at h;rwa[aa b.1,aa b.2]at h
end
def want(n:Nat)(ops:Array Oper)(f:Fr)(o:Oper):Bool:=Region.wanted o (yielded ops (act n f).tmps)
def Rl(P:Program)(n:Nat)(ops:Array Oper)(K:Fr->World->Prop):List Oper->Fr->World->Prop
 |[],f,w=>K f w
 |o::rest,f,w=>if want n ops f o then R1 P n (λ_ _=>False) 2 o (Rl P n ops K rest) f w else Rl P n ops K rest (fZ f o.dst undef) w
def Ro(P:Program)(n:Nat)(ops:Array Oper)(S:World->World->Prop)(K:Fr->World->Prop):List (Nat×Nat)->Fr->World->Prop
 |[],f,w=>K f w
 |(i,k)::rest,f,w=>∃o,ops[i]?=some o/\if want n ops f o then R1 P n S k o (Ro P n ops S K rest) f w else Ro P n ops S K rest (fZ f o.dst undef) w
section
variable {P:Program}{n:Nat}{ops:Array Oper}{S:World->World->Prop}{K:Fr->World->Prop}{f:Fr}{w:World}{o:Oper}{rest:List Oper}
theorem uQ(h:o.guard=none):want n ops f o=true:=by simp[want,Region.wanted,h]
theorem rX{j:Nat}{b c:Bool}{t:Tmp}(h:o.guard=some (j,b))(i:(ops[j]?).bind (·.dst)=some t)(g:ev n f (.tmp t)=.bool c)(a:Nat.blt t n=true):want n ops f o=(c == b):=by
 have d:t<n:=by simpa using a
 have e:f t=.bool c:=by simpa[ev,a]using g
 simp[want,Region.wanted,h,yielded,i,act,d,e]
theorem Nv(h:K f w):Rl P n ops K [] f w:=h
theorem K5(a:o.guard=none)(h:R1 P n (λ_ _=>False) 2 o (Rl P n ops K rest) f w):Rl P n ops K (o::rest) f w:=by
 unfold Rl;rw[uQ a];exact h
theorem CM{j:Nat}{b:Bool}{t:Tmp}(h:o.guard=some (j,b))(e:(ops[j]?).bind (·.dst)=some t)(a:ev n f (.tmp t)=.bool b)(d:Nat.blt t n=true)
 (c:R1 P n (λ_ _=>False) 2 o (Rl P n ops K rest) f w):Rl P n ops K (o::rest) f w:=by
 unfold Rl;rw[rX h e a d];simpa using c
theorem IF{j:Nat}{b c:Bool}{t:Tmp}(h:o.guard=some (j,b))(g:(ops[j]?).bind (·.dst)=some t)(a:ev n f (.tmp t)=.bool c)(e:Nat.blt t n=true)(i:(c == b)=false)
 (d:Rl P n ops K rest (fZ f o.dst undef) w):Rl P n ops K (o::rest) f w:=by
 unfold Rl;rw[rX h g a e,i];simpa using d
theorem qZ(h:K f w):Ro P n ops S K [] f w:=h
theorem Es{i k:Nat}{a:List (Nat×Nat)}(b:ops[i]?=some o)(c:o.guard=none)(h:R1 P n S k o (Ro P n ops S K a) f w):Ro P n ops S K ((i,k)::a) f w:=by
 unfold Ro;exact⟨o,b,by rw[uQ c];exact h⟩
theorem No{i k:Nat}{a:List (Nat×Nat)}{j:Nat}{b:Bool}{t:Tmp}(e:ops[i]?=some o)(h:o.guard=some (j,b))(l:(ops[j]?).bind (·.dst)=some t)(c:ev n f (.tmp t)=.bool b)(g:Nat.blt t n=true)
 (d:R1 P n S k o (Ro P n ops S K a) f w):Ro P n ops S K ((i,k)::a) f w:=by
 unfold Ro;refine⟨o,e,?_⟩;rw[rX h l c g];simpa using d
theorem Ou{i k:Nat}{a:List (Nat×Nat)}{j:Nat}{b c:Bool}{t:Tmp}(g:ops[i]?=some o)(h:o.guard=some (j,b))(m:(ops[j]?).bind (·.dst)=some t)(d:ev n f (.tmp t)=.bool c)(l:Nat.blt t n=true)(p:(c == b)=false)
 (e:Ro P n ops S K a (fZ f o.dst undef) w):Ro P n ops S K ((i,k)::a) f w:=by
 unfold Ro;refine⟨o,g,?_⟩;rw[rX h m d l,p];simpa using e
theorem tJ{l:List Oper}{i k:Nat}{a:List (Nat×Nat)}(b:l[i]?=some o)(c:o.guard=none)(h:R1 P n S k o (Ro P n l.toArray S K a) f w):Ro P n l.toArray S K ((i,k)::a) f w:=
 Es (by simpa using b) c h
theorem ye{l:List Oper}{i k:Nat}{a:List (Nat×Nat)}{j:Nat}{b:Bool}{t:Tmp}(e:l[i]?=some o)(h:o.guard=some (j,b))(m:(l[j]?).bind (·.dst)=some t)(c:ev n f (.tmp t)=.bool b)(g:Nat.blt t n=true)
 (d:R1 P n S k o (Ro P n l.toArray S K a) f w):Ro P n l.toArray S K ((i,k)::a) f w:=
 No (by simpa using e) h (by simpa using m) c g d
theorem CL{l:List Oper}{i k:Nat}{a:List (Nat×Nat)}{j:Nat}{b c:Bool}{t:Tmp}(g:l[i]?=some o)(h:o.guard=some (j,b))(p:(l[j]?).bind (·.dst)=some t)(d:ev n f (.tmp t)=.bool c)(m:Nat.blt t n=true)(q:(c == b)=false)
 (e:Ro P n l.toArray S K a (fZ f o.dst undef) w):Ro P n l.toArray S K ((i,k)::a) f w:=
 Ou (by simpa using g) h (by simpa using p) d m q e
theorem K3{j:Nat}{t:Tmp}{p:Prop}{a:Decidable p}(h:o.guard=some (j,true))(e:(ops[j]?).bind (·.dst)=some t)(b:ev n f (.tmp t)=.bool (@decide p a))(d:Nat.blt t n=true)(c:p)
 (a:R1 P n (λ_ _=>False) 2 o (Rl P n ops K rest) f w):Rl P n ops K (o::rest) f w:=
 CM h e (by rw[b,decide_eq_true c]) d a
theorem Nt{j:Nat}{t:Tmp}{p:Prop}{a:Decidable p}(h:o.guard=some (j,true))(e:(ops[j]?).bind (·.dst)=some t)(b:ev n f (.tmp t)=.bool (@decide p a))(d:Nat.blt t n=true)(c:¬p)
 (a:Rl P n ops K rest (fZ f o.dst undef) w):Rl P n ops K (o::rest) f w:=
 IF h e (by rw[b,decide_eq_false c]) d F a
theorem K4{j:Nat}{t:Tmp}{p:Prop}{a:Decidable p}(h:o.guard=some (j,false))(e:(ops[j]?).bind (·.dst)=some t)(b:ev n f (.tmp t)=.bool (@decide p a))(d:Nat.blt t n=true)(c:¬p)
 (a:R1 P n (λ_ _=>False) 2 o (Rl P n ops K rest) f w):Rl P n ops K (o::rest) f w:=
 CM h e (by rw[b,decide_eq_false c]) d a
theorem Nu{j:Nat}{t:Tmp}{p:Prop}{a:Decidable p}(h:o.guard=some (j,false))(e:(ops[j]?).bind (·.dst)=some t)(b:ev n f (.tmp t)=.bool (@decide p a))(d:Nat.blt t n=true)(c:p)
 (a:Rl P n ops K rest (fZ f o.dst undef) w):Rl P n ops K (o::rest) f w:=
 IF h e (by rw[b,decide_eq_true c]) d F a
theorem K1{l:List Oper}{i k:Nat}{a:List (Nat×Nat)}{j:Nat}{t:Tmp}{p:Prop}{b:Decidable p}(e:l[i]?=some o)(h:o.guard=some (j,true))(m:(l[j]?).bind (·.dst)=some t)(c:ev n f (.tmp t)=.bool (@decide p b))(g:Nat.blt t n=true)(d:p)
 (b:R1 P n S k o (Ro P n l.toArray S K a) f w):Ro P n l.toArray S K ((i,k)::a) f w:=
 ye e h m (by rw[c,decide_eq_true d]) g b
theorem Nq{l:List Oper}{i k:Nat}{a:List (Nat×Nat)}{j:Nat}{t:Tmp}{p:Prop}{b:Decidable p}(e:l[i]?=some o)(h:o.guard=some (j,true))(m:(l[j]?).bind (·.dst)=some t)(c:ev n f (.tmp t)=.bool (@decide p b))(g:Nat.blt t n=true)(d:¬p)
 (b:Ro P n l.toArray S K a (fZ f o.dst undef) w):Ro P n l.toArray S K ((i,k)::a) f w:=
 CL e h m (by rw[c,decide_eq_false d]) g F b
theorem K2{l:List Oper}{i k:Nat}{a:List (Nat×Nat)}{j:Nat}{t:Tmp}{p:Prop}{b:Decidable p}(e:l[i]?=some o)(h:o.guard=some (j,false))(m:(l[j]?).bind (·.dst)=some t)(c:ev n f (.tmp t)=.bool (@decide p b))(g:Nat.blt t n=true)(d:¬p)
 (b:R1 P n S k o (Ro P n l.toArray S K a) f w):Ro P n l.toArray S K ((i,k)::a) f w:=
 ye e h m (by rw[c,decide_eq_false d]) g b
theorem Nr{l:List Oper}{i k:Nat}{a:List (Nat×Nat)}{j:Nat}{t:Tmp}{p:Prop}{b:Decidable p}(e:l[i]?=some o)(h:o.guard=some (j,false))(m:(l[j]?).bind (·.dst)=some t)(c:ev n f (.tmp t)=.bool (@decide p b))(g:Nat.blt t n=true)(d:p)
 (b:Ro P n l.toArray S K a (fZ f o.dst undef) w):Ro P n l.toArray S K ((i,k)::a) f w:=
 CL e h m (by rw[c,decide_eq_true d]) g F b
theorem IE{Q:Exit->Act->World->Prop}(e:∀f w,K f w->Q .normal (act n f) w):∀(l:List Oper) (f:Fr) (w:World),Rl P n ops K l f w->wpList P ops Q l (act n f) w:=by
 intro l;induction l with
 |nil=>intro f w h;exact e f w h
 |cons o rest b=>
  intro f w h;unfold Rl at h;unfold wpList;change (if Region.wanted o (yielded ops (act n f).tmps)=true then _ else _)at h;split
  ·rename_i a;rw[ab a]at h;refine .inl (Oper.wp_mono (λj c g=>?_) (lA rh (h.wp aq)));obtain⟨i,rfl,_,d⟩:=g;exact b i c d
  ·rename_i a;rw[aa a]at h;rw[iC];exact b _ _ h
end
def np(ops:Array Oper)(j:Nat):Nat->Oper->Bool
 |0,o=>o.after.any λe=>Region.binds .any e&&e.on == j
 |d+1,o=>o.after.any λe=>Region.binds .any e&&(e.on == j || match ops[e.on]? with|none=>false|some u=>np ops j d u)
def waits(ops:Array Oper)(o:Oper)(j:Nat):Bool:=np ops j 4 o
theorem rk{ops:Array Oper}{j:Nat}:∀{d:Nat} {o:Oper},np ops j d o=true->
 ∃e∈o.after,Region.binds .any e=true/\(e.on=j\/∃u,ops[e.on]?=some u/\∃g,g<d/\np ops j g u=true):=by
 intro d o h;cases d with
 |zero=>
  unfold np at h;obtain⟨e,b,a⟩:=Array.any_eq_true'.1 h;simp only[Bool.and_eq_true,beq_iff_eq]at a;exact⟨e,b,a.1,.inl a.2⟩
 |succ d=>
  unfold np at h;obtain⟨e,b,a⟩:=Array.any_eq_true'.1 h;simp only[Bool.and_eq_true,Bool.or_eq_true,beq_iff_eq]at a;refine⟨e,b,a.1,a.2.imp id λc=>?_⟩;split at c
  ·cases c
  ·rename_i u i;exact⟨u,i,d,Nat.lt_succ_self d,c⟩
def LM(ops:Array Oper)(H:List Nat)(a:Array Bool)(i:Nat):Bool:=
 match ops[i]? with
 |none=>false
 |some o=>H.all λj=>!a.getD j false || waits ops o j
def lu(ops:Array Oper)(b:Array Bool):Prop:=∀(a:Nat) (u:Oper),ops[a]?=some u->b.getD a false=true->∀e∈u.after,Region.binds .any e=true->b.getD e.on false=true
theorem uk{ops:Array Oper}{b:Array Bool}{j:Nat}(l:lu ops b):∀(d:Nat) (a:Nat) (u:Oper),ops[a]?=some u->b.getD a false=true->np ops j d u=true->b.getD j false=true:=by
 intro d;induction d using Nat.strongRecOn with
 |_ d p=>
  intro a u s b h;obtain⟨e,d,r,g⟩:=rk h;have c:=l a u s b e d r;rcases g with g|⟨m,i,v,q,t⟩
  ·rw[g]at c;exact c
  ·exact p v q e.on m i c t
theorem Is{ops:Array Oper}{H:List Nat}{a:Array Bool}{i j:Nat}{o:Oper}(c:ops[i]?=some o)(b:LM ops H a i=true)(l:H.contains j=true)(g:a.getD j false=true):
 ∃e∈o.after,Region.binds .any e=true/\(e.on=j\/∃u,ops[e.on]?=some u/\∃d,np ops j d u=true):=by
 simp only[LM,c,List.all_eq_true]at b;have h:=b j (by simpa using l);rw[g]at h;simp only[Bool.not_true,Bool.false_or]at h;unfold waits at h;obtain⟨e,a,c,b⟩:=rk h;exact⟨e,a,c,b.imp id λ⟨u,a,d,_,h⟩=>⟨u,a,d,h⟩⟩
theorem nP(ops:Array Oper):lu ops (Array.replicate ops.size false):=λa u _ h=>by
 by_cases b:a<ops.size<;>simp[b]at h
theorem cM{ops:Array Oper}{b:Array Bool}{i:Nat}(h:lu ops b)(z:i∈Region.ready .any ops b):lu ops (b.setIfInBounds i true):=by
 have d:∀x,b.getD x false=true->(b.setIfInBounds i true).getD x false=true:=λx q=>by
  by_cases g:i=x
  ·subst g;have y:i<b.size:=by
    rcases Nat.lt_or_ge i b.size with c|c
    ·exact c
    ·simp[Array.getD,Nat.not_lt.2 c]at q
   simp[y]
  ·rw[getD_set_ne false g];exact q
 intro a u l r e s t;obtain⟨_,g,v,p⟩:=mem_ready.1 z;by_cases j:i=a
 ·subst j;rw[v]at l;cases l;have m:=p e s t;refine d _ ?_;rcases Nat.lt_or_ge e.on b.size with c|c
  ·simp[c]at m⊢;exact m
  ·simp[Array.getElem?_eq_none c]at m
 ·rw[getD_set_ne false j]at r;exact d _ (h a u l r e s t)
def I_(P:Program)(ops:Array Oper)(H:List Nat)(Q:Exit->Act->World->Prop)(S:World->World->Prop):Nat->Array Bool->Act->World->Prop
 |0,listed,a,w=>Region.ready .any ops listed=[]/\Q .normal a w
 |fuel+1,listed,a,w=>
  (Region.ready .any ops listed=[]->Q .normal a w)/\
  ∀i∈Region.ready .any ops listed,wpOp P ops Q i (λc b=>(LM ops H listed i=true\/b=w\/S w b)/\I_ P ops H Q S fuel (listed.setIfInBounds i true) c b) a w
section
variable {P:Program}{ops:Array Oper}{H:List Nat}{Q:Exit->Act->World->Prop}{S:World->World->Prop}
theorem Dv:∀(c:Nat) (b:Array Bool) (a:Act) (w:World),I_ P ops H Q S c b a w->wpAny P .any ops Q c b a w:=by
 intro c;induction c with
 |zero=>intro b a w h;exact h
 |succ c d=>intro b a w h;exact⟨h.1,λi b=>wpOp_mono (λe a c=>d _ e a c.2) (h.2 i b)⟩
theorem EH{j:Nat}{g i:Oper}{v:Value}(L:ops[j]?=some i)(J:g.apart ops i=true)
 (I:∀B b,g.op≠.select B b) (t:∀B b,i.op≠.select B b)
 (D:∀c a w,¬Q (.panic c) a w) {K:Act->World->Prop} {a:Act} {w:World} (h:wpOp P ops Q j K (a.put g.dst v) w):
 wpOp P ops Q j (λC y=>(execOp C.eval g=execOp a.eval g/\Region.wanted g (yielded ops C.tmps)=Region.wanted g (yielded ops a.tmps))/\K (C.put g.dst v) y) a w:=by
 obtain⟨A,p,E⟩:=Oper.apart_spec J;have dT:∀(l:Act) (u:Value),execOp (l.put i.dst u).eval g=execOp l.eval g/\Region.wanted g (yielded ops (l.put i.dst u).tmps)=Region.wanted g (yielded ops l.tmps):=λl u=>
  ⟨execOp_put g I l i.dst u E,wanted_put g l i.dst u E⟩
 unfold wpOp at*;simp only[L]at*;rw[wanted_put i a g.dst v A]at h;split
 ·rename_i z;simp only[z,if_true]at h;rcases h with h|⟨m,s⟩
  case inr=>exact .inr ⟨by unfold Oper.asks at *;rw[execOp_put i t a g.dst v A]at m;exact m,s⟩
  refine .inl ?_;unfold Oper.wp at*;rw[execOp_put i t a g.dst v A]at h;generalize (execOp a.eval i).run P w=r at*;cases r with
  |ok n y=>
   cases n<;>simp only[Oper.upon]at h⊢
   case value u=>exact⟨dT a u,by rw[<-Act.put_comm a v u p];exact h⟩
   case skip=>exact⟨dT a _,by rw[<-Act.put_comm a v undef p];exact h⟩
   case defer d=>
    refine⟨?_,?_⟩
    ·have:=dT { a with defers:=d::a.defers } undef;exact this
    ·rw[<-Act.put_comm _ v undef p,<-Act.put_defers];exact h
   case enter f args=>
    refine Calls.mono h λe G q=>?_;cases e with
    |returned u=>exact⟨dT a u,by rw[<-Act.put_comm a v u p];exact q⟩
    |panicked c=>exact absurd q (D _ _ _)
    |outgrown=>exact q
   case row row args=>exact Rows.mono h λu G q=>⟨dT a u,by rw[<-Act.put_comm a v u p];exact q⟩
  |halt x y=>
   cases x<;>simp only[Oper.upon]at h⊢
   case panic u=>exact absurd h (D _ _ _)
 ·rename_i z;simp only[z]at h;exact⟨dT a _,by rw[<-Act.put_comm a v undef p];exact h⟩
def YS(P:Program)(ops:Array Oper)(S:World->World->Prop)(o:Oper)(v:Value)(a:Act)(w:World):Prop:=
 (Region.wanted o (yielded ops a.tmps)=true/\∀b,S w b\/b=w->(execOp a.eval o).run P b=.ok (.value v) b)\/
 (Region.wanted o (yielded ops a.tmps)=false/\v=undef)
theorem YS.wpOp{i:Nat}{o:Oper}{v:Value}{a:Act}{w:World}(e:ops[i]?=some o)(c:YS P ops S o v a w)
 {K:Act->World->Prop} (h:K (a.put o.dst v) w):wpOp P ops Q i K a w:=by
 unfold Go.wpOp;simp only[e];rcases c with⟨b,d⟩|⟨b,rfl⟩
 ·simp only[b,if_true,Oper.wp,d w (.inr F),Oper.upon];exact .inl h
 ·simp only[b,Bool.false_eq_true,if_false];exact h
theorem YS.later(l:∀a b c,S a b->S b c->S a c){o:Oper}{v:Value}{a b:Act}{w w':World}(g:YS P ops S o v a w)(e:w'=w\/S w w')
 (j:execOp b.eval o=execOp a.eval o) (i:Region.wanted o (yielded ops b.tmps)=Region.wanted o (yielded ops a.tmps)):YS P ops S o v b w':=by
 unfold YS at*;rw[j,i];rcases g with⟨p,m⟩|h
 ·refine .inl ⟨p,λb d=>m b ?_⟩;rcases e with rfl|e
  ·exact d
  ·rcases d with d|rfl
   ·exact .inl (l _ _ _ e d)
   ·exact .inl e
 ·exact .inr h
theorem ja{z:World->World->Prop}(hT:∀a b c,z a b->z b c->z a c)(ak:∀a b,S a b->z a b){i:Nat}(I:H.contains i=true\/∀a b,z a b){D:Oper}{v:Value}(hi:ops[i]?=some D)(R:∀(j:Nat) (o:Oper) M b,ops[j]?=some o->o.op≠.select M b)
 (hQ:∀c a w,¬Q (.panic c) a w):
 ∀(p:Nat) (g:Array Bool) (a:Act) (w:World),g.size=ops.size->lu ops g->
  (∀j t,ops[j]?=some t->j≠i->g.getD j true=false->(∀e∈t.after,Region.binds .any e=true->e.on≠i)->D.apart ops t=true)->
  i∈Region.ready .any ops g->YS P ops z D v a w->
  I_ P ops H Q S p (g.setIfInBounds i true) (a.put D.dst v) w->I_ P ops H Q S (p+1) g a w:=by
 have A:i<ops.size:=(Array.getElem?_eq_some_iff.1 hi).1;intro p;induction p with
 |zero=>
  intro g a w _ _ _ r Y N;refine⟨λh=>(by rw[h]at r;cases r),λj G=>?_⟩;by_cases l:j=i
  ·subst l;exact Y.wpOp hi ⟨.inr (.inl F),N⟩
  ·have:=ready_mono G l;rw[N.1]at this;cases this
 |succ p ih=>
  intro g a w B ae C r Y N;refine⟨λh=>(by rw[h]at r;cases r),λj G=>?_⟩;by_cases l:j=i
  ·subst l;exact Y.wpOp hi ⟨.inr (.inl F),N⟩
  ·have m:=N.2 j (ready_mono G l);obtain⟨U,t,s,V⟩:=mem_ready.1 G;have T:∀e∈t.after,Region.binds .any e=true->e.on≠i:=λe E q O=>by
    have m:=V e E q;have L:=(mem_ready.1 r).1;rw[O]at m;rcases Nat.lt_or_ge i g.size with y|y
    ·simp[y]at L m;rw[L]at m;cases m
    ·simp[Array.getElem?_eq_none y]at m
   have h2:=EH s (C j t s l U T) (λM b=>R i D M b hi) (λM b=>R j t M b s) hQ m;have W:∀k ok,ops[k]?=some ok->k≠i->(g.setIfInBounds j true).getD k true=false->
    (∀e∈ok.after,Region.binds .any e=true->e.on≠i)->D.apart ops ok=true:=λk ok c b a7 a=>by
    refine C k ok c b ?_ a;by_cases a8:j=k
    ·subst a8;exact U
    ·rw[getD_set_ne true a8]at a7;exact a7
   refine wpOp_mono (λa' X J=>?_) h2;obtain⟨⟨E,hw⟩,Z,h4⟩:=J;have aj:X=w\/z w X:=by
    rcases I with I|I
    ·rcases Z with q|ai|Z
     ·exfalso;have a:(g.setIfInBounds i true).getD i false=true:=by simp[B,A]
      obtain⟨e,E,q,O|⟨u,hu,d,hd⟩⟩:=Is s q I a
      ·exact T e E q O
      ·have m:=V e E q;have h2:g.getD e.on false=true:=by
        rcases Nat.lt_or_ge e.on g.size with y|y
        ·simp[y]at m⊢;exact m
        ·simp[Array.getElem?_eq_none y]at m
       have J:=uk ae d e.on u hu h2 hd;have L:=(mem_ready.1 r).1;have a:i<g.size:=by rw[B];exact A
       simp[a]at L J;rw[L]at J;cases J
     ·exact .inl ai
     ·exact .inr (ak _ _ Z)
    ·exact .inr (I w X)
   have a1:LM ops H (g.setIfInBounds i true) j=true->LM ops H g j=true:=λq=>by
    simp only[LM,s,List.all_eq_true]at q⊢;intro x a;have:=q x a;simp only[Bool.or_eq_true,Bool.not_eq_true']at this⊢;rcases this with h|h
    ·left;by_cases a6:i=x
     ·subst a6;simp[B,A]at h
     ·rw[getD_set_ne false a6]at h;exact h
    ·exact .inr h
   refine⟨Z.imp a1 id,ih (g.setIfInBounds j true) a' X (by simp[B]) (cM ae G) W (ready_mono r (Ne.symm l)) (Y.later hT aj E hw) ?_⟩;rw[Array.setIfInBounds_comm _ _ l];exact h4
def uh(a:List (Nat×Nat)):List Nat:=a.filterMap λq=>if q.2=0 then some q.1 else none
def jI(ops:Array Oper)(H:List Nat):List (Nat×Nat)->Array Bool->Bool
 |[],listed=>(Region.ready .any ops listed).isEmpty
 |(i,0)::rest,listed=>(Region.ready .any ops listed).contains i&&Region.free .any ops listed i&&H.contains i&&jI ops H rest (listed.setIfInBounds i true)
 |(i,1)::rest,listed=>Region.ready .any ops listed == [i]&&jI ops H rest (listed.setIfInBounds i true)
 |(i,2)::rest,listed=>Region.ready .any ops listed == [i]&&LM ops H listed i&&jI ops H rest (listed.setIfInBounds i true)
 |(i,3)::rest,listed=>(Region.ready .any ops listed).contains i&&Region.free .any ops listed i&&jI ops H rest (listed.setIfInBounds i true)
 |(_,_+4)::_,_=>false
theorem nZ:∀a b c:World,(λ_ _:World=>True) a b->(λ_ _:World=>True) b c->(λ_ _:World=>True) a c:=λ_ _ _ _ _=>trivial
def QK(n:Nat)(K:Fr->World->Prop):Exit->Act->World->Prop
 |.normal,a,w=>∃f,a=act n f/\K f w
 |_,_,_=>False
theorem A7{n:Nat}{K:Fr->World->Prop}(I:∀a b c,S a b->S b c->S a c)(t:Region.noSelect ops=true):
 ∀(a:List (Nat×Nat)) (e:Array Bool) (f:Fr) (w:World),e.size=ops.size->lu ops e->jI ops H a e=true->Ro P n ops S K a f w->
  I_ P ops H (QK n K) S a.length e (act n f) w:=by
 intro a;induction a with
 |nil=>
  intro e f w _ _ d h;exact⟨by simpa[jI]using d,⟨f,F,h⟩⟩
 |cons J rest u=>
  obtain⟨i,k⟩:=J;intro e f w g l d h;unfold Ro at h;obtain⟨o,s,h⟩:=h;have r:∀v,(act n f).put o.dst v=act n (fZ f o.dst v):=iC n f o.dst
  match k,d with
  |0,d=>
   simp only[jI,Bool.and_eq_true]at d;obtain⟨⟨⟨D,q⟩,a⟩,d⟩:=d;have p:i∈Region.ready .any ops e:=by simpa using D
   by_cases m:want n ops f o=true
   ·rw[ab m]at h;unfold R1 at h;rw[ab F]at h;obtain⟨v,C,y⟩:=h;refine ja I (λ_ _ h=>h) (.inl a) s (Region.noSelect_spec t) (λ_ _ _ h=>h) _ e (act n f) w g l (Region.free_spec s q) p (v:=v) (.inl ⟨m,λA B=>?_⟩) ?_
    ·rw[cO];exact C A B
    ·rw[r];exact u _ _ _ (by simp[g]) (cM l p) d y
   ·rw[aa m]at h;refine ja I (λ_ _ h=>h) (.inl a) s (Region.noSelect_spec t) (λ_ _ _ h=>h) _ e (act n f) w g l (Region.free_spec s q) p (v:=undef) (.inr ⟨by simpa[want]using m,F⟩) ?_;rw[r];exact u _ _ _ (by simp[g]) (cM l p) d h
  |1,d=>
   simp only[jI,Bool.and_eq_true,beq_iff_eq]at d;refine⟨λE=>by simp[E]at d,λj z=>?_⟩;have x:=z;rw[d.1]at z;obtain rfl:j=i:=by simpa using z
   unfold Go.wpOp;simp only[s];change (if want n ops f o=true then _ else _);by_cases m:want n ops f o=true
   ·rw[ab m]at h⊢;refine .inl (Oper.wp_mono (λM A G=>?_) (lA rh (h.wp aq)));obtain⟨L,rfl,B,y⟩:=G;exact⟨.inr (B.resolve_left aq),u _ _ _ (by simp[g]) (cM l x) d.2 y⟩
   ·rw[aa m]at h⊢;exact⟨aA,by rw[r];exact u _ _ _ (by simp[g]) (cM l x) d.2 h⟩
  |2,d=>
   simp only[jI,Bool.and_eq_true,beq_iff_eq]at d;refine⟨λE=>by simp[E]at d,λj z=>?_⟩;have x:=z;rw[d.1.1]at z;obtain rfl:j=i:=by simpa using z
   unfold Go.wpOp;simp only[s];change (if want n ops f o=true then _ else _);by_cases m:want n ops f o=true
   ·rw[ab m]at h⊢;refine .inl (Oper.wp_mono (λM A G=>?_) (lA rh (h.wp aq)));obtain⟨L,rfl,B,y⟩:=G;exact⟨.inl d.1.2,u _ _ _ (by simp[g]) (cM l x) d.2 y⟩
   ·rw[aa m]at h⊢;exact⟨.inl d.1.2,by rw[r];exact u _ _ _ (by simp[g]) (cM l x) d.2 h⟩
  |3,d=>
   simp only[jI,Bool.and_eq_true]at d;obtain⟨⟨D,q⟩,d⟩:=d;have p:i∈Region.ready .any ops e:=by simpa using D
   by_cases m:want n ops f o=true
   ·rw[ab m]at h;unfold R1 at h;rw[aa aw,ab F]at h;obtain⟨v,C,y⟩:=h;refine ja nZ (λ_ _ _=>trivial) (.inr λ_ _=>trivial) s (Region.noSelect_spec t) (λ_ _ _ h=>h) _ e (act n f) w g l (Region.free_spec s q) p (v:=v) (.inl ⟨m,λA B=>?_⟩) ?_
    ·rw[cO];exact C A
    ·rw[r];exact u _ _ _ (by simp[g]) (cM l p) d y
   ·rw[aa m]at h;refine ja nZ (λ_ _ _=>trivial) (.inr λ_ _=>trivial) s (Region.noSelect_spec t) (λ_ _ _ h=>h) _ e (act n f) w g l (Region.free_spec s q) p (v:=undef) (.inr ⟨by simpa[want]using m,F⟩) ?_;rw[r];exact u _ _ _ (by simp[g]) (cM l p) d h
  |_+4,d=>simp[jI]at d
end
def LG(n:Nat)(Q:Exit->Fr->World->Prop):Exit->Act->World->Prop:=λe a w=>∃f,a=act n f/\Q e f w
def W(P:Program)(n:Nat)(c:Code)(Q:Exit->Fr->World->Prop)(f:Fr)(w:World):Prop:=c.wp P (LG n Q) (act n f) w
def lE(next:Fr->World->Prop)(Q:Exit->Fr->World->Prop):Exit->Fr->World->Prop
 |.normal,f,w=>next f w
 |e,f,w=>Q e f w
def j3(id:Nat)(Q:Exit->Fr->World->Prop):Exit->Fr->World->Prop
 |.exit id',f,w=>if id'=id then Q .normal f w else Q (.exit id') f w
 |e,f,w=>Q e f w
section
variable {P:Program}{n:Nat}{Q:Exit->Fr->World->Prop}{f:Fr}{w:World}
theorem aN{x y:Code}(h:W P n x (lE (W P n y Q) Q) f w):W P n (.seq x y) Q f w:=by
 unfold W at*;refine wp_seq (Code.wp_mono (λe a w b=>?_) h);obtain⟨f,rfl,b⟩:=b;cases e<;>first|exact b|exact⟨f,rfl,b⟩
theorem aY{x y:Code}(M:Fr->World->Prop)(h1:W P n x (lE M Q) f w)(c:∀f w,M f w->W P n y Q f w):W P n (.seq x y) Q f w:=by
 refine aN (Code.wp_mono (λe a w b=>?_) h1);obtain⟨f,rfl,b⟩:=b;cases e with
 |normal=>exact⟨f,rfl,c f w b⟩
 |_=>exact⟨f,rfl,b⟩
theorem CI(h:Q .normal f w):W P n .skip Q f w:=wp_skip ⟨f,F,h⟩
theorem Iy{id:Nat}(h:Q (.exit id) f w):W P n (.exit id) Q f w:=wp_exit ⟨f,F,h⟩
theorem Ok(h:Q .ret f w):W P n .ret Q f w:=wp_ret ⟨f,F,h⟩
theorem mO{id:Nat}{c:Code}(h:W P n c (j3 id Q) f w):W P n (.block id c) Q f w:=by
 unfold W at*;refine wp_block (Code.wp_mono (λe a w b=>?_) h);obtain⟨f,rfl,b⟩:=b;cases e with
 |exit id'=>
  simp only[j3,Exit.inBlock]at b⊢;split
  ·rename_i h;rw[ab h]at b;exact⟨f,F,b⟩
  ·rename_i h;rw[aa h]at b;exact⟨f,F,b⟩
 |_=>exact⟨f,rfl,b⟩
theorem tF{c:Operand}{x y:Code}{t:Bool}(d:ev n f c=.bool t)(a:t=true->W P n x Q f w)(b:t=false->W P n y Q f w):W P n (.cond c x y) Q f w:=
 wp_cond_split (by rw[cO];exact d) a b
theorem x8{c:Operand}{x y:Code}(b:ev n f c=.bool true)(a:W P n x Q f w):W P n (.cond c x y) Q f w:=tF b (λ_=>a) (λh=>by cases h)
theorem sc{c:Operand}{x y:Code}(b:ev n f c=.bool false)(a:W P n y Q f w):W P n (.cond c x y) Q f w:=tF b (λh=>by cases h) (λ_=>a)
theorem Iz{c:Operand}{x y:Code}{p:Prop}{a:Decidable p}(d:ev n f c=.bool (@decide p a))(b:p)(a:W P n x Q f w):W P n (.cond c x y) Q f w:=
 x8 (by rw[d,decide_eq_true b]) a
theorem IA{c:Operand}{x y:Code}{p:Prop}{a:Decidable p}(d:ev n f c=.bool (@decide p a))(a:¬p)(b:W P n y Q f w):W P n (.cond c x y) Q f w:=
 sc (by rw[d,decide_eq_false a]) b
theorem KY{id:Nat}{x y z:Code}(h:W P n (.seq x y) (j3 id (lE (W P n z Q) Q)) f w):W P n (.seq (.block id (.seq x y)) z) Q f w:=aN (mO h)
theorem KX{id i:Nat}{ops:Array Oper}{b:Bool}{z:Code}(h:W P n (.region i ops b) (j3 id (lE (W P n z Q) Q)) f w):W P n (.seq (.block id (.region i ops b)) z) Q f w:=aN (mO h)
theorem KW{id id':Nat}{c z:Code}(h:W P n (.block id' c) (j3 id (lE (W P n z Q) Q)) f w):W P n (.seq (.block id (.block id' c)) z) Q f w:=aN (mO h)
theorem KU{c:Operand}{y z:Code}{p:Prop}{a:Decidable p}(b:ev n f c=.bool (@decide p a))(a:p)(h:W P n z Q f w):W P n (.seq (.cond c .skip y) z) Q f w:=
 aN (Iz b a (CI h))
theorem KV{c:Operand}{x z:Code}{id:Nat}{p:Prop}{a:Decidable p}(b:ev n f c=.bool (@decide p a))(a:¬p)(h:Q (.exit id) f w):W P n (.seq (.cond c x (.exit id)) z) Q f w:=
 aN (IA b a (Iy h))
theorem aU{c:Code}(I:Nat->Fr->World->Prop)(b:Nat)(h₀:I b f w)
 (i:∀m f w,I m f w->W P n c (lE (λh j=>∃d,d<m/\I d h j) Q) f w):W P n (.loop c) Q f w:=by
 unfold W;refine wp_loop_ghost (λm a w=>∃f,a=act n f/\I m f w) b ⟨f,rfl,h₀⟩ ?_;rintro m a w ⟨f,rfl,b⟩;refine Code.wp_mono (λe a w g=>?_) (i m f w b);obtain⟨h,rfl,g⟩:=g;cases e with
 |normal=>obtain⟨d,b,a⟩:=g;exact⟨d,b,h,F,a⟩
 |_=>exact⟨h,rfl,g⟩
theorem A4{id:Nat}{l:List Oper}(h:Rl P n l.toArray (λf w=>Q .normal f w) l f w):W P n (.region id l.toArray false) Q f w:=
 wp_region_lit (IE (λf _ h=>⟨f,rfl,h⟩) l f w h)
theorem tE{id:Nat}{ops:Array Oper}(S:World->World->Prop)(e:∀a b c,S a b->S b c->S a c)(c:List (Nat×Nat))(i:P.follows .mixedOrders=true)
 (b:(c.length == ops.size&&Region.noSelect ops&&jI ops (uh c) c (Array.replicate ops.size false))=true)
 (h:Ro P n ops S (λf w=>Q .normal f w) c f { w with drawn:=w.drawn+1 }):W P n (.region id ops true) Q f w:=by
 simp only[Bool.and_eq_true,beq_iff_eq]at b;have g:=A7 (n:=n) e b.1.2 c _ f _ aA (nP ops) b.2 h;rw[b.1.1]at g;refine Code.wp_mono (λe a w d=>?_) (wp_region_any i (Dv _ _ _ _ g));cases e<;>first|exact d|exact d.elim
theorem KH{g:FuncId}{b:Func}{c:Code}{args:Array Value}{R:Ending->World->Prop}(a:P.funcs[g]?=some b)(l:b.body=some c)(j:b.ntmps=n)(m:args.size<=n)
 (h:W P n c (λe f w=>bodyPost P b R e (act n f) w) (λi=>args.getD i undef) w):Calls P g args w R:=by
 refine calls_of_wp a l (Code.wp_mono (Q:=LG n λe f w=>bodyPost P b R e (act n f) w) (λe a w d=>?_) ?_)
 ·obtain⟨f,rfl,d⟩:=d;exact d
 ·have e:({ tmps:=args++Array.replicate (b.ntmps-args.size) undef,defers:=[] }:Act)=act n (λi=>args.getD i undef):=by
   unfold act;congr 1;apply Array.ext_getElem?;intro i;rw[j];by_cases a:i<args.size
   ·have:i<n:=aq;simp[Array.getElem?_append,a,this]
   ·by_cases b:i<n
    ·have:i-args.size<n-args.size:=aq;simp[Array.getElem?_append,a,b,this]
    ·have:¬i-args.size<n-args.size:=aq;simp[Array.getElem?_append,a,b,this]
  rw[e];exact h
end
section
variable {Q:Exit->Fr->World->Prop}{next:Fr->World->Prop}{id id':Nat}{f:Fr}{w:World}
theorem kg:(λf w=>lE next Q .normal f w)=next:=F
theorem tG(h:next f w):lE next Q .normal f w:=h
theorem Nk(h:Q (.exit id) f w):lE next Q (.exit id) f w:=h
theorem Oq(h:Q .ret f w):lE next Q .ret f w:=h
theorem I5(h:Q .normal f w):j3 id Q .normal f w:=h
theorem OB(h:Q .ret f w):j3 id Q .ret f w:=h
theorem Nz(h:Q .normal f w):j3 id Q (.exit id) f w:=by simp[j3,h]
theorem Lq(a:Nat.beq id' id=false)(h:Q (.exit id') f w):j3 id Q (.exit id') f w:=by
 have:id'≠id:=λe=>by rw[e,Nat.beq_refl]at a;cases a
 simp[j3,this,h]
end
attribute [irreducible] W R1 Rl Ro lE j3
