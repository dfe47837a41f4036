import Derived.Test.YtmfndnlifgphjaaGreatQzk
import Derived.Laws.CopyRow
set_option maxHeartbeats 64000000
open Go.Proofs.YtmfndnlifgphjaaGreat
namespace Go.Proofs.Qq
section
open Go Go.cU Go.cV Go.Proofs
def I_(w:World)(v:Value)(c:Nat)(g:Nat->Int):Prop:=
 ∃A a,v=.slice A c a/\c<=a/\a<9223372036854775808/\∀j,j<c->∃a,A=some a/\w.cell? (a.add (j*1))=some (.int .i64 (g j))/\-9223372036854775808<=g j/\g j<9223372036854775808
def Hr(w:World)(v:Value)(r:Nat)(b:Nat->Nat)(M:Nat->Nat->Int):Prop:=
 ∃A a,v=.slice A r a/\r<=a/\a<9223372036854775808/\∀i,i<r->∃a u,A=some a/\w.cell? (a.add (i*1))=some u/\I_ w u (b i) (M i)
theorem CD{z:Int}(h1:-9223372036854775808<=z)(a:z<9223372036854775808):Bd 2 z:=by
 unfold Bd;have:B^2=18446744073709551616:=ar;omega
theorem ss(v:Value)(r:Nat)(c:Nat->Nat)(M:Nat->Nat->Int)(w:World)(h:Hr w v r c M):
 aT Tryz.prog 72 #[v] w (tj w (l_ r c) r (c 0) M):=by
 obtain⟨A,z,rfl,A,A,C⟩:=h;refine bF (n:=78) Tryz.func72 F rfl aw aA ?_;refine gg ?_;refine aP ?_;have B:∀l,¬l_ r c=true->Ext w l->tj w (l_ r c) r (c 0) M (.tuple #[.slice none 0 0,.bool false]) l:=λl D o=>by unfold tj;rw[aa D];exact⟨o,F⟩
 by_cases A:r<1
 ·refine gg ?_;exact fK (v:=.slice _ _ _) (v':=.bool _) F rfl rfl (B _ (λe=>by have:=cX.1 e;omega) (Ext.refl _))
 by_cases A:16<r
 ·refine gg ?_;exact fK (v:=.slice _ _ _) (v':=.bool _) F rfl rfl (B _ (λe=>by have:=cX.1 e;omega) (Ext.refl _))
 obtain⟨s,u,rfl,Y,L⟩:=C 0 aq;obtain⟨A0,K,rfl,A⟩:=id L;have A:w.cell? (s.add (((0:Nat):Nat)*1))=some (.slice A0 (c 0) K):=Y;refine gg ?_;refine aX (λf l=>w=l/\f 0=.slice (some s) r z/\l_ r c=true) ?_ ?_
 ·refine gg ?_;refine aU (λm f l=>w=l/\∃i,m=r-i/\i<=r/\f 0=.slice (some s) r z/\f 17=.slice (some s) r z/\f 18=.int .i64 (r:Int)/\f 19=.int .i64 ((i:Nat):Int)/\∀k,k<i->c k=c 0/\1<=c 0/\c 0<=16)
   r ⟨F,0,F,aE,F,F,F,F,λk G=>absurd G aq⟩ ?_
  rintro m f l ⟨rfl,i,rfl,Z,g,L,K,A,G⟩;rw[ui g,ui L,ui K,ui A];clear g L K A;by_cases d:i<r
  ·obtain⟨J,u,e,P,Ai,V,rfl,I⟩:=C i d;obtain rfl:s=J:=Option.some.inj e;by_cases Q:c i<1
   ·refine gg ?_;exact fK (v:=.slice _ _ _) (v':=.bool _) F rfl rfl (B _ (λe=>by have a:=cX.1 e;have b:=a.2 i d;omega) (Ext.refl _))
   by_cases D:16<c i
   ·refine gg ?_;exact fK (v:=.slice _ _ _) (v':=.bool _) F rfl rfl (B _ (λe=>by have a:=cX.1 e;have b:=a.2 i d;omega) (Ext.refl _))
   by_cases W:c i=c 0
   ·refine gg ?_;refine⟨_,?_,F,i+1,F,aq,F,F,F,F,λk S=>?_⟩
    ·omega
    ·rcases Nat.lt_succ_iff_lt_or_eq.1 S with h|h
     ·exact G k h
     ·rw[h];omega
   ·refine gg ?_;exact fK (v:=.slice _ _ _) (v':=.bool _) F rfl rfl (B _ (λe=>W ((cX.1 e).2 i d)) (Ext.refl _))
  ·refine gg ?_;have:=G 0 aq;exact⟨F,F,cX.2 ⟨⟨aq,aq,aq,aq⟩,λk S=>(G k aq).1⟩⟩
 ·rintro f l ⟨rfl,g,R⟩;rw[ui g];clear g;obtain⟨⟨_,_,A,k⟩,hlen⟩:=cX.1 R;refine gg ?_;refine aJ (Dr r (c 0) w aq aq) ?_;rintro _ O ⟨o,H,gs,rfl,hg,U,k⟩;refine gg ?_;refine aP ?_;refine gg ?_;refine aU (λm f l=>∃i,m=r-i/\i<=r/\f 0=.slice (some s) r z/\f 6=.slice (some ⟨H,0,none⟩) r r/\f 49=.int .i64 (r:Int)/\f 50=.int .i64 ((i:Nat):Int)/\
   Ext w l/\fk l H gs r (c 0) true (λ_ _=>2) λa b=>if a<i then M a b else 0)
   r ⟨0,F,aE,F,F,F,F,o,(k.wm true (N:=2) λ_ _ _ _=>Bd.zero 2).congr λi j _ _=>⟨aD,aA⟩⟩ ?_
  clear k o O;rintro m f O ⟨i,rfl,Z,g,t,q,p,o,E⟩;rw[ui g,ui t,ui q,ui p];clear g t q p;by_cases d:i<r
  ·obtain⟨J,u,e,P,Ai,V,rfl,X,k,I⟩:=C i d;obtain rfl:s=J:=Option.some.inj e;rw[hlen i d]at P X I;have k:=aS o P;refine gg ?_;refine aU (λm f l=>∃j,m=c 0-j/\j<=c 0/\f 0=.slice (some s) r z/\f 6=.slice (some ⟨H,0,none⟩) r r/\f 7=.int .i64 (i:Int)/\f 49=.int .i64 (r:Int)/\f 50=.int .i64 (i:Int)/\
    f 57=.int .i64 ((c 0:Nat):Int)/\f 58=.int .i64 (j:Int)/\Ext w l/\fk l H gs r (c 0) true (λ_ _=>2) λa b=>if a<i\/a=i/\b<j then M a b else 0)
    (c 0) ⟨0,F,aE,F,F,F,F,F,F,F,o,E.congr (λa b _ _=>⟨aD,by by_cases e:a<i<;>simp[e]⟩)⟩ ?_
   clear E o k O;rintro m f O ⟨j,rfl,f,g,t,l,q,p,k,f,o,E⟩;rw[ui g,ui t,ui l,ui q,ui p,ui k,ui f];clear g t l q p k f;by_cases T:j<c 0
   ·obtain⟨c,rfl,m,l,k⟩:=I j T;refine gg ?_;refine c8 [(0,3),(1,3),(2,3),(3,0),(4,3),(5,3),(6,3),(7,3),(8,0),(9,3),(10,3),(11,0),(12,1),(13,3),(14,2)] mixed aw λc f _=>?_;have g:=E.Y f;have p:=g.at d;have p:=aS (o.trans f) P;have BG:=aS (o.trans f) m;refine gg ?_;refine aM (iy (M i j) c l k) ?_;rintro _ c ⟨c,x,y,rfl,m⟩;refine⟨c,?_⟩;refine gg ?_;refine dW (.inl F) F rfl ((g.Y c).row i d) T (m.ev true (N:=2) (CD l k)) ?_;intro k p k l m;have m:=(g.Y c).put d p k l;refine gg ?_;have g:=U i d;refine⟨_,?_,j+1,F,aq,F,F,F,F,F,F,F,k.aK (o.trans (f.trans c)) λb D=>aq,m.congr λa b Q D=>⟨?_,?_⟩⟩
    ·omega
    ·unfold dM;split<;>exact Nat.le_refl _
    ·simp only[dM];by_cases e:a=i/\b=j
     ·obtain⟨rfl,rfl⟩:=e;rw[ae ⟨F,F⟩,ae aq]
     ·rw[aa e];by_cases c:a<i\/a=i/\b<j
      ·rw[ae c,ae aq]
      ·rw[aa c,aa aq]
   ·refine gg ?_;refine⟨_,?_,i+1,F,aq,F,F,F,F,o,E.congr λa b Q D=>⟨aD,?_⟩⟩
    ·omega
    ·by_cases c:a<i+1
     ·rw[ae c,ae aq]
     ·rw[aa c,aa aq]
  ·refine gg ?_;have:i=r:=aq;subst this;refine fK (v:=.slice _ _ _) (v':=.bool _) F rfl rfl ?_;unfold tj;rw[ae R];exact⟨_,F,o,H,gs,F,hg,U,(E.congr (bn':=λ_ _=>2) (M':=M) (λa b Q D=>⟨aD,by rw[ae Q]⟩)).o⟩
def Hz(w:World)(ok:Bool)(r c:Nat)(M:Nat->Nat->Int)(v:Value)(w':World):Prop:=
 if ok then RM w r c M v w' else Ext w w'/\v=.slice none 0 0
theorem Hz.get{w:World}{ok:Bool}{r c:Nat}{M:Nat->Nat->Int}{v:Value}{w':World}(h:Hz w ok r c M v w')(a:ok=true):RM w r c M v w':=by unfold Hz at h;rwa[ae a]at h
theorem tj.get{w:World}{ok:Bool}{r c:Nat}{M:Nat->Nat->Int}{v:Value}{w':World}(h:tj w ok r c M v w')(a:ok=true):∃u,v=.tuple #[u,.bool true]/\RM w r c M u w':=by unfold tj at h;rwa[ae a]at h
theorem Gs(v:Value)(r:Nat)(a:Nat->Nat)(M:Nat->Nat->Int)(w:World)(h:Hr w v r a M):
 aT Tryz.prog 44 #[v] w (Hz w (l_ r a) r (a 0) M):=by
 refine bF (n:=11) Tryz.func44 F rfl aw aA ?_;refine gg ?_;refine aJ (ss v r a M w h) ?_;intro g g c;unfold tj at c;by_cases b:l_ r a=true
 ·rw[ae b]at c;obtain⟨u,rfl,d,f,e,rfl,a⟩:=c;refine gg ?_;refine cI (v:=.slice _ _ _) F rfl ?_;unfold Hz;rw[ae b];exact⟨d,f,e,F,a⟩
 ·rw[aa b]at c;obtain⟨d,rfl⟩:=c;refine gg ?_;refine cI (v:=.slice _ _ _) F rfl ?_;unfold Hz;rw[aa b];exact⟨d,F⟩
section
variable {n:Nat}{S:World->World->Prop}{k:Nat}{K:Fr->World->Prop}{f:Fr}{w:World}
 {d ty t t2:Nat} {x y:Operand} {pos:String} {aft:Array Edge} {gd:Option (Nat×Bool)}
theorem gz(w:World)(g:Nat)(cs:Array Value):Ch (λb=>b=g) w (w.setRow g cs):=
 ⟨F,F,F,by simp[World.setRow],λb _ a=>setRow_other w g b cs a⟩
theorem v8{g c N:Nat}{cn:Bool}{bn:Nat->Nat}{M0 M:Nat->Int}{u:Value}(O:ev n f x=.slice (some ⟨g,0,none⟩) c c)(L:ev n f y=u)(A:dk w g c cn bn M0)(T:iN (EI N) w u c M)(U:0<c)
 (h:∀w',dk w' g c false (λ_=>N) M->Ch (λb=>b=g) w w'->Kp w w'->w'.heap.size=w.heap.size->K (bS f d (.int .i64 (c:Int))) w'):
 R1 Tryz.prog n S 2 ⟨some d,.call { callee:=.builtin .copy,args:=#[x,y],argTypes:=#[27,27] },ty,pos,aft,gd⟩ K f w:=by
 obtain⟨E,H,J⟩:=A;obtain⟨A,u,rfl,u,u,u⟩:=T;obtain⟨B,_,_,rfl,_⟩:=u 0 U;have C:∀j,j<c->∃x y,w.cell? (B.add (j*2))=some x/\w.cell? (B.add (j*2+1))=some y/\IV w N x y (M j):=λj o=>by
  obtain⟨A,a,b,e,r,p,s⟩:=u j o;injection e with e;subst e;rw[add_add]at p;exact⟨a,b,r,p,s⟩
 let l:Nat->Value:=λk=>(w.cell? (B.add k)).getD undef;have D:∀k,k<c*2->w.cell? (B.add k)=some (l k)/\(l k).oneCell'=true:=λk z=>by
  obtain⟨a,b,r,p,s⟩:=C (k/2) aq;rcases Nat.mod_two_eq_zero_or_one k with u|u
  ·rw[show k/2*2=k by omega]at r;have:l k=a:=by simp[l,r]
   rw[this];exact⟨r,s.db⟩
  ·rw[show k/2*2+1=k by omega]at p;have:l k=b:=by simp[l,p]
   rw[this];exact⟨p,s.de⟩
 have I:=run_loadCells_list (P:=Tryz.prog) w B ((List.range (c*2)).map l) (λj v o=>by
  simp only[List.getElem?_map]at o;by_cases u:j<c*2
  ·rw[List.getElem?_range u]at o;simp at o;rw[<-o];exact(D j u).1
  ·rw[List.getElem?_eq_none (by simp;omega)]at o;simp at o)
 have G:=run_storeCells_at Tryz.prog g 0 35 ((List.range (c*2)).map l) 0 (arr (c*2) E) w H (by simp[bk]) (λv Q=>by
  obtain⟨k,z,rfl⟩:=List.mem_map.1 Q;exact(D k (by simpa using z)).2)
 have u:(((arr (c*2) E).toList.take (0+0)++(List.range (c*2)).map l++(arr (c*2) E).toList.drop (0+0+((List.range (c*2)).map l).length)).toArray)=arr (c*2) l:=by
  have:(arr (c*2) E).toList.drop (0+0+((List.range (c*2)).map l).length)=[]:=List.drop_eq_nil_of_le (by simp[bk]);rw[this];apply Array.ext_getElem?;intro i;by_cases q:i<c*2
  ·rw[b8 q];simp[q]
  ·simp[arr,q]
 rw[u]at G;have z:=cK H (js J).jn (gz w g (arr (c*2) l));obtain⟨R,m⟩:=eE;cases q:Tryz.prog.info? 35 with
 |none=>rw[q]at m;simp at m
 |some i=>
  rw[q]at m;simp at m;obtain⟨i,i,u⟩:=m;have m:Nat.min c c=c:=Nat.min_self c;simp only[List.length_map,List.length_range]at I;refine kJ (v:=.int .i64 (c:Int)) (w':=w.setRow g (arr (c*2) l)) (.inl F) ?_ (h _ ⟨l,setRow_heap w g _ _ _ _ H,λj o=>?_⟩ (gz _ _ _) z (by simp[World.setRow]))
  ·simp[execOp,resolve,invoke,builtin,O,L,Builtin.copy_,run_underlying R,Builtin.lenOf,Builtin.firstCells,sizeOf,typeInfo,q,i,I,G,goInt]
  ·obtain⟨a,b,r,p,s⟩:=C j o;have i:l (j*2)=a:=by simp[l,r]
   have a:l (j*2+1)=b:=by simp[l,p]
   rw[i,a];exact⟨s.kp z,λe=>by cases e⟩
end
def elim(k:Nat)(a:Int)(M:Nat->Nat->Int):Nat->Nat->Int:=λi j=>if k<i/\k<j then(M k k*M i j-M i k*M k j)/a else M i j
def swp{α:Type}(k p:Nat)(M:Nat->α):Nat->α:=λi=>if i=k then M p else if i=p then M k else M i
def fJ(n k:Nat)(M:Nat->Nat->Int):Nat->Nat->Nat
 |0,p=>p
 |fuel+1,p=>if p<n/\M p k=0 then fJ n k M fuel (p+1)else p
def cR(n k:Nat)(M:Nat->Nat->Int):Nat:=fJ n k M (n-k) k
def iL(n:Nat):Nat->Nat->(Nat->Nat->Int)->Bool->Int->Int
 |0,_,_,neg,last=>if neg then -last else last
 |m+1,k,M,neg,last=>
  if cR n k M=n then 0 else
   iL n m (k+1) (elim k last (swp k (cR n k M) M)) (neg != decide (cR n k M≠k)) (swp k (cR n k M) M k k)
def kU(n:Nat)(M:Nat->Nat->Int):Int:=iL n n 0 M false 1
theorem pS{n k:Nat}{M:Nat->Nat->Int}{p:Nat}(h:p<n/\M p k=0):fJ n k M (n-p) p=fJ n k M (n-(p+1)) (p+1):=by
 obtain⟨m,a⟩ : ∃m,n-p=m+1:=⟨n-p-1,aq⟩;rw[a,show n-(p+1)=m by omega,fJ,ae h]
theorem kA{n k:Nat}{M:Nat->Nat->Int}{p:Nat}(h:¬(p<n/\M p k=0)):fJ n k M (n-p) p=p:=by
 cases n-p with
 |zero=>rfl
 |succ m=>rw[fJ,aa h]
def Nb(N:Nat):Nat->Nat
 |0=>N
 |k+1=>2*Nb N k+1
theorem iI(N k:Nat):Nb N k<=Nb N (k+1):=by simp only[Nb];omega
theorem F_(N k:Nat):Nb N k+1=2^k*(N+1):=by
 induction k with
 |zero=>simp[Nb]
 |succ k a=>simp only[Nb];rw[Nat.pow_succ,Nat.mul_comm (2^k) 2,Nat.mul_assoc,<-a];omega
theorem kM{N k:Nat}(a:N<1048576)(a:k<=16):Nb N k<68719476736:=by
 have h:=F_ N k;have b:2^k<=2^16:=Nat.pow_le_pow_right ar a;have a:2^k*(N+1)<=2^16*1048576:=Nat.mul_le_mul b aq;omega
theorem Ey{N k i j:Nat}{c:Int}{M:Nat->Nat->Int}(h:∀i j,Bd N (M i j)):Bd (2*N+1) (elim k c M i j):=by
 unfold elim;split
 ·have a:=(h k k).mul (h i j);have b:=(h i k).mul (h k j);have:=(a.sub b).ediv (b:=c);rwa[<-Nat.two_mul]at this
 ·exact(h i j).mono aq
def nB(m:Nat)(M:Nat->Int):Nat->Int:=λj=>if j<m then M j else 0
def dN(w:World)(v:Value)(m:Nat)(cn:Bool)(N:Nat)(M:Nat->Int):Prop:=
 (m=0/\v=.slice none 0 0)\/∃g a,v=.slice (some ⟨g,0,none⟩) m a/\m<=a/\a<9223372036854775808/\dk w g a cn (λ_=>N) (nB m M)
theorem G6{cs:Array Value}{n:Nat}(h:cs.size=n):cs=arr n (λk=>(cs[k]?).getD undef):=by
 apply Array.ext_getElem?;intro i;by_cases a:i<n
 ·rw[b8 a];have:cs[i]?=some cs[i]:=Array.getElem?_eq_getElem aq;rw[this];rfl
 ·rw[Array.getElem?_eq_none aq,Array.getElem?_eq_none (by rw[bk];omega)]
theorem EV.zero(w:World)(N:Nat)(cn:Bool):EV w N cn (.bool false) (.slice none 0 0) 0:=(CV.zero w).ev cn (by unfold Bd;exact Dk N)
theorem mR(n k:Nat)(h:k<n*2):(Builtin.zeroCells #[Value.bool false,Value.slice none 0 0] n)[k]?=some (if k%2=0 then .bool false else .slice none 0 0):=by
 have a:=Nat.mod_lt k (show 0<2 by decide);simp only[Builtin.zeroCells];rw[show(#[Value.bool false,Value.slice none 0 0]:Array Value).size=2 from F];simp[h];rcases Nat.mod_two_eq_zero_or_one k with e|e<;>simp[e]
theorem yp{w:World}{g cap m N:Nat}{cn:Bool}{M:Nat->Int}{cs:Array Value}(c:bh w g 35 cs)(b:cs.size=cap*2)
 (h1:∀j,j<m->∃x y,cs[j*2]?=some x/\cs[j*2+1]?=some y/\EV w N cn x y (M j))
 (h:∀j,m<=j->j<cap->cs[j*2]?=some (.bool false)/\cs[j*2+1]?=some (.slice none 0 0)):dk w g cap cn (λ_=>N) (nB m M):=by
 refine⟨λk=>(cs[k]?).getD undef,by rw[<-G6 b];exact c,λj f=>?_⟩;unfold nB;by_cases b:j<m
 ·obtain⟨x,y,d,c,e⟩:=h1 j b;rw[ae b];show EV w N cn ((cs[j*2]?).getD undef) ((cs[j*2+1]?).getD undef) (M j);rw[d,c];exact e
 ·obtain⟨d,c⟩:=h j aq f;rw[aa b];show EV w N cn ((cs[j*2]?).getD undef) ((cs[j*2+1]?).getD undef) 0;rw[d,c];exact EV.zero _ _ _
theorem lk(w:World)(o:Obj):Ext w (w.drew.alloc o):=⟨F,F,F,by simp,λ_ a _=>heap_alloc_old w.drew _ a⟩
theorem FF(n k:Nat)(h:k<n):(Builtin.zeroCells #[Value.bool false,Value.slice none 0 0] n)[k*2]?=some (.bool false)/\(Builtin.zeroCells #[Value.bool false,Value.slice none 0 0] n)[k*2+1]?=some (.slice none 0 0):=by
 rw[mR n (k*2) aq,mR n (k*2+1) aq,ae aq,aa aq];exact⟨F,F⟩
theorem rD{w:World}{g m K N:Nat}{cn:Bool}{M:Nat->Int}{olds:List Value}{x y:Value}{z:Int}(b:bh w g 35 (olds.toArray++[x,y].toArray++Builtin.zeroCells #[Value.bool false,Value.slice none 0 0] K))(a:olds.length=m*2)
 (i:∀j,j<m->∃x y,olds[j*2]?=some x/\olds[j*2+1]?=some y/\EV w N cn x y (M j)) (c:EV w N cn x y z):dk w g (m+1+K) cn (λ_=>N) (nB (m+1) λj=>if j=m then z else M j):=by
 refine yp b ?_ (λj b=>?_) λj b b=>?_
 ·rw[Array.size_append,Array.size_append,size_zeroCells];simp only[List.size_toArray,List.length_cons,List.length_nil,a];omega
 ·by_cases e:j=m
  ·subst e;refine⟨x,y,?_,?_,by rw[ae F];exact c⟩
   ·rw[Array.getElem?_append_left (by simp[a]),Array.getElem?_append_right (by simp[a])];simp[a]
   ·rw[Array.getElem?_append_left (by simp[a]),Array.getElem?_append_right (by simp[a])];simp[a]
  ·obtain⟨h,f,c,b,d⟩:=i j aq;refine⟨h,f,?_,?_,by rw[aa e];exact d⟩
   ·rw[Array.getElem?_append_left (by simp[a];omega),Array.getElem?_append_left (by simp[a];omega)];simpa using c
   ·rw[Array.getElem?_append_left (by simp[a];omega),Array.getElem?_append_left (by simp[a];omega)];simpa using b
 ·obtain⟨c,b⟩:=FF K (j-(m+1)) aq;rw[Array.getElem?_append_right (by simp[a];omega),Array.getElem?_append_right (by simp[a];omega)];rw[show j*2-(olds.toArray++[x,y].toArray).size=(j-(m+1))*2 by simp[a];omega,show j*2+1-(olds.toArray++[x,y].toArray).size=(j-(m+1))*2+1 by simp[a];omega];exact⟨c,b⟩
theorem xl{w:World}{v:Value}{m N ty:Nat}{cn:Bool}{M:Nat->Int}{a:Addr}{c:Nat}{x y:Value}{z:Int}(X:dN w v m cn N M)
 (Y:w.cell? (a.add 0)=some x) (h1:w.cell? (a.add 1)=some y) (C:EV w N cn x y z) (G:m<1099511627776):
 ∃H G,(Builtin.append_ #[27,27] ty #[v,.slice (some a) 1 c]).run Tryz.prog w=.ok H G/\dN G H (m+1) cn N (λj=>if j=m then z else M j)/\Kp w G/\
  Ch (λb=>some b=v.ownBlock) w G/\(H.ownBlock=v.ownBlock\/H.ownBlock=some w.heap.size):=by
 obtain⟨o,l⟩:=eE;cases hi:Tryz.prog.info? 35 with
 |none=>rw[hi]at l;simp at l
 |some i=>
  rw[hi]at l;simp at l;obtain⟨R,n,L⟩:=l;have q:∀(j:Nat) (u:Value),([x,y]:List Value)[j]?=some u->w.cell? (a.add j)=some u:=λj u d=>by
   match j,d with
   |0,d=>simp at d;rw[<-d];exact Y
   |1,d=>simp at d;rw[<-d];exact h1
  have S:maxLen=9223372036854775807:=F;have J:(Value.agg #[Value.bool false,Value.slice none 0 0]).cells=#[Value.bool false,Value.slice none 0 0]:=F;rcases X with⟨rfl,rfl⟩|⟨g,cap,rfl,l,Q,W⟩
  ·have p:=run_append_nil (P:=Tryz.prog) w 27 ty 35 i _ o hi R a 1 c [x,y] (by rw[n];rfl) q aq aq (by rw[L];omega);rw[J]at p;have U:=grownCap_ge w 1 0 35;have T:=grownCap_le_maxLen w 1 0 35 (by rw[S];omega);have s:=lk w (.cells ([x,y].toArray++Builtin.zeroCells #[Value.bool false,Value.slice none 0 0] (grownCap w 1 0 35-1)) 35);have D:=rD (w:=w.drew.alloc (.cells ([x,y].toArray++Builtin.zeroCells #[Value.bool false,Value.slice none 0 0] (grownCap w 1 0 35-1)) 35)) (g:=w.heap.size) (m:=0) (K:=grownCap w 1 0 35-1) (N:=N) (cn:=cn) (M:=M) (olds:=[]) (x:=x) (y:=y) (z:=z) (by
    rw[show([]:List Value).toArray++[x,y].toArray=[x,y].toArray by simp];exact heap_alloc_new w.drew _) F (λj d=>absurd d aq) (C.kp (bN s))
   rw[show 0+1+(grownCap w 1 0 35-1)=grownCap w 1 0 35 by omega]at D;exact⟨_,_,p,.inr ⟨w.heap.size,_,F,aq,aq,D⟩,bN s,s.mono λ_ _ h=>h.elim,.inr rfl⟩
  ·obtain⟨f,I,E⟩:=W;have O:∀j,j<m->EV w N cn (f (j*2)) (f (j*2+1)) (M j):=λj d=>by
    have:=E j aq;unfold nB at this;rw[ae d]at this;exact this
   by_cases B:m+1<=cap
   ·have p:=run_append_room (P:=Tryz.prog) w 27 ty 35 i o hi g m cap (arr (cap*2) f) I a 1 c [x,y] (by rw[n];rfl) q (λu o=>by
     rcases List.mem_cons.1 o with rfl|o
     ·exact C.1.db
     ·rcases List.mem_cons.1 o with rfl|o
      ·exact C.1.de
      ·cases o) B (by rw[n,bk];simp;omega)
    rw[n]at p;have V:((arr (cap*2) f).toList.take (m*2)++[x,y]++(arr (cap*2) f).toList.drop (m*2+[x,y].length)).toArray=arr (cap*2) (λk=>if k=m*2 then x else if k=m*2+1 then y else f k):=by
     apply Array.ext_getElem?;intro k;by_cases r:k<cap*2
     ·rw[b8 r];simp only[List.getElem?_toArray];rcases Nat.lt_or_ge k (m*2)with h1|h1
      ·rw[List.append_assoc,List.getElem?_append_left (by simp[arr];omega),aa aq,aa aq];simp[arr,h1,r]
      ·rcases Nat.lt_or_ge k (m*2+2)with l|l
       ·rw[List.getElem?_append_left (by simp[arr];omega),List.getElem?_append_right (by simp[arr];omega)];have A:min (m*2) (cap*2)=m*2:=aq;simp only[List.length_take,arr,Array.length_toList,Array.size_map,Array.size_range,A];rcases Nat.lt_or_ge k (m*2+1)with l|l
        ·obtain rfl:k=m*2:=aq;rw[ae F,Nat.sub_self];rfl
        ·obtain rfl:k=m*2+1:=aq;rw[aa aq,ae F,show m*2+1-m*2=1 by omega];rfl
       ·rw[List.getElem?_append_right (by simp[arr];omega),aa aq,aa aq];have A:min (m*2) (cap*2)=m*2:=aq;simp only[List.length_append,List.length_take,arr,Array.length_toList,Array.size_map,Array.size_range,A,List.length_cons,List.length_nil,List.getElem?_drop];rw[show m*2+(0+1+1)+(k-(m*2+(0+1+1)))=k by omega];simp[r]
     ·rw[Array.getElem?_eq_none (by simp[arr];omega),Array.getElem?_eq_none (by rw[bk];omega)]
    rw[V]at p;have r:=cK I (js E).jn (gz w g (arr (cap*2) λk=>if k=m*2 then x else if k=m*2+1 then y else f k));refine⟨_,_,p,.inr ⟨g,cap,F,B,Q,_,setRow_heap w g _ _ _ _ I,λj d=>?_⟩,r,(gz w g _).mono (λb _ b=>by rw[b];rfl),.inl F⟩;show EV _ N cn (if j*2=m*2 then x else if j*2=m*2+1 then y else f (j*2)) (if j*2+1=m*2 then x else if j*2+1=m*2+1 then y else f (j*2+1)) (if j<m+1 then(if j=m then z else M j)else 0);by_cases e:j=m
    ·subst e;rw[ae F,aa aq,ae F,ae aq,ae F];exact C.kp r
    ·rw[aa aq,aa aq,aa aq,aa aq,aa e];have:=E j d;unfold nB at this;by_cases t:j<m
     ·rw[ae t]at this;rw[ae aq];exact this.kp r
     ·rw[aa t]at this;rw[aa aq];exact this.kp r
   ·obtain rfl:m=cap:=aq;have p:=run_append_grow (P:=Tryz.prog) w 27 ty 35 i _ o hi R ⟨g,0,none⟩ m m ((List.range (m*2)).map f) (by rw[n];simp) (λj u d=>by
     rw[add_lit,I.cell,Nat.zero_add];by_cases t:j<m*2
     ·rw[b8 t];simpa[t]using d
     ·rw[List.getElem?_eq_none (by simp;omega)]at d;cases d) a 1 c [x,y] (by rw[n];rfl) q aq aq (growslice_fits aq (by rw[L];omega))
    rw[J]at p;have U:=grownCap_ge w (m+1) m 35;have T:=grownCap_le_maxLen w (m+1) m 35 (by rw[S];omega);have s:=lk w (.cells (((List.range (m*2)).map f).toArray++[x,y].toArray++Builtin.zeroCells #[Value.bool false,Value.slice none 0 0] (grownCap w (m+1) m 35-(m+1))) 35);have D:=rD (w:=w.drew.alloc (.cells (((List.range (m*2)).map f).toArray++[x,y].toArray++Builtin.zeroCells #[Value.bool false,Value.slice none 0 0] (grownCap w (m+1) m 35-(m+1))) 35)) (g:=w.heap.size) (m:=m) (K:=grownCap w (m+1) m 35-(m+1)) (N:=N) (cn:=cn) (M:=M) (olds:=(List.range (m*2)).map f) (x:=x) (y:=y) (z:=z)
     (heap_alloc_new w.drew _) aA (λj d=>⟨f (j*2),f (j*2+1),by simp[show j*2<m*2 by omega],by simp[show j*2+1<m*2 by omega],(O j d).kp (bN s)⟩) (C.kp (bN s))
    rw[show m+1+(grownCap w (m+1) m 35-(m+1))=grownCap w (m+1) m 35 by omega]at D;exact⟨_,_,p,.inr ⟨w.heap.size,_,F,aq,aq,D⟩,bN s,s.mono λ_ _ h=>h.elim,.inr rfl⟩
theorem yY{n:Nat}{S:World->World->Prop}{k:Nat}{K:Fr->World->Prop}{f:Fr}{w:World}{d ty:Nat}{i g:Operand}{l:String}{o:Array Edge}{B:Option (Nat×Bool)}
 {v:Value} {m N c:Nat} {cn:Bool} {M:Nat->Int} {a:Addr} {x y:Value} {z:Int}
 (t:k=2\/k=1/\∀w',Ch (λb=>some b=v.ownBlock) w w'->S w w') (q:ev n f i=v) (p:ev n f g=.slice (some a) 1 c) (u:dN w v m cn N M)
 (A:w.cell? (a.add 0)=some x) (h1:w.cell? (a.add 1)=some y) (r:EV w N cn x y z) (s:m<1099511627776)
 (h:∀e w',dN w' e (m+1) cn N (λj=>if j=m then z else M j)->Kp w w'->Ch (λb=>some b=v.ownBlock) w w'->(e.ownBlock=v.ownBlock\/e.ownBlock=some w.heap.size)->K (bS f d e) w'):
 R1 Tryz.prog n S k ⟨some d,.call { callee:=.builtin .append,args:=#[i,g],argTypes:=#[27,27] },ty,l,o,B⟩ K f w:=by
 obtain⟨e,w',b,l,j,g,i⟩:=xl (ty:=ty) (c:=c) u A h1 r s;refine kJ (w':=w') (v:=e) (t.imp id λh=>⟨h.1,h.2 _ g⟩) ?_ (h e w' l j g i);simp only[execOp,resolve,invoke,builtin,Sem.run_bind,Sem.run_pure,Result.andThen_ok,List.map_toArray,List.map_cons,List.map_nil,q,p,b]
