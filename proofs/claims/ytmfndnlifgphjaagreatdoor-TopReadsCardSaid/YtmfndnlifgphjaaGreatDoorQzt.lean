import Derived.Test.YtmfndnlifgphjaaGreatDoorQzs
import Derived.Scope
set_option maxHeartbeats 64000000
open Go.Proofs.YtmfndnlifgphjaaGreatDoor
namespace Go.cW
open Go
section
variable {P:Program}{n:Nat}{Q:Exit->Fr->World->Prop}{f:Fr}{w:World}
theorem x9{l:Nat}(h:Q .normal f w):W P n (.label l) Q f w:=by unfold W;exact wp_label ⟨f,F,h⟩
def Pp(Q:Exit->Fr->World->Prop):Exit->Fr->World->Prop
 |.goto _,_,_=>False
 |e,f,w=>Q e f w
theorem Eo{c:Code}(h:W P n c (Pp Q) f w):W P n (.scope c) Q f w:=by
 unfold W at*;refine wp_scope_straight (Code.wp_mono (λe a w b=>?_) h);obtain⟨f,rfl,b⟩:=b;cases e<;>first|exact b.elim|exact⟨f,rfl,b⟩
end
end Go.cW
namespace Go.Proofs.Qq
open Go Go.cW Go.c7 Go.Proofs
section
variable {P:Program}{n:Nat}{S:World->World->Prop}{k:Nat}{K:Fr->World->Prop}{f:Fr}{w:World}{d ty t:Nat}{x:Operand}{pos:String}{aft:Array Edge}{gd:Option (Nat×Bool)}
theorem FV{e g b m c l r q G o:Nat}{z:Value}{j p i:Operand}(s:dh P t e g b z)(B:ev n f x=.slice (some ⟨G,o,none⟩) m c)(E:ev n f j=.int .i64 (l:Int))(C:ev n f p=.int .i64 (r:Int))(D:ev n f i=.int .i64 (q:Int))(A:l<=r)(b:r<=q)(u:q<=c)(h:l<q)
 (h:K (cg f d (.slice (some ⟨G,o+l*g,none⟩) (r-l) (q-l))) w):R1 P n S k ⟨some d,.slice t x (some j) (some p) (some i),ty,pos,aft,gd⟩ K f w:=by
 refine cH (v:=.slice (some ⟨G,o+l*g,none⟩) (r-l) (q-l)) (λw=>?_) h;have g:(0:Int)<=(r:Int)/\(r:Int)<=(q:Int):=aq;have g:(0:Int)<=(l:Int)/\(l:Int)<=(r:Int):=aq;have g:(0:Int)<=(q:Int)/\(q:Int)<=(c:Int):=aq;have g:¬q=l:=aq;simp[execOp,B,E,C,D,Instr.sliceAt,run_underlying s.LZ,Instr.slice,Instr.sliceBounds,Instr.sliceBound,asIntOf,lJ s.info,A,b,u,g,add_lit]
end
theorem D4{c a b i j:Nat}(g:b<c)(e:j<c)(h:a*c+b=i*c+j):a=i/\b=j:=by
 have l:0<c:=aq;have o:=congrArg (·/c) h;have m:=congrArg (·%c) h;simp only[Nat.mul_comm _ c,Nat.mul_add_div l,Nat.div_eq_of_lt g,Nat.div_eq_of_lt e,Nat.mul_add_mod,Nat.mod_eq_of_lt g,Nat.mod_eq_of_lt e]at o m;omega
theorem Cr{r c i j:Nat}(a:i<r)(b:j<c):i*c+j<r*c:=by
 have h:(i+1)*c<=r*c:=Nat.mul_le_mul_right c a;rw[Nat.add_mul,Nat.one_mul]at h;omega
def Flat(w:World)(gE:Nat)(ps:Nat->Nat)(r c:Nat)(cn:Bool)(N:Nat)(M:Nat->Nat->Int):Prop:=
 ∃aI,di w gE (r*c) cn (λ_=>N) aI/\∀i j,i<r->j<c->aI (ps i*c+j)=M i j
structure ij(w:World)(gO gE:Nat)(ps:Nat->Nat)(r c:Nat)(cn:Bool)(N:Nat)(M:Nat->Nat->Int):Prop where
 outer:bg w gO 49 (arr r λi=>.slice (some ⟨gE,0+ps i*c*2,none⟩) c c)
 flat:Flat w gE ps r c cn N M
 ne:gE≠gO
 lt:∀i,i<r->ps i<r
 inj:∀i j,i<r->j<r->ps i=ps j->i=j
section
variable {w w':World}{gO gE r c N N':Nat}{ps:Nat->Nat}{cn:Bool}{M M':Nat->Nat->Int}
theorem Flat.kp{a:Nat->Prop}(h:Flat w gE ps r c cn N M)(e:Kp w w')(g:Ch a w w')(b:¬a gE):Flat w' gE ps r c cn N M:=by
 obtain⟨aI,i,a⟩:=h;exact⟨aI,i.kp e g b,a⟩
theorem ij.kp{a:Nat->Prop}(h:ij w gO gE ps r c cn N M)(i:Kp w w')(b:Ch a w w')(g:¬a gO)(e:¬a gE):ij w' gO gE ps r c cn N M:=
 ⟨h.outer.ch b g,h.flat.kp i b e,h.ne,h.lt,h.inj⟩
theorem ij.Y(h:ij w gO gE ps r c cn N M)(a:Ext w w'):ij w' gO gE ps r c cn N M:=h.kp (bJ a) a id id
theorem Flat.congr(h:Flat w gE ps r c cn N M)(a:N<=N')(e:∀i j,i<r->j<c->M i j=M' i j):Flat w gE ps r c cn N' M':=by
 obtain⟨aI,b,g⟩:=h;exact⟨aI,b.congr λ_ _=>⟨a,rfl⟩,λi j b a=>by rw[g i j b a,e i j b a]⟩
theorem ij.congr(h:ij w gO gE ps r c cn N M)(a:N<=N')(e:∀i j,i<r->j<c->M i j=M' i j):ij w gO gE ps r c cn N' M':=
 ⟨h.outer,h.flat.congr a e,h.ne,h.lt,h.inj⟩
theorem ij.at(h:ij w gO gE ps r c cn N M){i:Nat}(a:i<r):w.cell? ⟨gO,0+i*1,none⟩=some (.slice (some ⟨gE,0+ps i*c*2,none⟩) c c):=by
 rw[h.outer.cell,show 0+i*1=i by omega,cE a]
theorem ij.entry(h:ij w gO gE ps r c cn N M){i j:Nat}(e:i<r)(b:j<c):
 ∃x y,w.cell? ⟨gE,0+ps i*c*2+j*2,none⟩=some x/\w.cell? ((⟨gE,0+ps i*c*2+j*2,none⟩ : Addr).add 1)=some y/\EV w N cn x y (M i j):=by
 obtain⟨aI,o,m⟩:=h.flat;obtain⟨x,y,l,g,a⟩:=o.at (Cr (h.lt i e) b);rw[m i j e b]at a;have e:0+(ps i*c+j)*2=0+ps i*c*2+j*2:=by rw[Nat.add_mul];omega
 rw[e]at l g;exact⟨x,y,l,g,a⟩
theorem ij.bd(h:ij w gO gE ps r c cn N M){i j:Nat}(e:i<r)(b:j<c):Bd N (M i j):=by
 obtain⟨x,y,_,_,a⟩:=h.entry e b;exact a.bd
end
section
variable {n:Nat}{S:World->World->Prop}{k:Nat}{K:Fr->World->Prop}{f:Fr}{w:World}
 {d ty t t2:Nat} {x y:Operand} {pos:String} {aft:Array Edge} {gd:Option (Nat×Bool)}
theorem ot{g m c p j N:Nat}{cn:Bool}{aI:Nat->Int}{z:Int}{a b:Value}(s:k=2\/k=1/\∀w',Ch (λb=>b=g) w w'->S w w')(i:ev n f x=.pointer (some ⟨g,0+p*c*2+j*2,none⟩))(e:ev n f y=.agg #[a,b])(o:di w g m cn (λ_=>N) aI)(q:p*c+j<m)(l:EV w N cn a b z)
 (h:∀w',di w' g m cn (λ_=>N) (ef aI (p*c+j) z)->Ch (λb=>b=g) w w'->Kp w w'->w'.heap.size=w.heap.size->K f w'):
 R1 Tryz.prog n S k ⟨none,.store 44 x y,ty,pos,aft,gd⟩ K f w:=by
 refine c_ (j:=p*c+j) s (by rw[i,show 0+p*c*2+j*2=0+(p*c+j)*2 by rw[Nat.add_mul];omega]) e o q l ?_;intro w' e o l i;exact h w' (e.congr λq _=>⟨by simp only[cC];split<;>exact Nat.le_refl _,F⟩) o l i
end
def OJ(w:World)(N:Nat)(cn:Bool)(z:Int)(v:Value)(w':World):Prop:=Ext w w'/\∃x y,v=.agg #[x,y]/\EV w' N cn x y z
def RT(w:World)(r c:Nat)(cn:Bool)(N:Nat)(M:Nat->Nat->Int)(v:Value)(w':World):Prop:=
 Ext w w'/\∃gO gE,v=.slice (some ⟨gO,0,none⟩) r r/\w.heap.size<=gO/\w.heap.size<=gE/\ij w' gO gE (λi=>i) r c cn N M
theorem ss(r c g N:Nat)(cn:Bool)(cap:List Value)(M:Nat->Nat->Int)(w:World)(O:r<1048576)(O:c<1048576)(O:1<=c)
 (hf:∀i j,i<r->j<c->∀w',Ext w w'->aT Tryz.prog g (.int .i64 ((i:Nat):Int)::.int .i64 ((j:Nat):Int)::cap).toArray w' (OJ w' N cn (M i j))):
 aT Tryz.prog 103 #[.int .i64 (r:Int),.int .i64 (c:Int),.func (.func g) #[] cap.toArray] w (RT w r c cn N M):=by
 refine bo (n:=59) Tryz.func103 F rfl az aA ?_;have O:r*c<1099511627776:=by
  have h1:r*c<=1048575*c:=Nat.mul_le_mul_right c aq;omega
 refine gg ?_;refine kK F rfl aq ?_;refine gg ?_;refine cJ dJ (.inl F) F rfl aD aq aq ?_;intro w1 O ai ar;have Y:di w1 w.heap.size (r*c) cn (λ_=>N) (λ_=>0):=fq cn N O;obtain⟨gE,Z⟩ : ∃g,g=w.heap.size:=⟨_,F⟩;rw[<-Z]at Y⊢;clear O;refine gg ?_;refine cJ fL (.inl F) F rfl aD aq aq ?_;intro O O Z an;rw[jA,Nat.mul_one]at O;obtain⟨gO,a1⟩ : ∃g,g=w1.heap.size:=⟨_,F⟩;rw[<-a1]at O⊢;have W:gE≠gO:=aq;have av:w.heap.size<=gO:=aq;have a8:=Y.Y Z;have a1:=ai.trans Z;clear Y;refine gg ?_;refine aY (λf w'=>f 8=.slice (some ⟨gO,0,none⟩) r r/\Ext w w'/\ij w' gO gE (λi=>i) r c cn N M) ?_ ?_
 ·refine gg ?_;refine aU (λm f w'=>∃(i:Nat) (h:Nat->Value) (aI:Nat->Int),m=r-i/\i<=r/\f 0=.int .i64 (r:Int)/\f 1=.int .i64 (c:Int)/\f 2=.func (.func g) #[] cap.toArray/\f 7=.slice (some ⟨gE,0,none⟩) (r*c) (r*c)/\f 8=.slice (some ⟨gO,0,none⟩) r r/\f 18=.int .i64 (r:Int)/\f 19=.int .i64 (i:Int)/\Ext w w'/\bg w' gO 49 (arr r h)/\(∀k,k<r->∃A m c,h k=.slice A m c)/\(∀k,k<i->h k=.slice (some ⟨gE,0+k*c*2,none⟩) c c)/\di w' gE (r*c) cn (λ_=>N) aI/\∀a b,a<i->b<c->aI (a*c+b)=M a b)
   r ⟨0,_,λ_=>0,rfl,aE,rfl,rfl,rfl,rfl,rfl,rfl,rfl,a1,O,λk _=>⟨none,0,0,by simp[Value.cells,Nat.mod_one]⟩,λk R=>absurd R aq,a8,λa b U=>absurd U aq⟩ ?_
  clear O a1 a8 an ar ai Z;rintro m f w3 ⟨i,h,aI,rfl,O,G,E,D,C,l,p,o,H,u,V,I,T,s⟩;rw[ui G,ui E,ui D,ui C,ui l,ui p,ui o];clear G E D C l p o;by_cases z:i<r
  ·have O:(i+1)*c<=r*c:=Nat.mul_le_mul_right c z;have O:(i+1)*c=i*c+c:=by rw[Nat.add_mul,Nat.one_mul]
   refine gg ?_;refine kK F rfl aq ?_;refine gg ?_;refine kK F rfl aq ?_;refine gg ?_;refine kK F rfl aq ?_;refine gg ?_;refine FV dJ F rfl rfl rfl aq aq aq aq ?_;rw[show(i+1)*c-i*c=c by omega];refine gg ?_;refine cZ (aX F) (.inl F) F rfl u (by rw[bf];omega) ?_;intro O L J al;have a7:=T.kp (c8 u (ff V).lh J) J W;rw[cT,Nat.zero_add,Nat.mul_one]at L;have ae:Ext w O:=J.aK H λb q=>aq;have ak:O.cell? ⟨gO,0+i*1,none⟩=some (.slice (some ⟨gE,0+i*c*2,none⟩) c c):=by
    rw[L.cell,show 0+i*1=i by omega,cE z,ct]
   have aj:∀k,k<r->∃A m O,cg h i (.slice (some ⟨gE,0+i*c*2,none⟩) c c) k=.slice A m O:=λk R=>by
    by_cases B:k=i
    ·subst B;exact⟨_,_,_,ct _ _ _⟩
    ·rw[b9 _ _ B];exact V k R
   have a6:∀k,k<i+1->cg h i (.slice (some ⟨gE,0+i*c*2,none⟩) c c) k=.slice (some ⟨gE,0+k*c*2,none⟩) c c:=λk R=>by
    by_cases B:k=i
    ·subst B;exact ct _ _ _
    ·rw[b9 _ _ B];exact I k aq
   clear u H T V I J al;refine gg ?_;refine aU (λm f w'=>∃(j:Nat) (aI:Nat->Int),m=c-j/\j<=c/\f 0=.int .i64 (r:Int)/\f 1=.int .i64 (c:Int)/\f 2=.func (.func g) #[] cap.toArray/\f 7=.slice (some ⟨gE,0,none⟩) (r*c) (r*c)/\f 8=.slice (some ⟨gO,0,none⟩) r r/\f 18=.int .i64 (r:Int)/\f 19=.int .i64 (i:Int)/\f 9=.int .i64 (i:Int)/\f 42=.int .i64 (c:Int)/\f 43=.int .i64 (j:Int)/\Ext w w'/\bg w' gO 49 (arr r (cg h i (.slice (some ⟨gE,0+i*c*2,none⟩) c c)))/\di w' gE (r*c) cn (λ_=>N) aI/\∀a b,a<i\/a=i/\b<j->b<c->aI (a*c+b)=M a b)
    c ⟨0,aI,F,aE,F,F,F,F,F,F,F,F,F,F,ae,L,a7,λa b U q=>s a b aq q⟩ ?_
   clear ae L a7 ak s;rintro m f m ⟨j,m,rfl,m,G,E,D,C,l,p,o,B,A,m,H,u,T,s⟩;rw[ui G,ui E,ui D,ui C,ui l,ui p,ui o,ui B,ui A,ui m];clear G E D C l p o B A m;by_cases X:j<c
   ·refine gg ?_;refine cP [(0,3),(1,3),(2,3),(3,0),(4,3),(5,3),(6,3),(7,3),(8,1),(9,3),(10,2)] mixed az λo m _=>?_;have p:o.cell? ⟨gO,0+i*1,none⟩=some (.slice (some ⟨gE,0+i*c*2,none⟩) c c):=by
     rw[(u.Y m).cell,show 0+i*1=i by omega,cE z,ct]
    refine gg ?_;refine rf (.inr F) F rfl rfl (hf i j z X o (H.trans m)) ?_;rintro _ o ⟨o,x,y,rfl,p⟩;refine⟨λ_=>o,?_⟩;refine gg ?_;refine ot (.inl F) F rfl (T.Y (m.trans o)) (Cr z X) p ?_;intro B z p A A;have A:Ext w B:=p.aK ((H.trans m).trans o) λb q=>aq;refine gg ?_;refine⟨_,?_,j+1,_,F,aq,F,F,F,F,F,F,F,F,F,F,A,(u.Y (m.trans o)).ch p (Ne.symm W),z,λa b au q=>?_⟩
    ·omega
    ·simp only[ef];by_cases e:a*c+b=i*c+j
     ·obtain⟨rfl,rfl⟩:=D4 q X e;rw[ab F]
     ·rw[aa e];refine s a b ?_ q;rcases au with h1|⟨rfl,h1⟩
      ·exact .inl h1
      ·exact .inr ⟨F,by
        rcases Nat.lt_or_ge b j with h2|h2
        ·exact h2
        ·exact absurd (by rw[show b=j by omega]) e⟩
   ·refine gg ?_;refine⟨_,?_,i+1,_,_,F,aq,F,F,F,F,F,F,F,H,u,aj,a6,T,λa b U q=>s a b aq q⟩;omega
  ·refine gg ?_;have:i=r:=aq;subst this;refine⟨F,H,⟨?_,⟨aI,T,λa b U q=>s a b U q⟩,W,λ_ h=>h,λ_ _ _ _ h=>h⟩⟩;rw[dO λk R=>I k R]at u;exact u
 ·rintro f w3 ⟨l,a,b⟩;rw[ui l];refine gg ?_;exact bF (v:=.slice _ _ _) F rfl ⟨a,_,_,F,av,aq,b⟩
end Go.Proofs.Qq
namespace Go.Proofs.Qq
section
open Go Go.cW Go.c7 Go.Proofs
theorem AM(H m D k y j x g u a:Value)(r q p o s:Int)(N:Nat)(w:World)(h1:IV w N H m r)(U:IV w N D k q)(T:IV w N y j p)(S:IV w N x g o)(R:IV w N u a s)(hN:N<137438953472)(L:s≠0):
 aT Tryz.prog 105 #[.agg #[H,m],.agg #[D,k],.agg #[y,j],.agg #[x,g],.agg #[u,a]] w (RI w ((r*o-q*p)/s)):=by
 refine bo (n:=28) Tryz.func105 F rfl az aA ?_;refine gg ?_;refine bO (v:=.agg _) (.inl F) F ?_;intro a D I a;refine gg ?_;refine bO (v:=.agg _) (.inl F) F ?_;intro a y z a;refine gg ?_;refine bO (v:=.agg _) (.inl F) F ?_;intro a x l a;refine gg ?_;refine bO (v:=.agg _) (.inl F) F ?_;intro a u h a;refine gg ?_;refine bO (v:=.agg _) (.inl F) F ?_;intro j m d a;refine gg ?_;refine aS (.inl F) a_ ?_;intro k g a H;have G:Bx k j.heap.size 1 true 0:=Bx.zero true g;obtain⟨g,k⟩ : ∃g,g=j.heap.size:=⟨_,F⟩;rw[<-k]at G⊢;have B:=I.trans (z.trans (l.trans (h.trans (d.trans a))));refine gg ?_;refine ib [(0,0),(1,0),(3,0),(4,0),(7,0)] [(2,[],[]),(13,[],[]),(14,[],[]),(5,[],[2]),(6,[],[2,5]),(8,[(9,3),(10,3),(11,3),(12,3)],[6])] [(15,2),(16,2),(17,3)] mixed az λO b _=>?_;obtain⟨p1,a6⟩:=bh (D.Y (z.trans (l.trans (h.trans (d.trans (a.trans b))))));obtain⟨p2,Z⟩:=bh (y.Y (l.trans (h.trans (d.trans (a.trans b)))));obtain⟨p3,Y⟩:=bh (x.Y (h.trans (d.trans (a.trans b))));obtain⟨p4,X⟩:=bh (u.Y (d.trans (a.trans b)));obtain⟨p5,W⟩:=bh (m.Y (a.trans b));have i:=B.trans b;refine gg ?_;refine dN [(2,[]),(5,[]),(6,[]),(8,[(9,3),(10,3),(11,3),(12,3)])] [fA 13 11 44 (.agg #[.bool false,.slice none 0 0]),fA 14 12 44 (.agg #[.bool false,.slice none 0 0])] [17,20,21,23,14,24,25,26,11,12] az (λa f V P _ _=>by
  rcases List.mem_cons.1 f with rfl|f
  ·exact cm a_ F V P
  ·rcases List.mem_singleton.1 f with rfl;exact cm a_ F V P) ?_
 refine cS λf H=>?_;have a:=i.trans H;refine gg ?_;refine aM (fy _ _ _ _ _ _ N f (h1.Y a) (S.Y a) aq) ?_;rintro _ f ⟨u,f,f,rfl,y⟩;refine⟨u,?_⟩;refine gg ?_;refine cS λf k=>?_;have g:=a.trans (u.trans k);refine gg ?_;refine aM (fy _ _ _ _ _ _ N f (U.Y g) (T.Y g) aq) ?_;rintro _ a ⟨f,a2,b2,rfl,x⟩;refine⟨f,?_⟩;refine gg ?_;refine cS λm a=>?_;have j:=h1.bd.mul S.bd;have i:=U.bd.mul T.bd;have Q:=j.sub i;refine gg ?_;refine aM (mj _ _ _ _ _ _ (N+N) m ((y.Y (k.trans (f.trans a))).iv j) ((x.Y a).iv i) aq) ?_;rintro _ i ⟨j,a3,b3,rfl,y⟩;refine⟨j,?_⟩;refine gg ?_;refine cS λx i=>?_;have m:=g.trans (f.trans (a.trans (j.trans i)));refine gg ?_;refine aM (jd _ _ _ _ _ _ (N+N+1) x ((y.Y i).iv Q) ((R.Y m).mono aq) aq L) ?_;rintro _ g ⟨g,x,x,rx,x,rfl,hq,hr⟩;refine⟨g,?_⟩;refine gg ?_;refine eW λD e c t A=>?_;obtain⟨y,K⟩:=t _ aG;obtain⟨x,J⟩:=t _ (List.mem_cons_of_mem _ aG);have E:c 11≠c 12:=A _ _ aG (List.mem_cons_of_mem _ aG) (show(11:Nat)≠12 by decide);have ai:Bx D (c 11) 1 true 0:=Bx.zero true K;have ae:Bx D (c 12) 1 true 0:=Bx.zero true J;have y:O.heap.size<=c 11:=y;have x:O.heap.size<=c 12:=x;have C:=m.trans (g.trans e);have M:=G.Y (b.trans (H.trans (u.trans (k.trans (f.trans (a.trans (j.trans (i.trans (g.trans e)))))))));show Ro _ _ _ _ _ _ (cg (cg _ 12 (.pointer (some ⟨c 12,0,none⟩))) 11 (.pointer (some ⟨c 11,0,none⟩))) _;generalize c 11=g8 at*;generalize c 12=g9 at*;clear K J t A;have a8:Bd (N+N+1) ((r*o-q*p)/s):=Q.ediv;have a7:Bd N ((r*o-q*p)%s):=by
  have a:=Int.emod_nonneg (r*o-q*p) L;have a:=Int.emod_lt (r*o-q*p) L;have a:=R.bd;unfold Bd at*;omega
 have a:=b.size;refine gg ?_;refine aL (.inl F) F rfl ai ((hq.Y e).ev true a8) ?_;intro a f c a b;refine gg ?_;refine aL (.inl F) F rfl (ae.kp a c E.symm) (((hr.Y e).kp a).ev true a7) ?_;intro g b b e i;have i:=f.kp e b E;have f:=(M.kp a c aq).kp e b aq;have a:=B.size;have a:Ext w g:=b.aK (c.aK C λb g=>aq) λb g=>aq;obtain⟨c,c,e,c⟩:=i;obtain⟨i,i⟩:=bh e;clear p1 a6 p2 Z p3 Y p4 X p5 W;refine gg ?_;refine aL (.inl F) F rfl f c ?_;intro c c e f f;obtain⟨x,y,i,f⟩:=c;refine gg ?_;exact eZ F aQ F i ⟨e.aK a (λb g=>by have:=I.size;have:=z.size;have:=l.size;have:=h.size;have:=d.size;omega),x,y,F,f.2 F⟩
theorem n9{r:Nat}{len:Nat->Nat}:jt r len=(kF r len&&decide (r=len 0)):=F
theorem uW(E:World->Value->Value->Int->Prop)(v:Value)(r:Nat)(len:Nat->Nat)(M:Nat->Nat->Int)(w:World)(h:cB E w v r len M):
 aT Tryz.prog 74 #[v] w λv' b=>w=b/\∃n:Nat,v'=.tuple #[.int .i64 (n:Int),.bool (jt r len)]/\(jt r len=true->n=r):=by
 refine bo (n:=20) Tryz.func74 F rfl az aA ?_;refine gg ?_;refine aJ (kh E v r len M w h) ?_;rintro _ _ ⟨rfl,rfl⟩;obtain⟨b,b,b,c,b⟩:=df r len;rw[c];rcases b with⟨a,rfl,rfl,rfl⟩|⟨a,rfl,rfl,rfl⟩
 ·refine gg ?_;refine cU (v:=.int _ _) (v':=.bool _) F rfl rfl ⟨F,_,?_,λ_=>rfl⟩;rw[n9,a];rfl
 ·refine gg ?_;refine cU (v:=.int _ _) (v':=.bool _) F rfl rfl ⟨F,0,?_,λe=>?_⟩
  ·rw[n9,a];rfl
  ·rw[n9,a]at e;cases e
end
end Go.Proofs.Qq
namespace Go.aW
def k9(M:Mt):Nat->Mt
 |0=>M
 |k+1=>λi j=>(k9 M k 0 0*k9 M k (i+1) (j+1)-k9 M k (i+1) 0*k9 M k 0 (j+1))/(match k with|0=>1|q+1=>k9 M q 0 0)
def L8(M:Mt):Nat->Int
 |0=>1
 |k+1=>k9 M k 0 0
theorem pG(M:Mt)(k i j:Nat):k9 M (k+1) i j=(k9 M k 0 0*k9 M k (i+1) (j+1)-k9 M k (i+1) 0*k9 M k 0 (j+1))/L8 M k:=by
 cases k<;>rfl
theorem fU(A:Mt)(i j:Nat):bm 0 A i j=A i j:=by
 simp[bm,aO,sm,jl]
theorem GA(M:Mt):∀k,(∀q,1<=q->q<=k->aO q M≠0)->(∀i j,k9 M k i j=bm k M (k+i) (k+j))/\L8 M k=aO k M:=by
 intro k;induction k with
 |zero=>exact λ_=>⟨λi j=>by rw[fU,Nat.zero_add,Nat.zero_add];rfl,F⟩
 |succ k d=>
  intro h;obtain⟨a,e⟩:=d λq b d=>h q b aq;have b:k9 M k 0 0=aO (k+1) M:=by rw[a,Nat.add_zero,db]
  refine⟨λi j=>?_,b⟩;have c:aO k M≠0:=by
   rcases Nat.eq_zero_or_pos k with rfl|hp
   ·simp[aO]
   ·exact h k hp aq
  rw[pG,a,a,a,a,e,Nat.add_zero,show k+(i+1)=k+1+i by omega,show k+(j+1)=k+1+j by omega,<-fv k M _ _ c,Int.mul_ediv_cancel_left _ c]
def O1(n:Nat)(G:Mt)(y:Nat->Int):Int:=sm n λi=>y i*sm n λj=>G i j*y j
theorem Fa(k:Nat)(G:Mt)(c:aO k G≠0):∃y:Nat->Int,y k=aO k G/\O1 (k+1) (tr G) y=aO k G*aO (k+1) G:=by
 obtain⟨x,a⟩:=solve k G (G k);have b:=tA c a;refine⟨λi=>if i<k then x i else aO k G,aa (Nat.lt_irrefl k),?_⟩;have d:∀c,(sm (k+1) λj=>tr G c j*(if j<k then x j else aO k G))=bm k G k c:=λc=>by
  simp only[sm,tr];rw[aa (Nat.lt_irrefl k),b c,Int.add_comm,Int.mul_comm];congr 1;exact aR λr e=>by rw[ab e,Int.mul_comm]
 unfold O1;rw[aR (λc _=>by rw[d c])];simp only[sm];rw[fK λc d=>by rw[b c,a c d,Int.mul_zero],aa (Nat.lt_irrefl k),db,Int.zero_add]
theorem Cl(n:Nat)(G:Mt)(h:∀m y,m<=n->(∃i,i<m/\y i≠0)->0<O1 m (tr G) y):∀k,k<=n->0<aO k G:=by
 intro k;induction k with
 |zero=>intro _;simp[aO]
 |succ k f=>
  intro g;have j:=f aq;obtain⟨y,b,e⟩:=Fa k G aq;have d:=h (k+1) y g ⟨k,aq,by rw[b];omega⟩;rw[e]at d;rcases Int.lt_trichotomy 0 (aO (k+1) G)with c|c|c
  ·exact c
  ·rw[<-c,Int.mul_zero]at d;omega
  ·have:=Int.mul_neg_of_pos_of_neg j c;omega
theorem sq_nonneg(a:Int):0<=a*a:=by
 rcases Int.le_total 0 a with h|h
 ·exact Int.mul_nonneg h h
 ·have:=Int.mul_nonneg (Int.neg_nonneg.2 h) (Int.neg_nonneg.2 h);rwa[Int.neg_mul_neg]at this
end Go.aW
namespace Go.Proofs.Qq
section
open Go Go.cW Go.c7 Go.Proofs
open Go.aW (k9 L8 pG)
theorem lI:dh Tryz.prog 127 25 1 24 (.slice none 0 0):=⟨Tryz.underlying127,by kernel_rfl⟩
theorem I9:fo Tryz.prog 25 (.slice none 0 0):=by unfold fo;kernel_rfl
theorem BR(i j e r c N:Nat)(b:Value)(X:Nat->Nat->Int)(w:World)(o:bg w e 25 #[b])
 (l:cB (EI N) w b r (λ_=>c) X) (k:i<r) (h:j<c) (m:N<1099511627776):
 aT Tryz.prog 135 #[.int .i64 (i:Int),.int .i64 (j:Int),.pointer (some ⟨e,0,none⟩)] w (OJ w N true (X i j)):=by
 refine bo (n:=14) Tryz.func135 F rfl az aA ?_;refine gg ?_;refine aS (.inl F) a_ ?_;intro d b a e;have g:Bx d w.heap.size 1 true 0:=Bx.zero true b;have b:=iY (o.Y a);obtain⟨b,b,b,rfl,b,f⟩:=(l.Y a).at k;obtain⟨b,b,b,b,rfl,b,b,b⟩:=f.at h;refine gg ?_;refine aJ (iz _ _ _ N d b m) ?_;rintro _ d ⟨d,e,e,rfl,e⟩;refine gg ?_;refine aL (.inl F) F rfl (g.Y d) (e.ev true (N:=N) (IV.bd b)) ?_;intro b b e f f;refine gg ?_;obtain⟨x,y,g,f⟩:=b;exact eZ F aQ F g ⟨e.aK (a.trans d) λb a=>aq,x,y,F,f⟩
theorem BQ(i j e c n b d N:Nat)(X:Nat->Nat->Int)(z:Int)(w:World)(k:bg w e 25 #[.slice (some ⟨b,0,none⟩) n n])
 (f:ij w b d (λi=>i) n n true N X) (q:Bx w c N true z) (d:i+1<n) (l:j+1<n) (b:n<=16) (p:N<137438953472) (o:z≠0):
 aT Tryz.prog 136 #[.int .i64 (i:Int),.int .i64 (j:Int),.pointer (some ⟨e,0,none⟩),.pointer (some ⟨c,0,none⟩)] w (OJ w (2*N+1) true ((X 0 0*X (i+1) (j+1)-X (i+1) 0*X 0 (j+1))/z)):=by
 refine bo (n:=37) Tryz.func136 F rfl az aA ?_;refine gg ?_;refine aS (.inl F) a_ ?_;intro c b e g;have h:Bx c w.heap.size 1 true 0:=Bx.zero true b;obtain⟨c,c⟩ : ∃g,g=w.heap.size:=⟨_,F⟩;rw[<-c]at h⊢;clear b;refine gg ?_;refine b_ [(0,0),(1,3),(2,0),(3,3),(4,0),(5,0),(6,3),(7,3),(8,3),(9,0),(10,3),(11,0),(12,0),(13,3),(14,0),(15,3),(16,3),(17,3),(18,0),(19,0),(20,3),(21,3),(22,3),(23,0),(24,3),(25,3),(26,3),(27,0),(28,0),(29,1),(30,2)] mixed az λm g _=>?_;have c:=e.trans g;have b:=iY (k.Y c);have b:=f.Y c;have e:=b.at (i:=0) aq;have e:=b.at d;obtain⟨e,e,e,e,cQ⟩:=b.entry (i:=0) (j:=0) aq aq;obtain⟨e,e,e,e,fc⟩:=b.entry (i:=i+1) (j:=0) d aq;obtain⟨e,e,e,e,f⟩:=b.entry (i:=0) (j:=j+1) aq l;obtain⟨e,e,e,e,e⟩:=b.entry (i:=i+1) (j:=j+1) d l;obtain⟨b,b,d,b⟩:=q.Y c;obtain⟨l,l⟩:=bh d;refine gg ?_;refine dX dJ F aq ?_;refine gg ?_;refine dX dJ F aq ?_;refine gg ?_;refine aM (AM _ _ _ _ _ _ _ _ _ _ _ _ _ _ _ N m cQ.1 fc.1 f.1 e.1 b.1 p o) ?_;rintro _ b ⟨d,a,b,rfl,hc⟩;refine⟨d,?_⟩;have l:Bd (2*N+1) ((X 0 0*X (i+1) (j+1)-X (i+1) 0*X 0 (j+1))/z):=by
  rw[Nat.two_mul];exact((cQ.bd.mul e.bd).sub (fc.bd.mul f.bd)).ediv
 refine gg ?_;refine aL (.inl F) F rfl (h.Y (g.trans d)) (hc.ev true l) ?_;intro e e f g g;refine gg ?_;obtain⟨x,y,k,g⟩:=e;exact eZ F aQ F k ⟨f.aK (c.trans d) λb b=>aq,x,y,F,g⟩
def NF(w:World)(v:Value)(m n N:Nat)(M:Nat->Nat->Int)(b c:Nat->Nat):Prop:=
 kM 25 (.slice none 0 0) w v m (λq=>.slice (some ⟨b q,0,none⟩) (n-q) (n-q))/\∀q,q<m->ij w (b q) (c q) (λi=>i) (n-q) (n-q) true (Nb N q) (k9 M q)
def JU(n:Nat)(M:Nat->Nat->Int):Prop:=∀q,q+1<n->k9 M q 0 0≠0
def Py(w:World)(p:Prop)(n N:Nat)(M:Nat->Nat->Int)(v:Value)(w':World):Prop:=
 Ext w w'/\((¬p/\v=.tuple #[.slice none 0 0,.bool false])\/(p/\∃u a b,v=.tuple #[u,.bool true]/\NF w' u n n N M a b))
def Pb(w:World)(p:Prop)(n N:Nat)(M:Nat->Nat->Int)(v:Value)(w':World):Prop:=
 Ext w w'/\((¬p/\v=.tuple #[.slice none 0 0,.bool false])\/(p/\∃u a b,v=.tuple #[u,.bool true]/\NF w' u n n N M a b/\∀q,q<n->w.heap.size<=a q/\w.heap.size<=b q))
theorem L7{M:Nat->Nat->Int}{k:Nat}(h:∀q,q<k->k9 M q 0 0≠0):L8 M k≠0:=by
 cases k with
 |zero=>exact Int.one_ne_zero
 |succ k=>exact h k (Nat.lt_succ_self k)
theorem BP(R:Value)(r N:Nat)(len:Nat->Nat)(M:Nat->Nat->Int)(w:World)(ha:cB (EI N) w R r len M)(aj:1<=N)(hN:N<1048576):
 aT Tryz.prog 75 #[R] w (Pb w (jt r len=true/\JU r M) r N M):=by
 obtain⟨Aa,a8,ai,_⟩:=id ha;refine bo (n:=62) Tryz.func75 F rfl az aA ?_;refine gg ?_;refine bO (v:=R) (.inl F) F ?_;intro w1 a8 J av;have Z:bg w1 w.heap.size 25 #[R]:=by rw[ai]at a8⊢;exact a8
 have f1:=iY Z;obtain⟨gA,a8⟩ : ∃g,g=w.heap.size:=⟨_,F⟩;rw[<-a8]at Z f1⊢;refine gg ?_;refine Eo ?_;refine gg ?_;refine aJ (uW _ R r len M w1 (ha.Y J)) ?_;rintro _ _ ⟨rfl,n,rfl,hn⟩;by_cases u:jt r len=true;rotate_left
 ·have u:jt r len=false:=by simpa using u
  rw[u];refine gg ?_;refine aN ?_;refine gg ?_;exact cU (v:=.slice _ _ _) (v':=.bool _) F rfl rfl ⟨J,.inl ⟨λh=>(by cases h.1),F⟩⟩
 obtain rfl:=hn u;obtain⟨ai,r,r⟩:=dj.1 u;rw[u];clear hn;have hM:=(ha.sq r).Y J;refine gg ?_;refine aN ?_;refine gg ?_;refine jD ?_;refine gg ?_;refine aJ (ss n n _ N true _ M w1 aq aq ai λi j hi hj p A=>BR i j gA n n N R M p (Z.Y A) (hM.Y A) hi hj aq) ?_;rintro _ r ⟨Y,gO,gE,rfl,b6,b7,s⟩;refine gg ?_;refine aJ (du 1 r aw aw) ?_;rintro _ R ⟨z,r,r,rfl,al⟩;have av:Bd N 1:=Bd.mono (N:=1) (by unfold Bd;decide) aj;refine gg ?_;have b8:=(s.Y z).outer.lt;have bj:gE<R.heap.size:=by obtain⟨_,h4,_⟩:=(s.Y z).flat;exact h4.lt
 refine aS (.inl F) a_ ?_;intro Z a8 u ax;have r:Bx Z R.heap.size 1 true 0:=Bx.zero true a8;obtain⟨t,aj⟩ : ∃g,g=R.heap.size:=⟨_,F⟩;rw[<-aj]at r⊢;refine gg ?_;refine aL (.inl F) F rfl r ((al.Y u).ev true av) ?_;intro w4 S Z b0 av;have X:Ext R w4:=Z.aK u λb l=>aq;have bl:R.heap.size<=t:=aq;clear r a8 u ax av Z b0 aj;replace s:=s.Y (z.trans X);have a7:=J.trans (Y.trans (z.trans X));have r:=(J.trans (Y.trans z)).size;refine gg ?_;refine aN (x9 ?_);refine gg ?_;refine aY (λf p=>∃v a c,f 8=v/\Ext w p/\JU n M/\NF p v n n N M a c/\∀q,q<n->w.heap.size<=a q/\w.heap.size<=c q) ?_ ?_
 ·refine gg ?_;refine aU (λm f p=>∃k v a c,m=n-k/\k<n/\f 1=.pointer (some ⟨gA,0,none⟩)/\f 4=.int .i64 (n:Int)/\f 8=v/\f 7=.pointer (some ⟨t,0,none⟩)/\f 6=.slice (some ⟨a k,0,none⟩) (n-k) (n-k)/\f 23=.int .i64 (n:Int)/\f 24=.int .i64 ((k:Nat):Int)/\Ext w p/\NF p v k n N M a c/\ij p (a k) (c k) (λi=>i) (n-k) (n-k) true (Nb N k) (k9 M k)/\Bx p t (Nb N k) true (L8 M k)/\(∀q,q<k->k9 M q 0 0≠0)/\(∀q,q<k+1->a q≠t/\c q≠t/\w.heap.size<=a q/\w.heap.size<=c q)/\(∀b,some b=v.ownBlock->w.heap.size<=b/\b≠t/\∀q,q<k+1->a q≠b/\c q≠b))
   n ⟨0,.slice none 0 0,λ_=>gO,λ_=>gE,rfl,ai,rfl,rfl,rfl,rfl,rfl,rfl,rfl,a7,⟨kM.nil,λq d=>absurd d aq⟩,s,S,λq d=>absurd d aq,λq _=>⟨(by omega:gO≠t),(by omega:gE≠t),(by omega:w.heap.size<=gO),(by omega:w.heap.size<=gE)⟩,λb l=>by cases l⟩ ?_
  clear a7 s S b8 bj b6 b7 al Y z X f1 hM;rintro m f Q ⟨k,v,a,c,rfl,X,R,J,L,u,z,r,m,U,⟨hG,x⟩,s,S,V,B,o⟩;rw[ui R,ui J,ui L,ui u,ui z,ui r,ui m];clear R J L u z r m;refine gg ?_;refine dp (v0:=.slice (some ⟨a k,0,none⟩) (n-k) (n-k)) lI F (.inl F) F rfl ?_;intro m au y m;have ak:=iY au;refine gg ?_;refine k7 lI F (.inl F) F rfl (hG.Y y) ak F aq aw (λ_ _ _=>aA) (λ_=>aA) ?_;intro v' T ar W K ae;have O:Ext w T:=K.aK (U.trans y) λb l=>(o b l).1;have D:kM 25 (.slice none 0 0) T v' (k+1) (λq=>.slice (some ⟨a q,0,none⟩) (n-q) (n-q)):=ar.congr λq _=>by
   by_cases e:q=k
   ·subst e;rw[ab F]
   ·rw[aa e]
  have C:∀q,q<k+1->ij T (a q) (c q) (λi=>i) (n-q) (n-q) true (Nb N q) (k9 M q):=λq d=>by
   have h5:ij Q (a q) (c q) (λi=>i) (n-q) (n-q) true (Nb N q) (k9 M q):=by
    by_cases e:q=k
    ·subst e;exact s
    ·exact x q aq
   exact(h5.Y y).kp W K (λl=>((o _ l).2.2 q d).1 rfl) λl=>((o _ l).2.2 q d).2 rfl
  have bc:=(S.Y y).kp W K λl=>(o _ l).2.1 rfl;have aH:∀q,q<k+1->a q<Q.heap.size/\c q<Q.heap.size:=λq d=>by
   have h5:ij Q (a q) (c q) (λi=>i) (n-q) (n-q) true (Nb N q) (k9 M q):=by
    by_cases e:q=k
    ·subst e;exact s
    ·exact x q aq
   obtain⟨_,h4,_⟩:=id h5.flat;exact⟨h5.outer.lt,h4.lt⟩
  have m:=S.lt;have m:=U.size;have P:∀b,some b=v'.ownBlock->w.heap.size<=b/\b≠t/\∀q,q<k+1->a q≠b/\c q≠b:=λb l=>by
   rcases ae with e|e
   ·rw[e]at l;exact o b l
   ·rw[e]at l;injection l with l;exact⟨aq,aq,λq d=>by have:=aH q d;omega⟩
  have u:=C k aq;have m:Q.heap.size<=T.heap.size:=Nat.le_trans y.size K.size;clear hG x s S au ak ar W K ae U y o;by_cases m:k=n-1
  ·refine gg ?_;refine⟨v',a,c,F,O,λq d=>V q aq,?_⟩;rw[show k+1=n by omega]at D C;exact⟨⟨D,C⟩,λq d=>(B q aq).2.2⟩
  have y:=u.at (i:=0) aq;obtain⟨m,m,r,m,o⟩:=u.entry (i:=0) (j:=0) aq aq;have s:=iL hN (show k<=16 by omega);refine gg ?_;refine dX dJ F aq ?_;refine gg ?_;refine aJ (pK _ _ _ _ T o.1 aq) ?_;rintro _ s ⟨o,rfl⟩;clear y r m;by_cases hz:k9 M k 0 0=0
  ·have m:(k9 M k 0 0).sign=0:=by rw[hz];rfl
   refine gg ?_;exact cU (v:=.slice _ _ _) (v':=.bool _) F rfl rfl ⟨O.trans o,.inl ⟨λh=>h.2 k aq hz,F⟩⟩
  have m:¬(k9 M k 0 0).sign=0:=λe=>hz (Int.sign_eq_zero_iff_zero.1 e);refine gg ?_;refine aS (.inl F) I9 ?_;intro h h J m;refine gg ?_;refine cZ (aX F) (.inl F) F rfl h (by simp[Value.cells]) ?_;intro r h z m;have h:bg r s.heap.size 25 #[.slice (some ⟨a k,0,none⟩) (n-k) (n-k)]:=h;obtain⟨K,m⟩ : ∃g,g=s.heap.size:=⟨_,F⟩;rw[<-m]at h⊢;have m:Ext s r:=z.aK J λb l=>aq;have s:=u.Y (o.trans m);have u:=bc.Y (o.trans m);refine gg ?_;refine jD ?_;refine gg ?_;refine aJ (ss (n-k-1) (n-k-1) _ (Nb N (k+1)) true _ (k9 M (k+1)) r aq aq aq (λi j hi hj p A=>by
   rw[pG];exact BQ i j K t (n-k) (a k) (c k) (Nb N k) (k9 M k) (L8 M k) p (h.Y A) (s.Y A) (u.Y A) aq aq aq aq (L7 V))) ?_
  rintro _ g ⟨g,p,r,rfl,t,t,an⟩;rw[show n-k-1=n-(k+1) by omega]at an⊢;have t:=iY (h.Y g);have h:=s.Y g;have y:=h.at (i:=0) aq;obtain⟨s,s,s,s,cQ⟩:=h.entry (i:=0) (j:=0) aq aq;refine gg ?_;refine dX dJ F aq ?_;refine gg ?_;refine aL (N':=Nb N (k+1)) (.inl F) F rfl (u.Y g) (cQ.mono (jF N k)) ?_;intro h b5 E a6 h;have I:=o.trans (m.trans g);have h:=(o.trans m).size;have h:=g.size;obtain⟨G,e1,e2⟩ : ∃G:Nat->Nat,p=G (k+1)/\∀q,q<k+1->G q=a q:=⟨λq=>if q=k+1 then p else a q,aA,λq d=>aa aq⟩;obtain⟨H,e3,e4⟩ : ∃H:Nat->Nat,r=H (k+1)/\∀q,q<k+1->H q=c q:=⟨λq=>if q=k+1 then r else c q,aA,λq d=>aa aq⟩;subst e1 e3;have g:=O.size;refine gg ?_;refine⟨_,?_,k+1,v',G,H,F,aq,F,F,F,F,F,F,F,E.aK (O.trans I) λb l=>aq,⟨?_,λq d=>?_⟩,an.kp a6 E aq aq,b5,λq d=>?_,λq d=>?_,λb l=>?_⟩
  ·omega
  ·exact((D.Y I).ch E (λb l=>(P b l).2.1)).congr λq d=>by rw[e2 q d]
  ·rw[e2 q d,e4 q d];exact((C q d).Y I).kp a6 E (B q d).1 (B q d).2.1
  ·by_cases e:q=k
   ·subst e;exact hz
   ·exact V q aq
  ·by_cases e:q=k+1
   ·subst e;exact⟨aq,aq,aq,aq⟩
   ·rw[e2 q aq,e4 q aq];exact B q aq
  ·obtain⟨h,g,q3⟩:=P b l;refine⟨h,g,λq d=>?_⟩;by_cases e:q=k+1
   ·have:=(D.lt l);subst e;exact⟨aq,aq⟩
   ·rw[e2 q aq,e4 q aq];exact q3 q aq
 rintro f Q ⟨v,a,c,L,U,ay,x,b4⟩;rw[ui L];obtain⟨b,b,rfl,_⟩:=x.1.slice;refine gg ?_;exact cU (v:=.slice _ _ _) (v':=.bool _) F rfl rfl ⟨U,.inr ⟨⟨F,ay⟩,_,a,c,F,x,b4⟩⟩
theorem uV(a:Value)(r N:Nat)(len:Nat->Nat)(M:Nat->Nat->Int)(w:World)(c:cB (EI N) w a r len M)(b:1<=N)(d:N<1048576):
 aT Tryz.prog 75 #[a] w (Py w (jt r len=true/\JU r M) r N M):=
 (BP a r N len M w c b d).mono λ_ _ ⟨a,h⟩=>⟨a,h.imp id λ⟨c,u,a,b,e,d,_⟩=>⟨c,u,a,b,e,d⟩⟩
theorem NF.list{w:World}{v:Value}{m n N:Nat}{M:Nat->Nat->Int}{b a:Nat->Nat}(h:NF w v m n N M b a)(c:0<m):
 ∃g a,v=.slice (some ⟨g,0,none⟩) m a/\∀q,q<m->w.cell? ⟨g,0+q*1,none⟩=some (.slice (some ⟨b q,0,none⟩) (n-q) (n-q)):=by
 obtain⟨g,a,e,_⟩:=h.1.at c;refine⟨g,a,e,λq b=>?_⟩;obtain⟨a,a,a,c⟩:=h.1.at b;rw[e]at a;injection a with a _ _;injection a with a;injection a with a;rw[a];exact c
def Ha(r:Nat)(len:Nat->Nat)(M:Nat->Nat->Int):Prop:=jt r len=true/\(∀i j,i<r->j<i->M i j=M j i)/\∀q,q<r->0<k9 M q 0 0
theorem rJ(Q:Value)(r N:Nat)(len:Nat->Nat)(M:Nat->Nat->Int)(w:World)(T:cB (EI N) w Q r len M)(aj:1<=N)(hN:N<1048576):
 aT Tryz.prog 31 #[Q] w (Nw w (Ha r len M)):=by
 refine bo (n:=64) Tryz.func31 F rfl az aA ?_;refine gg ?_;refine aJ (uW _ Q r len M w T) ?_;rintro _ _ ⟨rfl,n,rfl,Z⟩;by_cases y:jt r len=true;rotate_left
 ·have Q:jt r len=false:=by simpa using y
  rw[Q];refine gg ?_;refine aN ?_;refine gg ?_;exact bF (v:=.bool _) F rfl ⟨Ext.refl _,false,F,⟨λh=>(by cases h),λh=>absurd h.1 y⟩⟩
 obtain rfl:=Z y;obtain⟨r,r,r⟩:=dj.1 y;rw[y];clear Z;have hM:=T.sq r;obtain⟨r,G,rfl,_,_,C⟩:=id hM;obtain⟨U,_,rfl,_⟩:=C 0 aq;refine gg ?_;refine aN ?_;refine gg ?_;refine aY (λf A=>f 0=.slice (some U) n G/\f 3=.int .i64 (n:Int)/\Ext w A/\∀a b,a<n->b<a->M a b=M b a) ?_ ?_
 ·refine gg ?_;refine aU (λm f A=>∃i,m=n-i/\i<=n/\f 0=.slice (some U) n G/\f 3=.int .i64 (n:Int)/\f 17=.int .i64 (n:Int)/\f 18=.int .i64 ((i:Nat):Int)/\Ext w A/\∀a b,a<i->b<a->M a b=M b a)
   n ⟨0,F,aE,F,F,F,F,Ext.refl _,λa b h=>absurd h aq⟩ ?_
  rintro m f X ⟨i,rfl,r,l,d,t,s,o,x⟩;rw[ui l,ui d,ui t,ui s];clear l d t s;by_cases p:i<n
  ·refine gg ?_;refine aU (λm f A=>∃j,m=i-j/\j<=i/\f 0=.slice (some U) n G/\f 3=.int .i64 (n:Int)/\f 17=.int .i64 (n:Int)/\f 18=.int .i64 (i:Int)/\f 5=.int .i64 (i:Int)/\f 21=.int .i64 (i:Int)/\f 22=.int .i64 ((j:Nat):Int)/\Ext w A/\∀b,b<j->M i b=M b i)
    i ⟨0,F,aE,F,F,F,F,F,F,F,o,λb h=>absurd h aq⟩ ?_
   clear o;rintro m f W ⟨j,rfl,r,l,d,t,s,Q,G,r,o,I⟩;rw[ui l,ui d,ui t,ui s,ui Q,ui G,ui r];clear l d t s Q G r;by_cases a7:j<i
   ·refine gg ?_;refine b_ [(0,3),(1,3),(2,3),(3,0),(4,3),(5,3),(6,0),(7,3),(8,3),(9,3),(10,0),(11,3),(12,3),(13,0),(14,1),(15,3)] mixed az λL J _=>?_;obtain⟨r,u1,e1,pn,E⟩:=C i p;obtain rfl:=Option.some.inj e1;have E:gY (EI N) w u1 n (M i):=E;obtain⟨r,r,rfl,_,_,ae⟩:=E;obtain⟨r,r,r,rfl,a6,a1,cQ⟩:=ae j aq;obtain⟨r,u2,e2,z_,D⟩:=C j aq;obtain rfl:=Option.some.inj e2;have D:gY (EI N) w u2 n (M j):=D;obtain⟨r,r,rfl,_,_,a8⟩:=D;obtain⟨r,r,r,rfl,s,r,fc⟩:=a8 i p;have c:=o.trans J;have k1:=aP c pn;have k2:=aP c z_;have t:=aP c a6;have t:=aP c a1;have t:=aP c s;have s:=aP c r;refine gg ?_;refine aM (o8 _ _ _ _ _ _ N L (IV.Y cQ c) (IV.Y fc c) aq) ?_;rintro _ w4 ⟨z,rfl⟩;refine⟨z,?_⟩;by_cases B:M i j=M j i
    ·have S:e_ (M i j) (M j i)=0:=by rw[B];simp[e_]
     refine gg ?_;refine⟨_,?_,j+1,F,aq,F,F,F,F,F,F,F,c.trans z,λb O=>?_⟩
     ·omega
     ·by_cases e:b=j
      ·subst e;exact B
      ·exact I b aq
    ·have S:¬e_ (M i j) (M j i)=0:=by
      unfold e_;split
      ·decide
      ·split<;>omega
     refine gg ?_;exact bF (v:=.bool _) F rfl ⟨c.trans z,false,F,⟨λh=>(by cases h),λh=>absurd (h.2.1 i j p a7) B⟩⟩
   ·refine gg ?_;refine⟨_,?_,i+1,F,aq,F,F,F,F,o,λa b ai O=>?_⟩
    ·omega
    ·by_cases e:a=i
     ·subst e;exact I b aq
     ·exact x a b aq O
  ·refine gg ?_;exact⟨F,F,o,λa b ai O=>x a b aq O⟩
 rintro f X ⟨l,d,H,V⟩;rw[ui l,ui d];clear l d;refine gg ?_;refine aJ (uV _ n N len M X (T.Y H) aj hN) ?_;rintro _ W ⟨K,⟨hp,rfl⟩|⟨hp,u,a,a,rfl,R⟩⟩
 ·refine gg ?_;refine aN ?_;refine gg ?_;exact bF (v:=.bool _) F rfl ⟨H.trans K,false,F,⟨λh=>(by cases h),λh=>absurd ⟨h.1,λq Y=>by have:=h.2.2 q aq;omega⟩ hp⟩⟩
 obtain⟨g,cp,rfl,P⟩:=R.list aq;refine gg ?_;refine aN ?_;refine gg ?_;refine aY (λf A=>Ext w A/\∀q,q<n->0<k9 M q 0 0) ?_ ?_
 ·refine gg ?_;refine jC lI F ?_;refine gg ?_;refine aU (λm f A=>∃k,m=n-k/\k<=n/\f 50=.slice (some ⟨g,0,none⟩) n cp/\f 51=.int .i64 (n:Int)/\f 52=.int .i64 ((k:Nat):Int)/\Ext W A/\∀q,q<k->0<k9 M q 0 0)
   n ⟨0,F,aE,F,F,F,Ext.refl _,λq h=>absurd h aq⟩ ?_
  rintro m f L ⟨k,rfl,a,c,b,a,o,x⟩;rw[ui c,ui b,ui a];clear c b a;by_cases p:k<n
  ·have k1:=aP o (P k p);have a:=(R.2 k p).Y o;have k2:=a.at (i:=0) aq;obtain⟨b,b,b,b,b⟩:=a.entry (i:=0) (j:=0) aq aq;have a:=iL hN (show k<=16 by omega);refine gg ?_;refine dP lI F rfl aq ?_;refine gg ?_;refine dX dJ F aq ?_;refine gg ?_;refine aJ (pK _ _ _ _ L b.1 aq) ?_;rintro _ w4 ⟨z,rfl⟩;by_cases B:0<k9 M k 0 0
   ·have S:¬(k9 M k 0 0).sign<=0:=by rw[Int.sign_eq_one_of_pos B];decide
    refine gg ?_;refine⟨_,?_,k+1,F,aq,F,F,F,o.trans z,λq Y=>?_⟩
    ·omega
    ·by_cases e:q=k
     ·subst e;exact B
     ·exact x q aq
   ·have S:(k9 M k 0 0).sign<=0:=by
     rcases Int.lt_or_eq_of_le (show k9 M k 0 0<=0 by omega)with h|h
     ·rw[Int.sign_eq_neg_one_of_neg h];decide
     ·rw[h];decide
    refine gg ?_;exact bF (v:=.bool _) F rfl ⟨H.trans (K.trans (o.trans z)),false,F,⟨λh=>(by cases h),λh=>absurd (h.2.2 k p) B⟩⟩
  ·refine gg ?_;exact⟨H.trans (K.trans o),λq Y=>x q aq⟩
 rintro f L ⟨J,a⟩;refine gg ?_;exact bF (v:=.bool _) F rfl ⟨J,true,F,⟨λ_=>⟨y,V,a⟩,λ_=>rfl⟩⟩
end
section
open Go Go.cW Go.c7 Go.Proofs
def nK(k m:Nat):Nat->Nat:=λj=>if j<k then j else m
theorem As(k m:Nat)(w:World)(g:k<=1000)(_hm:m<=1000):
 aT Tryz.prog 210 #[.int .i64 (k:Int),.int .i64 (m:Int)] w λv g=>Ext w g/\k8 g v (k+1) (nK k m):=by
 refine bo (n:=20) Tryz.func210 F rfl az aA ?_;refine gg ?_;refine aY (λf g=>∃v,f 1=.int .i64 (m:Int)/\f 5=v/\Ext w g/\kM 3 (.int .i64 0) g v k (λj=>.int .i64 ((j:Nat):Int))/\∀b,some b=v.ownBlock->w.heap.size<=b) ?_ ?_
 ·refine gg ?_;refine aU (λq f g=>∃i v,q=k-i/\i<=k/\f 0=.int .i64 (k:Int)/\f 1=.int .i64 (m:Int)/\f 5=v/\f 6=.int .i64 ((i:Nat):Int)/\Ext w g/\kM 3 (.int .i64 0) g v i (λj=>.int .i64 ((j:Nat):Int))/\∀b,some b=v.ownBlock->w.heap.size<=b)
   k ⟨0,.slice none 0 0,F,aE,F,F,F,F,Ext.refl _,kM.nil,λb h=>by cases h⟩ ?_
  rintro q f G ⟨i,v,rfl,g,q,o,l,g,r,x,a⟩;rw[ui q,ui o,ui l,ui g];clear q o l g;refine aN ?_;by_cases g:i<k
  ·refine gg ?_;refine dp (v0:=.int .i64 (i:Int)) iJ F (.inl F) F rfl ?_;intro E u d B;have s:=iY u;refine gg ?_;refine k7 iJ F (.inl F) F rfl (x.Y d) s F aq aw (λ_ _ _=>aA) (λ_=>aA) ?_;intro z D p C t y;have g:=(r.trans d).size;refine gg ?_;refine⟨_,?_,i+1,z,F,aq,F,F,F,F,t.aK (r.trans d) a,p.congr λj _=>?_,λb h=>?_⟩
   ·omega
   ·by_cases e:j=i
    ·rw[ab e,e]
    ·rw[aa e]
   ·rcases y with e|e
    ·rw[e]at h;exact a b h
    ·rw[e]at h;injection h with h;omega
  ·refine gg ?_;obtain rfl:i=k:=aq;exact⟨v,F,F,r,x,a⟩
 rintro f G ⟨v,o,l,r,x,a⟩;rw[ui o,ui l];refine gg ?_;refine dp (v0:=.int .i64 (m:Int)) iJ F (.inl F) F rfl ?_;intro E u d B;have s:=iY u;refine gg ?_;refine k7 iJ F (.inl F) F rfl (x.Y d) s F aq aw (λ_ _ _=>aA) (λ_=>aA) ?_;intro z D p C t y;obtain⟨A,c,rfl,f,b⟩:=p.slice;refine gg ?_;refine bF (v:=.slice _ _ _) F rfl ⟨t.aK (r.trans d) a,A,c,F,f,b,λj a=>?_⟩;obtain⟨g,b,e,b⟩:=p.at a;injection e with e _ _;refine⟨_,e,?_⟩;rw[add_lit,b];unfold nK;dsimp only;by_cases e:j=k
 ·rw[ab e,aa aq]
 ·rw[aa e,ab aq]
theorem zl(D:Value)(n N:Nat)(M:Nat->Nat->Int)(w:World)(U:cB (EI N) w D n (λ_=>n) M)(X:1<=n)(T:N<137438953472):
 aT Tryz.prog 163 #[D] w (Nw w (∀i j,i<n->j<i->M i j=M j i)):=by
 obtain⟨D,d,rfl,D,D,p⟩:=id U;obtain⟨C,_,rfl,_⟩:=p 0 aq;refine bo (n:=32) Tryz.func163 F rfl az aA ?_;refine gg ?_;refine aY (λf u=>Ext w u/\∀a b,a<n->b<a->M a b=M b a) ?_ ?_
 ·refine gg ?_;refine aU (λm f u=>∃i,m=n-i/\i<=n/\f 0=.slice (some C) n d/\f 5=.slice (some C) n d/\f 6=.int .i64 (n:Int)/\f 7=.int .i64 ((i:Nat):Int)/\Ext w u/\∀a b,a<i->b<a->M a b=M b a)
   n ⟨0,F,aE,F,F,F,F,Ext.refl _,λa b h=>absurd h aq⟩ ?_
  rintro m f P ⟨i,rfl,D,o,l,k,g,t,z⟩;rw[ui o,ui l,ui k,ui g];clear o l k g;by_cases x:i<n
  ·refine gg ?_;refine aU (λm f u=>∃j,m=i-j/\j<=i/\f 0=.slice (some C) n d/\f 5=.slice (some C) n d/\f 6=.int .i64 (n:Int)/\f 7=.int .i64 (i:Int)/\f 3=.int .i64 (i:Int)/\f 4=.int .i64 ((j:Nat):Int)/\Ext w u/\∀b,b<j->M i b=M b i)
    i ⟨0,F,aE,F,F,F,F,F,F,t,λb h=>absurd h aq⟩ ?_
   clear t;rintro m f d ⟨j,rfl,d,o,l,k,g,m,d,t,s⟩;rw[ui o,ui l,ui k,ui g,ui m,ui d];clear o l k g m d;refine aN ?_;by_cases H:j<i
   ·refine gg ?_;refine b_ [(0,3),(1,3),(2,3),(3,0),(4,3),(5,3),(6,0),(7,3),(8,3),(9,3),(10,0),(11,3),(12,3),(13,0),(14,1),(15,3)] mixed az λO L _=>?_;obtain⟨d,R,W,pn,r⟩:=p i x;obtain rfl:=Option.some.inj W;have r:gY (EI N) w R n (M i):=r;obtain⟨d,d,rfl,_,_,J⟩:=r;obtain⟨d,d,d,rfl,G,E,cQ⟩:=J j aq;obtain⟨d,Q,V,z_,q⟩:=p j aq;obtain rfl:=Option.some.inj V;have q:gY (EI N) w Q n (M j):=q;obtain⟨d,d,rfl,_,_,I⟩:=q;obtain⟨d,d,d,rfl,g,d,fc⟩:=I i x;have c:=t.trans L;have k:=aP c pn;have k:=aP c z_;have k:=aP c G;have k:=aP c E;have k:=aP c g;have g:=aP c d;refine gg ?_;refine aM (sQ _ _ _ _ _ _ N O (IV.Y cQ c) (IV.Y fc c) T) ?_;rintro _ d ⟨y,rfl⟩;refine⟨y,?_⟩;by_cases A:M i j=M j i
    ·have S:e_ (M i j) (M j i)=0:=(og _ _).2 A;refine gg ?_;refine⟨_,?_,j+1,F,aq,F,F,F,F,F,F,c.trans y,λb B=>?_⟩
     ·omega
     ·by_cases e:b=j
      ·subst e;exact A
      ·exact s b aq
    ·have S:¬e_ (M i j) (M j i)=0:=λe=>A ((og _ _).1 e);refine gg ?_;exact bF (v:=.bool _) F rfl ⟨c.trans y,false,F,⟨λh=>(by cases h),λh=>absurd (h i j x H) A⟩⟩
   ·refine gg ?_;refine⟨_,?_,i+1,F,aq,F,F,F,F,t,λa b K B=>?_⟩
    ·omega
    ·by_cases e:a=i
     ·subst e;exact s b aq
     ·exact z a b aq B
  ·refine gg ?_;exact⟨t,λa b K B=>z a b aq B⟩
 rintro f P ⟨b,a⟩;refine gg ?_;exact bF (v:=.bool _) F rfl ⟨b,true,F,⟨λ_=>a,λ_=>rfl⟩⟩
