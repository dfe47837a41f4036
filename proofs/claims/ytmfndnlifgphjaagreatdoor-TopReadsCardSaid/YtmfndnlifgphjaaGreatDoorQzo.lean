import Derived.Test.YtmfndnlifgphjaaGreatDoorQzn
set_option maxHeartbeats 64000000
open Go.Proofs.YtmfndnlifgphjaaGreatDoor
namespace Go.Proofs.Qq
section
open Go Go.cW Go.c7 Go.Proofs
section
variable {P:Program}{n:Nat}{k:Nat}{K:Fr->World->Prop}{f:Fr}{w:World}
 {d ty t t2:Nat} {x y:Operand} {pos:String} {aft:Array Edge} {gd:Option (Nat×Bool)}
theorem eQ{M:Nat->Prop}{p:Addr}{v:Value}(g:k≠3)(j:gz P t=true)(i:ev n f x=.pointer (some p))(c:w.cell? p=some v)(l:¬M p.block)(h:K (cg f d v) w):
 R1 P n (Ch M) k ⟨some d,.load t x,ty,pos,aft,gd⟩ K f w:=by
 refine iD g (v:=v) (λg b=>?_) h;have e:g.cell? p=some v:=by
  rcases b with b|rfl
  ·rw[jz b (World.block_lt_of_cell? w _ c) l];exact c
  ·exact c
 simp only[execOp,i,Sem.run_bind,j7 j e,Result.andThen_ok,Sem.run_pure]
theorem mN{Q:Exit->Fr->World->Prop}{g:Nat}{a:Array Oper}(M:Nat->Prop)(b:List (Nat×Nat))(i:P.follows .mixedOrders=true)
 (e:(b.length == a.size&&Region.noSelect a&&jI a (uh b) b (Array.replicate a.size false))=true)
 (h:∀c,Ext w c->c.heap=w.heap->Ro P n a (Ch M) (Q .normal) b f c):W P n (.region g a true) Q f w:=
 tE (Ch M) (BB M) b i e (h _ (mI w) F)
theorem F6{a:Int}(e:jV P t (.int .i8))(c:jV P t2 (.int .i64))(b:ev n f x=.int .i8 a)(h1:-128<=a)(g:a<128){S:World->World->Prop}(h:K (cg f d (.int .i64 a)) w):R1 P n S k ⟨some d,.convert t t2 x,ty,pos,aft,gd⟩ K f w:=
 kb e c b (wrap_i64 aq aq) h
end
structure qD(w:World)(A:Option Addr)(n:Nat)(ns:Nat->Int):Prop where
 cell:∀i,i<n->∃ad,A=some ad/\w.cell? (ad.add (i*1))=some (.int .i8 (ns i))/\-128<=ns i/\ns i<128
 small:n<=140737488355328
theorem qD.Y{w w':World}{A:Option Addr}{n:Nat}{a:Nat->Int}(h:qD w A n a)(g:Ext w w'):qD w' A n a:=
 ⟨λi b=>by obtain⟨j,e,c,a⟩:=h.cell i b;exact⟨j,e,aP g c,a⟩,h.small⟩
def tp(n:Nat)(b:Nat->Int)(k:Nat):Int:=if k<n then b k else 0
theorem yY{w:World}{A:Option Addr}{n:Nat}{a:Nat->Int}(h:qD w A n a)(k:Nat):-128<=tp n a k/\tp n a k<128:=by
 unfold tp;split
 ·rename_i b;obtain⟨_,_,_,h⟩:=h.cell k b;exact h
 ·decide
def fj(w:World)(g:Nat)(A:Option Addr)(n c k:Nat):Prop:=bg w g 110 #[.slice A n c,.int .i64 ((min k n:Nat):Int)]
theorem Hb{A:Option Addr}{n c:Nat}{z:Int}:Ll #[.slice A n c,.int .i64 z]:=by
 intro i a
 match i with
 |0=>simp
 |1=>simp
 |i+2=>simp
theorem xx(g:Nat)(A:Option Addr)(n c k:Nat)(u:Nat->Int)(o w:World)(q:Ext o w)(z:qD o A n u)(s:o.heap.size<=g)(j:fj w g A n c k):
 aT Tryz.prog 64 #[.pointer (some ⟨g,0,none⟩)] w λv s=>v=.int .i64 (tp n u k)/\fj s g A n c (k+1)/\Ch (λb=>b=g) w s/\Kp w s:=by
 refine bo (n:=32) Tryz.func64 F rfl az aA ?_;have s:=z.small;unfold fj at j;by_cases p:k<n
 ·rw[show min k n=k by omega]at j;refine gg ?_;refine aN ?_;refine b_ [(0,3),(1,3),(2,3),(3,0),(4,3),(5,3),(6,3),(7,0),(8,3),(9,3)] mixed az λJ a _=>?_;have h:=j.Y a;have D:=iR h;have C:=fG h;obtain⟨E,rfl,B,H,G⟩:=(z.Y (q.trans a)).cell k p;refine gg ?_;refine bZ (aX F) (.inl F) F rfl h aA ?_;intro s s l L;have I:=c8 h Hb l;refine gg ?_;refine b_ [(0,3),(1,3),(2,3),(3,0),(4,3),(5,3),(6,3),(7,0),(8,3),(9,3),(10,0),(11,3),(12,3)] mixed az λr i _=>?_;have m:bg r g 110 #[.slice (some E) n c,.int .i64 ((k+1:Nat):Int)]:=s.Y i;have D:=iR m;have C:=fG m;have s:Ext o r:=(l.aK (q.trans a) λb b=>aq).trans i;obtain⟨b,e,B,_⟩:=(z.Y s).cell k p;injection e with e;subst e;have b:r.cell? (E.add ((k+1-1)*1))=some (.int .i8 (u k)):=B;refine gg ?_;refine F6 NJ nw F H G ?_;refine gg ?_;refine bF (v:=.int _ _) F rfl ⟨by rw[tp,ab p],?_,(a.ch.trans l).trans i.ch,(bJ a).trans (I.trans (bJ i))⟩;unfold fj;rw[show min (k+1) n=k+1 by omega];exact m
 ·rw[show min k n=n by omega]at j;refine gg ?_;refine aN ?_;refine b_ [(0,3),(1,3),(2,3),(3,0),(4,3),(5,3),(6,3),(7,0),(8,3),(9,3)] mixed az λJ a _=>?_;have h:=j.Y a;have D:=iR h;have C:=fG h;refine gg ?_;refine bF (v:=.int _ _) F rfl ⟨by rw[tp,aa p];rfl,?_,a.ch,bJ a⟩;unfold fj;rw[show min (k+1) n=n by omega];exact h
def fi(w:World)(g c:Nat)(M:Nat->Int):Prop:=bg w g 2 (arr c λj=>.int .i64 (M j))
theorem JX{c:Nat}{h:Nat->Value}(g:∀j,j<c->∃z,h j=.int .i64 z):Ll (arr c h):=by
 intro i z a;by_cases b:i<c
 ·rw[cE b]at a;obtain⟨e,e⟩:=g i b;rw[e]at a;cases a
 ·simp[arr,b]at a
theorem lM{w:World}{g c:Nat}(h:bg w g 2 (madeCells (Value.int .i64 0).cells (c*1))):fi w g c (λ_=>0):=by
 rw[jA,Nat.mul_one]at h;unfold fi;have e:arr c (λk=>(Value.int IntKind.i64 0).cells[k%(Value.int IntKind.i64 0).cells.size]!)=arr c λ_=>.int .i64 0:=dO λk _=>by simp[Value.cells,Nat.mod_one]
 rw[e]at h;exact h
theorem fi.congr{w:World}{g c:Nat}{M M':Nat->Int}(h:fi w g c M)(e:∀j,j<c->M j=M' j):fi w g c M':=by
 unfold fi at*;rw[dO (λj a=>by rw[<-e j a])];exact h
theorem fi.set{w':World}{g c j:Nat}{M:Nat->Int}{z:Int}(h:bg w' g 2 ((arr c λj=>.int .i64 (M j)).setIfInBounds (0+j*1) (.int .i64 z))):fi w' g c (ef M j z):=by
 unfold fi;rw[cT,Nat.zero_add,Nat.mul_one]at h;rw[dO λk _=>?_]
 ·exact h
 ·by_cases e:k=j
  ·subst e;rw[ct];simp[ef]
  ·rw[b9 _ _ e];simp[ef,e]
structure ia(w:World)(gO:Nat)(gs:Nat->Nat)(r c:Nat)(M:Nat->Nat->Int):Prop where
 outer:bg w gO 113 (arr r λi=>.slice (some ⟨gs i,0,none⟩) c c)
 row:∀i,i<r->fi w (gs i) c (M i)
 ne:∀i,i<r->gs i≠gO
 inj:∀i j,i<r->j<r->gs i=gs j->i=j
theorem ia.Y{w w':World}{e:Nat}{b:Nat->Nat}{r c:Nat}{M:Nat->Nat->Int}(h:ia w e b r c M)(a:Ext w w'):ia w' e b r c M:=
 ⟨h.outer.Y a,λi b=>bg.Y (h.row i b) a,h.ne,h.inj⟩
theorem ia.read{w:World}{a:Nat}{e:Nat->Nat}{r c:Nat}{M:Nat->Nat->Int}(h:ia w a e r c M)(l:∀i j,i<r->j<c->-9223372036854775808<=M i j/\M i j<9223372036854775808)(b:r<9223372036854775808)(g:c<9223372036854775808):
 ke w (.slice (some ⟨a,0,none⟩) r r) r (λ_=>c) M:=by
 refine⟨_,_,F,aD,b,λi b=>⟨_,_,rfl,by rw[add_lit,h.outer.cell,cE aq,Nat.zero_add,Nat.mul_one],_,_,F,aD,g,λj a=>⟨_,rfl,?_,l i j b a⟩⟩⟩;have g:bg w (e i) 2 (arr c λj=>.int .i64 (M i j)):=h.row i b;have a:j<c:=a;rw[add_lit,g.cell,cE aq,Nat.zero_add,Nat.mul_one]
def RZ(w:World)(r c:Nat)(M:Nat->Nat->Int)(v:Value)(w':World):Prop:=
 Ext w w'/\∃b e,v=.slice (some ⟨b,0,none⟩) r r/\w.heap.size<=b/\(∀i,i<r->w.heap.size<=e i)/\ia w' b e r c M
theorem dD.kp{w w':World}{v:Value}{m N:Nat}{cn:Bool}{M:Nat->Int}{a:Nat->Prop}(h:dD w v m cn N M)(i:Kp w w')(j:Ch a w w')(e:∀b,some b=v.ownBlock->¬a b):dD w' v m cn N M:=by
 rcases h with h|⟨g,c,rfl,h1,h2,h3⟩
 ·exact .inl h
 ·exact .inr ⟨g,c,F,h1,h2,h3.kp i j (e g F)⟩
theorem dD.Y{w w':World}{v:Value}{m N:Nat}{cn:Bool}{M:Nat->Int}(h:dD w v m cn N M)(a:Ext w w'):dD w' v m cn N M:=h.kp (bJ a) a (λ_ _=>id)
theorem dD.congr{w:World}{v:Value}{m N:Nat}{cn:Bool}{M M':Nat->Int}(h:dD w v m cn N M)(e:∀j,j<m->M j=M' j):dD w v m cn N M':=by
 rcases h with h|⟨g,b,rfl,h1,h2,h3⟩
 ·exact .inl h
 ·refine .inr ⟨g,b,F,h1,h2,h3.congr λj c=>⟨aD,?_⟩⟩;unfold tn;split
  ·rename_i a;exact e j a
  ·rfl
theorem dD.lt{w:World}{v:Value}{m N:Nat}{cn:Bool}{M:Nat->Int}(h:dD w v m cn N M){b:Nat}(a:some b=v.ownBlock):b<w.heap.size:=by
 rcases h with⟨_,rfl⟩|⟨g,cap,rfl,h1,h2,h3⟩
 ·cases a
 ·injection a with e;rw[e];exact h3.lt
theorem dD.slice{w:World}{v:Value}{m N:Nat}{cn:Bool}{M:Nat->Int}(h:dD w v m cn N M):∃A c,v=.slice A m c:=by
 rcases h with⟨rfl,rfl⟩|⟨g,cap,rfl,h1,h2,h3⟩
 ·exact⟨_,_,F⟩
 ·exact⟨_,_,F⟩
theorem dD.rg{w:World}{v:Value}{m N:Nat}{cn:Bool}{M:Nat->Int}(h:dD w v m cn N M)(a:1<=m):∃g a,v=.slice (some ⟨g,0,none⟩) m a/\iZ w g m a cn (λ_=>N) M:=by
 rcases h with⟨rfl,rfl⟩|⟨g,cap,rfl,h1,h2,h3⟩
 ·omega
 ·refine⟨g,cap,F,(h3.rg h1 h2).congr λj a=>⟨aD,?_⟩⟩;unfold tn;rw[ab a]
theorem dD.nil{w:World}{N:Nat}{cn:Bool}{M:Nat->Int}:dD w (.slice none 0 0) 0 cn N M:=.inl ⟨F,F⟩
section
variable {n:Nat}{S:World->World->Prop}{k:Nat}{K:Fr->World->Prop}{f:Fr}{w:World}
 {d ty t t2:Nat} {x y:Operand} {pos:String} {aft:Array Edge} {gd:Option (Nat×Bool)}
theorem pe{a b:Value}{g:Operand}(l:k=2\/k=1/\∀e,Ext w e->S w e)(m:ev n f g=.agg #[a,b])
 (h:∀e,bg e w.heap.size 44 #[a,b]->Ext w e->e.heap.size=w.heap.size+1->K (cg f d (.slice (some ⟨w.heap.size,0,none⟩) 1 1)) e):R1 Tryz.prog n S k ⟨some d,.buildSlice 49 1 #[(0,g)],ty,pos,aft,gd⟩ K f w:=by
 refine ph (T:=44) (cs:=#[a,b]) (v:=.slice (some ⟨w.heap.size,0,none⟩) 1 1) l ?_ h;obtain⟨j,c⟩:=dJ;cases hi:Tryz.prog.info? 44 with
 |none=>rw[hi]at c;simp at c
 |some i=>
  rw[hi]at c;simp at c;obtain⟨g,e,h⟩:=c;simp[execOp,Instr.buildSlice,run_underlying j,sizeOf,typeInfo,hi,e,zeroValue,g,m,Instr.fill,Value.cells,newRow,Array.range];rw[DH _ (by simp[e])]
end
def RG(w:World)(r c N:Nat)(M:Nat->Nat->Int)(v:Value)(w':World):Prop:=
 Ext w w'/\∃a b e,v=.slice (some ⟨a,0,none⟩) r r/\w.heap.size<=a/\(∀i,i<r->w.heap.size<=b i)/\(∀i,i<r->a<b i)/\cF w' a b e r c true (λ_ _=>N) M
def na(i c:Nat)(a b:Nat->Nat)(v:Value):Nat->Value:=λk=>if k<i then .slice (some ⟨a k,0,none⟩) c (b k)else if k=i then v else .slice none 0 0
theorem dD.Ma{w:World}{v:Value}{m N:Nat}{cn:Bool}{M:Nat->Int}(h:dD w v m cn N M):∃A m c,v=.slice A m c:=by
 obtain⟨A,c,e⟩:=h.slice;exact⟨A,_,c,e⟩
theorem Cc{i c r:Nat}{b e:Nat->Nat}{v:Value}(a:∃A m c,v=.slice A m c):∀k,k<r->∃A m g,na i c b e v k=.slice A m g:=λk _=>by
 unfold na;split
 ·exact⟨_,_,_,F⟩
 ·split
  ·exact a
  ·exact⟨_,_,_,F⟩
theorem sP(v:Value)(r c N:Nat)(M:Nat->Nat->Int)(w:World)(h:cB (EI N) w v r (λ_=>c) M)(hr:r<=1048576)(bW:1<=c)(hc:c<=1048576)(hN:N<1099511627776):
 aT Tryz.prog 12 #[v] w (RG w r c N M):=by
 obtain⟨A,b8,rfl,cu,cd,bc⟩:=h;refine bo (n:=38) Tryz.func12 F rfl az aA ?_;refine gg ?_;refine cJ fL (.inl F) F rfl aD aq aq ?_;intro w2 O H W;obtain⟨s,bK⟩ : ∃g,g=w.heap.size:=⟨_,F⟩;rw[<-bK]at O⊢;have ai:bg w2 s 49 (arr r (na 0 c (λ_=>0) (λ_=>0) (.slice none 0 0))):=by
  have e:na 0 c (λ_=>0) (λ_=>0) (.slice none 0 0)=λ_=>.slice none 0 0:=by funext k;simp[na]
  rw[e];have hh:=O;rw[jA]at hh;rw[Nat.mul_one]at hh;have e2:(λk=>(Value.slice none 0 0).cells[k%(Value.slice none 0 0).cells.size]!)=λ_=>Value.slice none 0 0:=by
   funext k;simp[Value.cells,Nat.mod_one]
  rw[e2]at hh;exact hh
 clear O;refine gg ?_;refine aY (λf E=>∃l z,f 3=.slice (some ⟨s,0,none⟩) r r/\Ext w E/\cF E s l z r c true (λ_ _=>N) M/\∀k,k<r->s<l k) ?_ ?_
 ·refine gg ?_;refine aU (λm f E=>∃i l z,m=r-i/\i<=r/\f 0=.slice A r b8/\f 3=.slice (some ⟨s,0,none⟩) r r/\f 11=.int .i64 (r:Int)/\f 12=.int .i64 ((i:Nat):Int)/\Ext w E/\bg E s 49 (arr r (na i c l z (.slice none 0 0)))/\(∀k,k<i->iZ E (l k) c (z k) true (λ_=>N) (M k)/\s<l k)/\(∀k U,k<i->U<i->l k=l U->k=U))
   r ⟨0,λ_=>0,λ_=>0,rfl,aE,rfl,rfl,rfl,rfl,H,ai,λk p=>absurd p aq,λk U p=>absurd p aq⟩ ?_
  clear ai H W;rintro m f T ⟨i,l,z,rfl,hi,Q,D,J,I,B,G,a,al⟩;rw[ui Q,ui D,ui J,ui I];clear Q D J I;by_cases bB:i<r
  ·obtain⟨ad,u,rfl,hx,bu⟩:=bc i bB;obtain⟨Ai,bj,rfl,cx,ca,bA⟩:=id bu;have bs:=aP B hx;refine gg ?_;refine aU (λm f E=>∃j v,m=c-j/\j<=c/\f 0=.slice (some ad) r b8/\f 3=.slice (some ⟨s,0,none⟩) r r/\f 11=.int .i64 (r:Int)/\f 12=.int .i64 (i:Int)/\f 4=.int .i64 (i:Int)/\f 18=.slice Ai c bj/\f 19=.int .i64 (c:Int)/\f 20=.int .i64 ((j:Nat):Int)/\Ext w E/\bg E s 49 (arr r (na i c l z v))/\(∀k,k<i->iZ E (l k) c (z k) true (λ_=>N) (M k)/\s<l k)/\
    dD E v j true N (M i)/\(∀b,some b=v.ownBlock->s<b/\∀k,k<i->l k≠b))
    c ⟨0,.slice none 0 0,F,aE,F,F,F,F,F,F,F,F,B,G,a,dD.nil,λb o=>by cases o⟩ ?_
   clear B G a bs T;rintro m f T ⟨j,v,rfl,hj,Q,D,J,I,b0,au,ar,an,B,G,a,P,C⟩;rw[ui Q,ui D,ui J,ui I,ui b0,ui au,ui ar,ui an];clear Q D J I b0 au ar an;by_cases bG:j<c
   ·obtain⟨cL,x,y,rfl,a8,a7,hv⟩:=bA j bG;have a8:=aP B a8;have a7:=aP B a7;have hv:IV T N x y (M i j):=IV.Y hv B;refine gg ?_;refine aS (.inl F) a_ ?_;intro w2 O H W;have ae:Bx w2 T.heap.size N false 0:=Bx.zero false O;obtain⟨gb,bI⟩ : ∃g,g=T.heap.size:=⟨_,F⟩;rw[<-bI]at ae⊢;have cy:=B.size;have cc:=G.lt;refine gg ?_;refine aL (.inl F) F rfl ae (N':=N) (z':=M i j) ⟨hv.Y H,λe=>by cases e⟩ ?_;intro w3 bY b7 bD cq;have av:∀b,some b=v.ownBlock->b≠gb:=λb o=>by have:=P.lt o;omega
    have Z:Ext T w3:=b7.aK H λb o=>aq;have G:=G.Y Z;have P:=P.Y Z;have a:∀k,k<i->iZ w3 (l k) c (z k) true (λ_=>N) (M k)/\s<l k:=λk p=>⟨(a k p).1.Y Z,(a k p).2⟩;have B:=B.trans Z;obtain⟨bx,cA,bX,b1⟩:=bY;clear ae O H W b7 bD a8 a7 hv;refine gg ?_;refine mN (λb=>some b=v.ownBlock) [(0,3),(1,3),(2,3),(3,3),(4,3),(5,0),(6,0),(7,1),(8,1),(9,1),(10,3),(11,2)] mixed az λw4 Y _=>?_;have c5:=G.Y Y;have bl:w4.cell? ⟨s,0+i*1,none⟩=some v:=by
     rw[c5.cell,cE aq,Nat.zero_add,Nat.mul_one];simp[na]
    refine gg ?_;refine eQ aw (aX F) F bl (λo=>by have:=(C s o).1;omega) ?_;refine gg ?_;refine fW aw aQ F (bX.Y Y) (λo=>av gb o rfl) ?_;refine gg ?_;refine jE (oK _ _ _ N w4 (b1.1.Y Y) hN) ?_;rintro _ w5 ⟨b6,x',y',rfl,bS⟩;refine⟨b6.ch,?_⟩;refine gg ?_;refine pe (.inr ⟨F,λ_ h=>h.ch⟩) rfl ?_;intro w6 c9 b5 ck;have L:=Y.trans (b6.trans b5);obtain⟨p1,p2⟩:=bh c9;refine gg ?_;refine yJ (.inr ⟨F,λ_ h=>h⟩) rfl rfl (P.Y L) p1 p2 ((bS.Y b5).ev true b1.bd) aq ?_;intro v' w7 X bC aj bt;have X:dD w7 v' (j+1) true N (M i):=X.congr λq _=>by
     split
     ·rename_i e;rw[e]
     ·rfl
    obtain⟨A',c',rfl⟩:=X.slice;have b4:=(G.Y L).ch aj (λo=>by have:=(C s o).1;omega);have cb:=L.size;have c6:Ext w w7:=aj.aK (B.trans L) (λb o=>by have:=(C b o).1;omega);refine gg ?_;refine cZ (aX F) (.inl F) F rfl b4 (by rw[bf];omega) ?_;intro w8 R a1 cf;have ax:=c8 b4 (ff (Cc P.Ma)).lh a1;have R:bg w8 s 49 (arr r (na i c l z (.slice A' (j+1) c'))):=by
     rw[cT]at R;have e:cg (na i c l z v) (0+i*1) (.slice A' (j+1) c')=na i c l z (.slice A' (j+1) c'):=by
      funext k;by_cases e:k=i
      ·subst e;rw[Nat.zero_add,Nat.mul_one,ct];simp[na]
      ·rw[Nat.zero_add,Nat.mul_one,b9 _ _ e];simp[na,e]
     rw[e]at R;exact R
    have a6:∀b,some b=(Value.slice A' (j+1) c').ownBlock->s<b/\∀k,k<i->l k≠b:=λb o=>by
     rcases bt with e|e
     ·rw[e]at o;exact C b o
     ·rw[e]at o;injection o with o;refine⟨by have:=G.lt;omega,λk p=>?_⟩;have:=(a k p).1.lt;omega
    refine gg ?_;refine⟨_,?_,j+1,.slice A' (j+1) c',F,aq,F,F,F,F,F,F,F,F,a1.aK c6 (λb o=>aq),R,λk p=>?_,X.kp ax a1 (λb o e=>by have:=(a6 b o).1;omega),a6⟩
    ·omega
    ·obtain⟨h1,h2⟩:=a k p;exact⟨((h1.Y L).kp bC aj λo=>(C _ o).2 k p rfl).kp ax a1 aq,h2⟩
   ·obtain rfl:j=c:=aq;obtain⟨g,ak,rfl,c4⟩:=P.rg bW;obtain⟨bM,aH⟩:=C g F;refine gg ?_;refine⟨_,?_,i+1,cC l i g,cC z i ak,F,aq,F,F,F,F,B,?_,λk p=>?_,λk U p cv e=>?_⟩
    ·omega
    ·have e:na (i+1) j (cC l i g) (cC z i ak) (.slice none 0 0)=na i j l z (.slice (some ⟨g,0,none⟩) j ak):=by
      funext k;simp only[na,cC];by_cases V:k=i
      ·subst V;simp
      ·by_cases e2:k<i
       ·rw[ab aq,ab e2,aa V,aa V]
       ·rw[aa aq,aa e2,aa V];simp
     rw[e];exact G
    ·by_cases V:k=i
     ·subst V;simp only[cC,if_true];exact⟨c4,bM⟩
     ·simp only[cC,aa V];exact a k aq
    ·simp only[cC]at e;split at e<;>split at e
     ·omega
     ·exact absurd e.symm (aH U aq)
     ·exact absurd e (aH k aq)
     ·exact al k U aq aq e
  ·refine gg ?_;obtain rfl:i=r:=aq;refine⟨l,z,F,B,⟨?_,λk p=>(a k p).1,λk p=>by have:=(a k p).2;omega,al⟩,λk p=>(a k p).2⟩;rw[dO (h':=na i c l z (.slice none 0 0)) (λk p=>by simp[na,p])];exact G
 clear ai H W;rintro f T ⟨l,z,D,B,P,ay⟩;rw[ui D];clear D;refine gg ?_;exact bF F rfl ⟨B,s,l,z,F,aq,λi hi=>by have:=ay i hi;omega,ay,P⟩
def kM(e:Nat)(z:Value)(w:World)(v:Value)(m:Nat)(h:Nat->Value):Prop:=
 (m=0/\v=.slice none 0 0)\/∃g b,v=.slice (some ⟨g,0,none⟩) m b/\m<=b/\b<9223372036854775808/\bg w g e (arr b λk=>if k<m then h k else z)
section
variable {e m:Nat}{z v:Value}{w w':World}{h h':Nat->Value}
theorem kM.nil:kM e z w (.slice none 0 0) 0 h:=.inl ⟨F,F⟩
theorem kM.ch{c:Nat->Prop}(a:kM e z w v m h)(i:Ch c w w')(f:∀b,some b=v.ownBlock->¬c b):kM e z w' v m h:=by
 rcases a with a|⟨g,d,rfl,h1,h2,h3⟩
 ·exact .inl a
 ·exact .inr ⟨g,d,F,h1,h2,h3.ch i (f g F)⟩
theorem kM.Y(a:kM e z w v m h)(b:Ext w w'):kM e z w' v m h:=a.ch b (λ_ _=>id)
theorem kM.lt(c:kM e z w v m h){b:Nat}(a:some b=v.ownBlock):b<w.heap.size:=by
 rcases c with⟨_,rfl⟩|⟨g,cap,rfl,h1,h2,h3⟩
 ·cases a
 ·injection a with e;rw[e];exact h3.lt
theorem kM.congr(a:kM e z w v m h)(c:∀k,k<m->h k=h' k):kM e z w v m h':=by
 rcases a with a|⟨g,b,rfl,h1,h2,h3⟩
 ·exact .inl a
 ·refine .inr ⟨g,b,F,h1,h2,?_⟩;rw[dO (h':=λk=>if k<m then h k else z)]
  ·exact h3
  ·intro k _;by_cases a:k<m
   ·rw[ab a,ab a,c k a]
   ·rw[aa a,aa a]
theorem kM.slice(a:kM e z w v m h):∃A c,v=.slice A m c/\m<=c/\c<9223372036854775808:=by
 rcases a with⟨rfl,rfl⟩|⟨g,cap,rfl,h1,h2,h3⟩
 ·exact⟨_,_,F,aq,aq⟩
 ·exact⟨_,_,F,h1,h2⟩
theorem kM.at(c:kM e z w v m h){k:Nat}(b:k<m):∃g a,v=.slice (some ⟨g,0,none⟩) m a/\w.cell? ⟨g,0+k*1,none⟩=some (h k):=by
 rcases c with⟨rfl,_⟩|⟨g,a,rfl,h1,h2,h3⟩
 ·omega
 ·exact⟨g,a,F,by rw[h3.cell,cE aq,Nat.zero_add,Nat.mul_one,ab b]⟩
theorem kM.lh{cap:Nat}(f:∀k,k<m->∀a,h k≠.int .u32 a)(d:∀a,z≠.int .u32 a):Ll (arr cap λk=>if k<m then h k else z):=by
 intro i a b;by_cases c:i<cap
 ·rw[cE c]at b;have b:=Option.some.inj b;by_cases c:i<m
  ·rw[ab c]at b;exact f i c a b
  ·rw[aa c]at b;exact d a b
 ·rw[Array.getElem?_eq_none (by rw[bf];omega)]at b;cases b
end
theorem oA{z:Value}(n k:Nat)(h:k<n):(Builtin.zeroCells #[z] n)[k]?=some z:=by
 simp only[Builtin.zeroCells];rw[show(#[z]:Array Value).size=1 from F];simp[h,Nat.mod_one]
theorem AY{w:World}{v:Value}{m ty t e q:Nat}{z u:Value}{h:Nat->Value}{a:Addr}{c:Nat}(T:dh Tryz.prog t e 1 q z)(N:z.oneCell'=true)(W:kM e z w v m h)
 (X:w.cell? (a.add 0)=some u) (pn:u.oneCell'=true) (Y:m<1048576) (L:q<=64)
 (V:∀k,k<m->∀a,h k≠.int .u32 a) (U:∀a,z≠.int .u32 a):
 ∃q w',(Builtin.append_ #[t,t] ty #[v,.slice (some a) 1 c]).run Tryz.prog w=.ok q w'/\kM e z w' q (m+1) (λj=>if j=m then u else h j)/\Kp w w'/\
  Ch (λb=>some b=v.ownBlock) w w'/\(q.ownBlock=v.ownBlock\/q.ownBlock=some w.heap.size):=by
 obtain⟨I,d⟩:=T;cases hi:Tryz.prog.info? e with
 |none=>rw[hi]at d;simp at d
 |some i=>
  rw[hi]at d;simp at d;obtain⟨D,f,T⟩:=d;have p:∀(j:Nat) (x:Value),([u]:List Value)[j]?=some x->w.cell? (a.add j)=some x:=λj x r=>by
   match j,r with
   |0,r=>simp at r;rw[<-r];exact X
  have M:maxLen=9223372036854775807:=F;have E:z.cells=#[z]:=eh N;have G:∀q,q<=1048577->q*i.bytes<=140737488355328:=λq d=>by
   rw[T];exact Nat.le_trans (Nat.mul_le_mul d L) aw
  rcases W with⟨rfl,rfl⟩|⟨g,cap,rfl,d,K,hB⟩
  ·have l:=run_append_nil (P:=Tryz.prog) w t ty e i _ I hi D a 1 c [u] (by rw[f];rfl) p aq aq (by have:=G 1 aq;omega);rw[E]at l;have R:=grownCap_ge w 1 0 e;have O:=grownCap_le_maxLen w 1 0 e (by rw[M];omega);have y:=nL w (.cells ([u].toArray++Builtin.zeroCells #[z] (grownCap w 1 0 e-1)) e);refine⟨_,_,l,.inr ⟨w.heap.size,_,F,aq,aq,?_⟩,bJ y,y.mono λ_ _ h=>h.elim,.inr rfl⟩;have s:bg (w.drew.alloc (.cells ([u].toArray++Builtin.zeroCells #[z] (grownCap w 1 0 e-1)) e)) w.heap.size e ([u].toArray++Builtin.zeroCells #[z] (grownCap w 1 0 e-1)):=heap_alloc_new w.drew _;have B:([u].toArray++Builtin.zeroCells #[z] (grownCap w 1 0 e-1))=arr (grownCap w 1 0 e) λk=>if k<0+1 then(if k=0 then u else h k)else z:=by
    apply Array.ext_getElem?;intro k;by_cases n:k<grownCap w 1 0 e
    ·rw[cE n];by_cases Q:k=0
     ·subst Q;rw[Array.getElem?_append_left aA];rfl
     ·rw[Array.getElem?_append_right (by simp;omega),aa aq,oA _ _ (by simp;omega)]
    ·rw[Array.getElem?_eq_none (by rw[Array.size_append,size_zeroCells];simp;omega),Array.getElem?_eq_none (by rw[bf];omega)]
   rw[B]at s;rw[B];exact s
  ·by_cases o:m+1<=cap
   ·have l:=run_append_room (P:=Tryz.prog) w t ty e i I hi g m cap _ hB a 1 c [u] (by rw[f];rfl) p (λx H=>by
     rcases List.mem_cons.1 H with rfl|H
     ·exact pn
     ·cases H) o (by rw[f,bf];simp;exact o)
    rw[f]at l;have S:((arr cap λk=>if k<m then h k else z).toList.take (m*1)++[u]++(arr cap λk=>if k<m then h k else z).toList.drop (m*1+[u].length)).toArray=arr cap (λk=>if k<m+1 then(if k=m then u else h k)else z):=by
     apply Array.ext_getElem?;intro k;rw[Nat.mul_one];by_cases n:k<cap
     ·rw[cE n];simp only[List.getElem?_toArray];rcases Nat.lt_or_ge k m with A|A
      ·rw[List.append_assoc,List.getElem?_append_left (by simp[arr];omega),ab aq,aa aq];simp[arr,A,n]
      ·have C:min m cap=m:=aq;rcases Nat.lt_or_ge k (m+1)with J|J
       ·obtain rfl:k=m:=aq;rw[List.getElem?_append_left (by simp[arr];omega),List.getElem?_append_right (by simp[arr];omega)];simp only[List.length_take,arr,Array.length_toList,Array.size_map,Array.size_range,C];rw[Nat.sub_self,ab aq];rfl
       ·rw[List.getElem?_append_right (by simp[arr];omega),aa aq];simp only[List.length_append,List.length_take,arr,Array.length_toList,Array.size_map,Array.size_range,C,List.length_cons,List.length_nil,List.getElem?_drop];rw[show m+(0+1)+(k-(m+(0+1)))=k by omega];simp[n];omega
     ·rw[Array.getElem?_eq_none (by simp[arr];omega),Array.getElem?_eq_none (by rw[bf];omega)]
    rw[S]at l;have n:=c8 hB (kM.lh V U) (je w g (arr cap λk=>if k<m+1 then(if k=m then u else h k)else z));exact⟨_,_,l,.inr ⟨g,cap,F,o,K,setRow_heap w g _ _ _ _ hB⟩,n,(je w g _).mono (λb _ s=>by rw[s];rfl),.inl F⟩
   ·obtain rfl:m=cap:=aq;have l:=run_append_grow (P:=Tryz.prog) w t ty e i _ I hi D ⟨g,0,none⟩ m m ((List.range m).map h) (by rw[f];simp) (λj x r=>by
     rw[add_lit,hB.cell,Nat.zero_add];by_cases b:j<m
     ·rw[cE b,ab b];simpa[b]using r
     ·rw[List.getElem?_eq_none (by simp;omega)]at r;cases r) a 1 c [u] (by rw[f];rfl) p aq aq (growslice_fits aq (G _ aq))
    rw[E]at l;have R:=grownCap_ge w (m+1) m e;have O:=grownCap_le_maxLen w (m+1) m e (by rw[M];omega);have y:=nL w (.cells (((List.range m).map h).toArray++[u].toArray++Builtin.zeroCells #[z] (grownCap w (m+1) m e-(m+1))) e);refine⟨_,_,l,.inr ⟨w.heap.size,_,F,aq,aq,?_⟩,bJ y,y.mono λ_ _ h=>h.elim,.inr rfl⟩;have s:bg (w.drew.alloc (.cells (((List.range m).map h).toArray++[u].toArray++Builtin.zeroCells #[z] (grownCap w (m+1) m e-(m+1))) e)) w.heap.size e (((List.range m).map h).toArray++[u].toArray++Builtin.zeroCells #[z] (grownCap w (m+1) m e-(m+1))):=heap_alloc_new w.drew _;have B:(((List.range m).map h).toArray++[u].toArray++Builtin.zeroCells #[z] (grownCap w (m+1) m e-(m+1)))=arr (grownCap w (m+1) m e) λk=>if k<m+1 then(if k=m then u else h k)else z:=by
     apply Array.ext_getElem?;intro k;by_cases n:k<grownCap w (m+1) m e
     ·rw[cE n];rcases Nat.lt_or_ge k m with A|A
      ·rw[Array.getElem?_append_left (by simp;omega),Array.getElem?_append_left (by simp;omega),ab aq,aa aq];simp[A]
      ·rcases Nat.lt_or_ge k (m+1)with J|J
       ·obtain rfl:k=m:=aq;rw[Array.getElem?_append_left aA,Array.getElem?_append_right aA,ab aq,ab F];simp
       ·rw[Array.getElem?_append_right (by simp;omega),aa aq,oA _ _ (by simp;omega)]
     ·rw[Array.getElem?_eq_none (by rw[Array.size_append,size_zeroCells];simp;omega),Array.getElem?_eq_none (by rw[bf];omega)]
    rw[B]at s;rw[B];exact s
theorem k7{n:Nat}{S:World->World->Prop}{k:Nat}{K:Fr->World->Prop}{f:Fr}{w:World}{d ty:Nat}{o l:Operand}{p:String}{r:Array Edge}{I:Option (Nat×Bool)}
 {v:Value} {m c t e g:Nat} {z u:Value} {h:Nat->Value} {a:Addr} (D:dh Tryz.prog t e 1 g z) (q:z.oneCell'=true)
 (B:k=2\/k=1/\∀w',Ch (λb=>some b=v.ownBlock) w w'->S w w') (y:ev n f o=v) (x:ev n f l=.slice (some a) 1 c) (G:kM e z w v m h)
 (H:w.cell? (a.add 0)=some u) (pn:u.oneCell'=true) (A:m<1048576) (i:g<=64)
 (C:∀k,k<m->∀a,h k≠.int .u32 a) (s:∀a,z≠.int .u32 a)
 (E:∀g w',kM e z w' g (m+1) (λj=>if j=m then u else h j)->Kp w w'->Ch (λb=>some b=v.ownBlock) w w'->(g.ownBlock=v.ownBlock\/g.ownBlock=some w.heap.size)->K (cg f d g) w'):
 R1 Tryz.prog n S k ⟨some d,.call { callee:=.builtin .append,args:=#[o,l],argTypes:=#[t,t] },ty,p,r,I⟩ K f w:=by
 obtain⟨g,w',b,p,o,j,l⟩:=AY (ty:=ty) (c:=c) D q G H pn A i C s;refine iE (w':=w') (v:=g) (B.imp id λh=>⟨h.1,h.2 _ j⟩) ?_ (E g w' p o j l);simp only[execOp,resolve,invoke,builtin,Sem.run_bind,Sem.run_pure,Result.andThen_ok,List.map_toArray,List.map_cons,List.map_nil,y,x,b]
def wv(w:World)(v:Value)(c:Nat)(g:Nat->Int):Prop:=
 ∃A b,v=.slice A c b/\c<=b/\b<9223372036854775808/\∀j,j<c->∃b,A=some b/\w.cell? (b.add (j*1))=some (.int .i64 (g j))
def k8(w:World)(v:Value)(c:Nat)(g:Nat->Nat):Prop:=wv w v c λk=>((g k:Nat):Int)
theorem wv.Y{w w':World}{v:Value}{c:Nat}{g:Nat->Int}(h:wv w v c g)(d:Ext w w'):wv w' v c g:=by
 obtain⟨A,a,e,i,b,f⟩:=h;refine⟨A,a,e,i,b,λj a=>?_⟩;obtain⟨h,e,b⟩:=f j a;exact⟨h,e,aP d b⟩
theorem k8.Y{w w':World}{v:Value}{c:Nat}{g:Nat->Nat}(h:k8 w v c g)(a:Ext w w'):k8 w' v c g:=wv.Y h a
theorem kM.ints{e:Nat}{z v:Value}{w:World}{m:Nat}{h:Nat->Value}{g:Nat->Int}(b:kM e z w v m h)(d:∀k,k<m->h k=.int .i64 (g k)):wv w v m g:=by
 obtain⟨A,c,rfl,f,a⟩:=b.slice;refine⟨A,c,F,f,a,λj a=>?_⟩;obtain⟨g,c,e,c⟩:=b.at a;injection e with e _ _;exact⟨_,e,by rw[add_lit,c,d j a]⟩
theorem dD.oX{w:World}{v:Value}{m N:Nat}{cn:Bool}{M:Nat->Int}(h:dD w v m cn N M):gY (EI N) w v m M:=by
 rcases h with⟨rfl,rfl⟩|⟨g,cap,rfl,h1,h2,h3⟩
 ·exact⟨_,_,F,aD,aq,λj b=>absurd b aq⟩
 ·refine⟨_,_,F,h1,h2,λj b=>?_⟩;obtain⟨x,y,d,c,a⟩:=h3.at (j:=j) aq;unfold tn at a;rw[ab b]at a;exact⟨_,x,y,F,by rw[add_lit];exact d,by rw[add_lit];exact c,a.1⟩
theorem dD.Jy{w:World}{v:Value}{m N:Nat}{M:Nat->Int}(h:dD w v m true N M):gY (EC N) w v m M:=by
 rcases h with⟨rfl,rfl⟩|⟨g,cap,rfl,h1,h2,h3⟩
 ·exact⟨_,_,F,aD,aq,λj b=>absurd b aq⟩
 ·refine⟨_,_,F,h1,h2,λj b=>?_⟩;obtain⟨x,y,d,c,a⟩:=h3.at (j:=j) aq;unfold tn at a;rw[ab b]at a;exact⟨_,x,y,F,by rw[add_lit];exact d,by rw[add_lit];exact c,a.2 F,a.bd⟩
theorem MH{e:Nat}{z v:Value}{w:World}{r c N:Nat}{cn:Bool}{a:Nat->Value}{M:Nat->Nat->Int}(d:kM e z w v r a)(f:∀k,k<r->dD w (a k) c cn N (M k)):cB (EI N) w v r (λ_=>c) M:=by
 obtain⟨A,h,rfl,g,b⟩:=d.slice;refine⟨A,h,F,g,b,λi b=>?_⟩;obtain⟨g,g,e,g⟩:=d.at b;injection e with e _ _;exact⟨_,a i,e,by rw[add_lit,g],(f i b).oX⟩
def jH(n:Nat)(z:Int):Nat:=if 0<=z/\z<n then n-1 else n
def jn(z:Int)(k:Nat):Nat:=if 0<=z/\z<=k then k+1 else k
theorem rl(n:Nat)(z:Int)(w:World)(a:n<=1000000):
 aT Tryz.prog 97 #[.int .i64 (n:Int),.int .i64 z] w λv a=>Ext w a/\k8 a v (jH n z) (jn z):=by
 refine bo (n:=20) Tryz.func97 F rfl az aA ?_;refine gg ?_;refine aY (λf a=>∃v,f 5=v/\Ext w a/\k8 a v (jH n z) (jn z)) ?_ ?_
 ·refine gg ?_;refine aU (λm f a=>∃i v,m=n-i/\i<=n/\f 0=.int .i64 (n:Int)/\f 1=.int .i64 (z)/\f 5=v/\f 6=.int .i64 ((i:Nat):Int)/\Ext w a/\kM 3 (.int .i64 0) a v (jH i z) (λk=>.int .i64 ((jn z k:Nat):Int))/\∀b,some b=v.ownBlock->w.heap.size<=b)
   n ⟨0,.slice none 0 0,F,aE,F,F,F,F,Ext.refl _,?_,λb d=>by cases d⟩ ?_
  ·have:jH 0 z=0:=by unfold jH;split<;>omega
   rw[this];exact kM.nil
  rintro m f r ⟨i,v,rfl,a,m,l,c,a,h,o,g⟩;rw[ui m,ui l,ui c,ui a];clear m l c a;refine aN ?_;by_cases a:i<n
  ·by_cases a:(i:Int)=z
   ·refine gg ?_;refine⟨_,?_,i+1,v,F,aq,F,F,F,F,h,?_,g⟩
    ·omega
    ·have e:jH (i+1) z=jH i z:=by unfold jH;rw[ab aq,aa aq];omega
     rw[e];exact o
   ·refine gg ?_;refine dp (v0:=.int .i64 (i:Int)) iJ F (.inl F) F rfl ?_;intro a l j a;have a:=iY l;have l:jH i z<=i:=by unfold jH;split<;>omega
    refine gg ?_;refine k7 iJ F (.inl F) F rfl (o.Y j) a F aq aw (λ_ _ _=>aA) (λ_=>aA) ?_;intro s q l a p m;have a:=h.size;have a:Ext w q:=p.aK (h.trans j) g;refine gg ?_;refine⟨_,?_,i+1,s,F,aq,F,F,F,F,a,?_,λb d=>?_⟩
    ·omega
    ·have e:jH (i+1) z=jH i z+1:=by
      unfold jH;by_cases a:0<=z/\z<i
      ·rw[ab aq,ab a];omega
      ·rw[aa aq,aa a]
     rw[e];refine l.congr λk l=>?_;by_cases l:k=jH i z
     ·rw[ab l,l];have:jn z (jH i z)=i:=by
       unfold jn jH;by_cases a:0<=z/\z<i
       ·rw[ab a,ab aq];omega
       ·rw[aa a,aa aq]
      rw[this]
     ·rw[aa l]
    ·rcases m with e|e
     ·rw[e]at d;exact g b d
     ·rw[e]at d;injection d with d;have:=j.size;omega
  ·refine gg ?_;obtain rfl:i=n:=aq;exact⟨v,F,h,o.ints λ_ _=>rfl⟩
 rintro f r ⟨v,c,h,a⟩;rw[ui c];clear c;refine gg ?_;exact bF F rfl ⟨h,a⟩
theorem sJ(v vr vc:Value)(r c C l N:Nat)(G cs:Nat->Nat)(M:Nat->Nat->Int)(w:World)(h:cB (EI N) w v r (λ_=>c) M)(hr:k8 w vr C G)(hc:k8 w vc l cs)(h1:∀k,k<C->G k<r)(h2:∀k,k<l->cs k<c)(bY:C<=1000000)(c4:l<=1000000):
 aT Tryz.prog 96 #[v,vr,vc] w λu g=>Ext w g/\cB (EI N) g u C (λ_=>l) (λi j=>M (G i) (cs j)):=by
 obtain⟨A,Z,rfl,bS,bC,b0⟩:=h;obtain⟨Ar,cr,rfl,bX,bW,b7⟩:=hr;obtain⟨Ac,cc,rfl,c6,aH,bj⟩:=hc;refine bo (n:=42) Tryz.func96 F rfl az aA ?_;refine gg ?_;refine aY (λf g=>∃v,f 7=v/\Ext w g/\cB (EI N) g v C (λ_=>l) λi j=>M (G i) (cs j)) ?_ ?_
 ·refine gg ?_;refine aU (λm f g=>∃i E O,m=C-i/\i<=C/\f 0=.slice A r Z/\f 2=.slice Ac l cc/\f 7=E/\f 13=.slice Ar C cr/\f 14=.int .i64 (C:Int)/\f 15=.int .i64 ((i:Nat):Int)/\Ext w g/\kM 49 (.slice none 0 0) g E i O/\(∀k,k<i->dD g (O k) l false N λj=>M (G k) (cs j))/\
   (∀k,k<i->∀b,some b=(O k).ownBlock->w.heap.size<=b/\some b≠E.ownBlock)/\∀b,some b=E.ownBlock->w.heap.size<=b)
   C ⟨0,.slice none 0 0,λ_=>undef,rfl,aE,rfl,rfl,rfl,rfl,rfl,rfl,Ext.refl _,kM.nil,λk L=>absurd L aq,λk L=>absurd L aq,λb d=>by cases d⟩ ?_
  rintro m f T ⟨i,E,O,rfl,hi,I,H,s,B,z,t,o,R,p,a1,a6⟩;rw[ui I,ui H,ui s,ui B,ui z,ui t];clear I H s B z t;by_cases au:i<C
  ·obtain⟨ar,rfl,bl⟩:=b7 i au;have ai:=aP o bl;refine gg ?_;refine aY (λf g=>∃K,f 0=.slice A r Z/\f 2=.slice Ac l cc/\f 7=E/\f 13=.slice (some ar) C cr/\f 14=.int .i64 (C:Int)/\f 15=.int .i64 (i:Int)/\f 10=K/\Ext w g/\kM 49 (.slice none 0 0) g E i O/\(∀k,k<i->dD g (O k) l false N λj=>M (G k) (cs j))/\
    dD g K l false N (λq=>M (G i) (cs q))/\(∀b,some b=K.ownBlock->w.heap.size<=b/\some b≠E.ownBlock/\∀k,k<i->some b≠(O k).ownBlock)) ?_ ?_
   ·refine gg ?_;refine aU (λm f g=>∃j K,m=l-j/\j<=l/\f 0=.slice A r Z/\f 2=.slice Ac l cc/\f 7=E/\f 13=.slice (some ar) C cr/\f 14=.int .i64 (C:Int)/\f 15=.int .i64 (i:Int)/\f 9=.int .i64 ((G i:Nat):Int)/\f 10=K/\f 19=.slice Ac l cc/\f 20=.int .i64 (l:Int)/\f 21=.int .i64 ((j:Nat):Int)/\Ext w g/\kM 49 (.slice none 0 0) g E i O/\(∀k,k<i->dD g (O k) l false N λj=>M (G k) (cs j))/\
     dD g K j false N (λq=>M (G i) (cs q))/\(∀b,some b=K.ownBlock->w.heap.size<=b/\some b≠E.ownBlock/\∀k,k<i->some b≠(O k).ownBlock))
     l ⟨0,.slice none 0 0,F,aE,F,F,F,F,F,F,F,F,F,F,F,o,R,p,dD.nil,λb d=>by cases d⟩ ?_
    clear o R p ai T;rintro m f T ⟨j,K,rfl,hj,I,H,s,B,z,t,ay,Q,ae,a8,a7,o,R,p,U,S⟩;rw[ui I,ui H,ui s,ui B,ui z,ui t,ui ay,ui Q,ui ae,ui a8,ui a7];clear I H s B z t ay Q ae a8 a7;by_cases ax:j<l
    ·obtain⟨ac,rfl,bs⟩:=bj j ax;have bD:=aP o bs;have b6:=h1 i au;have bc:=h2 j ax;obtain⟨ad,u,rfl,hx,b5⟩:=b0 (G i) b6;obtain⟨Ai,bG,rfl,c5,bB,b1⟩:=id b5;obtain⟨ca,x,y,rfl,al,ak,hv⟩:=b1 (cs j) bc;have bI:=aP o hx;replace al:=aP o al;replace ak:=aP o ak;replace hv:IV T N x y (M (G i) (cs j)):=IV.Y hv o;refine gg ?_;refine pe (.inl F) F ?_;intro w6 bx J bK;obtain⟨p1,p2⟩:=bh bx;refine gg ?_;refine yJ (.inl F) F rfl (U.Y J) p1 p2 ⟨hv.Y J,λe=>by cases e⟩ aq ?_;intro v' w7 W b8 X b4;have W:dD w7 v' (j+1) false N (λq=>M (G i) (cs q)):=W.congr λq _=>by
      split
      ·rename_i e;rw[e]
      ·rfl
     have bu:=o.size;refine gg ?_;refine⟨_,?_,j+1,v',F,aq,F,F,F,F,F,F,F,F,F,F,F,X.aK (o.trans J) λb d=>(S b d).1,(R.Y J).ch X λb d e=>(S b e).2.1 d,λk L=>((p k L).Y J).kp b8 X λb d e=>(S b e).2.2 k L d,W,λb d=>?_⟩
     ·omega
     ·rcases b4 with e|e
      ·rw[e]at d;exact S b d
      ·rw[e]at d;injection d with d;have h6:=J.size;refine⟨aq,λD=>?_,λk L D=>?_⟩
       ·have:=(R.Y J).lt D;omega
       ·have:=((p k L).Y J).lt D;omega
    ·obtain rfl:j=l:=aq;refine gg ?_;exact⟨K,F,F,F,F,F,F,F,o,R,p,U,S⟩
   clear o R p ai T;rintro f T ⟨K,I,H,s,B,z,t,Q,o,R,p,U,S⟩;rw[ui I,ui H,ui s,ui B,ui z,ui t,ui Q];clear I H s B z t Q;obtain⟨A',c',e⟩:=U.slice;refine gg ?_;refine dp (v0:=K) fL F (.inl F) F (by rw[e];rfl) ?_;intro w2 bA P bM;have aH:=iY bA;refine gg ?_;refine k7 fL F (.inl F) F rfl (R.Y P) aH (by rw[e];rfl) aq aw (λk L a=>by obtain⟨A,c,e⟩:=(p k L).slice;rw[e];simp) (λ_=>aA) ?_;intro v' w3 bt av Y an;have bu:=o.size;have c9:=P.size;refine gg ?_;refine⟨_,?_,i+1,v',λq=>if q=i then K else O q,rfl,aq,F,F,F,F,F,F,Y.aK (o.trans P) a6,bt,λk L=>?_,λk L b d=>?_,λb d=>?_⟩
   ·omega
   ·by_cases V:k=i
    ·subst V;simp only[if_true];exact(U.Y P).kp av Y λb d e=>(S b d).2.1 e
    ·simp only[aa V];exact((p k aq).Y P).kp av Y λb d e=>(a1 k aq b d).2 e
   ·have aj:w.heap.size<=b/\some b≠E.ownBlock/\b<w2.heap.size:=by
     by_cases V:k=i
     ·simp only[ab V]at d;exact⟨(S b d).1,(S b d).2.1,(U.Y P).lt d⟩
     ·simp only[aa V]at d;have:=a1 k aq b d;exact⟨this.1,this.2,((p k aq).Y P).lt d⟩
    refine⟨aj.1,λD=>?_⟩;rcases an with e|e
    ·rw[e]at D;exact aj.2.1 D
    ·rw[e]at D;injection D with D;omega
   ·rcases an with e|e
    ·rw[e]at d;exact a6 b d
    ·rw[e]at d;injection d with d;omega
  ·refine gg ?_;obtain rfl:i=C:=aq;exact⟨E,F,o,MH R p⟩
 rintro f T ⟨v,s,o,hI⟩;rw[ui s];clear s;refine gg ?_;exact bF F rfl ⟨o,hI⟩
