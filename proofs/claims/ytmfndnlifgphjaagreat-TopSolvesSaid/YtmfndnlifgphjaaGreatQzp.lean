import Derived.Test.YtmfndnlifgphjaaGreatQzo
import Derived.Deep.Slices
set_option maxHeartbeats 64000000
open Go.Proofs.YtmfndnlifgphjaaGreat
namespace Go.Proofs.Qq
section
open Go Go.cU Go.cV Go.Proofs
theorem dN.kp{w w':World}{v:Value}{m N:Nat}{cn:Bool}{M:Nat->Int}{a:Nat->Prop}(h:dN w v m cn N M)(i:Kp w w')(j:Ch a w w')(e:∀b,some b=v.ownBlock->¬a b):dN w' v m cn N M:=by
 rcases h with h|⟨g,c,rfl,h1,h2,h3⟩
 ·exact .inl h
 ·exact .inr ⟨g,c,F,h1,h2,h3.kp i j (e g F)⟩
theorem dN.Y{w w':World}{v:Value}{m N:Nat}{cn:Bool}{M:Nat->Int}(h:dN w v m cn N M)(a:Ext w w'):dN w' v m cn N M:=h.kp (bN a) a (λ_ _=>id)
theorem dN.congr{w:World}{v:Value}{m N:Nat}{cn:Bool}{M M':Nat->Int}(h:dN w v m cn N M)(e:∀j,j<m->M j=M' j):dN w v m cn N M':=by
 rcases h with h|⟨g,b,rfl,h1,h2,h3⟩
 ·exact .inl h
 ·refine .inr ⟨g,b,F,h1,h2,h3.congr λj c=>⟨aD,?_⟩⟩;unfold nB;split
  ·rename_i a;exact e j a
  ·rfl
theorem dN.lt{w:World}{v:Value}{m N:Nat}{cn:Bool}{M:Nat->Int}(h:dN w v m cn N M){b:Nat}(a:some b=v.ownBlock):b<w.heap.size:=by
 rcases h with⟨_,rfl⟩|⟨g,cap,rfl,h1,h2,h3⟩
 ·cases a
 ·injection a with e;rw[e];exact h3.lt
theorem dN.slice{w:World}{v:Value}{m N:Nat}{cn:Bool}{M:Nat->Int}(h:dN w v m cn N M):∃A c,v=.slice A m c:=by
 rcases h with⟨rfl,rfl⟩|⟨g,cap,rfl,h1,h2,h3⟩
 ·exact⟨_,_,F⟩
 ·exact⟨_,_,F⟩
theorem dN.rg{w:World}{v:Value}{m N:Nat}{cn:Bool}{M:Nat->Int}(h:dN w v m cn N M)(a:1<=m):∃g a,v=.slice (some ⟨g,0,none⟩) m a/\f_ w g m a cn (λ_=>N) M:=by
 rcases h with⟨rfl,rfl⟩|⟨g,cap,rfl,h1,h2,h3⟩
 ·omega
 ·refine⟨g,cap,F,(h3.rg h1 h2).congr λj a=>⟨aD,?_⟩⟩;unfold nB;rw[ae a]
theorem dN.nil{w:World}{N:Nat}{cn:Bool}{M:Nat->Int}:dN w (.slice none 0 0) 0 cn N M:=.inl ⟨F,F⟩
section
variable {n:Nat}{S:World->World->Prop}{k:Nat}{K:Fr->World->Prop}{f:Fr}{w:World}
 {d ty t t2:Nat} {x y:Operand} {pos:String} {aft:Array Edge} {gd:Option (Nat×Bool)}
theorem ql{a b:Value}{g:Operand}(l:k=2\/k=1/\∀e,Ext w e->S w e)(m:ev n f g=.agg #[a,b])
 (h:∀e,bh e w.heap.size 35 #[a,b]->Ext w e->e.heap.size=w.heap.size+1->K (bS f d (.slice (some ⟨w.heap.size,0,none⟩) 1 1)) e):R1 Tryz.prog n S k ⟨some d,.buildSlice 27 1 #[(0,g)],ty,pos,aft,gd⟩ K f w:=by
 refine mM (T:=35) (cs:=#[a,b]) (v:=.slice (some ⟨w.heap.size,0,none⟩) 1 1) l ?_ h;obtain⟨j,c⟩:=eE;cases hi:Tryz.prog.info? 35 with
 |none=>rw[hi]at c;simp at c
 |some i=>
  rw[hi]at c;simp at c;obtain⟨g,e,l⟩:=c;simp[execOp,Instr.buildSlice,run_underlying j,sizeOf,typeInfo,hi,e,zeroValue,g,m,Instr.fill,Value.cells,newRow,Array.range];rw[yg _ (by simp[e])]
end
def RG(w:World)(r c N:Nat)(M:Nat->Nat->Int)(v:Value)(w':World):Prop:=
 Ext w w'/\∃a b e,v=.slice (some ⟨a,0,none⟩) r r/\w.heap.size<=a/\(∀i,i<r->w.heap.size<=b i)/\(∀i,i<r->a<b i)/\bO w' a b e r c true (λ_ _=>N) M
def kS(i c:Nat)(a b:Nat->Nat)(v:Value):Nat->Value:=λk=>if k<i then .slice (some ⟨a k,0,none⟩) c (b k)else if k=i then v else .slice none 0 0
theorem dN.Gp{w:World}{v:Value}{m N:Nat}{cn:Bool}{M:Nat->Int}(h:dN w v m cn N M):∃A m c,v=.slice A m c:=by
 obtain⟨A,c,e⟩:=h.slice;exact⟨A,_,c,e⟩
theorem wU{i c r:Nat}{b e:Nat->Nat}{v:Value}(a:∃A m c,v=.slice A m c):∀k,k<r->∃A m g,kS i c b e v k=.slice A m g:=λk _=>by
 unfold kS;split
 ·exact⟨_,_,_,F⟩
 ·split
  ·exact a
  ·exact⟨_,_,_,F⟩
theorem A9(v:Value)(r c N:Nat)(M:Nat->Nat->Int)(w:World)(h:cO (EI N) w v r (λ_=>c) M)(hr:r<=1048576)(bW:1<=c)(hc:c<=1048576)(hN:N<1099511627776):
 aT Tryz.prog 29 #[v] w (RG w r c N M):=by
 obtain⟨A,b4,rfl,cq,cc,b5⟩:=h;refine bF (n:=38) Tryz.func29 F rfl aw aA ?_;refine gg ?_;refine cF fU (.inl F) F rfl aD aq aq ?_;intro w2 O H W;obtain⟨s,bI⟩ : ∃g,g=w.heap.size:=⟨_,F⟩;rw[<-bI]at O⊢;have a4:bh w2 s 27 (arr r (kS 0 c (λ_=>0) (λ_=>0) (.slice none 0 0))):=by
  have e:kS 0 c (λ_=>0) (λ_=>0) (.slice none 0 0)=λ_=>.slice none 0 0:=by funext k;simp[kS]
  rw[e];have hh:=O;rw[il]at hh;rw[Nat.mul_one]at hh;have e2:(λk=>(Value.slice none 0 0).cells[k%(Value.slice none 0 0).cells.size]!)=λ_=>Value.slice none 0 0:=by
   funext k;simp[Value.cells,Nat.mod_one]
  rw[e2]at hh;exact hh
 clear O;refine gg ?_;refine aX (λf E=>∃l z,f 3=.slice (some ⟨s,0,none⟩) r r/\Ext w E/\bO E s l z r c true (λ_ _=>N) M/\∀k,k<r->s<l k) ?_ ?_
 ·refine gg ?_;refine aU (λm f E=>∃i l z,m=r-i/\i<=r/\f 0=.slice A r b4/\f 3=.slice (some ⟨s,0,none⟩) r r/\f 11=.int .i64 (r:Int)/\f 12=.int .i64 ((i:Nat):Int)/\Ext w E/\bh E s 27 (arr r (kS i c l z (.slice none 0 0)))/\(∀k,k<i->f_ E (l k) c (z k) true (λ_=>N) (M k)/\s<l k)/\(∀k U,k<i->U<i->l k=l U->k=U))
   r ⟨0,λ_=>0,λ_=>0,rfl,aE,rfl,rfl,rfl,rfl,H,a4,λk p=>absurd p aq,λk U p=>absurd p aq⟩ ?_
  clear a4 H W;rintro m f T ⟨i,l,z,rfl,hi,Q,D,J,I,B,G,a,a7⟩;rw[ui Q,ui D,ui J,ui I];clear Q D J I;by_cases bu:i<r
  ·obtain⟨ad,u,rfl,hx,bs⟩:=b5 i bu;obtain⟨Ai,bg,rfl,cx,c9,bt⟩:=id bs;have bj:=aS B hx;refine gg ?_;refine aU (λm f E=>∃j v,m=c-j/\j<=c/\f 0=.slice (some ad) r b4/\f 3=.slice (some ⟨s,0,none⟩) r r/\f 11=.int .i64 (r:Int)/\f 12=.int .i64 (i:Int)/\f 4=.int .i64 (i:Int)/\f 18=.slice Ai c bg/\f 19=.int .i64 (c:Int)/\f 20=.int .i64 ((j:Nat):Int)/\Ext w E/\bh E s 27 (arr r (kS i c l z v))/\(∀k,k<i->f_ E (l k) c (z k) true (λ_=>N) (M k)/\s<l k)/\
    dN E v j true N (M i)/\(∀b,some b=v.ownBlock->s<b/\∀k,k<i->l k≠b))
    c ⟨0,.slice none 0 0,F,aE,F,F,F,F,F,F,F,F,B,G,a,dN.nil,λb o=>by cases o⟩ ?_
   clear B G a bj T;rintro m f T ⟨j,v,rfl,hj,Q,D,J,I,av,aj,ai,ab,B,G,a,P,C⟩;rw[ui Q,ui D,ui J,ui I,ui av,ui aj,ui ai,ui ab];clear Q D J I av aj ai ab;by_cases bC:j<c
   ·obtain⟨cL,x,y,rfl,a3,a2,hv⟩:=bt j bC;have a3:=aS B a3;have a2:=aS B a2;have hv:IV T N x y (M i j):=IV.Y hv B;refine gg ?_;refine aR (.inl F) a_ ?_;intro w2 O H W;have mP:Bx w2 T.heap.size N false 0:=Bx.zero false O;obtain⟨gb,bD⟩ : ∃g,g=T.heap.size:=⟨_,F⟩;rw[<-bD]at mP⊢;have cy:=B.size;have cb:=G.lt;refine gg ?_;refine aL (.inl F) F rfl mP (N':=N) (z':=M i j) ⟨hv.Y H,λe=>by cases e⟩ ?_;intro w3 bY b1 bB ck;have ak:∀b,some b=v.ownBlock->b≠gb:=λb o=>by have:=P.lt o;omega
    have Z:Ext T w3:=b1.aK H λb o=>aq;have G:=G.Y Z;have P:=P.Y Z;have a:∀k,k<i->f_ w3 (l k) c (z k) true (λ_=>N) (M k)/\s<l k:=λk p=>⟨(a k p).1.Y Z,(a k p).2⟩;have B:=B.trans Z;obtain⟨bx,cA,bX,ax⟩:=bY;clear mP O H W b1 bB a3 a2 hv;refine gg ?_;refine o8 (λb=>some b=v.ownBlock) [(0,3),(1,3),(2,3),(3,3),(4,3),(5,0),(6,0),(7,1),(8,1),(9,1),(10,3),(11,2)] mixed aw λw4 Y _=>?_;have c4:=G.Y Y;have BG:w4.cell? ⟨s,0+i*1,none⟩=some v:=by
     rw[c4.cell,b8 aq,Nat.zero_add,Nat.mul_one];simp[kS]
    refine gg ?_;refine gY ar (aW F) F BG (λo=>by have:=(C s o).1;omega) ?_;refine gg ?_;refine eK ar aN F (bX.Y Y) (λo=>ak gb o rfl) ?_;refine gg ?_;refine ko (mo _ _ _ N w4 (ax.1.Y Y) hN) ?_;rintro _ w5 ⟨b0,x',y',rfl,bM⟩;refine⟨b0.ch,?_⟩;refine gg ?_;refine ql (.inr ⟨F,λ_ h=>h.ch⟩) rfl ?_;intro w6 c6 aH cf;have L:=Y.trans (b0.trans aH);obtain⟨p1,p2⟩:=a9 c6;refine gg ?_;refine yY (.inr ⟨F,λ_ h=>h⟩) rfl rfl (P.Y L) p1 p2 ((bM.Y aH).ev true ax.bd) aq ?_;intro v' w7 X bA a5 bl;have X:dN w7 v' (j+1) true N (M i):=X.congr λq _=>by
     split
     ·rename_i e;rw[e]
     ·rfl
    obtain⟨A',c',rfl⟩:=X.slice;have ay:=(G.Y L).ch a5 (λo=>by have:=(C s o).1;omega);have ca:=L.size;have c5:Ext w w7:=a5.aK (B.trans L) (λb o=>by have:=(C b o).1;omega);refine gg ?_;refine cH (aW F) (.inl F) F rfl ay (by rw[bk];omega) ?_;intro w8 R a0 cd;have al:=cK ay (dJ (wU P.Gp)).jn a0;have R:bh w8 s 27 (arr r (kS i c l z (.slice A' (j+1) c'))):=by
     rw[cC]at R;have e:bS (kS i c l z v) (0+i*1) (.slice A' (j+1) c')=kS i c l z (.slice A' (j+1) c'):=by
      funext k;by_cases e:k=i
      ·subst e;rw[Nat.zero_add,Nat.mul_one,bG];simp[kS]
      ·rw[Nat.zero_add,Nat.mul_one,bw _ _ e];simp[kS,e]
     rw[e]at R;exact R
    have a1:∀b,some b=(Value.slice A' (j+1) c').ownBlock->s<b/\∀k,k<i->l k≠b:=λb o=>by
     rcases bl with e|e
     ·rw[e]at o;exact C b o
     ·rw[e]at o;injection o with o;refine⟨by have:=G.lt;omega,λk p=>?_⟩;have:=(a k p).1.lt;omega
    refine gg ?_;refine⟨_,?_,j+1,.slice A' (j+1) c',F,aq,F,F,F,F,F,F,F,F,a0.aK c5 (λb o=>aq),R,λk p=>?_,X.kp al a0 (λb o e=>by have:=(a1 b o).1;omega),a1⟩
    ·omega
    ·obtain⟨h1,h2⟩:=a k p;exact⟨((h1.Y L).kp bA a5 λo=>(C _ o).2 k p rfl).kp al a0 aq,h2⟩
   ·obtain rfl:j=c:=aq;obtain⟨g,a6,rfl,c3⟩:=P.rg bW;obtain⟨bK,au⟩:=C g F;refine gg ?_;refine⟨_,?_,i+1,cZ l i g,cZ z i a6,F,aq,F,F,F,F,B,?_,λk p=>?_,λk U p cv e=>?_⟩
    ·omega
    ·have e:kS (i+1) j (cZ l i g) (cZ z i a6) (.slice none 0 0)=kS i j l z (.slice (some ⟨g,0,none⟩) j a6):=by
      funext k;simp only[kS,cZ];by_cases V:k=i
      ·subst V;simp
      ·by_cases e2:k<i
       ·rw[ae aq,ae e2,aa V,aa V]
       ·rw[aa aq,aa e2,aa V];simp
     rw[e];exact G
    ·by_cases V:k=i
     ·subst V;simp only[cZ,if_true];exact⟨c3,bK⟩
     ·simp only[cZ,aa V];exact a k aq
    ·simp only[cZ]at e;split at e<;>split at e
     ·omega
     ·exact absurd e.symm (au U aq)
     ·exact absurd e (au k aq)
     ·exact a7 k U aq aq e
  ·refine gg ?_;obtain rfl:i=r:=aq;refine⟨l,z,F,B,⟨?_,λk p=>(a k p).1,λk p=>by have:=(a k p).2;omega,a7⟩,λk p=>(a k p).2⟩;rw[du (h':=kS i c l z (.slice none 0 0)) (λk p=>by simp[kS,p])];exact G
 clear a4 H W;rintro f T ⟨l,z,D,B,P,an⟩;rw[ui D];clear D;refine gg ?_;exact cI F rfl ⟨B,s,l,z,F,aq,λi hi=>by have:=an i hi;omega,an,P⟩
def lJ(e:Nat)(z:Value)(w:World)(v:Value)(m:Nat)(h:Nat->Value):Prop:=
 (m=0/\v=.slice none 0 0)\/∃g b,v=.slice (some ⟨g,0,none⟩) m b/\m<=b/\b<9223372036854775808/\bh w g e (arr b λk=>if k<m then h k else z)
section
variable {e m:Nat}{z v:Value}{w w':World}{h h':Nat->Value}
theorem lJ.nil:lJ e z w (.slice none 0 0) 0 h:=.inl ⟨F,F⟩
theorem lJ.ch{c:Nat->Prop}(a:lJ e z w v m h)(i:Ch c w w')(f:∀b,some b=v.ownBlock->¬c b):lJ e z w' v m h:=by
 rcases a with a|⟨g,d,rfl,h1,h2,h3⟩
 ·exact .inl a
 ·exact .inr ⟨g,d,F,h1,h2,h3.ch i (f g F)⟩
theorem lJ.Y(a:lJ e z w v m h)(b:Ext w w'):lJ e z w' v m h:=a.ch b (λ_ _=>id)
theorem lJ.lt(c:lJ e z w v m h){b:Nat}(a:some b=v.ownBlock):b<w.heap.size:=by
 rcases c with⟨_,rfl⟩|⟨g,cap,rfl,h1,h2,h3⟩
 ·cases a
 ·injection a with e;rw[e];exact h3.lt
theorem lJ.congr(a:lJ e z w v m h)(c:∀k,k<m->h k=h' k):lJ e z w v m h':=by
 rcases a with a|⟨g,b,rfl,h1,h2,h3⟩
 ·exact .inl a
 ·refine .inr ⟨g,b,F,h1,h2,?_⟩;rw[du (h':=λk=>if k<m then h k else z)]
  ·exact h3
  ·intro k _;by_cases a:k<m
   ·rw[ae a,ae a,c k a]
   ·rw[aa a,aa a]
theorem lJ.slice(a:lJ e z w v m h):∃A c,v=.slice A m c/\m<=c/\c<9223372036854775808:=by
 rcases a with⟨rfl,rfl⟩|⟨g,cap,rfl,h1,h2,h3⟩
 ·exact⟨_,_,F,aq,aq⟩
 ·exact⟨_,_,F,h1,h2⟩
theorem lJ.at(c:lJ e z w v m h){k:Nat}(b:k<m):∃g a,v=.slice (some ⟨g,0,none⟩) m a/\w.cell? ⟨g,0+k*1,none⟩=some (h k):=by
 rcases c with⟨rfl,_⟩|⟨g,a,rfl,h1,h2,h3⟩
 ·omega
 ·exact⟨g,a,F,by rw[h3.cell,b8 aq,Nat.zero_add,Nat.mul_one,ae b]⟩
theorem lJ.jn{cap:Nat}(f:∀k,k<m->∀a,h k≠.int .u32 a)(d:∀a,z≠.int .u32 a):Hq (arr cap λk=>if k<m then h k else z):=by
 intro i a b;by_cases c:i<cap
 ·rw[b8 c]at b;have b:=Option.some.inj b;by_cases c:i<m
  ·rw[ae c]at b;exact f i c a b
  ·rw[aa c]at b;exact d a b
 ·rw[Array.getElem?_eq_none (by rw[bk];omega)]at b;cases b
end
theorem mc{z:Value}(n k:Nat)(h:k<n):(Builtin.zeroCells #[z] n)[k]?=some z:=by
 simp only[Builtin.zeroCells];rw[show(#[z]:Array Value).size=1 from F];simp[h,Nat.mod_one]
theorem vm{w:World}{v:Value}{m ty t e q:Nat}{z u:Value}{h:Nat->Value}{a:Addr}{c:Nat}(T:cP Tryz.prog t e 1 q z)(N:z.oneCell'=true)(W:lJ e z w v m h)
 (X:w.cell? (a.add 0)=some u) (Ay:u.oneCell'=true) (Y:m<1048576) (L:q<=64)
 (V:∀k,k<m->∀a,h k≠.int .u32 a) (U:∀a,z≠.int .u32 a):
 ∃q w',(Builtin.append_ #[t,t] ty #[v,.slice (some a) 1 c]).run Tryz.prog w=.ok q w'/\lJ e z w' q (m+1) (λj=>if j=m then u else h j)/\Kp w w'/\
  Ch (λb=>some b=v.ownBlock) w w'/\(q.ownBlock=v.ownBlock\/q.ownBlock=some w.heap.size):=by
 obtain⟨I,d⟩:=T;cases hi:Tryz.prog.info? e with
 |none=>rw[hi]at d;simp at d
 |some i=>
  rw[hi]at d;simp at d;obtain⟨D,f,T⟩:=d;have p:∀(j:Nat) (x:Value),([u]:List Value)[j]?=some x->w.cell? (a.add j)=some x:=λj x r=>by
   match j,r with
   |0,r=>simp at r;rw[<-r];exact X
  have M:maxLen=9223372036854775807:=F;have E:z.cells=#[z]:=dB N;have G:∀q,q<=1048577->q*i.bytes<=140737488355328:=λq d=>by
   rw[T];exact Nat.le_trans (Nat.mul_le_mul d L) ar
  rcases W with⟨rfl,rfl⟩|⟨g,cap,rfl,d,K,hB⟩
  ·have l:=run_append_nil (P:=Tryz.prog) w t ty e i _ I hi D a 1 c [u] (by rw[f];rfl) p aq aq (by have:=G 1 aq;omega);rw[E]at l;have R:=grownCap_ge w 1 0 e;have O:=grownCap_le_maxLen w 1 0 e (by rw[M];omega);have y:=lk w (.cells ([u].toArray++Builtin.zeroCells #[z] (grownCap w 1 0 e-1)) e);refine⟨_,_,l,.inr ⟨w.heap.size,_,F,aq,aq,?_⟩,bN y,y.mono λ_ _ h=>h.elim,.inr rfl⟩;have s:bh (w.drew.alloc (.cells ([u].toArray++Builtin.zeroCells #[z] (grownCap w 1 0 e-1)) e)) w.heap.size e ([u].toArray++Builtin.zeroCells #[z] (grownCap w 1 0 e-1)):=heap_alloc_new w.drew _;have B:([u].toArray++Builtin.zeroCells #[z] (grownCap w 1 0 e-1))=arr (grownCap w 1 0 e) λk=>if k<0+1 then(if k=0 then u else h k)else z:=by
    apply Array.ext_getElem?;intro k;by_cases n:k<grownCap w 1 0 e
    ·rw[b8 n];by_cases Q:k=0
     ·subst Q;rw[Array.getElem?_append_left aA];rfl
     ·rw[Array.getElem?_append_right (by simp;omega),aa aq,mc _ _ (by simp;omega)]
    ·rw[Array.getElem?_eq_none (by rw[Array.size_append,size_zeroCells];simp;omega),Array.getElem?_eq_none (by rw[bk];omega)]
   rw[B]at s;rw[B];exact s
  ·by_cases o:m+1<=cap
   ·have l:=run_append_room (P:=Tryz.prog) w t ty e i I hi g m cap _ hB a 1 c [u] (by rw[f];rfl) p (λx H=>by
     rcases List.mem_cons.1 H with rfl|H
     ·exact Ay
     ·cases H) o (by rw[f,bk];simp;exact o)
    rw[f]at l;have S:((arr cap λk=>if k<m then h k else z).toList.take (m*1)++[u]++(arr cap λk=>if k<m then h k else z).toList.drop (m*1+[u].length)).toArray=arr cap (λk=>if k<m+1 then(if k=m then u else h k)else z):=by
     apply Array.ext_getElem?;intro k;rw[Nat.mul_one];by_cases n:k<cap
     ·rw[b8 n];simp only[List.getElem?_toArray];rcases Nat.lt_or_ge k m with A|A
      ·rw[List.append_assoc,List.getElem?_append_left (by simp[arr];omega),ae aq,aa aq];simp[arr,A,n]
      ·have C:min m cap=m:=aq;rcases Nat.lt_or_ge k (m+1)with J|J
       ·obtain rfl:k=m:=aq;rw[List.getElem?_append_left (by simp[arr];omega),List.getElem?_append_right (by simp[arr];omega)];simp only[List.length_take,arr,Array.length_toList,Array.size_map,Array.size_range,C];rw[Nat.sub_self,ae aq];rfl
       ·rw[List.getElem?_append_right (by simp[arr];omega),aa aq];simp only[List.length_append,List.length_take,arr,Array.length_toList,Array.size_map,Array.size_range,C,List.length_cons,List.length_nil,List.getElem?_drop];rw[show m+(0+1)+(k-(m+(0+1)))=k by omega];simp[n];omega
     ·rw[Array.getElem?_eq_none (by simp[arr];omega),Array.getElem?_eq_none (by rw[bk];omega)]
    rw[S]at l;have n:=cK hB (lJ.jn V U) (gz w g (arr cap λk=>if k<m+1 then(if k=m then u else h k)else z));exact⟨_,_,l,.inr ⟨g,cap,F,o,K,setRow_heap w g _ _ _ _ hB⟩,n,(gz w g _).mono (λb _ s=>by rw[s];rfl),.inl F⟩
   ·obtain rfl:m=cap:=aq;have l:=run_append_grow (P:=Tryz.prog) w t ty e i _ I hi D ⟨g,0,none⟩ m m ((List.range m).map h) (by rw[f];simp) (λj x r=>by
     rw[add_lit,hB.cell,Nat.zero_add];by_cases b:j<m
     ·rw[b8 b,ae b];simpa[b]using r
     ·rw[List.getElem?_eq_none (by simp;omega)]at r;cases r) a 1 c [u] (by rw[f];rfl) p aq aq (growslice_fits aq (G _ aq))
    rw[E]at l;have R:=grownCap_ge w (m+1) m e;have O:=grownCap_le_maxLen w (m+1) m e (by rw[M];omega);have y:=lk w (.cells (((List.range m).map h).toArray++[u].toArray++Builtin.zeroCells #[z] (grownCap w (m+1) m e-(m+1))) e);refine⟨_,_,l,.inr ⟨w.heap.size,_,F,aq,aq,?_⟩,bN y,y.mono λ_ _ h=>h.elim,.inr rfl⟩;have s:bh (w.drew.alloc (.cells (((List.range m).map h).toArray++[u].toArray++Builtin.zeroCells #[z] (grownCap w (m+1) m e-(m+1))) e)) w.heap.size e (((List.range m).map h).toArray++[u].toArray++Builtin.zeroCells #[z] (grownCap w (m+1) m e-(m+1))):=heap_alloc_new w.drew _;have B:(((List.range m).map h).toArray++[u].toArray++Builtin.zeroCells #[z] (grownCap w (m+1) m e-(m+1)))=arr (grownCap w (m+1) m e) λk=>if k<m+1 then(if k=m then u else h k)else z:=by
     apply Array.ext_getElem?;intro k;by_cases n:k<grownCap w (m+1) m e
     ·rw[b8 n];rcases Nat.lt_or_ge k m with A|A
      ·rw[Array.getElem?_append_left (by simp;omega),Array.getElem?_append_left (by simp;omega),ae aq,aa aq];simp[A]
      ·rcases Nat.lt_or_ge k (m+1)with J|J
       ·obtain rfl:k=m:=aq;rw[Array.getElem?_append_left aA,Array.getElem?_append_right aA,ae aq,ae F];simp
       ·rw[Array.getElem?_append_right (by simp;omega),aa aq,mc _ _ (by simp;omega)]
     ·rw[Array.getElem?_eq_none (by rw[Array.size_append,size_zeroCells];simp;omega),Array.getElem?_eq_none (by rw[bk];omega)]
    rw[B]at s;rw[B];exact s
theorem pe{n:Nat}{S:World->World->Prop}{k:Nat}{K:Fr->World->Prop}{f:Fr}{w:World}{d ty:Nat}{o l:Operand}{p:String}{r:Array Edge}{I:Option (Nat×Bool)}
 {v:Value} {m c t e g:Nat} {z u:Value} {h:Nat->Value} {a:Addr} (D:cP Tryz.prog t e 1 g z) (q:z.oneCell'=true)
 (B:k=2\/k=1/\∀w',Ch (λb=>some b=v.ownBlock) w w'->S w w') (y:ev n f o=v) (x:ev n f l=.slice (some a) 1 c) (G:lJ e z w v m h)
 (H:w.cell? (a.add 0)=some u) (Ay:u.oneCell'=true) (A:m<1048576) (i:g<=64)
 (C:∀k,k<m->∀a,h k≠.int .u32 a) (s:∀a,z≠.int .u32 a)
 (E:∀g w',lJ e z w' g (m+1) (λj=>if j=m then u else h j)->Kp w w'->Ch (λb=>some b=v.ownBlock) w w'->(g.ownBlock=v.ownBlock\/g.ownBlock=some w.heap.size)->K (bS f d g) w'):
 R1 Tryz.prog n S k ⟨some d,.call { callee:=.builtin .append,args:=#[o,l],argTypes:=#[t,t] },ty,p,r,I⟩ K f w:=by
 obtain⟨g,w',b,p,o,j,l⟩:=vm (ty:=ty) (c:=c) D q G H Ay A i C s;refine kJ (w':=w') (v:=g) (B.imp id λh=>⟨h.1,h.2 _ j⟩) ?_ (E g w' p o j l);simp only[execOp,resolve,invoke,builtin,Sem.run_bind,Sem.run_pure,Result.andThen_ok,List.map_toArray,List.map_cons,List.map_nil,y,x,b]
def mw(w:World)(v:Value)(c:Nat)(g:Nat->Int):Prop:=
 ∃A b,v=.slice A c b/\c<=b/\b<9223372036854775808/\∀j,j<c->∃b,A=some b/\w.cell? (b.add (j*1))=some (.int .i64 (g j))
def kq(w:World)(v:Value)(c:Nat)(g:Nat->Nat):Prop:=mw w v c λk=>((g k:Nat):Int)
theorem mw.Y{w w':World}{v:Value}{c:Nat}{g:Nat->Int}(h:mw w v c g)(d:Ext w w'):mw w' v c g:=by
 obtain⟨A,a,e,i,b,f⟩:=h;refine⟨A,a,e,i,b,λj a=>?_⟩;obtain⟨i,e,b⟩:=f j a;exact⟨i,e,aS d b⟩
theorem kq.Y{w w':World}{v:Value}{c:Nat}{g:Nat->Nat}(h:kq w v c g)(a:Ext w w'):kq w' v c g:=mw.Y h a
theorem lJ.ints{e:Nat}{z v:Value}{w:World}{m:Nat}{h:Nat->Value}{g:Nat->Int}(b:lJ e z w v m h)(d:∀k,k<m->h k=.int .i64 (g k)):mw w v m g:=by
 obtain⟨A,c,rfl,f,a⟩:=b.slice;refine⟨A,c,F,f,a,λj a=>?_⟩;obtain⟨g,c,e,c⟩:=b.at a;injection e with e _ _;exact⟨_,e,by rw[add_lit,c,d j a]⟩
theorem dN.Gr{w:World}{v:Value}{m N:Nat}{cn:Bool}{M:Nat->Int}(h:dN w v m cn N M):iN (EI N) w v m M:=by
 rcases h with⟨rfl,rfl⟩|⟨g,cap,rfl,h1,h2,h3⟩
 ·exact⟨_,_,F,aD,aq,λj b=>absurd b aq⟩
 ·refine⟨_,_,F,h1,h2,λj b=>?_⟩;obtain⟨x,y,d,c,a⟩:=h3.at (j:=j) aq;unfold nB at a;rw[ae b]at a;exact⟨_,x,y,F,by rw[add_lit];exact d,by rw[add_lit];exact c,a.1⟩
theorem DW(v:Value)(n N:Nat)(M:Nat->Nat->Int)(w:World)(h:cO (EI N) w v n (λ_=>n) M)(bC:n<=16)(c4:1<=N)(hN:N<1048576):
 aT Tryz.prog 9 #[v] w (RI w (kU n M)):=by
 obtain⟨c,aH,g,ma,g,bu⟩ : ∃c,1<=c/\n<=c/\(1<=n->c=n)/\c<=16/\cO (EI N) w v n (λ_=>c) M:=by
  rcases Nat.eq_zero_or_pos n with rfl|hp
  ·obtain⟨A,g,e,E,h2,h3⟩:=h;exact⟨1,aq,aq,aq,aq,A,g,e,E,h2,λi hi=>absurd hi aq⟩
  ·exact⟨n,aq,aq,λ_=>rfl,bC,h⟩
 clear h;obtain⟨A,g,rfl,_⟩:=id bu;refine bF (n:=125) Tryz.func9 F rfl aw aA ?_;refine gg ?_;refine aR (.inl F) a_ ?_;intro T g ay bW;have A:Bx T w.heap.size 1 true 0:=Bx.zero true g;clear g;obtain⟨U,bK⟩ : ∃g,g=w.heap.size:=⟨_,F⟩;rw[<-bK]at A⊢;refine gg ?_;refine aJ (A9 _ n c N M T (bu.Y ay) aq aH aq aq) ?_;rintro _ w2 ⟨l,R,J,Q,rfl,bK,bu,P,G⟩;have c5:U<R:=aq;have H:=A.Y l;have I:=ay.trans l;clear A ay l bK bu;refine gg ?_;refine aJ (iy 1 w2 aq aq) ?_;rintro _ w3 ⟨D,x,y,rfl,an⟩;refine gg ?_;refine aR (.inl F) a_ ?_;intro w4 bK X bA;have ay:Bx w4 w3.heap.size 1 true 0:=Bx.zero true bK;obtain⟨O,bu⟩ : ∃g,g=w3.heap.size:=⟨_,F⟩;rw[<-bu]at ay⊢;refine gg ?_;refine aL (.inl F) F rfl ay ((an.Y X).ev true (N:=N) (Bd.mono (N:=1) (show(1:Int).natAbs<B^1 by decide) c4)) ?_;intro w5 bl a6 A bx;have W:=G.Y D;have g:∀k,k<n->J k<O:=λk hk=>by have:=(W.row k hk).lt;omega
 have c4:R<O:=by have:=W.lt;omega
 have ab:=(W.Y X).kp A a6 aq (λk hk=>by have:=g k hk;omega);have b4:=((H.Y D).Y X).kp A a6 aq;have a0:Ext w w5:=a6.aK (I.trans (D.trans X)) λb hb=>aq;have al:∀k,k<n->R<J k/\J k<O:=λk hk=>⟨P k hk,g k hk⟩;clear g P G W H D X an bK ay a6 A bx bA bu I bW T w2 w3 w4;refine gg ?_;refine aX (λf s=>∃C d,f 2=.pointer (some ⟨U,0,none⟩)/\f 6=.bool C/\f 5=.pointer (some ⟨O,0,none⟩)/\Ext w s/\Bx s U 1 true 0/\Bx s O (Nb N n) true d/\(if C then -d else d)=kU n M) ?_ ?_
 ·refine gg ?_;refine aU (λm f s=>∃k J Q Mk C d,m=n-k/\k<=n/\f 2=.pointer (some ⟨U,0,none⟩)/\f 3=.slice (some ⟨R,0,none⟩) n n/\f 4=.int .i64 (n:Int)/\f 5=.pointer (some ⟨O,0,none⟩)/\f 6=.bool (C)/\f 7=.int .i64 ((k:Nat):Int)/\
   Ext w s/\Bx s U 1 true 0/\Bx s O (Nb N k) true d/\d≠0/\bO s R J Q n c true (λ_ _=>Nb N k) Mk/\(∀i,i<n->R<J i/\J i<O)/\iL n (n-k) k Mk C d=kU n M)
   n ⟨0,J,Q,M,false,1,F,aE,F,F,F,F,F,F,a0,b4,bl,ar,ab,al,F⟩ ?_
  clear a0 b4 bl ab al w5 J Q;rintro m f T ⟨k,J,Q,Mk,C,d,rfl,hk,r,z,u,q,o,t,I,H,L,g,G,P,Y⟩;rw[ui r,ui z,ui u,ui q,ui o,ui t];clear r z u q o t;have g:Nb N k<68719476736:=kM hN aq;refine aP ?_;by_cases K:k<n
  ·have ma:=ma aq;subst ma;refine gg ?_;refine aX (λf s=>∃p,k<=p/\p<=c/\f 2=.pointer (some ⟨U,0,none⟩)/\f 3=.slice (some ⟨R,0,none⟩) c c/\f 4=.int .i64 (c:Int)/\f 5=.pointer (some ⟨O,0,none⟩)/\f 6=.bool (C)/\f 7=.int .i64 (k:Int)/\f 8=.int .i64 ((p:Nat):Int)/\Ext T s/\p=cR c k Mk/\(p<c->Mk p k≠0)) ?_ ?_
   ·refine gg ?_;refine aU (λm f s=>∃p,m=c-p/\k<=p/\p<=c/\f 2=.pointer (some ⟨U,0,none⟩)/\f 3=.slice (some ⟨R,0,none⟩) c c/\f 4=.int .i64 (c:Int)/\f 5=.pointer (some ⟨O,0,none⟩)/\f 6=.bool (C)/\f 7=.int .i64 (k:Int)/\f 8=.int .i64 ((p:Nat):Int)/\Ext T s/\fJ c k Mk (c-p) p=cR c k Mk)
     (c-k) ⟨k,F,aD,hk,F,F,F,F,F,F,F,Ext.refl _,F⟩ ?_
    rintro m f w2 ⟨p,rfl,ay,jv,r,z,u,q,o,t,g,l,hp⟩;rw[ui r,ui z,ui u,ui q,ui o,ui t,ui g];clear r z u q o t g;by_cases V:p<c
    ·have hx:=(G.Y l).at V;obtain⟨x,y,av,au,hv⟩:=((G.Y l).row p V).at K;refine aP ?_;refine gg ?_;refine aJ (h_ _ _ _ _ w2 hv.1 aq) ?_;rintro _ w3 ⟨D,rfl⟩;by_cases A:Mk p k=0
     ·have hs:(Mk p k).sign=0:=by rw[A];rfl
      refine gg ?_;refine⟨_,?_,p+1,F,aq,aq,F,F,F,F,F,F,F,l.trans D,?_⟩
      ·omega
      ·rw[<-pS ⟨V,A⟩];exact hp
     ·have hs:¬(Mk p k).sign=0:=λe=>A (Int.sign_eq_zero_iff_zero.1 e);refine gg ?_;refine⟨p,ay,jv,F,F,F,F,F,F,F,l.trans D,?_,λ_=>A⟩;rw[<-hp,kA λh=>A h.2]
    ·refine aP ?_;refine gg ?_;refine⟨p,ay,jv,F,F,F,F,F,F,F,l,?_,λh=>absurd h V⟩;rw[<-hp,kA λh=>V h.1]
   rintro f w2 ⟨p,ay,jv,r,z,u,q,o,t,g,l,hp,bX⟩;rw[ui r,ui z,ui u,ui q,ui o,ui t,ui g];clear r z u q o t g;have S:=Y;rw[show c-k=(c-(k+1))+1 by omega,iL,<-hp]at S;refine aP ?_;refine aP ?_;by_cases g:p=c
   ·rw[ae g]at S;refine gg ?_;refine fp ij ?_;refine gg ?_;refine aL (N':=1) (.inl F) F rfl (H.Y l) ((CV.zero w2).ev true (Bd.zero 1)) ?_;intro w3 ad aj bD bB;refine gg ?_;obtain⟨x,y,hB,hv⟩:=ad;refine dO F aN F hB ⟨aj.aK (I.trans l) λb hb=>aq,x,y,F,?_⟩;rw[<-S];exact hv.2 F
   rw[aa g]at S;have V:p<c:=aq;have bt:=I.trans l;have b5:=H.Y l;have bs:=L.Y l;have b0:=G.Y l;clear H L G I l Y T;refine gg ?_;refine aX (λf s=>∃g A,f 2=.pointer (some ⟨U,0,none⟩)/\f 3=.slice (some ⟨R,0,none⟩) c c/\f 4=.int .i64 (c:Int)/\f 5=.pointer (some ⟨O,0,none⟩)/\f 6=.bool (C != decide (p≠k))/\f 7=.int .i64 (k:Int)/\
    Ext w s/\Bx s U 1 true 0/\Bx s O (Nb N k) true d/\bO s R g A c c true (λ_ _=>Nb N k) (swp k p Mk)/\(∀i,i<c->R<g i/\g i<O)) ?_ ?_
   ·refine aP ?_;by_cases ax:p=k
    ·refine gg ?_;refine⟨J,Q,F,F,F,F,?_,F,bt,b5,bs,?_,P⟩
     ·show Value.bool C=_;simp[ax]
     ·rw[ax,mW];exact b0
    ·refine gg ?_;refine b7 [(0,3),(1,3),(2,3),(3,3),(4,3),(5,3),(6,3),(7,0),(8,3),(9,3),(10,3),(11,0),(12,3),(13,2),(14,3),(15,2)] mixed aw λw3 D _=>?_;have W:=b0.Y D;have g:=W.at V;have g:=W.at K;have A:=W.outer;refine gg ?_;refine cH (aW F) (.inl F) F rfl A (by rw[bk];omega) ?_;intro w4 g ay bA;rw[cC]at g;refine gg ?_;refine cH (aW F) (.inl F) F rfl g (by rw[bk];omega) ?_;intro w5 bg a6 bx;rw[cC]at bg;have a4:=ay.trans a6;have ak:=cK A W.j7.jn a4;have e:bS (bS (λi=>Value.slice (some ⟨J i,0,none⟩) c (Q i)) (0+p*1) (.slice (some ⟨J k,0,none⟩) c (Q k))) (0+k*1) (.slice (some ⟨J p,0,none⟩) c (Q p))=λi=>Value.slice (some ⟨swp k p J i,0,none⟩) c (swp k p Q i):=by
      funext i;rw[Nat.zero_add,Nat.zero_add,Nat.mul_one,Nat.mul_one];simp only[swp];by_cases h2:i=k
      ·subst h2;rw[bG,ae F,ae F]
      ·rw[bw _ _ h2,aa h2,aa h2];by_cases E:i=p
       ·subst E;rw[bG,ae F,ae F]
       ·rw[bw _ _ E,aa E,aa E]
     rw[e]at bg;have ab:=W.swap K V a4 ak bg;refine gg ?_;refine⟨swp k p J,swp k p Q,F,F,F,F,?_,F,a4.aK (bt.trans D) λb hb=>aq,(b5.Y D).kp ak a4 aq,(bs.Y D).kp ak a4 aq,ab,λi hi=>?_⟩
     ·show Value.bool (!C)=_;simp[ax]
     ·simp only[swp];split
      ·exact P p V
      ·split
       ·exact P k K
       ·exact P i hi
   clear b0 bs b5 bt P w2 J Q;rintro f T ⟨J,Q,r,z,u,q,o,t,I,H,L,G,P⟩;rw[ui r,ui z,ui u,ui q,ui o,ui t];clear r z u q o t;obtain⟨Z,g⟩ : ∃Z,Z=swp k p Mk:=⟨_,F⟩;rw[<-g]at G S;have bM:Z k k≠0:=by rw[g];simp only[swp,if_true];exact bX V
   have g:w.heap.size<=U:=aq;refine aX (λf s=>f 2=.pointer (some ⟨U,0,none⟩)/\f 3=.slice (some ⟨R,0,none⟩) c c/\f 4=.int .i64 (c:Int)/\f 5=.pointer (some ⟨O,0,none⟩)/\f 6=.bool (C != decide (p≠k))/\f 7=.int .i64 (k:Int)/\
    Ext w s/\Bx s U 1 true 0/\Bx s O (Nb N k) true d/\bO s R J Q c c true (λ_ _=>Nb N (k+1)) (elim k d Z)/\Bd (Nb N k) (Z k k)) ?_ ?_
   ·refine gg ?_;have bI:Bd (Nb N k) (Z k k):=by
     obtain⟨x,y,_,_,hv⟩:=(G.row k K).at K;exact hv.bd
    refine aU (λm f s=>∃i,m=c-i/\k<i/\i<=c/\f 2=.pointer (some ⟨U,0,none⟩)/\f 3=.slice (some ⟨R,0,none⟩) c c/\f 4=.int .i64 (c:Int)/\f 5=.pointer (some ⟨O,0,none⟩)/\f 6=.bool (C != decide (p≠k))/\f 7=.int .i64 (k:Int)/\f 9=.int .i64 ((i:Nat):Int)/\
     Ext w s/\Bx s U 1 true 0/\Bx s O (Nb N k) true d/\bO s R J Q c c true (λa b=>if k<a/\k<b/\a<i then Nb N (k+1)else Nb N k) λa b=>if k<a/\k<b/\a<i then elim k d Z a b else Z a b)
     (c-(k+1)) ⟨k+1,F,aq,aq,F,F,F,F,F,F,F,I,H,L,G.congr (λa b ha hb=>⟨by rw[aa aq];exact Nat.le_refl _,by rw[aa aq]⟩)⟩ ?_
    clear I H L G T;rintro m f T ⟨i,rfl,c3,g,r,z,u,q,o,t,a7,I,H,L,G⟩;rw[ui r,ui z,ui u,ui q,ui o,ui t,ui a7];clear r z u q o t a7;refine aP ?_;by_cases a5:i<c
    ·refine aP ?_;refine gg ?_;refine aU (λm f s=>∃j,m=c-j/\k<j/\j<=c/\f 2=.pointer (some ⟨U,0,none⟩)/\f 3=.slice (some ⟨R,0,none⟩) c c/\f 4=.int .i64 (c:Int)/\f 5=.pointer (some ⟨O,0,none⟩)/\f 6=.bool (C != decide (p≠k))/\f 7=.int .i64 (k:Int)/\f 9=.int .i64 (i:Int)/\f 10=.int .i64 ((j:Nat):Int)/\
      Ext w s/\Bx s U 1 true 0/\Bx s O (Nb N k) true d/\bO s R J Q c c true (λa b=>if k<a/\k<b/\(a<i\/a=i/\b<j)then Nb N (k+1)else Nb N k) λa b=>if k<a/\k<b/\(a<i\/a=i/\b<j)then elim k d Z a b else Z a b)
      (c-(k+1)) ⟨k+1,F,aq,aq,F,F,F,F,F,F,F,F,I,H,L,G.congr λa b ha hb=>⟨?_,?_⟩⟩ ?_
     ·by_cases E:k<a/\k<b/\a<i
      ·rw[ae E,ae aq];exact Nat.le_refl _
      ·rw[aa E,aa aq];exact Nat.le_refl _
     ·by_cases E:k<a/\k<b/\a<i
      ·rw[ae E,ae aq]
      ·rw[aa E,aa aq]
     clear I H L G T;rintro m f T ⟨j,rfl,bY,g,r,z,u,q,o,t,a7,g,I,H,L,G⟩;rw[ui r,ui z,ui u,ui q,ui o,ui t,ui a7,ui g];clear r z u q o t a7 g;refine aP ?_;by_cases A:j<c
     ·refine gg ?_;refine c8 [(0,3),(1,3),(2,3),(3,0),(4,3),(5,3),(6,3),(7,3),(8,0),(9,3),(10,3),(11,0),(12,3),(13,3),(14,3),(15,0),(16,3),(17,3),(18,0),(20,3),(21,3),(22,3),(23,0),(24,3),(25,3),(26,0),(27,3),(28,3),(29,3),(30,0),(31,3),(32,3),(33,0),(36,0),(19,1),(34,1),(35,1),(37,1),(38,3),(39,2)] mixed aw λw2 l _=>?_;have c:=G.Y l;have g:=c.at a5;have g:=c.at K;obtain⟨g,g,g,g,m⟩:=(c.row k K).at K;obtain⟨g,g,av,g,ct⟩:=(c.row i a5).at A;obtain⟨g,g,au,g,fg⟩:=(c.row i a5).at K;obtain⟨g,g,g,g,g⟩:=(c.row k K).at A;obtain⟨s,s,bj,ai⟩:=L.Y l;obtain⟨s,s⟩:=a9 bj;simp only at m ct fg g;rw[aa aq,aa aq]at m ct fg g;refine gg ?_;refine aM (oW _ _ _ _ _ _ (Nb N k) w2 m.1 ct.1 aq) ?_;rintro _ w3 ⟨D,s,s,rfl,aH⟩;refine⟨D,?_⟩;refine gg ?_;refine aM (oW _ _ _ _ _ _ (Nb N k) w3 (fg.Y D).1 (g.Y D).1 aq) ?_;rintro _ w4 ⟨X,s,b2,rfl,R⟩;refine⟨X,?_⟩;have O:=(m.bd).mul ct.bd;have s:=(fg.bd).mul g.bd;refine gg ?_;refine aM (yi _ _ _ _ _ _ (Nb N k+Nb N k) w4 ((aH.Y X).iv O) (R.iv s) aq) ?_;rintro _ w5 ⟨a0,g,b3,rfl,g⟩;refine⟨a0,?_⟩;have m:=O.sub s;have s:Nb N k+Nb N k+1=Nb N (k+1):=by simp only[Nb];omega
      rw[s]at m;have s:Nb N (k+1)<68719476736:=kM hN aq;refine gg ?_;refine aM (sk _ _ _ _ _ _ (Nb N (k+1)) w5 (g.iv m) (((ai.Y (D.trans (X.trans a0))).mono (iI N k)).1) aq) ?_;rintro _ g ⟨g,s,s,rfl,hq⟩;refine⟨g,?_⟩;have s:=D.trans (X.trans (a0.trans g));refine gg ?_;refine eJ (.inl F) F rfl ((c.Y s).row i a5) A (hq.ev true (N:=Nb N (k+1)) m.ediv) ?_;intro g D g m A;have A:=(c.Y s).put a5 D g m;have c:=P i a5;have c:=l.trans s;refine gg ?_;refine⟨_,?_,j+1,F,aq,aq,F,F,F,F,F,F,F,F,g.aK (I.trans c) λb hb=>aq,(H.Y c).kp m g aq,(L.Y c).kp m g aq,A.congr λa b ha hb=>⟨?_,?_⟩⟩
      ·omega
      ·simp only[dM];by_cases e:a=i/\b=j
       ·rw[ae e,ae aq];exact Nat.le_refl _
       ·rw[aa e];by_cases E:k<a/\k<b/\(a<i\/a=i/\b<j)
        ·rw[ae E,ae aq];exact Nat.le_refl _
        ·rw[aa E,aa aq];exact Nat.le_refl _
      ·simp only[dM];by_cases e:a=i/\b=j
       ·obtain⟨rfl,rfl⟩:=e;rw[ae ⟨F,F⟩,ae aq,elim,ae ⟨c3,bY⟩]
       ·rw[aa e];by_cases E:k<a/\k<b/\(a<i\/a=i/\b<j)
        ·rw[ae E,ae aq]
        ·rw[aa E,aa aq]
     ·refine gg ?_;refine⟨_,?_,i+1,F,aq,aq,F,F,F,F,F,F,F,I,H,L,G.congr λa b ha hb=>⟨?_,?_⟩⟩
      ·omega
      ·by_cases E:k<a/\k<b/\a<i+1
       ·rw[ae aq,ae E];exact Nat.le_refl _
       ·rw[aa aq,aa E];exact Nat.le_refl _
      ·by_cases E:k<a/\k<b/\a<i+1
       ·rw[ae aq,ae E]
       ·rw[aa aq,aa E]
    ·refine gg ?_;refine⟨F,F,F,F,F,F,I,H,L,G.congr λa b ha hb=>⟨?_,?_⟩,bI⟩
     ·have:=iI N k;split<;>omega
     ·by_cases E:k<a/\k<b/\a<i
      ·rw[ae E]
      ·rw[aa E,elim,aa aq]
   ·clear I H L G T;rintro f T ⟨r,z,u,q,o,t,I,H,L,G,bI⟩;rw[ui r,ui z,ui u,ui q,ui o,ui t];clear r z u q o t;have hx:=G.at K;obtain⟨x,y,av,au,hv⟩:=(G.row k K).at K;have a:elim k d Z k k=Z k k:=by rw[elim,aa aq]
    rw[a]at hv;refine gg ?_;refine aL (.inl F) F rfl L hv ?_;intro w2 e a c g;refine gg ?_;refine⟨_,?_,k+1,J,Q,elim k d Z,C != decide (p≠k),Z k k,F,aq,F,F,F,F,F,F,a.aK I (λb hb=>aq),H.kp c a aq,e,bM,G.kp c a aq (λi hi=>by have:=P i hi;omega),P,S⟩;omega
  ·refine gg ?_;have:k=n:=aq;subst this;rw[Nat.sub_self,iL]at Y;exact⟨C,d,F,F,F,I,H,L,Y⟩
 clear a0 b4 bl ab al w5 J Q;rintro f T ⟨C,d,r,o,q,I,H,L,Y⟩;rw[ui r,ui o,ui q];clear r o q;have a:Nb N n<68719476736:=kM hN bC;obtain⟨x,y,bj,ai⟩:=L;obtain⟨av,au⟩:=a9 bj;refine aP ?_;cases C with
 |true=>
  refine aP ?_;refine gg ?_;refine aJ (oV _ _ _ _ T ai.1 aq) ?_;rintro _ w2 ⟨l,a,a,rfl,an⟩;refine gg ?_;refine aL (N':=Nb N n) (.inl F) F rfl (H.Y l) (an.ev true ai.bd.neg) ?_;intro w3 ad aj bD bB;refine gg ?_;obtain⟨x,y,hB,hv⟩:=ad;refine dO F aN F hB ⟨aj.aK (I.trans l) λb hb=>aq,x,y,F,?_⟩;rw[<-Y];exact hv.2 F
 |false=>
  refine aP ?_;refine gg ?_;refine aL (N':=Nb N n) (.inl F) F rfl H ai ?_;intro w3 ad aj bD bB;refine gg ?_;obtain⟨x,y,hB,hv⟩:=ad;refine dO F aN F hB ⟨aj.aK I λb hb=>aq,x,y,F,?_⟩;rw[<-Y];exact hv.2 F
def Jf(w:World)(n:Nat)(x y:Value)(z:Int):Prop:=∃a A l c,x=.bool a/\y=.slice A l.length c/\l.length<=c/\c<9223372036854775808/\eP w A l/\l.length=n/\n<=140737488355328/\z=sg a (val l)
theorem Jf.iv{w:World}{n N:Nat}{x y:Value}{z:Int}(h:Jf w n x y z)(a:n<=N):IV w N x y z:=by
 obtain⟨a,A,l,c,i,g,f,e,d,b,b,b⟩:=h;exact⟨a,A,l,c,i,g,f,e,d,aq,b⟩
def Hc(w:World)(v:Value)(c:Nat)(M:Nat->Int)(L:Nat->Nat):Prop:=
 ∃A a,v=.slice A c a/\c<=a/\a<9223372036854775808/\c<=140737488355328/\∀j,j<c->∃a x y,A=some a/\w.cell? (a.add (j*2))=some x/\w.cell? ((a.add (j*2)).add 1)=some y/\Jf w (L j) x y (M j)
def Hs(w:World)(v:Value)(r:Nat)(b:Nat->Nat)(M:Nat->Nat->Int)(L:Nat->Nat->Nat):Prop:=
 ∃A a,v=.slice A r a/\r<=a/\a<9223372036854775808/\r<=140737488355328/\∀i,i<r->∃a u,A=some a/\w.cell? (a.add (i*1))=some u/\Hc w u (b i) (M i) (L i)
theorem Hc.e{w:World}{v:Value}{c N:Nat}{M:Nat->Int}{L:Nat->Nat}(h:Hc w v c M L)(g:∀j,j<c->L j<=N):iN (EI N) w v c M:=by
 obtain⟨A,a,rfl,d,b,_,h3⟩:=h;refine⟨A,a,F,d,b,λj a=>?_⟩;obtain⟨i,x,y,e,d,b,f⟩:=h3 j a;exact⟨i,x,y,e,d,b,f.iv (g j a)⟩
theorem Hs.e{w:World}{v:Value}{r N:Nat}{a:Nat->Nat}{M:Nat->Nat->Int}{L:Nat->Nat->Nat}(h:Hs w v r a M L)(d:∀i,i<r->∀j,j<a i->L i j<=N):cO (EI N) w v r a M:=by
 obtain⟨A,b,rfl,c,a,_,h3⟩:=h;refine⟨A,b,F,c,a,λi a=>?_⟩;obtain⟨f,u,e,b,c⟩:=h3 i a;exact⟨f,u,e,b,c.e (d i a)⟩
section
variable {H:Type}{enc:TypeId×Value->H}{w:World}{sp:Nat->Bool}{hd:Bool}
def Wt(t:Nat)(d:DataW H):Prop:=∀n∈d.weights Tryz.prog t,n<=reachBytes
theorem la{e:Nat}{d:DataW H}{n:Nat}(a:n∈d.weights Tryz.prog e):∀{l:List (DataW H)},d∈l->n∈DataW.weightsAll Tryz.prog e l
 |x::l,h=>by
  simp only[DataW.weightsAll,List.mem_append];rcases List.mem_cons.1 h with rfl|h
  ·exact .inl a
  ·exact .inr (la a h)
theorem AB{t e:Nat}{b a:List (DataW H)}(c:Tryz.prog.underlying t=some (.slice e))(h:Wt t (.slice b a)):(b.length+a.length)*Tryz.prog.bytesOf e<=140737488351232/\∀d∈b,Wt e d:=by
 have hd:DataW.weights Tryz.prog t (.slice b a)=(b.length+a.length)*Tryz.prog.bytesOf e::(DataW.weightsAll Tryz.prog e b++DataW.weightsAll Tryz.prog e a):=by rw[DataW.weights,c]
 unfold Wt at h;rw[hd]at h;refine⟨h _ aG,λd a n b=>h n ?_⟩;exact List.mem_cons_of_mem _ (List.mem_append_left _ (la b a))
