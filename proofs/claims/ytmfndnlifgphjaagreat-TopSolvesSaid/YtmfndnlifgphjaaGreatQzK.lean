import Derived.Test.YtmfndnlifgphjaaGreatQzJ
import Derived.Lib.SmallJoins
set_option maxHeartbeats 64000000
open Go.Proofs.YtmfndnlifgphjaaGreat
namespace Go.Proofs.Qq
section
open Go Go.cU Go.cV Go.Proofs
def F9(w:World)(v:Value)(m:Nat)(c:Nat->Int):Prop:=∃A b,v=.slice A m b/\m<=b/\ou w A m c
section
variable {H:Type}{enc:TypeId×Value->H}{w:World}{sp:Nat->Bool}{hd:Bool}
theorem zB{v:Value}{d:DataW H}{b:List MemPlace}(h:DataW.Trod enc Tryz.prog w 0 sp hd 22 v d b)(b:Wt 22 d)(f:v.cells.toList=[v]):∃m a,F9 w v m a:=by
 obtain⟨j,h⟩:=h;rw[f]at h;obtain⟨A,n,c,a,e,g,i⟩:=uE h b;injection e with e;subst e;exact⟨n,a,A,c,F,g,i⟩
end
end
end Go.Proofs.Qq

namespace Go.Proofs.Qq
section
open Go Go.cU Go.cV Go.Proofs
theorem vw.congr{w:World}{b:Nat}{a:Nat->Nat}{r c:Nat}{M M':Nat->Nat->Int}(h:vw w b a r c M)(e:∀i j,i<r->j<c->M i j=M' i j):vw w b a r c M':=
 ⟨h.outer,λi a=>(h.row i a).congr λj b=>e i j a b,h.ne,h.inj⟩
theorem vw.at{w:World}{b:Nat}{a:Nat->Nat}{r c i:Nat}{M:Nat->Nat->Int}(h:vw w b a r c M)(d:i<r):w.cell? ⟨b,0+i*1,none⟩=some (.slice (some ⟨a i,0,none⟩) c c):=by
 rw[h.outer.cell,b8 aq,Nat.zero_add,Nat.mul_one]
theorem iA.at{w:World}{g c j:Nat}{M:Nat->Int}(h:iA w g c M)(a:j<c):w.cell? ⟨g,0+j*1,none⟩=some (.int .i64 (M j)):=by
 unfold iA at h;rw[h.cell,b8 aq,Nat.zero_add,Nat.mul_one]
theorem y9(A:Option Addr)(m cap n:Nat)(e:Nat->Int)(w:World)(C:ou w A m e)(a:n<=1048576):
 aT Tryz.prog 16 #[.slice A m cap,.int .i64 (n:Int)] w λv a=>Ext w a/\∃g,v=.slice (some ⟨g,0,none⟩) n n/\w.heap.size<=g/\iA a g n (tp m e):=by
 refine bF (n:=25) Tryz.func16 F rfl aw aA ?_;refine gg ?_;refine qD F ?_;refine gg ?_;refine aZ (v:=.agg _) (.inl F) F ?_;intro t r p y;have h:jA t w.heap.size A m cap 0:=by unfold jA;rw[Nat.zero_min];exact r
 obtain⟨b,o⟩ : ∃g,g=w.heap.size:=⟨_,F⟩;rw[<-o]at h⊢;refine gg ?_;refine cF po (.inl F) F rfl aD aq aq ?_;intro B q l x;have d:=re q;obtain⟨g,u⟩ : ∃g,g=t.heap.size:=⟨_,F⟩;rw[<-u]at d⊢;have t:b<g:=aq;have z:w.heap.size<=b:=aq;have c:=p.trans l;have j:jA B b A m cap 0:=h.Y l;clear r q p l h y x u o;refine gg ?_;refine aX (λf a=>f 6=.slice (some ⟨g,0,none⟩) n n/\Ext w a/\iA a g n (tp m e)) ?_ ?_
 ·refine gg ?_;refine aU (λq f a=>∃i,q=n-i/\i<=n/\f 5=.pointer (some ⟨b,0,none⟩)/\f 6=.slice (some ⟨g,0,none⟩) n n/\f 14=.int .i64 (n:Int)/\f 15=.int .i64 ((i:Nat):Int)/\Ext w a/\jA a b A m cap i/\iA a g n λk=>if k<i then tp m e k else 0)
   n ⟨0,F,aE,F,F,F,F,c,j,d.congr λ_ _=>by rw[aa aq]⟩ ?_
  clear c j d;rintro q f s ⟨i,rfl,a,q,a,o,l,h,r,p⟩;rw[ui q,ui a,ui o,ui l];clear q a o l;by_cases l:i<n
  ·refine gg ?_;refine aJ (yx b A m cap i e w s h C z r) ?_;rintro _ l ⟨rfl,q,e,_⟩;have r:Ext w l:=e.aK h λb t=>aq;have o:iA l g n _:=bh.ch p e aq;refine gg ?_;refine cg (aW F) (.inl F) F rfl o (by rw[bk];omega) ?_;intro e o e l;have l:=iA.set o;refine gg ?_;refine⟨_,?_,i+1,F,aq,F,F,F,F,e.aK r λb t=>aq,bh.ch q e aq,l.congr λk _=>?_⟩
   ·omega
   ·simp only[fR];by_cases e:k=i
    ·rw[ae e,ae aq,e]
    ·rw[aa e];by_cases b:k<i
     ·rw[ae b,ae aq]
     ·rw[aa b,aa aq]
  ·refine gg ?_;exact⟨F,h,p.congr λk b=>by rw[ae aq]⟩
 clear c j d;rintro f s ⟨a,h,p⟩;rw[ui a];clear a;refine gg ?_;exact cI F rfl ⟨h,g,F,aq,p⟩
theorem zU(A:Option Addr)(m cap n:Nat)(j:Nat->Int)(w:World)(D:ou w A m j)(Q:n<=1048576):
 aT Tryz.prog 5 #[.slice A m cap,.int .i64 (n:Int)] w λv d=>Ext w d/\dN d v n true 1 (tp m j)/\∀b,some b=v.ownBlock->w.heap.size<=b:=by
 refine bF (n:=23) Tryz.func5 F rfl aw aA ?_;refine gg ?_;refine aX (λf d=>∃v,f 5=v/\Ext w d/\dN d v n true 1 (tp m j)/\∀b,some b=v.ownBlock->w.heap.size<=b) ?_ ?_
 ·refine gg ?_;refine aJ (y9 A m cap n j w D Q) ?_;rintro _ C ⟨z,g,rfl,hg,P⟩;refine gg ?_;refine aU (λq f d=>∃i v,q=n-i/\i<=n/\f 5=v/\f 10=.slice (some ⟨g,0,none⟩) n n/\f 11=.int .i64 (n:Int)/\f 12=.int .i64 ((i:Nat):Int)/\Ext C d/\dN d v i true 1 (tp m j)/\∀b,some b=v.ownBlock->C.heap.size<=b)
   n ⟨0,.slice none 0 0,F,aE,F,F,F,F,Ext.refl _,dN.nil,λb c=>by cases c⟩ ?_
  rintro q f L ⟨i,v,rfl,Z,h,t,s,r,o,u,a⟩;rw[ui h,ui t,ui s,ui r];clear h t s r;by_cases G:i<n
  ·have X:=iA.at (bh.Y P o) G;have R:=tY D i;have od:Bd 1 (tp m j i):=by
    unfold Bd;have:B^1=4294967296:=ar;omega
   refine gg ?_;refine aJ (iy (tp m j i) L aq aq) ?_;rintro _ W ⟨p,x,y,rfl,H⟩;refine gg ?_;refine ql (.inl F) F ?_;intro V K l S;obtain⟨O,N⟩:=a9 K;refine gg ?_;refine yY (.inl F) F rfl (u.Y (p.trans l)) O N ((H.Y l).ev true od) aq ?_;intro M U I T J E;have Y:=(o.trans (p.trans l)).size;refine gg ?_;refine⟨_,?_,i+1,M,F,aq,F,F,F,F,J.aK (o.trans (p.trans l)) a,I.congr λk _=>?_,λb c=>?_⟩
   ·omega
   ·split
    ·rename_i e;rw[e]
    ·rfl
   ·rcases E with e|e
    ·rw[e]at c;exact a b c
    ·rw[e]at c;injection c with c;omega
  ·refine gg ?_;obtain rfl:i=n:=aq;exact⟨v,F,z.trans o,u,λb c=>by have:=a b c;have:=z.size;omega⟩
 rintro f C ⟨v,h,o,u,a⟩;rw[ui h];clear h;refine gg ?_;exact cI F rfl ⟨o,u,a⟩
end
end Go.Proofs.Qq

namespace Go.Proofs.Qq
section
open Go Go.cU Go.cV Go.Proofs
def Hb(w:World)(p:Prop)(n:Nat)(A:Nat->Nat->Int)(u:Value)(e:Int):Prop:=
 (¬p/\u=.slice none 0 0/\e=3)\/(p/\Go.bc.aQ n A=0/\u=.slice none 0 0/\e=8)\/(p/\Go.bc.aQ n A≠0/\e=0/\qj w u n (λi=>ic (Go.bc.cr n A i n) (Go.bc.aQ n A)) λi=>fL (Go.bc.cr n A i n) (Go.bc.aQ n A))
theorem Hl.v{w w':World}{p:Prop}{n:Nat}{A:Nat->Nat->Int}{v:Value}(h:Hl w p n A v w'):∃u e,v=.tuple #[u,.int .i64 e]/\Ext w w'/\Hb w' p n A u e:=by
 obtain⟨b,⟨a,rfl⟩|⟨a,c,rfl⟩|⟨a,c,g,_,rfl,h3⟩⟩:=h
 ·exact⟨_,_,F,b,.inl ⟨a,F,F⟩⟩
 ·exact⟨_,_,F,b,.inr (.inl ⟨a,c,F,F⟩)⟩
 ·exact⟨_,_,F,b,.inr (.inr ⟨a,c,F,h3.read⟩)⟩
theorem F8.v{w w':World}{p:Prop}{n:Nat}{A:Nat->Nat->Int}{v:Value}(h:F8 w p n A v w'):∃u e,v=.tuple #[u,.int .i64 e]/\Ext w w'/\Hb w' p n A u e:=by
 obtain⟨b,⟨a,rfl⟩|⟨a,c,rfl⟩|⟨a,c,u,rfl,d⟩⟩:=h
 ·exact⟨_,_,F,b,.inl ⟨a,F,F⟩⟩
 ·exact⟨_,_,F,b,.inr (.inl ⟨a,c,F,F⟩)⟩
 ·exact⟨_,_,F,b,.inr (.inr ⟨a,c,F,d.read⟩)⟩
theorem Gl{n N:Nat}{M:Nat->Nat->Int}{a:Nat->Int}(e:1<=N)(c:n<=16)(f:∀i j,i<n->j<n->Bd N (M i j))(h:∀i,i<n->Bd N (a i)):
 n<=16/\(∀i,i<n->Bd (Nb N 16) (Go.bc.cr n (mb n M a) i n))/\Bd (Nb N 16) (Go.bc.aQ n (mb n M a)):=by
 refine⟨c,λi a=>?_,?_⟩
 ·rw[<-ET a,<-jw];refine(s4 e λa b d g=>?_).mono (tR N n c);unfold GW;split
  ·exact h a d
  ·exact f a b d g
 ·rw[yO,<-jw];exact(s4 e f).mono (tR N n c)
theorem iN.JP{w:World}{N c:Nat}{v:Value}{g:Nat->Int}(h:iN (EI N) w v c g):∀j,j<c->Bd N (g j):=λj a=>by
 obtain⟨b,b,_,_,_,b⟩:=h;obtain⟨_,_,_,_,_,_,hv⟩:=b j a;exact IV.bd hv
theorem qj.at{w:World}{v:Value}{m j:Nat}{a b:Nat->Int}(h:qj w v m a b)(f:j<m):
 ∃g c x y e d,v=.slice (some ⟨g,0,none⟩) m c/\w.cell? ⟨g,0+j*4,none⟩=some x/\w.cell? ((⟨g,0+j*4,none⟩ : Addr).add 1)=some y/\w.cell? ((⟨g,0+j*4,none⟩ : Addr).add 2)=some e/\w.cell? ((⟨g,0+j*4,none⟩ : Addr).add 3)=some d/\CV w x y (a j)/\CV w e d (b j):=by
 obtain⟨A,c,rfl,h⟩:=h;obtain⟨g,i,d,rfl,e,d,l,k⟩:=h j f;have d:∀t,t<4->w.cell? ((⟨g,0+j*4,none⟩ : Addr).add t)=some (i (j*4+t)):=λt f=>by
  rw[add_lit,e.cell,b8 aq,Nat.zero_add]
 exact⟨g,c,_,_,_,_,F,d 0 ar,d 1 ar,d 2 ar,d 3 ar,l,k⟩
theorem Qv.of{w:World}{N:Nat}{x y f c:Value}{n d:Int}(h1:CV w x y n)(h:CV w f c d)(j:Bd N n)(i:Bd N d)(g:0<d){a b:Int}(e:n*b=a*d):Qv w N x y f c a b:=⟨n,d,h1,h,j,i,g,e⟩
end
end Go.Proofs.Qq
namespace Go.bc
open Go
structure Fk(n k:Nat)(H:Mt):Prop where
 pos:∀m,m<=k->0<aQ m H
 IF:∀m,1<=m->m<=k->aQ m H<65536
 sz:∀i j,j<k->j<i->i<n->2*bm j H i j<=aQ (j+1) H/\-(2*bm j H i j)<=aQ (j+1) H
 IQ:∀i,i<k->i+1<n->3*(aQ (i+1) H*aQ (i+1) H)<=4*(aQ i H*aQ (i+2) H+bm i H (i+1) i*bm i H (i+1) i)
 bd:∀i j,k<=i->i<n->k<=j->j<n->bm k H i j<=aQ k H*(262144+(k:Int)*16384)/\-(bm k H i j)<=aQ k H*(262144+(k:Int)*16384)
theorem Fk.red{n:Nat}{H:Mt}(a:1<=n)(h:Fk n (n-1) H):Ac n H:=by
 exact⟨λi j b a=>h.sz i j aq b a,λi a=>h.IQ i aq a⟩
end Go.bc
namespace Go.Proofs.Qq
open Go Go.cU Go.cV Go.Proofs
open Go.bc (gr bm aQ Sy PM Ac Fk)
theorem Du{r:Nat}{d:Nat->Nat}{G:Nat->Nat->Int}(h:Dv r d G=0):PM r G/\Sy r G:=by
 obtain⟨d,d,c,f⟩:=qX.1 h;refine⟨λm d=>?_,λa b i g=>?_⟩
 ·by_cases e:m=0
  ·subst e;exact Int.zero_lt_one
  ·have:=f (m-1) aq;rwa[show m-1+1=m by omega]at this
 ·by_cases e:a=b
  ·rw[e]
  ·by_cases d:b<a
   ·exact c a b i d
   ·exact(c b a g aq).symm
def FT(r:Nat)(b:Nat->Nat)(H:Nat->Nat->Int):Prop:=Dv r b H=0/\aQ r H<=10000/\Ac r H
theorem FT.minor{r:Nat}{a:Nat->Nat}{H:Nat->Nat->Int}(h:FT r a H){m:Nat}(b:m<=r):0<aQ m H/\aQ m H<=65535:=by
 obtain⟨c,f,e⟩:=h;obtain⟨a,d⟩:=Du c;obtain⟨_,d,_,_⟩:=qX.1 c;exact⟨a m b,Go.bc.uJ a e d f m b⟩
end Go.Proofs.Qq

namespace Go.Proofs.Qq
section
open Go Go.cU Go.cV Go.Proofs
def J0(w:World)(v:Value)(N:Nat)(z:Nat->Int):Prop:=∃h,v=.agg (arr 14 h)/\∀j,j<7->EV w N true (h (j*2)) (h (j*2+1)) (z j)
theorem J0.one{w:World}{N:Nat}{z:Nat->Int}{h:Nat->Value}(c:∀j,j<7->EV w N true (h (j*2)) (h (j*2+1)) (z j)):∀v∈(arr 14 h).toList,v.oneCell'=true:=by
 intro v b;obtain⟨i,a⟩:=List.mem_iff_getElem?.1 b;rw[Array.getElem?_toList]at a;by_cases b:i<14
 ·rw[b8 b]at a;have e:=Option.some.inj a;have b:=c (i/2) aq;by_cases c:i%2=0
  ·rw[<-e,show i=i/2*2 by omega];exact b.1.db
  ·rw[<-e,show i=i/2*2+1 by omega];exact b.1.de
 ·rw[Array.getElem?_eq_none (by rw[bk];omega)]at a;cases a
end
end Go.Proofs.Qq


namespace Go.bc
section
variable {n:Nat}{T V G:Mt}
theorem LI.up{k:Nat}{D B B':Int}(h:LI n k G T D B)(b:B<=B'):LI n k G T D B':=⟨h.Ju,h.pos,h.red,h.JJ,λi a=>Int.le_trans (h.JA i a) b⟩
end
end Go.bc

namespace Go.Proofs.Qq
section
open Go Go.cU Go.cV Go.Proofs
open Go.bc (gr bm aQ Sy PM LI Jn fa mul one sm)
def pw(m:Nat):Int:=((B^m:Nat):Int)
end
end Go.Proofs.Qq


namespace Go.bc
section
open Go Go.Proofs.Qq
variable {n:Nat}{G T:Mt}
def ed(d:Nat):Nat->Int:=λx=>if x=d then 1 else 0
end
end Go.bc


namespace Go.Proofs.Qq
section
open Go Go.cU Go.cV Go.Proofs
open Go.bc (gr bm aQ Sy PM Ac)
structure vu(w:World)(gO:Nat)(gs:Nat->Nat)(r i c:Nat)(M:Nat->Nat->Int):Prop where
 outer:eO 48 w gO r i c gs
 row:∀t,t<i->iA w (gs t) c (M t)
 gt:∀t,t<i->gO<gs t
 inj:∀t t',t<i->t'<i->gs t=gs t'->t=t'
theorem vu.congr{w:World}{b r i c:Nat}{a:Nat->Nat}{M M':Nat->Nat->Int}(h:vu w b a r i c M)(e:∀t j,t<i->j<c->M t j=M' t j):vu w b a r i c M':=
 ⟨h.outer,λt a=>(h.row t a).congr λj b=>e t j a b,h.gt,h.inj⟩
theorem vu.at{w:World}{b r i c t:Nat}{a:Nat->Nat}{M:Nat->Nat->Int}(h:vu w b a r i c M)(d:t<i)(e:t<r):w.cell? ⟨b,0+t*1,none⟩=some (.slice (some ⟨a t,0,none⟩) c c):=h.outer.at d e
end
end Go.Proofs.Qq








namespace Go.Proofs.Qq
section
open Go Go.cU Go.cV Go.Proofs
open Go.bc (gr bm aQ Sy PM Ac one)
theorem EL(M:Nat->Nat->Int):aQ 2 M=M 0 0*M 1 1-M 0 1*M 1 0:=by
 simp only[aQ,Go.bc.sm,Go.bc.fq,Go.bc.minor,Go.bc.skip];simp;grind
end
end Go.Proofs.Qq






namespace Go.Proofs.Qq
section
open Go Go.cU Go.cV Go.Proofs
open Go.bc (aQ cr sm)
theorem Bs(v:Value)(n N:Nat)(M:Nat->Nat->Int)(w:World)(h:cO (EI N) w v n (λ_=>n) M)(g:aQ n M=0)(a:1<=n)(b:n<=16)(d:1<=N)(i:N<1048576):
 aT Tryz.prog 10 #[v] w λu e=>Ext w e/\u=.bool false:=by
 obtain⟨e,e,rfl,_⟩:=id h;refine bF (n:=14) Tryz.func10 F rfl aw aA ?_;refine gg ?_;refine aJ (DX _ n N (λ_=>n) M w h d i) ?_;rintro _ d ⟨f,⟨h1,_⟩|⟨_,k,rfl,c⟩⟩
 ·rw[cX.2 ⟨⟨a,b,a,b⟩,λ_ _=>rfl⟩]at h1;cases h1
 have a:¬k=n:=λe=>Go.Ts.DT g (by rw[e]at c;exact c);refine gg ?_;exact cI (v:=.bool _) F rfl ⟨f,by congr 1;exact decide_eq_false aq⟩
theorem sP{vx vl:Value}{q cx nx m:Nat}{ai ns:Nat->Int}{w:World}(hx:lG w vx q cx nx ai)(hl:F9 w vl m ns):
 aT Tryz.prog 3 #[vx,vl] w (J1 w):=by
 obtain⟨Ax,j,rfl,bB,bA,av,BG⟩:=hx;obtain⟨Al,bx,HW,ad,bC⟩:=hl;refine bF (n:=83) Tryz.func3 F rfl aw aA ?_;have l:Ext w w:=Ext.refl w;refine gg ?_;refine aZ (v:=.agg _) (.inl F) F ?_;intro ad s d u;have Q:bh ad w.heap.size 24 #[.int .u8 (q:Int),.int .u8 (cx:Int),.slice Ax nx j]:=s;obtain⟨gX,C⟩ : ∃g,g=w.heap.size:=⟨_,F⟩;rw[<-C]at Q⊢;have j:w.heap.size<=gX:=by have:=l.size;omega
 replace l:=l.trans d;clear s u C d;have bg:=lG.agg bB bA av BG;have j:=Nat.mod_lt q (show 0<4 by decide);obtain⟨n,hn⟩ : ∃n,n=1+q%4:=⟨_,F⟩;have O:1<=n:=aq;have au:n<=4:=aq;have a3:n<=16:=aq;have k:n<9223372036854775808:=aq;obtain⟨X,av⟩ : ∃X,X=kQ n nx ai:=⟨_,F⟩;have bX:∀i j,i<n->j<n->Bd 1 (X i j):=λi j _ _=>by rw[av];exact BJ BG _ i j
 have an:(aQ n X).natAbs<=4294967296:=Go.Ts.zQ O au λi j _ _=>by
  have:=lh BG n i j;rw[av];omega
 have mP:Bd 2 (aQ n X):=by unfold Bd;exact Nat.lt_of_le_of_lt an ar
 have j:Nb 1 16=131071:=ar;obtain⟨x0,x1,j⟩:=G1 Q;refine gg ?_;refine oh ar qe F x0 x1 j ?_;clear x0 x1 j;refine gg ?_;refine gg ?_;refine aJ (qS _ q cx nx 4 ai ad (bg ad l) ar ar) ?_;rintro _ j ⟨d,ga,gs,rfl,_,_,t⟩;replace Q:=Q.Y d;replace l:=l.trans d;clear d;rw[<-hn,<-av]at t;rw[<-hn];rw[HW];refine gg ?_;refine gg ?_;refine aJ (zU Al m bx n ns j (bC.Y l) aq) ?_;rintro vc j ⟨d,U,_⟩;replace Q:=Q.Y d;replace t:=t.Y d;replace l:=l.trans d;clear d;refine gg ?_;refine aJ (z7 _ _ n 1 n (λ_=>n) X (tp m ns) j (t.rd bX aD k k) U.Gr ar ar) ?_;intro j w5 h5;obtain⟨u5,j,rfl,ab,s5⟩:=h5.v;clear h5;replace t:=t.Y ab;replace U:=U.Y ab;replace l:=l.trans ab;have b0:n9 n (λ_=>n)=true:=oX.2 ⟨O,a3,λ_ _=>rfl⟩;obtain⟨P,hP⟩ : ∃P,P=mb n X (tp m ns):=⟨_,F⟩;rw[<-hP]at s5;obtain⟨D,hD⟩ : ∃D,D=aQ n P:=⟨_,F⟩;have bj:D=aQ n X:=by rw[hD,hP,yO]
 obtain⟨_,bl,aH⟩:=Gl (N:=1) ar a3 bX (iN.JP U.Gr);rw[<-hP]at bl aH;unfold Hb at s5;rw[<-hD]at s5 aH;by_cases M:D=0
 ·have V:aQ n X=0:=by rw[<-bj];exact M
  rcases s5 with⟨hp,_⟩|⟨_,_,rfl,rfl⟩|⟨_,h,_⟩
  ·exact absurd ⟨b0,F⟩ hp
  rotate_left
  ·exact absurd M h
  have z:cO (EI 2) w5 (.slice (some ⟨ga,0,none⟩) n n) n (λ_=>n) X:=t.rd bX ar k k;refine gg ?_;refine aJ (oF _ n 2 X w5 z an O au ar ar) ?_;rintro _ Z ⟨L,x,y,⟨_,rfl,j⟩|⟨h,_⟩⟩;rotate_left
  ·exact absurd V h
  replace z:=z.Y L;replace l:=l.trans L;have p:Ext Z Z:=Ext.refl _;refine gg ?_;refine gg ?_;refine aR (.inl F) a_ ?_;intro q s d u;have G:=Bx.zero (N:=1) true s;obtain⟨gE,C⟩ : ∃g,g=Z.heap.size:=⟨_,F⟩;rw[<-C]at G⊢;have b4:w.heap.size<=gE:=by have:=l.size;omega
  have a7:Z.heap.size<=gE:=by have:=p.size;omega
  replace p:=p.trans d;replace j:=j.Y d;replace l:=l.trans d;clear s u C d;refine gg ?_;refine aL ag F rfl G (j.ev true (Bd.zero 1)) ?_;intro q G H I u;replace p:=H.aK p λb hb=>aq;replace j:=j.kp I;replace l:=H.aK l λb hb=>aq;clear H I u;refine gg ?_;refine aP ?_;refine gg ?_;refine gg ?_;refine aJ (DW _ n 2 X q (z.Y p) a3 ar ar) ?_;rintro _ ad ⟨d,q,q,rfl,q⟩;replace p:=p.trans d;replace j:=j.Y d;replace G:=G.Y d;replace l:=l.trans d;clear d;rw[jw,V]at q;refine gg ?_;refine gg ?_;refine aJ (h_ _ _ _ 1 ad (q.iv (Bd.zero 1)) ar) ?_;rintro _ ad ⟨d,rfl⟩;replace p:=p.trans d;replace j:=j.Y d;replace G:=G.Y d;replace q:=q.Y d;replace l:=l.trans d;clear d;refine gg ?_;refine gg ?_;refine aJ (Bs _ n 2 X ad (z.Y p) V O a3 ar ar) ?_;rintro _ ad ⟨d,rfl⟩;replace p:=p.trans d;replace j:=j.Y d;replace G:=G.Y d;replace q:=q.Y d;replace l:=l.trans d;clear d;refine gg ?_;exact cI (v:=.bool _) F rfl ⟨l,F⟩
 have V:aQ n X≠0:=by rw[<-bj];exact M
 rcases s5 with⟨hp,_⟩|⟨_,h,_⟩|⟨_,_,rfl,r5⟩
 ·exact absurd ⟨b0,F⟩ hp
 ·exact absurd h M
 have z:cO (EI 2) w5 (.slice (some ⟨ga,0,none⟩) n n) n (λ_=>n) X:=t.rd bX ar k k;refine gg ?_;refine aJ (oF _ n 2 X w5 z an O au ar ar) ?_;rintro _ Z ⟨L,x,y,⟨h,_⟩|⟨_,E,BI,q,bE,rfl,j⟩⟩
 ·exact absurd h V
 obtain⟨e,t⟩ : ∃e,e=E (n-1) (n-1):=⟨_,F⟩;have k:=Go.Ts.Ew BI q O (tp m ns);rw[<-t]at k bE j;clear BI q t E;replace z:=z.Y L;replace U:=U.Y L;replace r5:=r5.Y L;replace l:=l.trans L;obtain⟨q,q,al,_⟩:=id r5;have bt:∀c,c<n->D∣e*cr n P c n:=λc hc=>by
  obtain⟨x,hx⟩:=k;obtain⟨k,hk⟩ : ∃k,n=k+1:=⟨n-1,aq⟩;refine⟨x c,?_⟩;have h:=Go.Ts.Ci k P n c e x aq λq hq=>by
   rw[show P q n=tp m ns q by rw[hP];unfold mb;rw[ae F],hx q aq,<-hk];exact Go.bc.aO λt ht=>by rw[hP];unfold mb;rw[aa aq]
  rw[<-hk,<-hD]at h;exact h
 have bu:(∃x:Nat->Int,∀q,q<n->tp m ns q=sm n λk=>X q k*x k)↔∀c,c<n->D∣cr n P c n:=by
  obtain⟨k,hk⟩ : ∃k,n=k+1:=⟨n-1,aq⟩;have h:=Go.Ts.DC k P n (by rw[<-hk,<-hD];exact M);rw[<-hk,<-hD]at h;rw[<-h];have e1:∀q,P q n=tp m ns q:=λq=>by rw[hP];unfold mb;rw[ae F]
  have k:∀(x:Nat->Int) q,(sm n λt=>P q t*x t)=sm n λt=>X q t*x t:=λx q=>Go.bc.aO λt ht=>by rw[hP];unfold mb;rw[aa aq]
  constructor
  ·rintro⟨x,hx⟩;exact⟨x,λq hq=>by rw[e1,k];exact hx q hq⟩
  ·rintro⟨x,hx⟩;exact⟨x,λq hq=>by rw[<-e1,<-k];exact hx q hq⟩
 have p:Ext Z Z:=Ext.refl _;refine gg ?_;refine gg ?_;refine aR (.inl F) a_ ?_;intro k s d u;have G:=Bx.zero (N:=1) true s;obtain⟨gE,C⟩ : ∃g,g=Z.heap.size:=⟨_,F⟩;rw[<-C]at G⊢;have b4:w.heap.size<=gE:=by have:=l.size;omega
 have a7:Z.heap.size<=gE:=by have:=p.size;omega
 replace p:=p.trans d;replace j:=j.Y d;replace l:=l.trans d;clear s u C d;refine gg ?_;refine aL ag F rfl G (j.ev true bE) ?_;intro q G H I u;replace p:=H.aK p λb hb=>aq;replace j:=j.kp I;replace l:=H.aK l λb hb=>aq;clear H I u;obtain⟨wx,k⟩ : ∃wx,wx=q:=⟨_,F⟩;rw[<-k]at l p G⊢;clear k j;replace z:=z.Y p;replace U:=U.Y p;replace r5:=r5.Y p;clear p L ab;refine gg ?_;refine aP ?_;refine gg ?_;have b1:Bd (Nb 1 16) 1:=(show Bd 1 1 by unfold Bd;decide).mono aq;refine aX (λf j=>∃T,f 5=.slice (some ⟨ga,0,none⟩) n n/\f 6=vc/\f 7=u5/\f 10=.bool (true)/\f 11=.bool (T)/\Ext wx j/\(T=true↔∀c,c<n->D∣cr n P c n)) ?_ ?_
 ·rw[al];refine gg ?_;refine iC pr F ?_;refine gg ?_;rw[<-al];refine aU (λm f j=>∃i T,m=n-i/\i<=n/\f 5=.slice (some ⟨ga,0,none⟩) n n/\f 6=vc/\f 7=u5/\f 9=.pointer (some ⟨gE,0,none⟩)/\f 10=.bool (true)/\f 11=.bool (T)/\f 50=u5/\f 51=.int .i64 (n:Int)/\f 52=.int .i64 ((i:Nat):Int)/\Ext wx j/\(T=true↔∀c,c<i->D∣cr n P c n))
   n ⟨0,true,F,aE,F,F,F,F,F,F,F,F,F,Ext.refl _,aA⟩ ?_
  clear l Q bg U z;rintro j f w7 ⟨i,T,rfl,j,a6,a5,a4,q,S,R,p,k,j,Y,a2⟩;rw[ui a6,ui a5,ui a4,ui q,ui S,ui R,ui p,ui k,ui j];clear a6 a5 a4 q S R p k j;by_cases W:i<n;rotate_left
  ·have:i=n:=aq;subst this;refine gg ?_;exact⟨T,F,F,F,F,F,Y,a2⟩
  have l:Ext wx w7:=Y;obtain⟨j,j,j,j,j,j,ak,x,t,q,p,j,k⟩:=(r5.Y l).at W;have K:=pO (bl i W) aH;have b5:decide (1*D∣e*cr n P i n)=true:=decide_eq_true (by rw[Int.one_mul];exact bt i W);rw[ak];refine gg ?_;refine dP pr F rfl W ?_;refine gg ?_;refine kg ar dU F x t q p ?_;clear x t q p;refine gg ?_;refine aR (.inl F) kV ?_;intro p s d u;have o:=RB.zero s;obtain⟨p,C⟩ : ∃g,g=w7.heap.size:=⟨_,F⟩;rw[<-C]at o⊢;have g:wx.heap.size<=p:=by have:=l.size;omega
  replace j:=j.Y d;replace k:=k.Y d;replace l:=l.trans d;clear s u C d;refine gg ?_;refine fC (.inl F) F rfl o (j) (k) ?_;intro bs o H I u;replace j:=j.kp I;replace k:=k.kp I;replace l:=H.aK l λb hb=>aq;clear H I u;obtain⟨s0,s1,s2,s3,J,A,B⟩:=id o;obtain⟨q0,q1,q2,q3⟩:=vh J;have hQ:=Qv.of A B K.1 K.2 (j_ M) (a:=cr n P i n) (b:=D) j9;cases T with
  |true=>
   refine gg ?_;refine kg ar dU F q0 q1 q2 q3 ?_;clear q0 q1 q2 q3 J A B;refine gg ?_;refine gg ?_;refine aJ (mG _ _ _ _ (cr n P i n) D (Nb 1 16) bs hQ aq aq M) ?_;rintro _ g ⟨d,rfl⟩;replace o:=o.Y d;replace l:=l.trans d;clear d;clear hQ;refine gg ?_;refine gg ?_;refine b7 [(0,0),(2,0),(1,1),(3,1),(4,1),(5,3)] mixed aw λg d _=>?_;replace o:=o.Y d;replace l:=l.trans d;clear d;obtain⟨s0,s1,s2,s3,J,A,B⟩:=id o;obtain⟨q0,q1,q2,q3⟩:=vh J;obtain⟨g0,g1,ay,ax⟩:=G.Y l;obtain⟨p0,p1⟩:=a9 ay;refine gg ?_;refine l5 ar dU F q0 q1 q2 q3 ?_;clear q0 q1 q2 q3 p0 p1 J;refine gg ?_;refine aM (tW _ _ e 2 g ax.1 ar) ?_;rintro _ g ⟨d,v0,v1,v2,v3,rfl,aj,ct⟩;refine⟨d,?_⟩;replace o:=o.Y d;replace A:=A.Y d;replace B:=B.Y d;replace l:=l.trans d;clear d;have Q1:=Qv.of aj ct (bE.mono (show 2<=Nb 1 16 by omega)) b1 ar (a:=e) (b:=1) F;have Q2:=Qv.of A B K.1 K.2 (j_ M) (a:=cr n P i n) (b:=D) j9;refine gg ?_;refine aM (rj _ _ _ _ _ _ _ _ _ _ _ _ (Nb 1 16) g Q1 Q2 aq) ?_;rintro _ g ⟨d,m0,m1,m2,m3,rfl,hm⟩;refine⟨d,?_⟩;replace o:=o.Y d;replace l:=l.trans d;clear d;refine gg ?_;refine aM (mG _ _ _ _ (e*cr n P i n) (1*D) (Nb 1 16+Nb 1 16) g hm aq aq (by rw[Int.one_mul];exact M)) ?_;rintro _ g ⟨d,rfl⟩;refine⟨d,?_⟩;replace o:=o.Y d;replace hm:=hm.Y d;replace l:=l.trans d;clear d;rw[b5];refine gg ?_;rw[<-ak];refine⟨_,aq,i+1,_,F,W,F,F,F,F,F,F,F,F,F,l,?_⟩;rw[decide_eq_true_iff];constructor
   ·intro h c hc;by_cases e:c=i
    ·rw[e];exact h
    ·exact a2.1 F c aq
   ·intro h;exact h i aq
  |false=>
   clear q0 q1 q2 q3 J A B hQ;refine gg ?_;refine gg ?_;refine b7 [(0,0),(2,0),(1,1),(3,1),(4,1),(5,3)] mixed aw λg d _=>?_;replace o:=o.Y d;replace l:=l.trans d;clear d;obtain⟨s0,s1,s2,s3,J,A,B⟩:=id o;obtain⟨q0,q1,q2,q3⟩:=vh J;obtain⟨g0,g1,ay,ax⟩:=G.Y l;obtain⟨p0,p1⟩:=a9 ay;refine gg ?_;refine l5 ar dU F q0 q1 q2 q3 ?_;clear q0 q1 q2 q3 p0 p1 J;refine gg ?_;refine aM (tW _ _ e 2 g ax.1 ar) ?_;rintro _ g ⟨d,v0,v1,v2,v3,rfl,aj,ct⟩;refine⟨d,?_⟩;replace o:=o.Y d;replace A:=A.Y d;replace B:=B.Y d;replace l:=l.trans d;clear d;have Q1:=Qv.of aj ct (bE.mono (show 2<=Nb 1 16 by omega)) b1 ar (a:=e) (b:=1) F;have Q2:=Qv.of A B K.1 K.2 (j_ M) (a:=cr n P i n) (b:=D) j9;refine gg ?_;refine aM (rj _ _ _ _ _ _ _ _ _ _ _ _ (Nb 1 16) g Q1 Q2 aq) ?_;rintro _ g ⟨d,m0,m1,m2,m3,rfl,hm⟩;refine⟨d,?_⟩;replace o:=o.Y d;replace l:=l.trans d;clear d;refine gg ?_;refine aM (mG _ _ _ _ (e*cr n P i n) (1*D) (Nb 1 16+Nb 1 16) g hm aq aq (by rw[Int.one_mul];exact M)) ?_;rintro _ e ⟨d,rfl⟩;refine⟨d,?_⟩;replace o:=o.Y d;replace hm:=hm.Y d;replace l:=l.trans d;clear d;rw[b5];refine gg ?_;rw[<-ak];refine⟨_,aq,i+1,false,F,W,F,F,F,F,F,F,F,F,F,l,?_⟩;constructor
   ·intro h;cases h
   ·intro h;exact a2.2 λc hc=>h c aq
 rintro f w7 ⟨T,a6,a5,a4,S,R,Y,a2⟩;rw[ui a6,ui a5,ui a4,ui S,ui R];clear a6 a5 a4 S R;rw[al];refine gg ?_;refine iC pr F ?_;refine gg ?_;refine aJ (u7 _ _ n 2 X (tp m ns) w7 (z.Y Y) ((U.Gr.mono ar).Y Y) V mP O a3 ar ar) ?_;rintro _ c ⟨bD,r,rfl,hr⟩;obtain rfl:r=T:=Bool.eq_iff_iff.2 (hr.trans (bu.trans a2.symm));refine gg ?_;exact cI (v:=.bool _) F rfl ⟨l.trans (Y.trans bD),aA⟩
