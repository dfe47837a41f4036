import Derived.Test.YtmfndnlifgphjaaGreatDoorQzw
set_option maxHeartbeats 64000000
open Go.Proofs.YtmfndnlifgphjaaGreatDoor
namespace Go.Proofs.Qq
section
open Go Go.cW Go.c7 Go.uN Go.Proofs
theorem nS{M N:Nat->Prop}{w b c:World}(h:Ch M w b)(a:Ch N b c)(f:∀b,N b->M b\/w.heap.size<=b):Ch M w c:=
 ⟨a.os.trans h.os,a.tape.trans h.tape,a.output.trans h.output,Nat.le_trans h.size a.size,λb d c=>
  (a.block b (Nat.lt_of_lt_of_le d h.size) λe=>(f b e).elim c λa=>aq).trans (h.block b d c)⟩
theorem EJ(c:UInt8)(l:List UInt8):∀w∈wd c l,w.length<=l.length:=by
 induction l with
 |nil=>intro w a;simp[wd]at a;simp[a]
 |cons b r e=>
  intro w a;rw[Dx]at a;split at a
  ·rcases List.mem_cons.1 a with rfl|h
   ·simp
   ·have:=e w h;simp;omega
  ·rcases d:wd c r with _|⟨v,f⟩
   ·exact absurd d (yU _ _)
   ·rw[d]at a;rcases List.mem_cons.1 a with rfl|h
    ·have:=e v (by rw[d];simp);simp;omega
    ·have:=e w (by rw[d];simp[h]);simp;omega
theorem Gi{i:Nat}{l:List UInt8}(h:(Lib.splitK [32] 0 (min (i+2) (l.length+1)-1) l).length=i+1):Lib.splitK [32] 0 (min (i+2) (l.length+1)-1) l=wd 32 l/\(wd 32 l).length=i+1:=by
 have b:=List.count_le_length (a:=(32:UInt8)) (l:=l);rw[sD]at h;have b:l.count 32=i:=aq;refine⟨ET _ _ _ aq,by rw[Gl,b]⟩
theorem Gj{i:Nat}{l:List UInt8}(h:¬(Lib.splitK [32] 0 (min (i+2) (l.length+1)-1) l).length=i+1):¬pW i l:=by
 intro b;apply h;have c:=List.count_le_length (a:=(32:UInt8)) (l:=l);have:=b.1;rw[Gl]at this;rw[sD];omega
theorem drop_tail{α:Type}(l:List α)(i:Nat):(l.drop i).tail=l.drop (i+1):=by rw[List.tail_drop]
theorem wT{a:List (List UInt8)}{n i:Nat}(b:i<n)(h:¬(i+2<a.length/\pW i (a.getD (i+1) []))):oX a (n-i) i=i+2:=by
 obtain⟨k,a⟩ : ∃k,n-i=k+1:=⟨n-i-1,aq⟩;rw[a];unfold oX;rw[aa h]
theorem GN{a:List (List UInt8)}{n i:Nat}(b:i<n)(h:i+2<a.length/\pW i (a.getD (i+1) [])):oX a (n-i) i=oX a (n-(i+1)) (i+1):=by
 obtain⟨k,a⟩ : ∃k,n-i=k+1:=⟨n-i-1,aq⟩;rw[a,show n-(i+1)=k by omega];conv=>lhs;unfold oX
 rw[ab h]
def JV(b:Nat):Value:=.func (.func 30) #[.pointer (some ⟨b,0,none⟩)] #[]
theorem Gg{a:Nat}(h:a<256):IntKind.u8.wrap (a:Int)=(a:Int):=by
 have b:((a:Int)%2^IntKind.u8.bits)=(a:Int):=by
  have:(2:Int)^IntKind.u8.bits=256:=aw;rw[this];omega
 unfold IntKind.wrap;simp only[b,IntKind.signed];simp
theorem FR{n:Nat}{S:World->World->Prop}{k:Nat}{K:Fr->World->Prop}{f:Fr}{w:World}{d ty t g:Nat}{x y:Operand}{c:String}{e:Array Edge}{m:Option (Nat×Bool)}{a b:Nat}
 (j:ev n f x=.int .u8 (a:Int)) (i:ev n f y=.int .u8 (b:Int)) (h:a<256) (l:b<=a) (h:K (cg f d (.int .u8 ((a-b:Nat):Int))) w):R1 Tryz.prog n S k ⟨some d,.binOp .sub t x y g,ty,c,e,m⟩ K f w:=by
 refine cw j i (λ_=>by simp[eqGuard,go_sem]) (λ_=>?_) h;simp only[binOp,Op.intArith,ne_eq,not_true_eq_false,if_false];rw[<-Int.ofNat_sub l,Gg aq];rfl
theorem Mw{w w':World}{b c L:Nat}{d:List (List UInt8)}(a:ML w)(h:yR w b d c L)(c:Ch (λq=>q=b) w w'):ML w':=by
 obtain⟨m,a⟩:=a;obtain⟨d,d,_⟩:=h;refine⟨m,?_⟩;rw[jz c (World.block_lt_of_cell? w _ a) ?_]
 ·exact a
 ·intro e;have c:=d.cell 0;rw[<-e]at c;rw[a]at c;simp at c
theorem wo{n:Nat}{S:World->World->Prop}{K:Fr->World->Prop}{f:Fr}{w:World}{d ty b:Nat}{x:Operand}{e:String}{g:Array Edge}{k:Option (Nat×Bool)}{a:Value->World->Prop}
 (i:ev n f x=JV b) (j:aT Tryz.prog 30 #[.pointer (some ⟨b,0,none⟩)] w a) (h:∀v c,a v c->K (cg f d v) c):
 R1 Tryz.prog n S 2 ⟨some d,.call { callee:=.value x,args:=#[],argTypes:=#[] },ty,e,g,k⟩ K f w:=
 ue (.inl F) i aA j λv c a=>⟨λh=>absurd h aw,h v c a⟩
theorem uG(b L:Nat)(o:List (List UInt8))(w:World)(hm:ML w)(h:yR w b o 0 L)(hL:L<4294967281):
 aT Tryz.prog 29 #[JV b] w λv r=>Ch (λq=>q=b) w r/\
  ((yQ o≠0/\v=.tuple #[.slice none 0 0,.bool false]/\∃d,yR r b d (yQ o) L)\/
   (yQ o=0/\∃C s n,n=tj (o.getD 0 [])/\1<=n/\n<=8/\v=.tuple #[.slice (some ⟨C,0,none⟩) n n,.bool true]/\w.heap.size<=C/\(∀i,i<n->w.heap.size<=s i)/\iF r C s n n (nf o)/\(∀i j,i<n->j<n->Bd 209 (nf o i j))/\yR r b (o.drop (n+1)) (n+1) L)):=by
 refine bo (n:=121) Tryz.func29 F rfl az aA ?_;refine gb ?_;refine wo F (zJ b 0 L o w hm h hL aw) ?_;rintro _ w1 ⟨rfl,G,J,d,d⟩;by_cases V:1<o.length;rotate_left
 ·have p:yQ o=1:=aa λh=>V h.1;rw[show NC o=.tuple #[Tx [],.bool false]from aa V];rw[aa V]at G;refine gb ?_;refine aJ (mG _ _ w1) ?_;rintro _ _ ⟨rfl,rfl⟩;refine gb ?_;refine aN ?_;refine gb ?_;exact cU (v:=.slice none 0 0) (v':=.bool false) F rfl rfl ⟨J,.inl ⟨by rw[p];decide,F,_,by rw[p];exact G⟩⟩
 obtain⟨H,T⟩ : ∃l,l=o.getD 0 []:=⟨_,F⟩;rw[show NC o=.tuple #[Tx H,.bool true]from(ab V).trans (by rw[T])];rw[ab V]at G;rw[<-T]at d;have d:=d V;have X:¬xw H->yQ o=1:=λh=>aa (λd=>h (by rw[T];exact d.2));refine gb ?_;refine aJ (mG _ _ w1) ?_;rintro _ _ ⟨rfl,rfl⟩;rw[zH];obtain⟨dt,ay⟩ : ∃d,d=Lib.trimPrefix H [102,111,114,109,32]:=⟨_,F⟩;rw[<-ay];by_cases hp:H.take 5=[102,111,114,109,32];rotate_left
 ·have p:=X λh=>hp h.2.1;rw[decide_eq_false hp];refine gb ?_;refine aN ?_;refine gb ?_;exact cU (v:=.slice none 0 0) (v':=.bool false) F rfl rfl ⟨J,.inl ⟨by rw[p];decide,F,_,by rw[p];exact G⟩⟩
 rw[decide_eq_true hp];have au:dt=H.drop 5:=by
  rw[ay];unfold Lib.trimPrefix;rw[zH,decide_eq_true hp];rfl
 have d:5<=H.length:=by
  have:=congrArg List.length hp;simp at this;omega
 have bX:dt.length=H.length-5:=by rw[au];simp
 by_cases ay:H.length=6;rotate_left
 ·have p:=X λh=>ay h.1;refine gb ?_;refine aN ?_;refine gb ?_;exact cU (v:=.slice none 0 0) (v':=.bool false) F rfl rfl ⟨J,.inl ⟨by rw[p];decide,F,_,by rw[p];exact G⟩⟩
 have d:dt[0]?=some (H.getD 5 0):=by rw[au,List.getElem?_drop];simp[List.getD,ay]
 by_cases au:(H.getD 5 0).toNat<49
 ·have p:=X (λh=>by have:=h.2.2.1;omega);refine gb ?_;refine aN ?_;refine gb ?_;refine kZ jo F (j:=0) F d ?_;refine gb ?_;exact cU (v:=.slice none 0 0) (v':=.bool false) F rfl rfl ⟨J,.inl ⟨by rw[p];decide,F,_,by rw[p];exact G⟩⟩
 by_cases au:56<(H.getD 5 0).toNat
 ·have p:=X (λh=>by have:=h.2.2.2;omega);refine gb ?_;refine aN ?_;refine gb ?_;refine kZ jo F (j:=0) F d ?_;refine gb ?_;refine kZ jo F (j:=0) F d ?_;refine gb ?_;exact cU (v:=.slice none 0 0) (v':=.bool false) F rfl rfl ⟨J,.inl ⟨by rw[p];decide,F,_,by rw[p];exact G⟩⟩
 have X:xw H:=⟨ay,hp,aq,aq⟩;have b4:yQ o=oX o (tj H) 0:=by
  unfold yQ;rw[ab ⟨V,by rw[<-T];exact X⟩,<-T]
 obtain⟨n,hn⟩ : ∃n,n=tj H:=⟨_,F⟩;have X:n=(H.getD 5 0).toNat-48:=hn;rw[<-hn]at b4;rw[<-T];refine gb ?_;refine aN ?_;refine gb ?_;refine kZ jo F (j:=0) F d ?_;refine gb ?_;refine kZ jo F (j:=0) F d ?_;refine gb ?_;refine kZ jo F (j:=0) F d ?_;refine gb ?_;refine FR (b:=48) F rfl aq aq ?_;rw[<-X];refine gb ?_;refine cJ fL (.inl F) F rfl aD aq aq ?_;intro d al b0 bs;obtain⟨C,d⟩ : ∃g,g=w1.heap.size:=⟨_,F⟩;rw[<-d]at al⊢;have d:=G.lt;have d:=J.size;have bt:ML w1:=Mw hm h J;have bK:n<=8:=aq;have bM:1<=n:=aq;refine gb ?_;refine aY (λf r=>∃s,f 0=JV b/\f 8=.int .i64 (n:Int)/\f 9=.slice (some ⟨C,0,none⟩) n n/\Ext w1 r/\eM r C s n n true (λ_ _=>209) (λ_ _=>0)/\∀i,i<n->C<s i) ?_ ?_
 ·refine gb ?_;refine aU (λm f r=>∃i s,m=n-i/\i<=n/\f 0=JV b/\f 8=.int .i64 (n:Int)/\f 9=.slice (some ⟨C,0,none⟩) n n/\f 57=.int .i64 (n:Int)/\f 58=.int .i64 ((i:Nat):Int)/\
   Ext w1 r/\dZ 49 r C n i n s/\(∀k,k<i->di r (s k) n true (λ_=>0) (λ_=>0)/\C<s k)/\(∀k k',k<i->k'<i->s k=s k'->k=k'))
   n ⟨0,λ_=>0,rfl,aE,rfl,rfl,rfl,rfl,rfl,b0,fe al,λk t=>absurd t aq,λk k' t=>absurd t aq⟩ ?_
  clear al b0 bs;rintro m f w3 ⟨i,s,rfl,hi,E,z,u,H,d,hE,hO,P,b6⟩;rw[ui E,ui z,ui u,ui H,ui d];clear E z u H d;by_cases B:i<n
  ·refine gb ?_;refine cJ dJ (.inl F) F rfl aD aq aq ?_;intro w4 bY aH d;refine gb ?_;refine dI (aX F) (.inl F) F rfl (hO.Y aH) B ?_;intro w5 ⟨_,d⟩ K a1 H;have H:=hO.lt;refine gb ?_;refine⟨_,?_,i+1,cC s i w3.heap.size,F,aq,F,F,F,F,F,K.aK (hE.trans aH) λb H=>aq,d F,λk t=>?_,λk k' t d e=>?_⟩
   ·omega
   ·by_cases e:k=i
    ·subst e;simp only[cC,if_true];exact⟨(fq true 0 bY).kp a1 K aq,aq⟩
    ·simp only[cC,aa e];obtain⟨V,d⟩:=P k aq;exact⟨(V.Y aH).kp a1 K aq,d⟩
   ·have d:∀k,k<i->s k<w3.heap.size:=λk t=>(P k t).1.lt;simp only[cC]at e;split at e<;>split at e
    ·omega
    ·have:=d k' aq;omega
    ·have:=d k aq;omega
    ·exact b6 k k' aq aq e
  ·obtain rfl:i=n:=aq;refine gb ?_;refine⟨s,F,F,F,hE,?_,λk t=>(P k t).2⟩;exact(eM.mk (bn:=λ_ _=>0) hO.full (λk t=>(P k t).1) (λk t=>by have:=(P k t).2;omega) b6).congr (λ_ _ _ _=>⟨aE,rfl⟩)
 clear al b0 bs;rintro f w3 ⟨s,E,z,u,d,P,ai⟩;rw[ui E,ui z,ui u];clear E z u;have T:=G.Y d;have V:Ch (λq=>q=b) w w3:=nS J d λq e=>e.elim;have H:ML w3:=bt.Y d;clear d G J bt;refine gb ?_;refine aY (λf r=>∃M,f 9=.slice (some ⟨C,0,none⟩) n n/\Ch (λq=>q=b) w r/\eM r C s n n true (λ_ _=>209) M/\yR r b (o.drop (n+1)) (n+1) L/\yQ o=0/\∀a c,a<n->c<=a->M a c=nN o a c/\M c a=nN o a c/\Bd 209 (nN o a c)) ?_ ?_
 ·refine gb ?_;refine aU (λm f r=>∃i M,m=n-i/\i<=n/\f 0=JV b/\f 8=.int .i64 (n:Int)/\f 9=.slice (some ⟨C,0,none⟩) n n/\f 67=.int .i64 (n:Int)/\f 68=.int .i64 ((i:Nat):Int)/\Ch (λq=>q=b) w r/\ML r/\eM r C s n n true (λ_ _=>209) M/\yR r b (o.drop (i+1)) (i+1) L/\yQ o=oX o (n-i) i/\∀a c,a<i->c<=a->M a c=nN o a c/\M c a=nN o a c/\Bd 209 (nN o a c))
   n ⟨0,_,F,aE,F,F,F,F,F,V,H,P,by rw[List.drop_one];exact T,b4,λa c h=>absurd h aq⟩ ?_
  clear V H P T;rintro m f w4 ⟨i,M,rfl,hi,E,z,u,R,Q,a7,X,a6,U,O,A⟩;rw[ui E,ui z,ui u,ui R,ui Q];clear E z u R Q;by_cases B:i<n
  ·refine gb ?_;refine wo F (zJ b (i+1) L _ w4 X U hL aq) ?_;rintro _ w5 ⟨rfl,T,K,a1,b4⟩;have J:Ch (λq=>q=b) w w5:=a7.trans K;have P:=Mw X U K;have d:∀k,k<n->s k≠b:=λk t=>by have:=ai k t;omega
   have al:=a6.kp a1 K (show C≠b by omega) d;have H:(o.drop (i+1)).getD 0 []=o.getD (i+1) []:=by simp[List.getD]
   have bX:(o.drop (i+1)).length=o.length-(i+1):=List.length_drop;by_cases ar:i+2<o.length;rotate_left
   ·have p:yQ o=i+2:=by rw[O];exact wT B (λh=>ar h.1)
    rw[show NC (o.drop (i+1))=.tuple #[Tx [],.bool false]from aa aq];refine gb ?_;refine aJ (uY [] 32 (i+2) w5 P aA aq aq) ?_;rintro _ w6 ⟨d,I,aH,_,rfl,_⟩;refine gb ?_;refine aN ?_;refine gb ?_;exact cU (v:=.slice none 0 0) (v':=.bool false) F rfl rfl ⟨nS J d (λq e=>e.elim),.inl ⟨by rw[p];omega,F,_,by rw[p];exact T.Y d⟩⟩
   obtain⟨ln,S⟩ : ∃l,l=o.getD (i+1) []:=⟨_,F⟩;have G:1<(o.drop (i+1)).length:=aq;rw[show NC (o.drop (i+1))=.tuple #[Tx ln,.bool true]from(ab G).trans (by rw[H,S])];rw[ab G,drop_tail]at T;have V:ln.length<=L:=by rw[S,<-H];exact b4 G
   refine gb ?_;refine aJ (uY ln 32 (i+2) w5 P aq aq aq) ?_;rintro _ w6 ⟨d,I,aH,H,rfl,G⟩;have ay:=nS J d λq e=>e.elim;have b0:=P.Y d;have b6:=al.Y d;have au:=T.Y d;by_cases V:I.length=i+1;rotate_left
   ·have p:yQ o=i+2:=by
     rw[O];refine wT B (λh=>Gj (l:=ln) (i:=i) ?_ (by rw[S];exact h.2));rw[<-H];exact V
    refine gb ?_;refine aN ?_;refine gb ?_;exact cU (v:=.slice none 0 0) (v':=.bool false) F rfl rfl ⟨ay,.inl ⟨by rw[p];omega,F,_,by rw[p];exact au⟩⟩
   obtain⟨Z,bI⟩:=Gi (l:=ln) (i:=i) (by rw[<-H];exact V);rw[<-H]at Z;obtain⟨W,H⟩ : ∃g,g=w5.heap.size:=⟨_,F⟩;rw[<-H]at G⊢;have b7:∀k,k<n->s k<W:=λk t=>by have:=(al.row k t).lt;omega
   have g:W<w6.heap.size:=by have:=World.block_lt_of_cell? w6 _ (G 0 aq);exact this
   rw[V];refine gb ?_;refine aN ?_;refine gb ?_;clear a7 X a6 U a1 b4 K J P al T;refine aU (λm f r=>∃j M,m=i+1-j/\j<=i+1/\f 0=JV b/\f 8=.int .i64 (n:Int)/\f 9=.slice (some ⟨C,0,none⟩) n n/\f 67=.int .i64 (n:Int)/\f 68=.int .i64 (i:Int)/\f 11=.int .i64 (i:Int)/\f 89=.slice (some ⟨W,0,none⟩) (i+1) aH/\f 90=.int .i64 ((i+1:Nat):Int)/\f 91=.int .i64 ((j:Nat):Int)/\
    Ch (λq=>q=b) w r/\ML r/\w6.heap.size<=r.heap.size/\TL r W I/\eM r C s n n true (λ_ _=>209) M/\yR r b (o.drop (i+1+1)) (i+1+1) L/\(∀a c,a<i->c<=a->M a c=nN o a c/\M c a=nN o a c/\Bd 209 (nN o a c))/\
    (∀c,c<j->M i c=nN o i c/\M c i=nN o i c/\Bd 209 (nN o i c))/\∀c (D:c<I.length),c<j->lR I[c])
    (i+1) ⟨0,M,F,aE,F,F,F,F,F,F,F,F,F,ay,b0,aD,G,b6,au,A,(λc h=>absurd h aq),λc _ h=>absurd h aq⟩ ?_
   clear ay b0 G b6 au A M d;rintro m f w7 ⟨j,M,rfl,d,E,z,u,R,Q,r,m,g,d,bD,bS,G,bc,bu,bx,A,an,b5⟩;rw[ui E,ui z,ui u,ui R,ui Q,ui r,ui m,ui g,ui d];clear E z u R Q r m g d;by_cases d:j<i+1
   ·have d:=bc j aq;obtain⟨wj,ax⟩ : ∃x,x=I.getD j []:=⟨_,F⟩;have a8:I[j]'aq=wj:=by rw[ax];simp[List.getD,show j<I.length by omega]
    rw[<-ax]at d;refine gb ?_;have d:wj.length<=ln.length:=by
     rw[<-a8,List.getElem_of_eq Z aq];exact EJ _ _ _ (List.getElem_mem _)
    refine aJ (Fk wj w7 aq) ?_;rintro _ d ⟨bC,x,y,e,rfl,av⟩;have ho:x.oneCell'=true/\y.oneCell'=true:=by
     rcases av with⟨_,_,aj⟩|⟨_,_,rfl,rfl⟩
     ·exact⟨aj.ep,aj.eN⟩
     ·exact⟨F,F⟩
    refine gb ?_;refine aS (.inl F) a_ ?_;intro d b1 bB d;rw[show(Value.agg #[Value.bool false,Value.slice none 0 0]).cells=#[Value.bool false,Value.slice none 0 0]from by simp[Value.cells]]at b1;refine gb ?_;refine aZ aQ (.inl F) F rfl ho.1 ho.2 b1 aA ?_;intro g ae bl d;rw[lQ]at ae;have d:=bC.trans bB;have N:Ext w7 g:=bl.aK d (λq e=>by have:=bC.size;omega);have b8:=nS bD N λq e=>e.elim;have bj:=bx.Y N;rcases av with⟨t,rfl,aj⟩|⟨t,he,rfl,rfl⟩;rotate_left
    ·have p:yQ o=i+2:=by
      rw[O];refine wT B λh=>t ?_;rw[<-a8,List.getElem_of_eq Z aq];rw[<-S]at h;exact h.2.2 _ (List.getElem_mem _)
     refine gb ?_;refine aN ?_;refine gb ?_;exact cU (v:=.slice none 0 0) (v':=.bool false) F rfl rfl ⟨b8,.inl ⟨by rw[p];omega,F,_,by rw[p];exact bj⟩⟩
    have g:=(aj.Y bB).kp (c8 b1 (λi z=>by
     match i with
     |0=>simp
     |1=>simp
     |i+2=>simp) bl)
    have ak:=JH t;have bG:nN o i j=rS wj:=by
     unfold nN;rw[<-S,<-Z,<-ax]
    have m:=bu.Y N;refine gb ?_;refine aN ?_;refine gb ?_;refine cP [(0,3),(1,3),(2,3),(3,0),(4,3),(5,3),(6,3),(7,3),(8,0),(9,3),(10,0),(11,0),(12,1),(13,3),(14,2),(15,3),(16,2)] mixed az λr d _=>?_;have p:=iR (ae.Y d);have p:=fG (ae.Y d);have p:=(m.Y d).at (i:=i) B;have p:=(m.Y d).at (i:=j) aq;have p:=g.Y d;refine gb ?_;refine aM (iz _ _ (rS wj) 209 r (p.iv ak) aw) ?_;rintro _ H ⟨g,r,r,rfl,E⟩;refine⟨g,?_⟩;have z:=(m.Y d).Y g;refine gb ?_;refine c_ (.inl F) F rfl (z.row i B) aq ((p.Y g).ev true ak) ?_;intro K G p m r;have r:=z.put B G p m;have z:=E.kp m;refine gb ?_;refine c_ (.inl F) F rfl (r.row j aq) B (z.ev true ak) ?_;intro G z m E J;have J:=r.put aq z m E;have r:=ai i B;have r:=ai j aq;have z:=nS (nS b8 d λq e=>e.elim) g λq e=>e.elim;have r:=nS (nS z p λq e=>.inr aq) m λq e=>.inr aq;have e:Ext w7 H:=N.trans (d.trans g);have E:=bc.Y e;have q:=b7 i B;have q:=b7 j aq;have q:W<H.heap.size:=by have:=e.size;omega
    have z:TL G W I:=λc D=>by
     rw[jz m (show W<K.heap.size by omega) (show¬W=s j by omega),jz p q (show¬W=s i by omega)];exact E c D
    have q:=((((bj.Y d).Y g).ch p (show¬b=s i by omega)).ch m (show¬b=s j by omega));have d:w6.heap.size<=G.heap.size:=by have:=e.size;omega
    refine gb ?_;refine⟨_,?_,j+1,cV (cV M i j (rS wj)) j i (rS wj),F,aq,F,F,F,F,F,F,F,F,F,r,Mw hm h r,d,z,J.congr λa c _ _=>⟨?_,rfl⟩,q,λa c Y D=>?_,λc D=>?_,λc D d=>?_⟩
    ·omega
    ·simp only[cV];split
     ·exact Nat.le_refl _
     ·split<;>exact Nat.le_refl _
    ·obtain⟨e1,e2,e3⟩:=A a c Y D;simp only[cV];rw[aa aq,aa aq,aa aq,aa aq];exact⟨e1,e2,e3⟩
    ·by_cases ec:c=j
     ·subst ec;rw[bG];refine⟨?_,?_,ak⟩
      ·simp only[cV];split
       ·rfl
       ·simp
      ·simp[cV]
     ·obtain⟨e1,e2,e3⟩:=an c aq;simp only[cV];rw[aa aq,aa aq,aa aq,aa aq];exact⟨e1,e2,e3⟩
    ·by_cases ec:c=j
     ·subst ec;rw[a8];exact t
     ·exact b5 c D aq
   ·obtain rfl:j=i+1:=aq;have bW:pW i ln:=⟨bI,λx hx=>by
     rw[<-Z]at hx;obtain⟨c,D,rfl⟩:=List.mem_iff_getElem.1 hx;exact b5 c D aq⟩
    refine gb ?_;refine⟨_,?_,i+1,M,F,aq,F,F,F,F,F,bD,bS,bu,bx,?_,λa c Y D=>?_⟩
    ·omega
    ·rw[O];exact GN B ⟨ar,by rw[<-S];exact bW⟩
    ·by_cases ea:a=i
     ·subst ea;exact an c aq
     ·exact A a c aq D
  ·obtain rfl:i=n:=aq;refine gb ?_;refine⟨M,F,a7,a6,U,?_,A⟩;rw[O,Nat.sub_self];rfl
 rintro f w4 ⟨M,u,a7,a6,U,O,A⟩;rw[ui u];refine gb ?_;have bA:∀a c,a<n->c<n->M a c=nf o a c/\Bd 209 (nf o a c):=λa c Y D=>by
  unfold nf;rcases Nat.le_total c a with h|h
  ·rw[Nat.max_eq_left h,Nat.min_eq_right h];obtain⟨e1,_,e3⟩:=A a c Y h;exact⟨e1,e3⟩
  ·rw[Nat.max_eq_right h,Nat.min_eq_left h];obtain⟨_,e2,e3⟩:=A c a D h;exact⟨e2,e3⟩
 refine cU F rfl rfl ⟨a7,.inr ⟨O,C,s,n,hn,bM,bK,F,aq,λk t=>by have:=ai k t;omega,?_,λa c Y D=>(bA a c Y D).2,U⟩⟩;exact(a6.congr (M':=nf o) λa c Y D=>⟨aD,(bA a c Y D).1⟩).o
theorem Ng:eP Tryz.prog 74 2=true:=by kernel_rfl
theorem OK:fo Tryz.prog 74 (.agg #[.string ByteArray.empty,.int .i64 0]):=by unfold fo;kernel_rfl
theorem OD(w:World):(zeroValue 74).run Tryz.prog w=.ok (.agg #[.string ByteArray.empty,.int .i64 0]) w:=Tryz.zeroValue74 w
theorem I0{n:Nat}{S:World->World->Prop}{k:Nat}{K:Fr->World->Prop}{f:Fr}{w:World}{d ty:Nat}{x:Operand}{a:String}{b:Array Edge}{e:Option (Nat×Bool)}{s:List UInt8}(c:ev n f x=Tx s)(h:K (cg f d (.agg #[Tx s,.int .i64 ((0:Nat):Int)])) w):
 R1 Tryz.prog n S k ⟨some d,.build 74 #[(0,x)],ty,a,b,e⟩ K f w:=by
 refine cH (v:=.agg #[Tx s,.int .i64 ((0:Nat):Int)]) (λw=>?_) h;simp[execOp,c,Instr.build,run_underlying Tryz.underlying74,Instr.fill,Value.cells,cK pV]
theorem La{n:Nat}{S:World->World->Prop}{k:Nat}{K:Fr->World->Prop}{f:Fr}{w:World}{d ty b:Nat}{x:Operand}{a:String}{c:Array Edge}{g:Option (Nat×Bool)}(e:ev n f x=.pointer (some ⟨b,0,none⟩))(h:K (cg f d (JV b)) w):
 R1 Tryz.prog n S k ⟨some d,.makeFunc (.func 30) #[x] #[],ty,a,c,g⟩ K f w:=
 cH (v:=JV b) (λ_=>by simp[execOp,Instr.makeFunc,e,JV]) h
def Ps(w:World)(a:List (List UInt8))(v:Value)(w':World):Prop:=
 (sT a≠0/\v=.tuple #[.slice none 0 0,.int .i64 ((2:Nat):Int),.int .i64 ((sT a:Nat):Int)])\/
 (sT a=0/\∃n,n=tj (a.getD 0 [])/\1<=n/\n<=8/\(∀i j,i<n->j<n->Bd 209 (nf a i j))/\
  ((dQ n (λ_=>n) (nf a)=0/\∃b c,v=.tuple #[.slice (some ⟨b,0,none⟩) n n,.int .i64 ((0:Nat):Int),.int .i64 ((0:Nat):Int)]/\w.heap.size<=b/\(∀i,i<n->w.heap.size<=c i)/\iF w' b c n n (nf a))\/
   (dQ n (λ_=>n) (nf a)≠0/\v=.tuple #[.slice none 0 0,.int .i64 ((5:Nat):Int),.int .i64 ((0:Nat):Int)])))
theorem Fo(s:List UInt8)(w:World)(Y:ML w)(X:s.length<4294967281):
 aT Tryz.prog 6 #[Tx s] w λv P=>Ext w P/\Ps w (wd 10 s) v P:=by
 refine bo (n:=35) Tryz.func6 F rfl az aA ?_;refine gb ?_;refine I0 F ?_;refine gb ?_;refine aS (.inl F) OK ?_;intro w1 C U a8;rw[show(Value.agg #[.string ByteArray.empty,.int .i64 0]).cells=#[.string ByteArray.empty,.int .i64 0]from by simp[Value.cells]]at C;obtain⟨b,hb⟩ : ∃b,b=w.heap.size:=⟨_,F⟩;rw[<-hb]at C⊢;refine gb ?_;refine aZ Ng (.inl F) F rfl rfl rfl C aA ?_;intro O I W a7;rw[lQ]at I;have o:=W.aK U λq e=>aq;have T:yR O b (wd 10 s) 0 s.length:=⟨s,I,F,aD⟩;refine gb ?_;refine La F ?_;refine gb ?_;refine aJ (uG b s.length (wd 10 s) O (Y.Y o) T X) ?_;rintro _ y ⟨H,⟨a,rfl,a1,B⟩|⟨a,M,gs,n,K,z,u,rfl,ae,Q,E,A,B⟩⟩
 ·have m:=H.aK o λq e=>aq;have k:sT (wd 10 s)=yQ (wd 10 s):=by
   unfold sT;unfold yQ at a⊢;split
   ·rename_i hc;rw[ab hc]at a;rw[ab a]
   ·rfl
  obtain⟨p,l,_⟩:=B;have x:y.cell? ⟨b,0+1,none⟩=some (.int .i64 ((yQ (wd 10 s):Nat):Int)):=by rw[l.cell];rfl
  refine gb ?_;refine aN ?_;refine gb ?_;refine b_ [(0,3),(1,0),(2,3),(3,3),(4,3)] mixed az λJ f _=>?_;replace x:=aP f x;refine gb ?_;exact jG (v:=.slice none 0 0) (v':=.int .i64 ((2:Nat):Int)) (v'':=.int .i64 ((yQ (wd 10 s):Nat):Int)) F rfl rfl rfl ⟨m.trans f,.inl ⟨by rw[k];exact a,by rw[k]⟩⟩
 ·have m:=H.aK o λq e=>aq;have N:1<(wd 10 s).length/\xw ((wd 10 s).getD 0 []):=by
   by_cases h:1<(wd 10 s).length/\xw ((wd 10 s).getD 0 [])
   ·exact h
   ·unfold yQ at a;rw[aa h]at a;cases a
  have k:sT (wd 10 s)=if(wd 10 s).drop (n+1)=[[]]then 0 else n+2:=by
   unfold sT;unfold yQ at a;rw[ab N]at a⊢;rw[aa λh=>h a,<-K]
  obtain⟨p,l,D,_⟩:=B;have c0:y.cell? ⟨b,0+0,none⟩=some (Tx p):=by rw[l.cell];rfl
  have x:y.cell? ⟨b,0+1,none⟩=some (.int .i64 ((n+1:Nat):Int)):=by rw[l.cell];rfl
  by_cases g:p=[];rotate_left
  ·have c:sT (wd 10 s)=n+2:=by
    rw[k,aa];intro h;rw[<-D]at h;exact g (LU h)
   refine gb ?_;refine aN ?_;refine gb ?_;refine bZ (aX F) (.inl F) F rfl l aA ?_;intro J R V a6;have S:=V.aK m λq e=>aq;have x:J.cell? ⟨b,0+1,none⟩=some (.int .i64 ((n+1+1:Nat):Int)):=by rw[R.cell];simp
   refine gb ?_;refine b_ [(0,3),(1,0),(2,3),(3,3),(4,3)] mixed az λw5 G _=>?_;replace x:=aP G x;refine gb ?_;exact jG (v:=.slice none 0 0) (v':=.int .i64 ((2:Nat):Int)) (v'':=.int .i64 ((n+1+1:Nat):Int)) F rfl rfl rfl ⟨S.trans G,.inl ⟨by rw[c];omega,by rw[c]⟩⟩
  have c:sT (wd 10 s)=0:=by
   rw[k,ab];rw[<-D,g];rfl
  have hM:cB (EI 209) y (.slice (some ⟨M,0,none⟩) n n) n (λ_=>n) (nf (wd 10 s)):=E.read A aq aq;subst g;refine gb ?_;refine aN ?_;refine gb ?_;rw[show(decide (¬([]:List UInt8)=[]))=false from F];refine gb ?_;refine aJ (rJ _ n 209 (λ_=>n) (nf (wd 10 s)) y hM aw aw) ?_;rintro _ J ⟨f,d,rfl,L⟩;rw[vv]at L;have t:jt n (λ_=>n)=true:=dj.2 ⟨z,aq,λ_ _=>rfl⟩;have r:∀i j,i<n->j<i->nf (wd 10 s) i j=nf (wd 10 s) j i:=λi j _ _=>by
   unfold nf;rw[Nat.max_comm,Nat.min_comm]
  cases d
  ·refine gb ?_;refine jG (v:=.slice none 0 0) (v':=.int .i64 ((5:Nat):Int)) (v'':=.int .i64 ((0:Nat):Int)) F rfl rfl rfl ⟨m.trans f,.inr ⟨c,n,K,z,u,A,.inr ⟨?_,F⟩⟩⟩;rw[BJ ⟨t,u⟩ r (λh=>by cases L.2 ⟨t,r,h⟩)];decide
  ·refine gb ?_;refine jG (v:=.slice (some ⟨M,0,none⟩) n n) (v':=.int .i64 ((0:Nat):Int)) (v'':=.int .i64 ((0:Nat):Int)) F rfl rfl rfl ⟨m.trans f,.inr ⟨c,n,K,z,u,A,.inl ⟨?_,M,gs,F,by have:=o.size;omega,λi Z=>by have:=o.size;have:=Q i Z;omega,E.Y f⟩⟩⟩;rw[nq ⟨t,u⟩ r (L.1 F).2.2]
end
end Go.Proofs.Qq
namespace Go.aW
def ig(n:Nat)(G:Mt)(u v:Nat->Int):Int:=sm n λa=>u a*sm n λb=>G a b*v b
def gr(n:Nat)(T G:Mt):Mt:=λi j=>ig n G (T i) (T j)
theorem qW(n:Nat)(T G:Mt):gr n T G=mul n T (mul n G (tr T)):=F
theorem Hw(n:Nat)(T G:Mt):aO n (gr n T G)=aO n T*aO n T*aO n G:=by
 rw[qW,iU,iU,cY];grind
def Sy(n:Nat)(G:Mt):Prop:=∀a b,a<n->b<n->G a b=G b a
theorem AW{n:Nat}{G:Mt}(e:Sy n G)(u v:Nat->Int):ig n G u v=ig n G v u:=by
 unfold ig;rw[show(sm n λa=>u a*sm n λb=>G a b*v b)=sm n λa=>sm n λb=>u a*(G a b*v b)from aR λa _=>(dL _ _ _).symm];rw[show(sm n λa=>v a*sm n λb=>G a b*u b)=sm n λa=>sm n λb=>v a*(G a b*u b)from aR λa _=>(dL _ _ _).symm];rw[pI];exact aR λa d=>aR λb c=>by rw[e b a c d];grind
theorem D5{n:Nat}{T G:Mt}(a:Sy n G)(i j:Nat):gr n T G i j=gr n T G j i:=AW a _ _
theorem eI{n:Nat}{T G:Mt}(a:Sy n G):tr (gr n T G)=gr n T G:=by
 funext i j;exact D5 a j i
theorem mL(n:Nat)(G:Mt)(u v x:Nat->Int)(a b:Int):ig n G (λc=>a*u c+b*v c) x=a*ig n G u x+b*ig n G v x:=by
 unfold ig;rw[<-fQ];exact aR λc _=>aC
theorem jR(n:Nat)(G:Mt)(u v x:Nat->Int)(a b:Int):ig n G x (λc=>a*u c+b*v c)=a*ig n G x u+b*ig n G x v:=by
 unfold ig;rw[<-fQ];refine aR λc _=>?_;rw[show(sm n λd=>G c d*(a*u d+b*v d))=a*(sm n λd=>G c d*u d)+b*sm n λd=>G c d*v d by
  rw[<-fQ];exact aR λd _=>aC]
 grind
theorem o7{n:Nat}{G:Mt}{i j:Nat}(b:i<n)(a:j<n):gr n one G i j=G i j:=by
 rw[qW,one_mul n _ i j b];simp only[mul];rw[dc (c:=j) a λb a a=>by simp only[tr,one];rw[aa (Ne.symm a),Int.mul_zero]];simp only[tr,one,if_true,Int.mul_one]
def ld(q:Int)(a c:Nat)(H:Mt):Mt:=cj H a λb=>H a b-q*H c b
def xl(q:Int)(b a:Nat)(H:Mt):Mt:=tr (ld q b a (tr (ld q b a H)))
theorem f_(n:Nat)(T G:Mt)(q:Int)(a b:Nat):gr n (ld q a b T) G=xl q a b (gr n T G):=by
 have d:∀i x,ig n G (ld q a b T i) x=if i=a then ig n G (T a) x-q*ig n G (T b) x else ig n G (T i) x:=λi x=>by
  unfold ld cj;by_cases e:i=a
  ·rw[ab e,show(λc=>if i=a then T a c-q*T b c else T i c)=λc=>1*T a c+(-q)*T b c by funext c;rw[ab e];grind,mL];grind
  ·rw[aa e,show(λc=>if i=a then T a c-q*T b c else T i c)=T i by funext c;rw[aa e]]
 have f:∀j x,ig n G x (ld q a b T j)=if j=a then ig n G x (T a)-q*ig n G x (T b)else ig n G x (T j):=λj x=>by
  unfold ld cj;by_cases e:j=a
  ·rw[ab e,show(λc=>if j=a then T a c-q*T b c else T j c)=λc=>1*T a c+(-q)*T b c by funext c;rw[ab e];grind,jR];grind
  ·rw[aa e,show(λc=>if j=a then T a c-q*T b c else T j c)=T j by funext c;rw[aa e]]
 funext i j;simp only[gr,xl,tr,ld,cj];have c:=d i (ld q a b T j);simp only[ld]at c;rw[c];have b:=λx=>f j x;simp only[ld]at b;rw[b,b,b];by_cases c:i=a<;>by_cases b:j=a<;>simp only[c,b,if_true,if_false]<;>grind
theorem Hm(m:Nat)(H:Mt)(i j:Nat)(u:Nat->Int)(a b:Int)(x y:Nat)(h:∀c,u c=a*H x c+b*H y c):
 bm m (λr=>if r=i then u else H r) i j=(if i<m then bm m (λr=>if r=i then u else H r) i j else a*bm m H x j+b*bm m H y j):=by
 by_cases d:i<m
 ·rw[ab d]
 rw[aa d];have e:=(eF (m+1)).mZ (λr c=>H (if r<m then r else i) (if c<m then c else j)) m (λc=>H x (if c<m then c else j)) (λc=>H y (if c<m then c else j)) a b aq;have l:bm m (λr=>if r=i then u else H r) i j=aO (m+1) (cj (λr c=>H (if r<m then r else i) (if c<m then c else j)) m λc=>a*H x (if c<m then c else j)+b*H y (if c<m then c else j)):=by
  unfold bm;refine bk λr c g k=>?_;simp only[cj];by_cases d:r=m
  ·rw[ab d,aa (show¬r<m by omega),ab F,h]
  ·rw[aa d,ab (show r<m by omega),aa (show¬r=i by omega)]
 have f:∀z,aO (m+1) (cj (λr c=>H (if r<m then r else i) (if c<m then c else j)) m λc=>H z (if c<m then c else j))=bm m H z j:=λz=>by
  unfold bm;refine bk λr c g k=>?_;simp only[cj];by_cases d:r=m
  ·rw[ab d,aa (show¬r<m by omega)]
  ·rw[aa d,ab (show r<m by omega),ab (show r<m by omega)]
 rw[l,e,f,f]
theorem mK{m b:Nat}(q:Int)(a:Nat)(H:Mt)(i j:Nat)(c:m<=b):bm m (ld q b a H) i j=if i=b then bm m H b j-q*bm m H a j else bm m H i j:=by
 by_cases e:i=b
 ·subst e;rw[ab F];have h:=Hm m H i j (λb=>H i b-q*H a b) 1 (-q) i a λc=>aC;rw[aa (show¬i<m by omega)]at h;rw[show ld q i a H=λr=>if r=i then(λb=>H i b-q*H a b)else H r by
   funext r c;simp only[ld,cj];split<;>rfl,h]
  grind
 ·rw[aa e];unfold bm;refine bk λr c a a=>?_;simp only[ld,cj];rw[aa];split<;>omega
theorem rK{m a b:Nat}(q:Int)(H:Mt)(i j:Nat)(d:a<m)(g:b<m)(f:a≠b)(c:m<=i):bm m (ld q a b H) i j=bm m H i j:=by
 unfold bm;rw[<-(eF (m+1)).tC (λr c=>H (if r<m then r else i) (if c<m then c else j)) a b (-q) aq aq f];refine bk λr c b b=>?_;simp only[ld,cj];by_cases e:r=a
 ·subst e;rw[ab (by rw[ab d]),ab F,ab d,ab g];grind
 ·rw[aa (by split<;>omega),aa e]
theorem sa{m a b:Nat}(q:Int)(H:Mt)(h:b<a):aO m (ld q a b H)=aO m H:=by
 by_cases c:a<m
 ·rw[<-(eF m).tC H a b (-q) c aq aq];refine bk λr c b d=>?_;simp only[ld,cj];by_cases e:r=a
  ·rw[ab e,ab e];grind
  ·rw[aa e,aa e]
 ·exact bk λr c b d=>by simp only[ld,cj];rw[aa aq]
theorem jx{m b a:Nat}(q:Int)(H:Mt)(h:a<b):aO m (xl q b a H)=aO m H:=by
 unfold xl;rw[cY,sa q _ h,cY,sa q _ h]
theorem iX{m a:Nat}(q:Int)(b:Nat)(H:Mt)(i j:Nat)(c:m<=a):
 bm m (xl q a b H) i j=if j=a then(if i=a then bm m H a a-q*bm m H b a else bm m H i a)-q*(if i=a then bm m H a b-q*bm m H b b else bm m H i b)else(if i=a then bm m H a j-q*bm m H b j else bm m H i j):=by
 unfold xl;rw[qp,mK q b _ j i c,qp,qp,qp,mK q b H _ _ c,mK q b H _ _ c,mK q b H _ _ c]
theorem rL{m a b:Nat}(q:Int)(H:Mt)(i j:Nat)(c:a<m)(h:b<a)(e:m<=i)(d:m<=j):bm m (xl q a b H) i j=bm m H i j:=by
 unfold xl;rw[qp,rK q _ j i c aq aq d,qp,rK q _ i j c aq aq e]
def JS(p:Nat)(H:Mt):Mt:=λa b=>H (sw p (p+1) a) (sw p (p+1) b)
theorem DE{p i:Nat}(h:p+2<=i):sw p (p+1) i=i:=by unfold sw;rw[aa (by omega),aa (by omega)]
theorem rD(n:Nat)(T G:Mt)(p:Nat):gr n (ov p (p+1) T) G=JS p (gr n T G):=by
 funext i j;simp only[gr,JS,jq]
theorem jM{m p:Nat}(H:Mt)(i j:Nat)(a:m<=p):bm m (JS p H) i j=bm m H (sw p (p+1) i) (sw p (p+1) j):=by
 unfold bm JS;refine bk λr c a a=>?_;have e:∀x z,sw p (p+1) (if x<m then x else z)=if x<m then x else sw p (p+1) z:=λx z=>by
  by_cases h:x<m
  ·rw[ab h,ab h,sv aq aq]
  ·rw[aa h,aa h]
 rw[e,e]
theorem Ea{m p:Nat}(A:Mt)(b:p+1<m):aO m (λr c=>A (sw p (p+1) r) (sw p (p+1) c))=aO m A:=by
 have a:∀C:Mt,aO m (λr=>C (sw p (p+1) r))=- aO m C:=λC=>by
  rw[<-(eF m).swap C p (p+1) aq b aq];congr 1;funext r;rw[jq]
 rw[a λr c=>A r (sw p (p+1) c),<-cY];rw[show tr (λr c=>A r (sw p (p+1) c))=λr=>(tr A) (sw p (p+1) r)from rfl,a,cY];omega
theorem AU{m p:Nat}(H:Mt)(i j:Nat)(a:p+2<=m)(d:m<=i)(b:m<=j):bm m (JS p H) i j=bm m H i j:=by
 unfold bm JS;rw[<-Ea (m:=m+1) (p:=p) (λr c=>H (if r<m then r else i) (if c<m then c else j)) aq];refine bk λr c a f=>?_;have e:∀x z,x<m+1->m<=z->sw p (p+1) (if x<m then x else z)=if sw p (p+1) x<m then sw p (p+1) x else z:=λx z g g=>by
  by_cases h:x<m
  ·rw[ab h,ab (lG aq aq h)]
  ·rw[aa h,DE aq,DE aq,aa h]
 rw[e r i a d,e c j f b]
theorem AI{m p:Nat}(H:Mt)(a:m<=p):aO m (JS p H)=aO m H:=
 bk λr c a a=>by unfold JS;rw[sv aq aq,sv aq aq]
theorem xV{m p:Nat}(H:Mt)(a:p+2<=m):aO m (JS p H)=aO m H:=Ea H (by omega)
theorem iV{H:Mt}(a:tr H=H)(k i j:Nat):bm k H i j=bm k H j i:=by
 have:=qp k H i j;rw[a]at this;exact this
theorem CC{k:Nat}{H:Mt}{i:Nat}(j:Nat)(a:i<k):bm k H i j=0:=by
 unfold bm;refine(eF (k+1)).LH _ i k aq aq aq λc b=>?_;rw[ab a,aa (Nat.lt_irrefl k)]
def PM(n:Nat)(H:Mt):Prop:=∀m,m<=n->0<aO m H
theorem jc{H:Mt}(a:tr H=H){k:Nat}(b:aO k H≠0)(i:Nat):aO (k+1) H*bm k H i i=aO k H*bm (k+1) H i i+bm k H i k*bm k H i k:=by
 have:=fv k H i i b;rw[db,iV a k k i]at this;omega
theorem pH{H:Mt}(a:tr H=H){k:Nat}(b:aO k H≠0)(i j:Nat):aO (k+1) H*bm k H i j=aO k H*bm (k+1) H i j+bm k H i k*bm k H j k:=by
 have:=fv k H i j b;rw[db,iV a k k j]at this;omega
def qf(n k:Nat)(H:Mt)(y:Nat->Int):Int:=sm n λi=>y i*sm n λj=>bm k H i j*y j
theorem JF{n k:Nat}{H:Mt}(a:tr H=H)(b:aO k H≠0)(y:Nat->Int):aO (k+1) H*qf n k H y=aO k H*qf n (k+1) H y+(sm n λi=>bm k H i k*y i)*(sm n λi=>bm k H i k*y i):=by
 unfold qf;rw[<-dL,<-dL,<-pJ,<-oV];refine aR λi _=>?_;rw[show aO (k+1) H*(y i*sm n λj=>bm k H i j*y j)=y i*sm n λj=>aO (k+1) H*bm k H i j*y j by
  rw[show aO (k+1) H*(y i*sm n λj=>bm k H i j*y j)=y i*(aO (k+1) H*sm n λj=>bm k H i j*y j) by grind,<-dL];congr 1;exact aR λj _=>aC]
 rw[show(sm n λj=>aO (k+1) H*bm k H i j*y j)=aO k H*(sm n λj=>bm (k+1) H i j*y j)+bm k H i k*sm n λj=>bm k H j k*y j by
  rw[<-fQ];exact aR λj _=>by rw[pH a b];grind]
 grind
theorem vo{n:Nat}{H:Mt}(b:tr H=H)(a:PM n H)(y:Nat->Int):∀d k,k+d=n->0<=qf n k H y
 |0,k,e=>by
  have:k=n:=aq;subst this;unfold qf;rw[fK λi c=>by rw[fK λj f=>by rw[CC j c,Int.zero_mul],Int.mul_zero]];exact Int.le_refl _
 |d+1,k,e=>by
  have c:=vo b a y d (k+1) aq;have f:=a k aq;have d:=a (k+1) aq;have h:=JF (n:=n) b (show aO k H≠0 by omega) y;have a:0<=aO (k+1) H*qf n k H y:=by
   rw[h];have:=Int.mul_nonneg (Int.le_of_lt f) c;have:=sq_nonneg (sm n λi=>bm k H i k*y i);omega
  exact Int.nonneg_of_mul_nonneg_right a d
theorem M9(n:Nat)(H:Mt)(y:Nat->Int):ig n H y y=qf n 0 H y:=by
 unfold ig qf;refine aR λi _=>?_;congr 1;exact aR λj _=>by rw[fU]
theorem tB{n:Nat}{H:Mt}(a:tr H=H)(b:PM n H)(y:Nat->Int):0<=ig n H y y:=by
 rw[M9];exact vo a b y n 0 aq
theorem Ic{n:Nat}{H:Mt}(c:tr H=H)(e:PM n H)(x y:Nat->Int)(f:0<ig n H y y):ig n H x y*ig n H x y<=ig n H x x*ig n H y y:=by
 have d:Sy n H:=λa b _ _=>by
  have:=congrFun (congrFun c b) a;exact this
 have h:=tB c e λc=>ig n H y y*x c+(- ig n H x y)*y c;rw[mL,jR,jR,AW d y x]at h;generalize ig n H x x=X at*;generalize ig n H y y=Y at*;generalize ig n H x y=Z at*;have e:Y*(Y*X+-Z*Z)+-Z*(Y*Z+-Z*Y)=Y*(X*Y-Z*Z):=aC;rw[e]at h;have:=Int.nonneg_of_mul_nonneg_right h f;omega
