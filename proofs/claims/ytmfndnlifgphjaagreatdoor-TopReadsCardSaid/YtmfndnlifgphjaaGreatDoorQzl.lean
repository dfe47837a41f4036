import Derived.Test.YtmfndnlifgphjaaGreatDoorQzk
import Derived.Laws.CopyRow
set_option maxHeartbeats 64000000
open Go.Proofs.YtmfndnlifgphjaaGreatDoor
namespace Go.Proofs.Qq
section
open Go Go.cW Go.c7 Go.Proofs
def DI(a d:Nat)(c b:Nat->Int):Prop:=a=d/\∀j,j<a->c j=b j
theorem pR(v1 b:Value)(a f N:Nat)(d c:Nat->Int)(w:World)(h1:gY (EC N) w v1 a d)(m:gY (EC N) w b f c)(o:N<1099511627776):
 aT Tryz.prog 18 #[v1,b] w λv h=>Ext w h/\∃b,v=.bool b/\(b=true↔DI a f d c):=by
 obtain⟨D,z,rfl,b,b,x⟩:=h1;obtain⟨C,y,rfl,b,b,u⟩:=m;refine bo (n:=27) Tryz.func18 F rfl az aA ?_;refine gg ?_;refine aN ?_;by_cases e:¬a=f
 ·refine gg ?_;exact bF (v:=.bool _) F rfl ⟨Ext.refl _,_,F,by simp[DI,e]⟩
 have e:=Classical.not_not.1 e;subst e;refine gg ?_;refine aN ?_;refine gg ?_;refine aU (λm f h=>∃i,m=a-i/\i<=a/\f 0=.slice D a z/\f 1=.slice C a y/\f 12=.int .i64 (a:Int)/\f 13=.int .i64 ((i:Nat):Int)/\Ext w h/\∀j,j<i->d j=c j)
  a ⟨0,F,aE,F,F,F,F,Ext.refl _,λj k=>absurd k aq⟩ ?_
 rintro m f b ⟨i,rfl,b,h,f,e,b,p,l⟩;rw[ui h,ui f,ui e,ui b];clear h f e b;by_cases g:i<a
 ·obtain⟨a,a,a,B,t,r,cQ⟩:=x i g;obtain⟨a,a,a,A,s,q,fc⟩:=u i g;subst B A;refine gg ?_;refine b_ [(0,3),(1,3),(2,3),(3,0),(4,3),(5,3),(6,3),(7,0),(8,1),(9,3)] mixed az λe b _=>?_;have a:=p.trans b;have b:=aP a t;have b:=aP a r;have b:=aP a s;have b:=aP a q;refine gg ?_;refine aM (sK _ _ _ _ _ _ N N e (cQ.1.Y a) (fc.1.Y a) o o cQ.2 fc.2) ?_;rintro _ b ⟨b,rfl⟩;refine⟨b,?_⟩;by_cases f:d i=c i
  ·have h:decide (d i=c i)=true:=decide_eq_true f;rw[h];refine gg ?_;refine⟨_,?_,i+1,F,aq,F,F,F,F,a.trans b,λj k=>?_⟩
   ·omega
   ·by_cases e:j=i
    ·rw[e];exact f
    ·exact l j aq
  ·have h:decide (d i=c i)=false:=decide_eq_false f;rw[h];refine gg ?_;exact bF (v:=.bool _) F rfl ⟨a.trans b,_,F,by simp only[Bool.false_eq_true,false_iff];exact λh=>f (h.2 i g)⟩
 ·refine gg ?_;exact bF (v:=.bool _) F rfl ⟨p,_,F,by simp only[true_iff];exact⟨F,λj k=>l j aq⟩⟩
def LA(b c:Nat)(a len2:Nat->Nat)(e d:Nat->Nat->Int):Prop:=b=c/\∀i,i<b->DI (a i) (len2 i) (e i) (d i)
theorem u_(v1 m:Value)(a k N:Nat)(d len2:Nat->Nat)(q p:Nat->Nat->Int)(w:World)(h1:cB (EC N) w v1 a d q)(C:cB (EC N) w m k len2 p)(B:N<1099511627776):
 aT Tryz.prog 11 #[v1,m] w λv h=>Ext w h/\∃b,v=.bool b/\(b=true↔LA a k d len2 q p):=by
 obtain⟨H,A,rfl,m,m,y⟩:=h1;obtain⟨G,z,rfl,m,m,x⟩:=C;refine bo (n:=27) Tryz.func11 F rfl az aA ?_;refine gg ?_;refine aN ?_;by_cases f:¬a=k
 ·refine gg ?_;exact bF (v:=.bool _) F rfl ⟨Ext.refl _,_,F,by simp[LA,f]⟩
 have f:=Classical.not_not.1 f;subst f;refine gg ?_;refine aN ?_;refine gg ?_;refine aU (λm f h=>∃i,m=a-i/\i<=a/\f 0=.slice H a A/\f 1=.slice G a z/\f 12=.int .i64 (a:Int)/\f 13=.int .i64 ((i:Nat):Int)/\Ext w h/\∀j,j<i->DI (d j) (len2 j) (q j) (p j))
  a ⟨0,F,aE,F,F,F,F,Ext.refl _,λj l=>absurd l aq⟩ ?_
 rintro m f d ⟨i,rfl,d,k,h,f,d,s,r⟩;rw[ui k,ui h,ui f,ui d];clear k h f d;by_cases e:i<a
 ·obtain⟨a,a,E,u,cQ⟩:=y i e;obtain⟨a,a,D,t,fc⟩:=x i e;subst E D;refine gg ?_;refine b_ [(0,3),(1,3),(2,3),(3,0),(4,3),(5,3),(6,3),(7,0),(8,1),(9,3)] mixed az λd a _=>?_;have c:=s.trans a;have a:=aP c u;have a:=aP c t;refine gg ?_;refine aM (pR _ _ _ _ N _ _ d (cQ.N_ c) (fc.N_ c) B) ?_;rintro _ a ⟨g,b,rfl,o⟩;refine⟨g,?_⟩;cases b
  ·refine gg ?_;exact bF (v:=.bool _) F rfl ⟨c.trans g,_,F,by simp only[Bool.false_eq_true,false_iff]at o⊢;exact λh=>o (h.2 i e)⟩
  ·refine gg ?_;refine⟨_,?_,i+1,F,aq,F,F,F,F,c.trans g,λj l=>?_⟩
   ·omega
   ·by_cases e:j=i
    ·rw[e];exact o.1 F
    ·exact r j aq
 ·refine gg ?_;exact bF (v:=.bool _) F rfl ⟨s,_,F,by simp only[true_iff];exact⟨F,λj l=>r j aq⟩⟩
def tH(w:World)(v:Value)(c:Nat)(g:Nat->Int):Prop:=
 ∃A a,v=.slice A c a/\c<=a/\a<9223372036854775808/\∀j,j<c->∃a,A=some a/\w.cell? (a.add (j*1))=some (.int .i64 (g j))/\-9223372036854775808<=g j/\g j<9223372036854775808
def ke(w:World)(v:Value)(r:Nat)(len:Nat->Nat)(M:Nat->Nat->Int):Prop:=
 ∃A a,v=.slice A r a/\r<=a/\a<9223372036854775808/\∀i,i<r->∃a u,A=some a/\w.cell? (a.add (i*1))=some u/\tH w u (len i) (M i)
theorem tH.Y{w w':World}{c:Nat}{v:Value}{g:Nat->Int}(h:tH w v c g)(f:Ext w w'):tH w' v c g:=by
 obtain⟨A,a,rfl,d,b,i⟩:=h;refine⟨A,a,F,d,b,λj b=>?_⟩;obtain⟨h,e,a,d⟩:=i j b;exact⟨h,e,aP f a,d⟩
theorem ke.Y{w w':World}{r:Nat}{len:Nat->Nat}{v:Value}{M:Nat->Nat->Int}(h:ke w v r len M)(a:Ext w w'):ke w' v r len M:=by
 obtain⟨A,b,rfl,d,c,f⟩:=h;refine⟨A,b,F,d,c,λj d=>?_⟩;obtain⟨g,u,e,b,c⟩:=f j d;exact⟨g,u,e,aP a b,c.Y a⟩
theorem CD{z:Int}(h1:-9223372036854775808<=z)(a:z<9223372036854775808):Bd 2 z:=by
 unfold Bd;have:B^2=18446744073709551616:=aw;omega
theorem wX(v:Value)(r:Nat)(len:Nat->Nat)(M:Nat->Nat->Int)(w:World)(h:ke w v r len M):
 aT Tryz.prog 38 #[v] w (oq w (kF r len) r (len 0) M):=by
 obtain⟨A,t,rfl,A,A,B⟩:=h;refine bo (n:=78) Tryz.func38 F rfl az aA ?_;refine gg ?_;refine aN ?_;have z:∀g,¬kF r len=true->Ext w g->oq w (kF r len) r (len 0) M (.tuple #[.slice none 0 0,.bool false]) g:=λg C l=>by unfold oq;rw[aa C];exact⟨l,F⟩
 by_cases A:r<1
 ·refine gg ?_;exact cU (v:=.slice _ _ _) (v':=.bool _) F rfl rfl (z _ (λe=>by have:=cD.1 e;omega) (Ext.refl _))
 by_cases A:16<r
 ·refine gg ?_;exact cU (v:=.slice _ _ _) (v':=.bool _) F rfl rfl (z _ (λe=>by have:=cD.1 e;omega) (Ext.refl _))
 obtain⟨q,u,rfl,X,K⟩:=B 0 aq;obtain⟨A0,J,rfl,A⟩:=id K;have A:w.cell? (q.add (((0:Nat):Nat)*1))=some (.slice A0 (len 0) J):=X;refine gg ?_;refine aY (λf g=>w=g/\f 0=.slice (some q) r t/\kF r len=true) ?_ ?_
 ·refine gg ?_;refine aU (λm f g=>w=g/\∃i,m=r-i/\i<=r/\f 0=.slice (some q) r t/\f 17=.slice (some q) r t/\f 18=.int .i64 (r:Int)/\f 19=.int .i64 ((i:Nat):Int)/\∀k,k<i->len k=len 0/\1<=len 0/\len 0<=16)
   r ⟨F,0,F,aE,F,F,F,F,λk E=>absurd E aq⟩ ?_
  rintro m f g ⟨rfl,i,rfl,Y,d,K,J,A,E⟩;rw[ui d,ui K,ui J,ui A];clear d K J A;by_cases c:i<r
  ·obtain⟨I,u,e,O,Ai,U,rfl,H⟩:=B i c;obtain rfl:q=I:=Option.some.inj e;by_cases P:len i<1
   ·refine gg ?_;exact cU (v:=.slice _ _ _) (v':=.bool _) F rfl rfl (z _ (λe=>by have a:=cD.1 e;have b:=a.2 i c;omega) (Ext.refl _))
   by_cases C:16<len i
   ·refine gg ?_;exact cU (v:=.slice _ _ _) (v':=.bool _) F rfl rfl (z _ (λe=>by have a:=cD.1 e;have b:=a.2 i c;omega) (Ext.refl _))
   by_cases V:len i=len 0
   ·refine gg ?_;refine⟨_,?_,F,i+1,F,aq,F,F,F,F,λk R=>?_⟩
    ·omega
    ·rcases Nat.lt_succ_iff_lt_or_eq.1 R with h|h
     ·exact E k h
     ·rw[h];omega
   ·refine gg ?_;exact cU (v:=.slice _ _ _) (v':=.bool _) F rfl rfl (z _ (λe=>V ((cD.1 e).2 i c)) (Ext.refl _))
  ·refine gg ?_;have:=E 0 aq;exact⟨F,F,cD.2 ⟨⟨aq,aq,aq,aq⟩,λk R=>(E k aq).1⟩⟩
 ·rintro f g ⟨rfl,d,Q⟩;rw[ui d];clear d;obtain⟨⟨_,_,k,h⟩,hlen⟩:=cD.1 Q;refine gg ?_;refine aJ (rW r (len 0) w aq aq) ?_;rintro _ L ⟨l,G,gs,rfl,Z,T,h⟩;refine gg ?_;refine aN ?_;refine gg ?_;refine aU (λm f g=>∃i,m=r-i/\i<=r/\f 0=.slice (some q) r t/\f 6=.slice (some ⟨G,0,none⟩) r r/\f 49=.int .i64 (r:Int)/\f 50=.int .i64 ((i:Nat):Int)/\
   Ext w g/\eM g G gs r (len 0) true (λ_ _=>2) λa b=>if a<i then M a b else 0)
   r ⟨0,F,aE,F,F,F,F,l,(h.wm true (N:=2) λ_ _ _ _=>Bd.zero 2).congr λi j _ _=>⟨aD,aA⟩⟩ ?_
  clear h l L;rintro m f L ⟨i,rfl,Y,d,s,p,o,l,D⟩;rw[ui d,ui s,ui p,ui o];clear d s p o;by_cases c:i<r
  ·obtain⟨I,u,e,O,Ai,U,rfl,W,h,H⟩:=B i c;obtain rfl:q=I:=Option.some.inj e;rw[hlen i c]at O W H;have h:=aP l O;refine gg ?_;refine aU (λm f g=>∃j,m=len 0-j/\j<=len 0/\f 0=.slice (some q) r t/\f 6=.slice (some ⟨G,0,none⟩) r r/\f 7=.int .i64 (i:Int)/\f 49=.int .i64 (r:Int)/\f 50=.int .i64 (i:Int)/\
    f 57=.int .i64 ((len 0:Nat):Int)/\f 58=.int .i64 (j:Int)/\Ext w g/\eM g G gs r (len 0) true (λ_ _=>2) λa b=>if a<i\/a=i/\b<j then M a b else 0)
    (len 0) ⟨0,F,aE,F,F,F,F,F,F,F,l,D.congr (λa b _ _=>⟨aD,by by_cases e:a<i<;>simp[e]⟩)⟩ ?_
   clear D l h L;rintro m f L ⟨j,rfl,f,d,s,h,p,o,g,f,l,D⟩;rw[ui d,ui s,ui h,ui p,ui o,ui g,ui f];clear d s h p o g f;by_cases S:j<len 0
   ·obtain⟨d,rfl,m,k,h⟩:=H j S;refine gg ?_;refine cP [(0,3),(1,3),(2,3),(3,0),(4,3),(5,3),(6,3),(7,3),(8,0),(9,3),(10,3),(11,0),(12,1),(13,3),(14,2)] mixed az λd f _=>?_;have g:=D.Y f;have o:=g.at c;have o:=aP (l.trans f) O;have o:=aP (l.trans f) m;refine gg ?_;refine aM (kl (M i j) d k h) ?_;rintro _ d ⟨d,x,y,rfl,m⟩;refine⟨d,?_⟩;refine gg ?_;refine c_ (.inl F) F rfl ((g.Y d).row i c) S (m.ev true (N:=2) (CD k h)) ?_;intro h o h k m;have m:=(g.Y d).put c o h k;refine gg ?_;have g:=T i c;refine⟨_,?_,j+1,F,aq,F,F,F,F,F,F,F,h.aK (l.trans (f.trans d)) λb C=>aq,m.congr λa b P C=>⟨?_,?_⟩⟩
    ·omega
    ·unfold cV;split<;>exact Nat.le_refl _
    ·simp only[cV];by_cases e:a=i/\b=j
     ·obtain⟨rfl,rfl⟩:=e;rw[ab ⟨F,F⟩,ab aq]
     ·rw[aa e];by_cases c:a<i\/a=i/\b<j
      ·rw[ab c,ab aq]
      ·rw[aa c,aa aq]
   ·refine gg ?_;refine⟨_,?_,i+1,F,aq,F,F,F,F,l,D.congr λa b P C=>⟨aD,?_⟩⟩
    ·omega
    ·by_cases c:a<i+1
     ·rw[ab c,ab aq]
     ·rw[aa c,aa aq]
  ·refine gg ?_;have:i=r:=aq;subst this;refine cU (v:=.slice _ _ _) (v':=.bool _) F rfl rfl ?_;unfold oq;rw[ab Q];exact⟨_,F,l,G,gs,F,Z,T,(D.congr (bn':=λ_ _=>2) (M':=M) (λa b P C=>⟨aD,by rw[ab P]⟩)).o⟩
def K7(w:World)(ok:Bool)(r c:Nat)(M:Nat->Nat->Int)(v:Value)(w':World):Prop:=
 if ok then RM w r c M v w' else Ext w w'/\v=.slice none 0 0
theorem K7.get{w:World}{ok:Bool}{r c:Nat}{M:Nat->Nat->Int}{v:Value}{w':World}(h:K7 w ok r c M v w')(a:ok=true):RM w r c M v w':=by unfold K7 at h;rwa[ab a]at h
theorem oq.get{w:World}{ok:Bool}{r c:Nat}{M:Nat->Nat->Int}{v:Value}{w':World}(h:oq w ok r c M v w')(a:ok=true):∃u,v=.tuple #[u,.bool true]/\RM w r c M u w':=by unfold oq at h;rwa[ab a]at h
theorem oq.no{w:World}{ok:Bool}{r c:Nat}{M:Nat->Nat->Int}{v:Value}{w':World}(h:oq w ok r c M v w')(a:ok=false):Ext w w'/\v=.tuple #[.slice none 0 0,.bool false]:=by unfold oq at h;rwa[aa (by rw[a];decide)]at h
theorem wU(v:Value)(r:Nat)(len:Nat->Nat)(M:Nat->Nat->Int)(w:World)(h:ke w v r len M):
 aT Tryz.prog 8 #[v] w (K7 w (kF r len) r (len 0) M):=by
 refine bo (n:=11) Tryz.func8 F rfl az aA ?_;refine gg ?_;refine aJ (wX v r len M w h) ?_;intro c c b;unfold oq at b;by_cases a:kF r len=true
 ·rw[ab a]at b;obtain⟨u,rfl,d,f,e,rfl,c⟩:=b;refine gg ?_;refine bF (v:=.slice _ _ _) F rfl ?_;unfold K7;rw[ab a];exact⟨d,f,e,F,c⟩
 ·rw[aa a]at b;obtain⟨d,rfl⟩:=b;refine gg ?_;refine bF (v:=.slice _ _ _) F rfl ?_;unfold K7;rw[aa a];exact⟨d,F⟩
section
variable {n:Nat}{S:World->World->Prop}{k:Nat}{K:Fr->World->Prop}{f:Fr}{w:World}
 {d ty t t2:Nat} {x y:Operand} {pos:String} {aft:Array Edge} {gd:Option (Nat×Bool)}
theorem je(w:World)(g:Nat)(cs:Array Value):Ch (λb=>b=g) w (w.setRow g cs):=
 ⟨F,F,F,by simp[World.setRow],λb _ a=>setRow_other w g b cs a⟩
theorem IY{g c N:Nat}{cn:Bool}{bn:Nat->Nat}{V M:Nat->Int}{u:Value}(O:ev n f x=.slice (some ⟨g,0,none⟩) c c)(L:ev n f y=u)(A:di w g c cn bn V)(T:gY (EI N) w u c M)(U:0<c)
 (h:∀w',di w' g c false (λ_=>N) M->Ch (λb=>b=g) w w'->Kp w w'->w'.heap.size=w.heap.size->K (cg f d (.int .i64 (c:Int))) w'):
 R1 Tryz.prog n S 2 ⟨some d,.call { callee:=.builtin .copy,args:=#[x,y],argTypes:=#[49,49] },ty,pos,aft,gd⟩ K f w:=by
 obtain⟨E,H,J⟩:=A;obtain⟨A,u,rfl,u,u,u⟩:=T;obtain⟨B,_,_,rfl,_⟩:=u 0 U;have C:∀j,j<c->∃x y,w.cell? (B.add (j*2))=some x/\w.cell? (B.add (j*2+1))=some y/\IV w N x y (M j):=λj o=>by
  obtain⟨A,a,b,e,r,p,s⟩:=u j o;injection e with e;subst e;rw[add_add]at p;exact⟨a,b,r,p,s⟩
 let l:Nat->Value:=λk=>(w.cell? (B.add k)).getD undef;have D:∀k,k<c*2->w.cell? (B.add k)=some (l k)/\(l k).oneCell'=true:=λk z=>by
  obtain⟨a,b,r,p,s⟩:=C (k/2) aq;rcases Nat.mod_two_eq_zero_or_one k with u|u
  ·rw[show k/2*2=k by omega]at r;have:l k=a:=by simp[l,r]
   rw[this];exact⟨r,s.ep⟩
  ·rw[show k/2*2+1=k by omega]at p;have:l k=b:=by simp[l,p]
   rw[this];exact⟨p,s.eN⟩
 have I:=run_loadCells_list (P:=Tryz.prog) w B ((List.range (c*2)).map l) (λj v o=>by
  simp only[List.getElem?_map]at o;by_cases u:j<c*2
  ·rw[List.getElem?_range u]at o;simp at o;rw[<-o];exact(D j u).1
  ·rw[List.getElem?_eq_none (by simp;omega)]at o;simp at o)
 have G:=run_storeCells_at Tryz.prog g 0 44 ((List.range (c*2)).map l) 0 (arr (c*2) E) w H (by simp[bf]) (λv Q=>by
  obtain⟨k,z,rfl⟩:=List.mem_map.1 Q;exact(D k (by simpa using z)).2)
 have u:(((arr (c*2) E).toList.take (0+0)++(List.range (c*2)).map l++(arr (c*2) E).toList.drop (0+0+((List.range (c*2)).map l).length)).toArray)=arr (c*2) l:=by
  have:(arr (c*2) E).toList.drop (0+0+((List.range (c*2)).map l).length)=[]:=List.drop_eq_nil_of_le (by simp[bf]);rw[this];apply Array.ext_getElem?;intro i;by_cases q:i<c*2
  ·rw[cE q];simp[q]
  ·simp[arr,q]
 rw[u]at G;have z:=c8 H (jK J).lh (je w g (arr (c*2) l));obtain⟨R,m⟩:=dJ;cases q:Tryz.prog.info? 44 with
 |none=>rw[q]at m;simp at m
 |some i=>
  rw[q]at m;simp at m;obtain⟨i,i,u⟩:=m;have m:Nat.min c c=c:=Nat.min_self c;simp only[List.length_map,List.length_range]at I;refine iE (v:=.int .i64 (c:Int)) (w':=w.setRow g (arr (c*2) l)) (.inl F) ?_ (h _ ⟨l,setRow_heap w g _ _ _ _ H,λj o=>?_⟩ (je _ _ _) z (by simp[World.setRow]))
  ·simp[execOp,resolve,invoke,builtin,O,L,Builtin.copy_,run_underlying R,Builtin.lenOf,Builtin.firstCells,sizeOf,typeInfo,q,i,I,G,goInt]
  ·obtain⟨a,b,r,p,s⟩:=C j o;have h:l (j*2)=a:=by simp[l,r]
   have a:l (j*2+1)=b:=by simp[l,p]
   rw[h,a];exact⟨s.kp z,λe=>by cases e⟩
end
def elim(k:Nat)(a:Int)(M:Nat->Nat->Int):Nat->Nat->Int:=λi j=>if k<i/\k<j then(M k k*M i j-M i k*M k j)/a else M i j
def swp{α:Type}(k p:Nat)(M:Nat->α):Nat->α:=λi=>if i=k then M p else if i=p then M k else M i
def iI(n k:Nat)(M:Nat->Nat->Int):Nat->Nat->Nat
 |0,p=>p
 |fuel+1,p=>if p<n/\M p k=0 then iI n k M fuel (p+1)else p
def dS(n k:Nat)(M:Nat->Nat->Int):Nat:=iI n k M (n-k) k
def jU(n:Nat):Nat->Nat->(Nat->Nat->Int)->Bool->Int->Int
 |0,_,_,neg,last=>if neg then -last else last
 |m+1,k,M,neg,last=>
  if dS n k M=n then 0 else
   jU n m (k+1) (elim k last (swp k (dS n k M) M)) (neg != decide (dS n k M≠k)) (swp k (dS n k M) M k k)
def gj(n:Nat)(M:Nat->Nat->Int):Int:=jU n n 0 M false 1
theorem td{n k:Nat}{M:Nat->Nat->Int}{p:Nat}(h:p<n/\M p k=0):iI n k M (n-p) p=iI n k M (n-(p+1)) (p+1):=by
 obtain⟨m,a⟩ : ∃m,n-p=m+1:=⟨n-p-1,aq⟩;rw[a,show n-(p+1)=m by omega,iI,ab h]
theorem mD{n k:Nat}{M:Nat->Nat->Int}{p:Nat}(h:¬(p<n/\M p k=0)):iI n k M (n-p) p=p:=by
 cases n-p with
 |zero=>rfl
 |succ m=>rw[iI,aa h]
def Nb(N:Nat):Nat->Nat
 |0=>N
 |k+1=>2*Nb N k+1
theorem jF(N k:Nat):Nb N k<=Nb N (k+1):=by simp only[Nb];omega
theorem LP(N k:Nat):Nb N k+1=2^k*(N+1):=by
 induction k with
 |zero=>simp[Nb]
 |succ k a=>simp only[Nb];rw[Nat.pow_succ,Nat.mul_comm (2^k) 2,Nat.mul_assoc,<-a];omega
theorem iL{N k:Nat}(a:N<1048576)(a:k<=16):Nb N k<68719476736:=by
 have h:=LP N k;have b:2^k<=2^16:=Nat.pow_le_pow_right aw a;have a:2^k*(N+1)<=2^16*1048576:=Nat.mul_le_mul b aq;omega
theorem Kr{N k i j:Nat}{c:Int}{M:Nat->Nat->Int}(h:∀i j,Bd N (M i j)):Bd (2*N+1) (elim k c M i j):=by
 unfold elim;split
 ·have a:=(h k k).mul (h i j);have b:=(h i k).mul (h k j);have:=(a.sub b).ediv (b:=c);rwa[<-Nat.two_mul]at this
 ·exact(h i j).mono aq
def tn(m:Nat)(M:Nat->Int):Nat->Int:=λj=>if j<m then M j else 0
def dD(w:World)(v:Value)(m:Nat)(cn:Bool)(N:Nat)(M:Nat->Int):Prop:=
 (m=0/\v=.slice none 0 0)\/∃g a,v=.slice (some ⟨g,0,none⟩) m a/\m<=a/\a<9223372036854775808/\di w g a cn (λ_=>N) (tn m M)
theorem Iv{cs:Array Value}{n:Nat}(h:cs.size=n):cs=arr n (λk=>(cs[k]?).getD undef):=by
 apply Array.ext_getElem?;intro i;by_cases a:i<n
 ·rw[cE a];have:cs[i]?=some cs[i]:=Array.getElem?_eq_getElem aq;rw[this];rfl
 ·rw[Array.getElem?_eq_none aq,Array.getElem?_eq_none (by rw[bf];omega)]
theorem EV.zero(w:World)(N:Nat)(cn:Bool):EV w N cn (.bool false) (.slice none 0 0) 0:=(CV.zero w).ev cn (by unfold Bd;exact BC N)
theorem pr(n k:Nat)(h:k<n*2):(Builtin.zeroCells #[Value.bool false,Value.slice none 0 0] n)[k]?=some (if k%2=0 then .bool false else .slice none 0 0):=by
 have a:=Nat.mod_lt k (show 0<2 by decide);simp only[Builtin.zeroCells];rw[show(#[Value.bool false,Value.slice none 0 0]:Array Value).size=2 from F];simp[h];rcases Nat.mod_two_eq_zero_or_one k with e|e<;>simp[e]
theorem DO{w:World}{g cap m N:Nat}{cn:Bool}{M:Nat->Int}{cs:Array Value}(c:bg w g 44 cs)(b:cs.size=cap*2)
 (h1:∀j,j<m->∃x y,cs[j*2]?=some x/\cs[j*2+1]?=some y/\EV w N cn x y (M j))
 (h:∀j,m<=j->j<cap->cs[j*2]?=some (.bool false)/\cs[j*2+1]?=some (.slice none 0 0)):di w g cap cn (λ_=>N) (tn m M):=by
 refine⟨λk=>(cs[k]?).getD undef,by rw[<-Iv b];exact c,λj f=>?_⟩;unfold tn;by_cases b:j<m
 ·obtain⟨x,y,d,c,e⟩:=h1 j b;rw[ab b];show EV w N cn ((cs[j*2]?).getD undef) ((cs[j*2+1]?).getD undef) (M j);rw[d,c];exact e
 ·obtain⟨d,c⟩:=h j aq f;rw[aa b];show EV w N cn ((cs[j*2]?).getD undef) ((cs[j*2+1]?).getD undef) 0;rw[d,c];exact EV.zero _ _ _
theorem nL(w:World)(o:Obj):Ext w (w.drew.alloc o):=⟨F,F,F,by simp,λ_ a _=>heap_alloc_old w.drew _ a⟩
theorem Ls(n k:Nat)(h:k<n):(Builtin.zeroCells #[Value.bool false,Value.slice none 0 0] n)[k*2]?=some (.bool false)/\(Builtin.zeroCells #[Value.bool false,Value.slice none 0 0] n)[k*2+1]?=some (.slice none 0 0):=by
 rw[pr n (k*2) aq,pr n (k*2+1) aq,ab aq,aa aq];exact⟨F,F⟩
theorem vG{w:World}{g m K N:Nat}{cn:Bool}{M:Nat->Int}{olds:List Value}{x y:Value}{z:Int}(b:bg w g 44 (olds.toArray++[x,y].toArray++Builtin.zeroCells #[Value.bool false,Value.slice none 0 0] K))(a:olds.length=m*2)
 (i:∀j,j<m->∃x y,olds[j*2]?=some x/\olds[j*2+1]?=some y/\EV w N cn x y (M j)) (c:EV w N cn x y z):di w g (m+1+K) cn (λ_=>N) (tn (m+1) λj=>if j=m then z else M j):=by
 refine DO b ?_ (λj b=>?_) λj b b=>?_
 ·rw[Array.size_append,Array.size_append,size_zeroCells];simp only[List.size_toArray,List.length_cons,List.length_nil,a];omega
 ·by_cases e:j=m
  ·subst e;refine⟨x,y,?_,?_,by rw[ab F];exact c⟩
   ·rw[Array.getElem?_append_left (by simp[a]),Array.getElem?_append_right (by simp[a])];simp[a]
   ·rw[Array.getElem?_append_left (by simp[a]),Array.getElem?_append_right (by simp[a])];simp[a]
  ·obtain⟨h,f,c,b,d⟩:=i j aq;refine⟨h,f,?_,?_,by rw[aa e];exact d⟩
   ·rw[Array.getElem?_append_left (by simp[a];omega),Array.getElem?_append_left (by simp[a];omega)];simpa using c
   ·rw[Array.getElem?_append_left (by simp[a];omega),Array.getElem?_append_left (by simp[a];omega)];simpa using b
 ·obtain⟨c,b⟩:=Ls K (j-(m+1)) aq;rw[Array.getElem?_append_right (by simp[a];omega),Array.getElem?_append_right (by simp[a];omega)];rw[show j*2-(olds.toArray++[x,y].toArray).size=(j-(m+1))*2 by simp[a];omega,show j*2+1-(olds.toArray++[x,y].toArray).size=(j-(m+1))*2+1 by simp[a];omega];exact⟨c,b⟩
theorem CE{w:World}{v:Value}{m N ty:Nat}{cn:Bool}{M:Nat->Int}{a:Addr}{c:Nat}{x y:Value}{z:Int}(X:dD w v m cn N M)
 (Y:w.cell? (a.add 0)=some x) (h1:w.cell? (a.add 1)=some y) (C:EV w N cn x y z) (G:m<1099511627776):
 ∃H G,(Builtin.append_ #[49,49] ty #[v,.slice (some a) 1 c]).run Tryz.prog w=.ok H G/\dD G H (m+1) cn N (λj=>if j=m then z else M j)/\Kp w G/\
  Ch (λb=>some b=v.ownBlock) w G/\(H.ownBlock=v.ownBlock\/H.ownBlock=some w.heap.size):=by
 obtain⟨o,l⟩:=dJ;cases hi:Tryz.prog.info? 44 with
 |none=>rw[hi]at l;simp at l
 |some i=>
  rw[hi]at l;simp at l;obtain⟨R,n,L⟩:=l;have q:∀(j:Nat) (u:Value),([x,y]:List Value)[j]?=some u->w.cell? (a.add j)=some u:=λj u d=>by
   match j,d with
   |0,d=>simp at d;rw[<-d];exact Y
   |1,d=>simp at d;rw[<-d];exact h1
  have S:maxLen=9223372036854775807:=F;have J:(Value.agg #[Value.bool false,Value.slice none 0 0]).cells=#[Value.bool false,Value.slice none 0 0]:=F;rcases X with⟨rfl,rfl⟩|⟨g,cap,rfl,l,Q,W⟩
  ·have p:=run_append_nil (P:=Tryz.prog) w 49 ty 44 i _ o hi R a 1 c [x,y] (by rw[n];rfl) q aq aq (by rw[L];omega);rw[J]at p;have U:=grownCap_ge w 1 0 44;have T:=grownCap_le_maxLen w 1 0 44 (by rw[S];omega);have s:=nL w (.cells ([x,y].toArray++Builtin.zeroCells #[Value.bool false,Value.slice none 0 0] (grownCap w 1 0 44-1)) 44);have D:=vG (w:=w.drew.alloc (.cells ([x,y].toArray++Builtin.zeroCells #[Value.bool false,Value.slice none 0 0] (grownCap w 1 0 44-1)) 44)) (g:=w.heap.size) (m:=0) (K:=grownCap w 1 0 44-1) (N:=N) (cn:=cn) (M:=M) (olds:=[]) (x:=x) (y:=y) (z:=z) (by
    rw[show([]:List Value).toArray++[x,y].toArray=[x,y].toArray by simp];exact heap_alloc_new w.drew _) F (λj d=>absurd d aq) (C.kp (bJ s))
   rw[show 0+1+(grownCap w 1 0 44-1)=grownCap w 1 0 44 by omega]at D;exact⟨_,_,p,.inr ⟨w.heap.size,_,F,aq,aq,D⟩,bJ s,s.mono λ_ _ h=>h.elim,.inr rfl⟩
  ·obtain⟨f,I,E⟩:=W;have O:∀j,j<m->EV w N cn (f (j*2)) (f (j*2+1)) (M j):=λj d=>by
    have:=E j aq;unfold tn at this;rw[ab d]at this;exact this
   by_cases B:m+1<=cap
   ·have p:=run_append_room (P:=Tryz.prog) w 49 ty 44 i o hi g m cap (arr (cap*2) f) I a 1 c [x,y] (by rw[n];rfl) q (λu o=>by
     rcases List.mem_cons.1 o with rfl|o
     ·exact C.1.ep
     ·rcases List.mem_cons.1 o with rfl|o
      ·exact C.1.eN
      ·cases o) B (by rw[n,bf];simp;omega)
    rw[n]at p;have V:((arr (cap*2) f).toList.take (m*2)++[x,y]++(arr (cap*2) f).toList.drop (m*2+[x,y].length)).toArray=arr (cap*2) (λk=>if k=m*2 then x else if k=m*2+1 then y else f k):=by
     apply Array.ext_getElem?;intro k;by_cases r:k<cap*2
     ·rw[cE r];simp only[List.getElem?_toArray];rcases Nat.lt_or_ge k (m*2)with h1|h1
      ·rw[List.append_assoc,List.getElem?_append_left (by simp[arr];omega),aa aq,aa aq];simp[arr,h1,r]
      ·rcases Nat.lt_or_ge k (m*2+2)with l|l
       ·rw[List.getElem?_append_left (by simp[arr];omega),List.getElem?_append_right (by simp[arr];omega)];have A:min (m*2) (cap*2)=m*2:=aq;simp only[List.length_take,arr,Array.length_toList,Array.size_map,Array.size_range,A];rcases Nat.lt_or_ge k (m*2+1)with l|l
        ·obtain rfl:k=m*2:=aq;rw[ab F,Nat.sub_self];rfl
        ·obtain rfl:k=m*2+1:=aq;rw[aa aq,ab F,show m*2+1-m*2=1 by omega];rfl
       ·rw[List.getElem?_append_right (by simp[arr];omega),aa aq,aa aq];have A:min (m*2) (cap*2)=m*2:=aq;simp only[List.length_append,List.length_take,arr,Array.length_toList,Array.size_map,Array.size_range,A,List.length_cons,List.length_nil,List.getElem?_drop];rw[show m*2+(0+1+1)+(k-(m*2+(0+1+1)))=k by omega];simp[r]
     ·rw[Array.getElem?_eq_none (by simp[arr];omega),Array.getElem?_eq_none (by rw[bf];omega)]
    rw[V]at p;have r:=c8 I (jK E).lh (je w g (arr (cap*2) λk=>if k=m*2 then x else if k=m*2+1 then y else f k));refine⟨_,_,p,.inr ⟨g,cap,F,B,Q,_,setRow_heap w g _ _ _ _ I,λj d=>?_⟩,r,(je w g _).mono (λb _ b=>by rw[b];rfl),.inl F⟩;show EV _ N cn (if j*2=m*2 then x else if j*2=m*2+1 then y else f (j*2)) (if j*2+1=m*2 then x else if j*2+1=m*2+1 then y else f (j*2+1)) (if j<m+1 then(if j=m then z else M j)else 0);by_cases e:j=m
    ·subst e;rw[ab F,aa aq,ab F,ab aq,ab F];exact C.kp r
    ·rw[aa aq,aa aq,aa aq,aa aq,aa e];have:=E j d;unfold tn at this;by_cases t:j<m
     ·rw[ab t]at this;rw[ab aq];exact this.kp r
     ·rw[aa t]at this;rw[aa aq];exact this.kp r
   ·obtain rfl:m=cap:=aq;have p:=run_append_grow (P:=Tryz.prog) w 49 ty 44 i _ o hi R ⟨g,0,none⟩ m m ((List.range (m*2)).map f) (by rw[n];simp) (λj u d=>by
     rw[add_lit,I.cell,Nat.zero_add];by_cases t:j<m*2
     ·rw[cE t];simpa[t]using d
     ·rw[List.getElem?_eq_none (by simp;omega)]at d;cases d) a 1 c [x,y] (by rw[n];rfl) q aq aq (growslice_fits aq (by rw[L];omega))
    rw[J]at p;have U:=grownCap_ge w (m+1) m 44;have T:=grownCap_le_maxLen w (m+1) m 44 (by rw[S];omega);have s:=nL w (.cells (((List.range (m*2)).map f).toArray++[x,y].toArray++Builtin.zeroCells #[Value.bool false,Value.slice none 0 0] (grownCap w (m+1) m 44-(m+1))) 44);have D:=vG (w:=w.drew.alloc (.cells (((List.range (m*2)).map f).toArray++[x,y].toArray++Builtin.zeroCells #[Value.bool false,Value.slice none 0 0] (grownCap w (m+1) m 44-(m+1))) 44)) (g:=w.heap.size) (m:=m) (K:=grownCap w (m+1) m 44-(m+1)) (N:=N) (cn:=cn) (M:=M) (olds:=(List.range (m*2)).map f) (x:=x) (y:=y) (z:=z)
     (heap_alloc_new w.drew _) aA (λj d=>⟨f (j*2),f (j*2+1),by simp[show j*2<m*2 by omega],by simp[show j*2+1<m*2 by omega],(O j d).kp (bJ s)⟩) (C.kp (bJ s))
    rw[show m+1+(grownCap w (m+1) m 44-(m+1))=grownCap w (m+1) m 44 by omega]at D;exact⟨_,_,p,.inr ⟨w.heap.size,_,F,aq,aq,D⟩,bJ s,s.mono λ_ _ h=>h.elim,.inr rfl⟩
theorem yJ{n:Nat}{S:World->World->Prop}{k:Nat}{K:Fr->World->Prop}{f:Fr}{w:World}{d ty:Nat}{i g:Operand}{l:String}{o:Array Edge}{B:Option (Nat×Bool)}
 {v:Value} {m N c:Nat} {cn:Bool} {M:Nat->Int} {a:Addr} {x y:Value} {z:Int}
 (t:k=2\/k=1/\∀w',Ch (λb=>some b=v.ownBlock) w w'->S w w') (q:ev n f i=v) (p:ev n f g=.slice (some a) 1 c) (u:dD w v m cn N M)
 (A:w.cell? (a.add 0)=some x) (h1:w.cell? (a.add 1)=some y) (r:EV w N cn x y z) (s:m<1099511627776)
 (h:∀e w',dD w' e (m+1) cn N (λj=>if j=m then z else M j)->Kp w w'->Ch (λb=>some b=v.ownBlock) w w'->(e.ownBlock=v.ownBlock\/e.ownBlock=some w.heap.size)->K (cg f d e) w'):
 R1 Tryz.prog n S k ⟨some d,.call { callee:=.builtin .append,args:=#[i,g],argTypes:=#[49,49] },ty,l,o,B⟩ K f w:=by
 obtain⟨e,w',b,l,j,g,i⟩:=CE (ty:=ty) (c:=c) u A h1 r s;refine iE (w':=w') (v:=e) (t.imp id λh=>⟨h.1,h.2 _ g⟩) ?_ (h e w' l j g i);simp only[execOp,resolve,invoke,builtin,Sem.run_bind,Sem.run_pure,Result.andThen_ok,List.map_toArray,List.map_cons,List.map_nil,q,p,b]
