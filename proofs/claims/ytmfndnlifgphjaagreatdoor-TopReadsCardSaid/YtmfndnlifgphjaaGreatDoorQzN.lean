import Derived.Test.YtmfndnlifgphjaaGreatDoorQzM
set_option maxHeartbeats 64000000
open Go.Proofs.YtmfndnlifgphjaaGreatDoor
namespace Go.Hn
section
open Go.aW Go.c7 Go.Proofs.Qq
structure Dr(n m r:Nat)(A W:Mt)(dv:Int):Prop where
 nz:aO n A≠0
 ed:dv=aO r A
 d0:dv≠0
 val:∀i j,r<=i->i<n->j<m->W i j=bm r A i j
theorem Dr.start{n m:Nat}{A:Mt}(h:aO n A≠0):Dr n m 0 A A 1:=⟨h,F,by decide,λi j _ _ _=>(Ek A i j).symm⟩
theorem Dr.dS{n m r:Nat}{A W:Mt}{a:Int}(h:Dr n m r A W a)(a:r<n)(b:n<=m)(c:∀i,r<=i->i<n->W i r=0):False:=
 h.nz (zI n r A a (by rw[<-h.ed];exact h.d0) λi b a=>by rw[<-h.val i r b a aq];exact c i b a)
theorem Dr.swap{n m r p:Nat}{A W:Mt}{b:Int}(h:Dr n m r A W b)(c:r<n)(a:r<=p)(kO:p<n):Dr n m r (swp r p A) (swp r p W) b:=by
 refine⟨?_,by rw[rH A a];exact h.ed,h.d0,λi j d e b=>?_⟩
 ·rw[D_ A c kO];have:=h.nz;split<;>omega
 ·rw[Ik A a d];simp only[swp];split
  ·exact h.val p j a kO b
  ·split
   ·exact h.val r j (Nat.le_refl r) c b
   ·exact h.val i j d e b
theorem Dr.elim{n m r:Nat}{A W:Mt}{b:Int}(h:Dr n m r A W b)(c:r<n)(a:n<=m){i j:Nat}(a:r<i)(a:i<n)(d:j<m):(W r r*W i j+-W i r*W r j)/b=bm (r+1) A i j:=by
 have f:=fv r A i j (by rw[<-h.ed];exact h.d0);rw[h.val r r (Nat.le_refl r) c aq,h.val i j aq a d,h.val i r aq a aq,h.val r j (Nat.le_refl r) c d];have e:bm r A r r*bm r A i j+-bm r A i r*bm r A r j=b*bm (r+1) A i j:=by rw[h.ed,f];grind
 rw[e];exact Int.mul_ediv_cancel_left _ h.d0
theorem Dr.next{n m r:Nat}{A W W':Mt}{a:Int}(h:Dr n m r A W a)(b:r<n)(d:n<=m)(c:W r r≠0)(e:∀i j,r<i->i<n->j<m->W' i j=(W r r*W i j+-W i r*W r j)/a):Dr n m (r+1) A W' (W r r):=
 ⟨h.nz,by rw[h.val r r (Nat.le_refl r) b aq,db],c,λi j a a c=>by rw[e i j aq a c];exact h.elim b d aq a c⟩
end
end Go.Hn
namespace Go.Proofs.Qq
section
open Go Go.cW Go.c7 Go.Proofs
theorem nD:gz Tryz.prog 179=true:=by kernel_rfl
theorem kG:eP Tryz.prog 181 2=true:=by kernel_rfl
theorem HK:cI Tryz.prog 181 0 0:=by
 unfold cI;intro a w;simp[Instr.fieldAt,run_underlying Tryz.underlying181,Instr.sureAddr,fieldPlace,cK nD]
theorem HJ:cI Tryz.prog 181 1 1:=by
 unfold cI;intro a w;simp[Instr.fieldAt,run_underlying Tryz.underlying181,Instr.sureAddr,fieldPlace,cK (aX (t:=3) F)]
theorem wy:fo Tryz.prog 181 (.agg #[.slice none 0 0,.int .i64 0]):=by unfold fo;kernel_rfl
theorem Di{n:Nat}{S:World->World->Prop}{k:Nat}{K:Fr->World->Prop}{f:Fr}{w:World}{d ty:Nat}{x y:Operand}{pos:String}{aft:Array Edge}{gd:Option (Nat×Bool)}{A:Option Addr}{m c:Nat}{z:Int}(b:ev n f x=.slice A m c)(a:ev n f y=.int .i64 z)(h:K (cg f d (.agg #[.slice A m c,.int .i64 z])) w):
 R1 Tryz.prog n S k ⟨some d,.build 181 #[(0,x),(1,y)],ty,pos,aft,gd⟩ K f w:=by
 refine cH (v:=.agg #[.slice A m c,.int .i64 z]) (λw=>?_) h;have e:(#[(0,x),(1,y)]:Array (Nat×Operand)).map (λ(i,x)=>(i,ev n f x))=#[(0,.slice A m c),(1,.int .i64 z)]:=by simp[b,a]
 have b:(Value.agg #[.slice none 0 0,.int .i64 0]).cells=#[.slice none 0 0,.int .i64 0]:=F;have g:(Value.slice A m c).cells=#[.slice A m c]:=F;have a:(Value.int .i64 z).cells=#[.int .i64 z]:=F;simp[execOp,e,Instr.build,run_underlying Tryz.underlying181,Instr.fill,b,g,a,cK nD,cK (aX (t:=3) F)]
theorem gp{G G':Prop}(h:G')(t:Gw G'->G:=by intro hgg;(repeat (first|refine ta ?_|(refine mT ?_;(first|refine dP eO rfl rfl (by omega) ?_|refine fh eO rfl rfl (by omega) ?_|refine dX eO rfl (by omega) ?_|refine dY eO rfl (by omega) ?_|refine jC eO rfl ?_|refine ji (by decide) nD F (by assumption) ?_|refine re (by decide) nD F (by assumption) ?_|refine ku (by decide) (aX F) F (by assumption) ?_|refine ku (by decide) nD F (by assumption) ?_|refine l9 (by decide) aQ F (by assumption) (by assumption) ?_|refine wi (by decide) kG F (by assumption) (by assumption) ?_|refine wk (by decide) kG F (by assumption) (by assumption) ?_|refine aV HK rfl ?_|refine aV HJ rfl ?_|refine Di rfl rfl ?_))));exact hgg.out):G:=t ⟨h⟩
section
variable {n:Nat}{S:World->World->Prop}{k:Nat}{K:Fr->World->Prop}{f:Fr}{w:World}
 {d ty:Nat} {x y:Operand} {pos:String} {aft:Array Edge} {gd:Option (Nat×Bool)}
theorem Bp{g c cap:Nat}{ad:Addr}{l h1:Nat->Value}(u:ev n f x=.slice (some ⟨g,0,none⟩) c c)(t:ev n f y=.slice (some ad) c cap)(r:bg w g 49 (arr c l))(B:Ll (arr c l))(q:∀j,j<c->w.cell? (ad.add (j*1))=some (h1 j)/\(h1 j).oneCell'=true)
 (h:∀w',bg w' g 49 (arr c h1)->Ch (λb=>b=g) w w'->Kp w w'->w'.heap.size=w.heap.size->K (cg f d (.int .i64 (c:Int))) w'):
 R1 Tryz.prog n S 2 ⟨some d,.call { callee:=.builtin .copy,args:=#[x,y],argTypes:=#[179,179] },ty,pos,aft,gd⟩ K f w:=by
 have o:∀k,k<c->w.cell? (ad.add k)=some (h1 k)/\(h1 k).oneCell'=true:=λk m=>by
  have:=q k m;rwa[Nat.mul_one]at this
 have s:=run_loadCells_list (P:=Tryz.prog) w ad ((List.range c).map h1) (λj v b=>by
  simp only[List.getElem?_map]at b;by_cases q:j<c
  ·rw[List.getElem?_range q]at b;simp at b;rw[<-b];exact(o j q).1
  ·rw[List.getElem?_eq_none (by simp;omega)]at b;simp at b)
 have p:=run_storeCells_at Tryz.prog g 0 49 ((List.range c).map h1) 0 (arr c l) w r (by simp[bf]) (λv z=>by
  obtain⟨k,m,rfl⟩:=List.mem_map.1 z;exact(o k (by simpa using m)).2)
 have b:(((arr c l).toList.take (0+0)++(List.range c).map h1++(arr c l).toList.drop (0+0+((List.range c).map h1).length)).toArray)=arr c h1:=by
  have:(arr c l).toList.drop (0+0+((List.range c).map h1).length)=[]:=List.drop_eq_nil_of_le (by simp[bf]);rw[this];apply Array.ext_getElem?;intro i;by_cases e:i<c
  ·rw[cE e];simp[e]
  ·simp[arr,e]
 rw[b]at p;have m:=c8 r B (je w g (arr c h1));obtain⟨A,a⟩:=eO;cases e:Tryz.prog.info? 49 with
 |none=>rw[e]at a;simp at a
 |some i=>
  rw[e]at a;simp at a;obtain⟨b,b,i⟩:=a;have a:Nat.min c c=c:=Nat.min_self c;simp only[List.length_map,List.length_range]at s;refine iE (v:=.int .i64 (c:Int)) (w':=w.setRow g (arr c h1)) (.inl F) ?_ (h _ (setRow_heap w g _ _ _ _ r) (je _ _ _) m (by simp[World.setRow]));simp[execOp,resolve,invoke,builtin,u,t,Builtin.copy_,run_underlying A,Builtin.lenOf,Builtin.firstCells,sizeOf,typeInfo,e,b,s,p,goInt]
end
theorem Lk{n:Nat}{S:World->World->Prop}{k:Nat}{K:Fr->World->Prop}{f:Fr}{w:World}{d ty:Nat}{x t:Operand}{y:String}{E:Array Edge}{V:Option (Nat×Bool)}
 {g s r m N:Nat} {cn:Bool} {M U:Nat->Int}
 (J:k=2\/k=1/\∀o,Ext w o->S w o) (H:ev n f x=.slice (some ⟨g,0,none⟩) r r) (G:ev n f t=.slice (some ⟨s,0,none⟩) m m) (Q:iZ w g r r cn (λ_=>N) M) (O:di w s m cn (λ_=>N) U)
 (W:1<=m) (W:r<=1048576) (W:m<=1048576)
 (h:∀o cap,iZ o w.heap.size (r+m) cap cn (λ_=>N) (λj=>if j<r then M j else U (j-r))->Ext w o->K (cg f d (.slice (some ⟨w.heap.size,0,none⟩) (r+m) cap)) o):
 R1 Tryz.prog n S k ⟨some d,.call { callee:=.builtin .append,args:=#[x,t],argTypes:=#[49,49] },ty,y,E,V⟩ K f w:=by
 obtain⟨I,a⟩:=dJ;cases hi:Tryz.prog.info? 44 with
 |none=>rw[hi]at a;simp at a
 |some i=>
  rw[hi]at a;simp at a;obtain⟨o,q,C⟩:=a;obtain⟨T,R,p,a,t,L⟩:=Q;obtain⟨l,D,A⟩:=O;have B:maxLen=9223372036854775807:=F;have z:(Value.agg #[Value.bool false,Value.slice none 0 0]).cells=#[Value.bool false,Value.slice none 0 0]:=F;have e:=run_append_grow (P:=Tryz.prog) w 49 ty 44 i _ I hi o ⟨g,0,none⟩ r r ((List.range (r*2)).map p) (by rw[q];simp) (λj u c=>by
   rw[add_lit,a.cell,Nat.zero_add];by_cases b:j<r*2
   ·rw[cE b];simpa[b]using c
   ·rw[List.getElem?_eq_none (by simp;omega)]at c;cases c) ⟨s,0,none⟩ m m ((List.range (m*2)).map l) (by rw[q];simp) (λj u c=>by
   rw[add_lit,D.cell,Nat.zero_add];by_cases b:j<m*2
   ·rw[cE b];simpa[b]using c
   ·rw[List.getElem?_eq_none (by simp;omega)]at c;cases c) aq aq (growslice_fits aq (by rw[C];omega))
  rw[z]at e;have a:=grownCap_ge w (r+m) r 44;have a:=grownCap_le_maxLen w (r+m) r 44 (by rw[B];omega);obtain⟨a,b⟩ : ∃a,a=((List.range (r*2)).map p).toArray++((List.range (m*2)).map l).toArray++Builtin.zeroCells #[Value.bool false,Value.slice none 0 0] (grownCap w (r+m) r 44-(r+m)):=⟨_,F⟩;rw[<-b]at e;have o:=nL w (.cells a 44);refine iE (v:=.slice (some ⟨w.heap.size,0,none⟩) (r+m) (grownCap w (r+m) r 44)) (J.imp id λh=>⟨h.1,h.2 _ o⟩) ?_ (h _ (grownCap w (r+m) r 44) ?_ o)
  ·simp only[execOp,resolve,invoke,builtin,Sem.run_bind,Sem.run_pure,Result.andThen_ok,List.map_toArray,List.map_cons,List.map_nil,H,G,e]
  ·have s:∀q,q<r*2->a[q]?=some (p q):=λq e=>by
    rw[b,Array.append_assoc,Array.getElem?_append_left (by simp;omega)];simp[e]
   have h:∀q,q<m*2->a[r*2+q]?=some (l q):=λq e=>by
    rw[b,Array.append_assoc,Array.getElem?_append_right aA,Array.getElem?_append_left (by simp;omega)];simp[e]
   have Iu:∀q,q<grownCap w (r+m) r 44-(r+m)->a[(r+m)*2+q*2]?=some (.bool false)/\a[(r+m)*2+q*2+1]?=some (.slice none 0 0):=λq e=>by
    obtain⟨u,t⟩:=Ls (grownCap w (r+m) r 44-(r+m)) q e;rw[b];constructor
    ·rw[Array.getElem?_append_right (by simp;omega)];rw[show(r+m)*2+q*2-(((List.range (r*2)).map p).toArray++((List.range (m*2)).map l).toArray).size=q*2 by simp;omega];exact u
    ·rw[Array.getElem?_append_right (by simp;omega)];rw[show(r+m)*2+q*2+1-(((List.range (r*2)).map p).toArray++((List.range (m*2)).map l).toArray).size=q*2+1 by simp;omega];exact t
   have p:=DO (w:=w.drew.alloc (.cells a 44)) (g:=w.heap.size) (cap:=grownCap w (r+m) r 44) (m:=r+m) (N:=N) (cn:=cn) (M:=λj=>if j<r then M j else U (j-r)) (cs:=a) (heap_alloc_new w.drew _) (by
    rw[b,Array.size_append,Array.size_append,size_zeroCells];simp only[List.size_toArray,List.length_map,List.length_range,List.length_cons,List.length_nil];omega) (λj c=>by
    by_cases e:j<r
    ·refine⟨_,_,s (j*2) aq,s (j*2+1) aq,?_⟩;rw[ab e];exact(L j e).kp (bJ o)
    ·refine⟨l ((j-r)*2),l ((j-r)*2+1),?_,?_,?_⟩
     ·have:=h ((j-r)*2) aq;rwa[show r*2+(j-r)*2=j*2 by omega]at this
     ·have:=h ((j-r)*2+1) aq;rwa[show r*2+((j-r)*2+1)=j*2+1 by omega]at this
     ·rw[aa e];exact(A (j-r) aq).kp (bJ o)) (λj T R=>by
    have:=Iu (j-(r+m)) aq;rwa[show(r+m)*2+(j-(r+m))*2=j*2 by omega]at this)
   exact(p.rg (show r+m<=_ by omega) aq).congr λj c=>⟨aD,by unfold tn;rw[ab c]⟩
def j4(r:Nat)(M:Nat->Nat->Int):Nat->Nat->Int:=λj i=>if i<r then M i j else if i-r=j then 1 else 0
def PE(w:World)(r c N:Nat)(M:Nat->Nat->Int)(v:Value)(w':World):Prop:=
 Ext w w'/\∃gO gs cp,v=.agg #[.slice (some ⟨gO,0,none⟩) c c,.int .i64 (r:Int)]/\w.heap.size<=gO/\(∀i,i<c->w.heap.size<=gs i)/\cF w' gO gs cp c (r+c) false (λ_ _=>N) (j4 r M)
structure ma(w:World)(gO r c k N:Nat)(gs cp:Nat->Nat)(M:Nat->Nat->Int):Prop where
 outer:bg w gO 49 (arr c λi=>.slice (some ⟨gs i,0,none⟩) (if i<k then r+c else r) (cp i))
 row:∀i,i<c->iZ w (gs i) (if i<k then r+c else r) (cp i) false (λ_=>N) (j4 r M i)
 ne:∀i,i<c->gs i≠gO
 inj:∀i j,i<c->j<c->gs i=gs j->i=j
 full:∀i,k<=i->i<c->cp i=r
section
variable {w w':World}{gO r c k N:Nat}{gs cp:Nat->Nat}{M:Nat->Nat->Int}
theorem ma.kp{a:Nat->Prop}(h:ma w gO r c k N gs cp M)(f:Kp w w')(b:Ch a w w')(e:¬a gO)(d:∀i,i<c->¬a (gs i)):ma w' gO r c k N gs cp M:=
 ⟨h.outer.ch b e,λi a=>(h.row i a).kp f b (d i a),h.ne,h.inj,h.full⟩
theorem ma.Y(h:ma w gO r c k N gs cp M)(a:Ext w w'):ma w' gO r c k N gs cp M:=h.kp (bJ a) a id λ_ _=>id
theorem ma.start(h:cF w gO gs (λ_=>r) c r false (λ_ _=>N) λj i=>M i j):ma w gO r c 0 N gs (λ_=>r) M:=
 ⟨h.outer,λi a=>(h.row i a).congr λj a=>⟨aD,by unfold j4;rw[ab (show j<r from a)]⟩,h.ne,h.inj,λ_ _ _=>rfl⟩
theorem ma.at(h:ma w gO r c k N gs cp M){i:Nat}(b:i<c)(a:k<=i):w.cell? ⟨gO,0+i*1,none⟩=some (.slice (some ⟨gs i,0,none⟩) r r):=by
 rw[h.outer.cell,cE aq,Nat.zero_add,Nat.mul_one,aa aq,h.full i a b]
theorem ma.done(h:ma w gO r c c N gs cp M):cF w gO gs cp c (r+c) false (λ_ _=>N) (j4 r M):=
 ⟨by have:=h.outer;rwa[dO (h':=λi=>.slice (some ⟨gs i,0,none⟩) (r+c) (cp i)) (λi a=>by rw[ab a])]at this,λi a=>by have:=h.row i a;rwa[ab a]at this,h.ne,h.inj⟩
theorem ma.step{g p:Nat}(h:ma w gO r c k N gs cp M)(_hk:k<c)(t:iZ w' g (r+c) p false (λ_=>N) (j4 r M k))(u:Ch (λb=>b=gO) w w')(q:Kp w w')
 (b:bg w' gO 49 (arr c (cg (λi=>Value.slice (some ⟨gs i,0,none⟩) (if i<k then r+c else r) (cp i)) (0+k*1) (.slice (some ⟨g,0,none⟩) (r+c) p)))) (s:g≠gO) (n:∀a,a<c->gs a≠g):
 ma w' gO r c (k+1) N (fT gs k g) (fT cp k p) M:=by
 refine⟨?_,λi j=>?_,λi j=>?_,λa l o m e=>?_,λi d f=>?_⟩
 ·rw[dO (h':=λi=>.slice (some ⟨fT gs k g i,0,none⟩) (if i<k+1 then r+c else r) (fT cp k p i)) λi _=>?_]at b
  ·exact b
  ·rw[Nat.zero_add,Nat.mul_one];by_cases e:i=k
   ·subst e;rw[ct,de,de,ab aq]
   ·rw[b9 _ _ e,cG _ _ e,cG _ _ e];by_cases d:i<k
    ·rw[ab d,ab aq]
    ·rw[aa d,aa aq]
 ·by_cases e:i=k
  ·subst e;rw[de,de,ab aq];exact t
  ·rw[cG _ _ e,cG _ _ e];have:=(h.row i j).kp q u (h.ne i j);by_cases d:i<k
   ·rw[ab d]at this;rw[ab aq];exact this
   ·rw[aa d]at this;rw[aa aq];exact this
 ·by_cases e:i=k
  ·subst e;rw[de];exact s
  ·rw[cG _ _ e];exact h.ne i j
 ·by_cases d:a=k
  ·by_cases f:l=k
   ·omega
   ·subst d;rw[de,cG _ _ f]at e;exact absurd e.symm (n l m)
  ·by_cases f:l=k
   ·subst f;rw[de,cG _ _ d]at e;exact absurd e (n a o)
   ·rw[cG _ _ d,cG _ _ f]at e;exact h.inj a l o m e
 ·rw[cG _ _ aq];exact h.full i aq f
end
theorem Cg(v:Value)(r c N:Nat)(M:Nat->Nat->Int)(w:World)(h:cB (EI N) w v r (λ_=>c) M)(an:1<=r)(u:r<=65536)(a8:1<=c)(u:c<=65536)(av:1<=N):
 aT Tryz.prog 153 #[v] w (PE w r c N M):=by
 obtain⟨ad,ae,u,e,ai,p⟩:=h.at (show 0<r by omega);subst e;obtain⟨_,_,e,u,u,u⟩:=id h;cases e;obtain⟨a0,u,rfl,_,_,_⟩:=id p;refine bo (n:=38) Tryz.func153 F rfl az aA ?_;refine gp ?_;refine aS (.inl F) wy ?_;intro X q I al;replace q:bg X w.heap.size 181 #[.slice none 0 0,.int .i64 0]:=q;obtain⟨m,a6⟩ : ∃g,g=w.heap.size:=⟨_,F⟩;rw[<-a6]at q⊢;refine gp ?_;have hh:cB (EB N false) X (.slice (some ad) r ae) r (λ_=>c) M:=h.imp (λp u p=>aP I p) λx y z p=>⟨IV.Y p I,λe=>by cases e⟩;refine aJ (ql _ r c N false M X hh an aq a8 aq) ?_;rintro _ p ⟨Q,s,d,rfl,au,t,Y⟩;refine gp ?_;refine aS (.inl F) wy ?_;intro u a P ak;replace a:bg u p.heap.size 181 #[.slice none 0 0,.int .i64 0]:=a;obtain⟨o,a7⟩ : ∃g,g=p.heap.size:=⟨_,F⟩;rw[<-a7]at a⊢;refine gp ?_;refine aZ kG (.inl F) F rfl rfl rfl a aA ?_;intro p D J aj;replace D:bg p o 181 #[.slice (some ⟨s,0,none⟩) c c,.int .i64 (r:Int)]:=D;have z1:=I.size;have z2:=Q.size;have zR:=q.lt;have zO:=Y.lt;have zg:∀i,i<c->X.heap.size<=d i/\d i<o:=λi l=>by have:=t i l;have:=(Y.row i l).lt;omega
 have B:ma p s r c 0 N d (λ_=>r) M:=((ma.start Y).Y P).kp (c8 a (by
  intro j z C
  match j,C with
  |0,C=>cases C
  |1,C=>cases C) J) J aq (λi l=>by have:=zg i l;omega)
 have V:=(q.Y (Q.trans P)).ch J (show m≠o by omega);have A:=J.aK (I.trans (Q.trans P)) λb hb=>aq;have O:∀i,i<c->w.heap.size<=d i/\d i≠o/\d i≠m:=λi l=>by have:=zg i l;omega
 have p:s≠o/\s≠m/\m≠o/\w.heap.size<=s/\w.heap.size<=m:=aq;clear hh I Q P q a Y J al ak aj zg t z1 z2 zR zO au a7 a6;obtain⟨T,S⟩:=bh D;refine gp ?_;refine aY (λf a=>∃d L,f 2=.pointer (some ⟨m,0,none⟩)/\f 3=.pointer (some ⟨o,0,none⟩)/\Ext w a/\ma a s r c c N d L M/\bg a o 181 #[.slice (some ⟨s,0,none⟩) c c,.int .i64 (r:Int)]/\bg a m 181 #[.slice none 0 0,.int .i64 0]/\∀i,i<c->w.heap.size<=d i/\d i≠o/\d i≠m) ?_ ?_
 ·refine gp ?_;clear T S;refine aU (λq f a=>∃k d L,q=c-k/\k<=c/\f 0=.slice (some ad) r ae/\f 2=.pointer (some ⟨m,0,none⟩)/\f 3=.pointer (some ⟨o,0,none⟩)/\f 13=.slice (some ⟨s,0,none⟩) c c/\f 14=.int .i64 (c:Int)/\f 15=.int .i64 ((k:Nat):Int)/\Ext w a/\ma a s r c k N d L M/\bg a o 181 #[.slice (some ⟨s,0,none⟩) c c,.int .i64 (r:Int)]/\bg a m 181 #[.slice none 0 0,.int .i64 0]/\∀i,i<c->w.heap.size<=d i/\d i≠o/\d i≠m)
   c ⟨0,d,_,F,aE,F,F,F,F,F,F,A,B,D,V,O⟩ ?_
  clear A B D V O d;rintro q f w5 ⟨k,d,L,rfl,a,u,H,G,q,p,a,A,B,R,K,t⟩;rw[ui u,ui H,ui G,ui q,ui p,ui a];clear u H G q p a;by_cases E:k<c;rotate_left
  ·obtain rfl:k=c:=aq;refine gp ?_;exact⟨d,L,F,F,A,B,R,K,t⟩
  have p:=B.at E (Nat.le_refl k);have a:=aP A ai;refine gp ?_;refine cJ dJ (.inl F) F rfl aD aq aq ?_;intro w6 J Q Z;obtain⟨X,q⟩ : ∃g,g=w5.heap.size:=⟨_,F⟩;rw[<-q]at J⊢;have Y:=fq false N J;have g:=B.outer.lt;have g:=R.lt;have g:=K.lt;have x:∀i,i<c->d i<X:=λi l=>by have:=(B.row i l).lt;omega
  clear p a;refine gp ?_;refine aJ (du 1 w6 aw aw) ?_;rintro _ a ⟨I,a0,a,rfl,a⟩;refine gp ?_;have g:Bd N 1:=Bd.mono (N:=1) (by unfold Bd;decide) av;refine c_ (.inl F) F rfl (Y.Y I) E (a.ev false g) ?_;intro a y q P a6;have g:=Q.trans I;have u:=q.aK (A.trans g) (λb hb=>by have:=A.size;omega);have a:=(B.Y g).kp P q aq (λi l=>by have:=x i l;omega);have p:=(R.Y g).ch q (show o≠X by omega);have x:=(K.Y g).ch q (show m≠X by omega);have X:=A.size;clear A B R K J Q Z Y I q P a6 g;refine gp ?_;refine cP [(0,3),(1,0),(2,3),(3,3),(4,3),(5,1),(6,3),(7,2)] mixed az λQ g _=>?_;replace u:=u.trans g;replace a:=a.Y g;replace p:=p.Y g;replace x:=x.Y g;replace y:=y.Y g;obtain⟨T,S⟩:=bh p;have g:=a.row k E;rw[aa aq,a.full k (Nat.le_refl k) E]at g;refine gp ?_;refine Lk (.inr ⟨F,λ_ h=>h⟩) rfl rfl g (y.congr (bn':=λ_=>N) (M':=λi=>if i=k then 1 else 0) λi _=>⟨by simp only[cC];split<;>exact Nat.le_refl _,by simp only[ef]⟩) a8 aq aq ?_;intro g g J h;refine gp ?_;have I:=a.Y h;have P:=I.outer;refine cZ (aX F) (.inl F) F rfl P (by rw[bf];omega) ?_;intro g y g q;rw[cT]at y;have q:=c8 P (ff λ_ _=>⟨_,_,_,rfl⟩).lh g;have P:=u.size;have P:=a.outer.lt;have P:∀i,i<c->d i<Q.heap.size:=λi l=>(a.row i l).lt;have a:=p.lt;have a:=x.lt;have a:=(J.kp q g aq).congr (bn':=λ_=>N) (M':=j4 r M k) λi _=>⟨aD,by
   unfold j4;by_cases e:i<r
   ·rw[ab e,ab e]
   ·rw[aa e,aa e]⟩
  have J:=I.step E a g q y aq (λa q=>by have:=P a q;omega);have a:=g.aK (u.trans h) λb hb=>aq;have Gc:=(p.Y h).ch g (show o≠s by omega);have o:=(x.Y h).ch g (show m≠s by omega);clear T S;refine gp ?_;refine⟨_,?_,k+1,_,_,F,aq,F,F,F,F,F,F,a,J,Gc,o,λi l=>?_⟩
  ·omega
  ·by_cases e:i=k
   ·subst e;rw[de];omega
   ·rw[cG _ _ e];exact t i l
 clear A B D V O T S;rintro f w5 ⟨d,L,H,G,A,B,R,K,t⟩;rw[ui H,ui G];clear H G;obtain⟨T,S⟩:=bh R;refine gp ?_;refine aZ kG (.inl F) F rfl rfl rfl K aA ?_;intro w6 U W Z;replace U:bg w6 m 181 #[.slice (some ⟨s,0,none⟩) c c,.int .i64 (r:Int)]:=U;have ar:=c8 K (by
  intro j z C
  match j,C with
  |0,C=>cases C
  |1,C=>cases C) W
 have e:=B.kp ar W aq λi l=>(t i l).2.2;have a:=W.aK A λb hb=>aq;clear T S;refine gp ?_;exact eZ F kG F U ⟨a,s,d,L,F,aq,λi l=>by have:=t i l;omega,e.done⟩
theorem I4(N:Nat):∀j,N<=Nb N j
 |0=>Nat.le_refl _
 |j+1=>Nat.le_trans (I4 N j) (jF N j)
theorem M6{n m N k i j:Nat}{A:Nat->Nat->Int}(a:1<=N)(b:n<=16)(c:∀i j,i<n->j<m->Bd N (A i j))(b:k<n)(b:n<=m)(b:i<n)(b:j<m):Bd (Nb N 16) (Go.aW.bm k A i j):=by
 unfold Go.aW.bm;rw[<-eJ];exact(ie a λa b a a=>c _ _ (by split<;>omega) (by split<;>omega)).mono (mW N (k+1) aq)
theorem _root_.Go.cW.bg.kS{w:World}{g b:Nat}{t a:TypeId}{cs c:Array Value}(h:bg w g t cs)(h':bg w b a c)(d:t≠a):g≠b:=λe=>by
 subst e;unfold bg at h h';rw[h]at h';injection h' with h';injection h' with _ h2;exact d h2
def jw(W:Nat->Nat->Int)(r j:Nat)(a:Int):Nat->Nat->Int:=λt k=>if r<t/\t<j then(W r r*W t k+-W t r*W r k)/a else W t k
theorem tf(W:Nat->Nat->Int){r j:Nat}(a:Int)(d:r<j):fT (jw W r j a) j (λk=>rG (jw W r j a) r j r k/a)=jw W r (j+1) a:=by
 funext t k;have c:∀k,jw W r j a r k=W r k:=λk=>by unfold jw;rw[aa aq]
 have b:∀k,jw W r j a j k=W j k:=λk=>by unfold jw;rw[aa aq]
 by_cases e:t=j
 ·subst e;rw[de];unfold rG;rw[c,c,b,b];unfold jw;rw[ab aq]
 ·rw[cG _ _ e];unfold jw;by_cases a:r<t/\t<j
  ·rw[ab a,ab aq]
  ·rw[aa a,aa aq]
theorem rU(gP n m a7 N:Nat)(d H:Nat->Nat)(C:Nat->Nat->Int)(w:World)(hP:cF w gP d H n m false (λ_ _=>N) C)(bX:Go.aW.aO n C≠0)(x:1<=n)(hn:n<=16)(b7:n<=m)(hm:m<=1048576)(_htop:a7<=1048576)(dr:1<=N)(x:N<=8):
 aT Tryz.prog 181 #[.agg #[.slice (some ⟨gP,0,none⟩) n n,.int .i64 (a7:Int)]] w λv o=>Ext w o/\k8 o v n λk=>k:=by
 refine bo (n:=92) Tryz.func181 F rfl az aA ?_;have bC:∀i j,i<n->j<m->Bd N (C i j):=λa b ha c=>by
  obtain⟨x,y,_,_,hv⟩:=(hP.row a ha).at c;exact hv.1.bd
 obtain⟨K,hK⟩ : ∃K,K=Nb N 16:=⟨_,F⟩;have dq:N<=K:=by rw[hK];exact I4 N 16
 have ds:K<1048576:=by
  have h1:=LP N 16;rw[<-hK]at h1;have:(2:Nat)^16=65536:=aw;rw[this]at h1;omega
 have b8:∀i,i<n->d i<w.heap.size:=λi hi=>(hP.row i hi).lt;have s:Ext w w:=Ext.refl w;refine gp ?_;refine bO (v:=.agg _) (.inl F) F ?_;intro y x P bG;have hA:bg y w.heap.size 181 #[.slice (some ⟨gP,0,none⟩) n n,.int .i64 (a7:Int)]:=x;obtain⟨gA,y⟩ : ∃g,g=w.heap.size:=⟨_,F⟩;rw[<-y]at hA⊢;have c9:w.heap.size<=gA:=by have:=s.size;omega
 replace s:=s.trans P;clear x bG y P;refine gp ?_;refine gp ?_;refine ib [(0,3),(1,0),(2,3),(4,3),(5,0)] [(3,[(6,3)],[]),(7,[],[])] [(8,2)] mixed az λcA P _=>?_;replace hA:=hA.Y P;replace s:=s.trans P;clear P;obtain⟨a0,a1⟩:=bh hA;refine gp ?_;refine gp ?_;refine dN [(3,[(6,3)])] [fA 7 3 181 (.agg #[.slice none 0 0,.int .i64 0])] [13,16,3] az (λa ha f' o _ _=>by
  rcases List.mem_singleton.1 ha with rfl;exact cm wy F f' o) ?_
 have bt:=hA.lt;have cu:=s.size;refine cS λwa y=>?_;refine gp ?_;refine cJ eO (.inr ⟨F,λ_ h=>h⟩) rfl rfl aD aq aq ?_;intro wb x bG dd;obtain⟨z,c9⟩ : ∃g,g=wa.heap.size:=⟨_,F⟩;rw[<-c9]at x⊢;have hO:bg wb z 49 (arr n λ_=>.slice none 0 0):=by
  rw[jA,Nat.mul_one]at x;rw[dO (h':=λ_=>Value.slice none 0 0) (λk _=>by simp[Value.cells,Nat.mod_one])]at x;exact x
 have dy:w.heap.size<=z/\gA<z:=by have:=s.size;have:=hA.lt;have:=y.size;omega
 replace s:=s.trans (y.trans bG);replace hA:=hA.Y (y.trans bG);clear x y bG dd c9 a0 a1;refine gp ?_;refine eW λy P x cb cx=>?_;replace hA:=hA.Y P;replace hO:=hO.Y P;replace s:=s.trans P;clear P;obtain⟨ai,bl⟩:=cb _ aG;have ai:cA.heap.size<=x 3:=ai;have bx:bg y (x 3) 181 #[.slice none 0 0,.int .i64 0]:=bl;show Ro _ _ _ _ _ _ (cg _ 3 (.pointer (some ⟨x 3,0,none⟩))) _;generalize x 3=l at*;have x:w.heap.size<=l:=aq;have x:l≠gA:=aq;clear cb cx cu bl ai bt;have cu:l≠z/\l≠gA:=⟨bx.kS hO aw,aq⟩;refine gp ?_;refine aZ kG (.inl F) F rfl rfl rfl bx aA ?_;intro w3 I x y;replace I:bg w3 l 181 #[.slice (some ⟨z,0,none⟩) n n,.int .i64 (a7:Int)]:=I;have a8:=x.aK s λb c=>aq;have c9:=hA.ch x (show gA≠l by omega);have bG:=hO.ch x (show z≠l by omega);clear hA hO bx x y s;refine gp ?_;obtain⟨a0,a1⟩:=bh c9;obtain⟨f0,f1⟩:=bh I;have x:=hP.Y a8;refine gp ?_;refine Bp (h1:=λi=>.slice (some ⟨d i,0,none⟩) m (H i)) rfl rfl bG (ff λ_ _=>⟨_,_,_,rfl⟩).lh (λj hj=>⟨by rw[add_lit];exact x.at hj,F⟩) ?_;intro w4 bx ai bl cb;have P:cF w4 z d H n m false (λ_ _=>N) C:=⟨bx,λi hi=>(x.row i hi).kp bl ai (by have:=b8 i hi;omega),λi hi=>by have:=b8 i hi;omega,x.inj⟩;have y:=ai.aK a8 λb c=>aq;have bt:=I.ch ai cu.1;clear bx ai bl cb a0 a1 f0 f1 x a8 bG c9 I;refine gp ?_;refine aJ (du 1 w4 aw aw) ?_;rintro _ w5 ⟨ai,x,s1,rfl,bG⟩;refine gp ?_;refine aS (.inl F) a_ ?_;intro w6 aH Q bu;have bl:=Bx.zero (N:=1) false aH;obtain⟨B,bx⟩ : ∃g,g=w5.heap.size:=⟨_,F⟩;rw[<-bx]at bl⊢;have x:Bd K 1:=Bd.mono (N:=1) (by unfold Bd;decide) aq;refine gp ?_;refine aL (.inl F) F rfl bl ((bG.Y Q).ev false x) ?_;intro w7 av V aj cb;have x:=ai.trans Q;have zO:=P.lt;have zW:=bt.lt;have c9:=ai.size;have ar:=((P.Y x).kp aj V aq (λi hi=>by have:=(P.row i hi).lt;omega)).congr (bn':=λ_ _=>K) (M':=C) (λ_ _ _ _=>⟨dq,rfl⟩);have ay:=(bt.Y x).ch V (show l≠B by omega);have an:=V.aK (y.trans x) (λb c=>by have:=y.size;omega);have b6:∀t,t<n->d t≠l/\d t≠B:=λt R=>by have:=b8 t R;have:=y.size;omega
 have cu:z≠l/\z≠B/\l≠B/\w.heap.size<=z/\w.heap.size<=l/\w.heap.size<=B:=by have:=y.size;omega
 have bD:Go.Hn.Dr n m 0 C C 1:=Go.Hn.Dr.start bX;clear P bt ai Q aH bl V aj cb bu bG x y bx zO zW c9 hP;refine gp ?_;refine aY (λf o=>∃v,f 4=v/\Ext w o/\k8 o v n λk=>k) ?_ ?_
 ·refine gp ?_;refine aU (λq f o=>∃r A W Y d H U T,q=n-r/\r<=n/\f 3=.pointer (some ⟨l,0,none⟩)/\f 4=.slice U r T/\f 5=.pointer (some ⟨B,0,none⟩)/\f 6=.int .i64 ((r:Nat):Int)/\Ext w o/\cF o z d H n m false (λ_ _=>K) W/\bg o l 181 #[.slice (some ⟨z,0,none⟩) n n,.int .i64 (a7:Int)]/\Bx o B K false Y/\
   kM 3 (.int .i64 0) o (.slice U r T) r (λk=>.int .i64 ((k:Nat):Int))/\(∀b,some b=(Value.slice U r T).ownBlock->l<b/\B<b/\z<b/\∀t,t<n->d t≠b)/\Go.Hn.Dr n m r A W Y/\(∀i j,i<n->j<m->Bd N (A i j))/\∀t,t<n->d t≠l/\d t≠B)
   n ⟨0,C,C,1,d,H,none,0,F,aE,F,F,F,F,an,ar,ay,av,kM.nil,λb c=>(by cases c),bD,bC,b6⟩ ?_
  clear an ar ay av b6 bD bC b8 bX d H;rintro q f w1 ⟨r,A,W,Y,d,H,U,T,rfl,x,G,u,E,D,s,X,S,hD,hL,a6,hI,bA,M⟩;rw[ui G,ui u,ui E,ui D];clear G u E D;refine aN ?_;obtain⟨f0,f1⟩:=bh S;by_cases L:r<n;rotate_left
  ·obtain rfl:r=n:=aq;refine gp ?_;exact⟨_,F,s,hL.ints λ_ _=>rfl⟩
  refine gp ?_;refine aY (λf o=>∃j,f 3=.pointer (some ⟨l,0,none⟩)/\f 4=.slice U r T/\f 5=.pointer (some ⟨B,0,none⟩)/\f 6=.int .i64 (r:Int)/\f 7=.int .i64 (r:Int)/\f 8=.int .i64 ((j:Nat):Int)/\r<=j/\j<n/\Ext w1 o/\W j r≠0) ?_ ?_
  ·refine gp ?_;refine aU (λq f o=>∃j,q=n-j/\j<=n/\f 3=.pointer (some ⟨l,0,none⟩)/\f 4=.slice U r T/\f 5=.pointer (some ⟨B,0,none⟩)/\f 6=.int .i64 (r:Int)/\f 7=.int .i64 (r:Int)/\f 8=.int .i64 ((j:Nat):Int)/\r<=j/\Ext w1 o/\∀i,r<=i->i<j->W i r=0)
    (n-r) ⟨r,F,aq,F,F,F,F,F,F,Nat.le_refl r,Ext.refl _,λi h1 h2=>absurd h2 aq⟩ ?_
   rintro q f w2 ⟨j,rfl,hj,G,u,E,D,O,P,b8,y,hz⟩;rw[ui G,ui u,ui E,ui D,ui O,ui P];clear G u E D O P;refine aN ?_;by_cases x:j<n;rotate_left
   ·exact(hI.dS L b7 λi h1 h2=>hz i h1 aq).elim
   have g0:=aP y f0;have ai:=(X.Y y).at x;obtain⟨x0,y0,c4,bY,hv⟩:=((X.Y y).row j x).at (show r<m by omega);clear f0 f1;refine gp ?_;refine aJ (dw _ _ _ K w2 hv.1 aq) ?_;rintro _ w3 ⟨bl,rfl⟩;have g1:=aP bl g0;by_cases ai:W j r=0
   ·have hs:(W j r).sign=0:=by rw[ai];rfl
    refine gp ?_;refine⟨_,?_,j+1,F,aq,F,F,F,F,F,F,aq,y.trans bl,λi h1 h2=>?_⟩
    ·omega
    ·by_cases e:i=j
     ·rw[e];exact ai
     ·exact hz i h1 aq
   ·have hs:¬(W j r).sign=0:=λh=>ai (Int.sign_eq_zero_iff_zero.1 h);refine gp ?_;exact⟨j,F,F,F,F,F,F,b8,x,y.trans bl,ai⟩
  rintro f w2 ⟨j,G,u,E,D,O,P,b8,x,y,h⟩;rw[ui G,ui u,ui E,ui D,ui O,ui P];clear G u E D O P;refine aN ?_;clear f0 f1;replace s:=s.trans y;replace X:=X.Y y;replace S:=S.Y y;replace hD:=hD.Y y;replace hL:=hL.Y y;clear y;obtain⟨f0,f1⟩:=bh S;refine gp ?_;refine aJ (xE z n m r j K d H false W w2 X L x aq) ?_;rintro _ w3 ⟨rfl,hC,hk,I⟩;have au:=hI.swap (p:=j) L b8 x;have c6:swp r j W r r≠0:=by simpa only[swp,ab]using h
  have bW:∀a b,a<n->b<m->Bd N (swp r j A a b):=λa b ha c=>by
   simp only[swp];split
   ·exact bA _ _ x c
   ·split
    ·exact bA _ _ L c
    ·exact bA _ _ ha c
  have ak:∀t,t<n->(swp r j d t≠l/\swp r j d t≠B)/\∀b,some b=(Value.slice U r T).ownBlock->swp r j d t≠b:=λt R=>by
   simp only[swp];split
   ·exact⟨M _ x,λb c=>(a6 b c).2.2.2 _ x⟩
   ·split
    ·exact⟨M _ L,λb c=>(a6 b c).2.2.2 _ L⟩
    ·exact⟨M _ R,λb c=>(a6 b c).2.2.2 _ R⟩
  have al:∀b,some b=(Value.slice U r T).ownBlock->l<b/\B<b/\z<b:=λb c=>⟨(a6 b c).1,(a6 b c).2.1,(a6 b c).2.2.1⟩;have a8:=hC.aK s λb c=>aq;have bK:=S.ch hC (show l≠z by omega);have bI:=hD.kp hk hC aq;have bB:=hL.ch hC (λb c e=>by have:=(a6 b c).2.2.1;omega);clear s X S hD hL hC hk f0 f1 hI bA M a6 h;generalize swp r j d=bM at I ak;generalize swp r j H=bS at I;generalize swp r j W=W1 at I au c6;generalize swp r j A=A1 at au bW;refine gp ?_;refine aY (λf o=>∃d H,f 3=.pointer (some ⟨l,0,none⟩)/\f 4=.slice U r T/\f 5=.pointer (some ⟨B,0,none⟩)/\f 6=.int .i64 (r:Int)/\f 7=.int .i64 (r:Int)/\Ext w o/\cF o z d H n m false (λ_ _=>K) (jw W1 r n Y)/\bg o l 181 #[.slice (some ⟨z,0,none⟩) n n,.int .i64 (a7:Int)]/\Bx o B K false Y/\
   kM 3 (.int .i64 0) o (.slice U r T) r (λk=>.int .i64 ((k:Nat):Int))/\∀t,t<n->(d t≠l/\d t≠B)/\∀b,some b=(Value.slice U r T).ownBlock->d t≠b) ?_ ?_
  ·refine gp ?_;refine aU (λq f o=>∃J d H,q=n-J/\J<=n/\r<J/\f 3=.pointer (some ⟨l,0,none⟩)/\f 4=.slice U r T/\f 5=.pointer (some ⟨B,0,none⟩)/\f 6=.int .i64 (r:Int)/\f 7=.int .i64 (r:Int)/\f 9=.int .i64 ((J:Nat):Int)/\Ext w o/\cF o z d H n m false (λ_ _=>K) (jw W1 r J Y)/\bg o l 181 #[.slice (some ⟨z,0,none⟩) n n,.int .i64 (a7:Int)]/\Bx o B K false Y/\
    kM 3 (.int .i64 0) o (.slice U r T) r (λk=>.int .i64 ((k:Nat):Int))/\∀t,t<n->(d t≠l/\d t≠B)/\∀b,some b=(Value.slice U r T).ownBlock->d t≠b)
    (n-(r+1)) ⟨r+1,bM,bS,F,aq,aq,F,F,F,F,F,F,a8,I.congr (λa b _ _=>⟨aD,by unfold jw;rw[aa aq]⟩),bK,bI,bB,ak⟩ ?_
   clear a8 I bK bI bB ak bM bS;rintro q f w4 ⟨J,d,H,rfl,a,b4,G,u,E,D,O,a,s,X,S,hD,hL,M⟩;rw[ui G,ui u,ui E,ui D,ui O,ui a];clear G u E D O a;refine aN ?_;obtain⟨f0,f1⟩:=bh S;by_cases b5:J<n;rotate_left
   ·obtain rfl:J=n:=aq;refine gp ?_;exact⟨d,H,F,F,F,F,F,s,X,S,hD,hL,M⟩
   obtain⟨h,a,cf,cd⟩:=id hD;obtain⟨g0,g1⟩:=bh cf;refine gp ?_;refine aJ (uI z n m r J r K d H _ Y h a w4 X L b5 aq cd.1 au.d0 aq hm aq ds λk hk=>?_) ?_
   ·have e:rG (jw W1 r J Y) r J r k/Y=jw W1 r (J+1) Y J k:=by rw[<-tf W1 Y b4,de]
    rw[e];unfold jw;rw[ab aq,au.elim L b7 b4 b5 hk,hK];exact M6 dr hn bW aq b7 b5 hk
   rintro _ w5 ⟨rfl,g,a,hC,hk,ae⟩;rw[tf W1 Y b4]at ae;have bc:=hC.aK s λb c=>aq;have b0:=S.ch hC (show l≠z by omega);have ax:=hD.kp hk hC aq;have bj:=hL.ch hC (λb c e=>by have:=(al b c).2.2;omega);have cv:∀t,t<n->(fT d J g t≠l/\fT d J g t≠B)/\∀b,some b=(Value.slice U r T).ownBlock->fT d J g t≠b:=λt R=>by
    by_cases e:t=J
    ·subst e;rw[de];have:=S.lt;have:=hD.lt;exact⟨aq,λb c=>by have:=hL.lt c;omega⟩
    ·rw[cG _ _ e];exact M t R
   clear s X S hD hL hC hk f0 f1 g0 g1 cf cd;refine gp ?_;refine⟨_,?_,J+1,_,_,F,aq,aq,F,F,F,F,F,F,bc,ae,b0,ax,bj,cv⟩;omega
  clear a8 I bK bI bB ak bM bS;rintro f w4 ⟨d,H,G,u,E,D,O,s,X,S,hD,hL,M⟩;rw[ui G,ui u,ui E,ui D,ui O];clear G u E D O;obtain⟨f0,f1⟩:=bh S;have o:=X.at L;obtain⟨x0,y0,c4,bY,hv⟩:=(X.row r L).at (show r<m by omega);have a:jw W1 r n Y r r=W1 r r:=by unfold jw;rw[aa aq]
  rw[a]at hv;refine gp ?_;refine aL (.inl F) F rfl hD hv ?_;intro w5 ax a g h;have bc:=a.aK s λb c=>aq;have b0:=S.ch a (show l≠B by omega);have ae:=X.kp g a (show z≠B by omega) (λt R=>(M t R).1.2);have bj:=hL.ch a (λb c e=>by have:=(al b c).2.1;omega);clear s X S hD hL a g f0 f1 o c4 bY hv h;refine gp ?_;refine dp (v0:=.int .i64 (r:Int)) iJ F (.inl F) F rfl ?_;intro w6 aH Q bu;have ca:=iY aH;refine gp ?_;refine k7 iJ F (.inl F) F rfl (bj.Y Q) ca F aq aw (λ_ _ _=>aA) (λ_=>aA) ?_;intro a w7 cc aj V c5;obtain⟨cq,ck,rfl,_,_⟩:=cc.slice;have Z:∀b,some b=(Value.slice U r T).ownBlock->b≠l/\b≠B/\b≠z/\(∀t,t<n->d t≠b)/\w.heap.size<=b:=λb c=>by
   have:=al b c;exact⟨aq,aq,aq,λt R=>(M t R).2 b c,aq⟩
  have an:Ext w w7:=V.aK (bc.trans Q) λb c=>(Z b c).2.2.2.2;have ay:=(b0.Y Q).ch V λe=>(Z _ e).1 rfl;have av:=(ax.Y Q).kp aj V λe=>(Z _ e).2.1 rfl;have ar:=(ae.Y Q).kp aj V (λe=>(Z _ e).2.2.1 rfl) λt R e=>(Z _ e).2.2.2.1 t R rfl;have dx:=au.next (W':=jw W1 r n Y) L b7 c6 (λi j h1 h2 _=>by unfold jw;rw[ab ⟨h1,h2⟩])
  have cy:∀b,some b=(Value.slice cq (r+1) ck).ownBlock->l<b/\B<b/\z<b/\∀t,t<n->d t≠b:=λb c=>by
   rcases c5 with e|e
   ·rw[e]at c;have:=al b c;exact⟨this.1,this.2.1,this.2.2,(Z b c).2.2.2.1⟩
   ·rw[e]at c;injection c with c;have h1:=b0.lt;have h2:=ax.lt;have a:=ae.lt;have a:=Q.size;exact⟨aq,aq,aq,λt R=>by have:=(ae.row t R).lt;omega⟩
  clear bc ae b0 ax bj Q aH ca bu V aj c5 Z;refine gp ?_;refine⟨_,?_,r+1,A1,_,_,d,H,cq,ck,F,aq,F,F,F,F,an,ar,ay,av,cc.congr λk hk=>?_,cy,dx,bW,λt R=>(M t R).1⟩
  ·omega
  ·by_cases e:k=r
   ·rw[ab e,e]
   ·rw[aa e]
 clear an ar ay av b6 bD;rintro f w1 ⟨v,u,s,hI⟩;rw[ui u];clear u;refine gp ?_;exact bF F rfl ⟨s,hI⟩
