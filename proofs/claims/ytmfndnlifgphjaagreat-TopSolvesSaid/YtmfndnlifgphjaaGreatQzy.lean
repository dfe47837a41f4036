import Derived.Test.YtmfndnlifgphjaaGreatQzx
set_option maxHeartbeats 64000000
open Go.Proofs.YtmfndnlifgphjaaGreat
namespace Go.Hn
section
open Go.bc Go.cV Go.Proofs.Qq
structure x6(n m r:Nat)(A W:Mt)(dv:Int):Prop where
 nz:aQ n A≠0
 ed:dv=aQ r A
 d0:dv≠0
 val:∀i j,r<=i->i<n->j<m->W i j=bm r A i j
theorem x6.start{n m:Nat}{A:Mt}(h:aQ n A≠0):x6 n m 0 A A 1:=⟨h,F,by decide,λi j _ _ _=>(yN A i j).symm⟩
theorem x6.cR{n m r:Nat}{A W:Mt}{a:Int}(h:x6 n m r A W a)(a:r<n)(b:n<=m)(c:∀i,r<=i->i<n->W i r=0):False:=
 h.nz (pJ n r A a (by rw[<-h.ed];exact h.d0) λi b a=>by rw[<-h.val i r b a aq];exact c i b a)
theorem x6.swap{n m r p:Nat}{A W:Mt}{b:Int}(h:x6 n m r A W b)(c:r<n)(a:r<=p)(jv:p<n):x6 n m r (swp r p A) (swp r p W) b:=by
 refine⟨?_,by rw[oH A a];exact h.ed,h.d0,λi j d e b=>?_⟩
 ·rw[yB A c jv];have:=h.nz;split<;>omega
 ·rw[CC A a d];simp only[swp];split
  ·exact h.val p j a jv b
  ·split
   ·exact h.val r j (Nat.le_refl r) c b
   ·exact h.val i j d e b
theorem x6.elim{n m r:Nat}{A W:Mt}{b:Int}(h:x6 n m r A W b)(c:r<n)(a:n<=m){i j:Nat}(a:r<i)(a:i<n)(d:j<m):(W r r*W i j+-W i r*W r j)/b=bm (r+1) A i j:=by
 have f:=fW r A i j (by rw[<-h.ed];exact h.d0);rw[h.val r r (Nat.le_refl r) c aq,h.val i j aq a d,h.val i r aq a aq,h.val r j (Nat.le_refl r) c d];have e:bm r A r r*bm r A i j+-bm r A i r*bm r A r j=b*bm (r+1) A i j:=by rw[h.ed,f];grind
 rw[e];exact Int.mul_ediv_cancel_left _ h.d0
theorem x6.next{n m r:Nat}{A W W':Mt}{a:Int}(h:x6 n m r A W a)(b:r<n)(d:n<=m)(c:W r r≠0)(e:∀i j,r<i->i<n->j<m->W' i j=(W r r*W i j+-W i r*W r j)/a):x6 n m (r+1) A W' (W r r):=
 ⟨h.nz,by rw[h.val r r (Nat.le_refl r) b aq,s8],c,λi j a a c=>by rw[e i j aq a c];exact h.elim b d aq a c⟩
end
end Go.Hn
namespace Go.Proofs.Qq
section
open Go Go.cU Go.cV Go.Proofs
theorem kY:ia Tryz.prog 94=true:=by kernel_rfl
theorem jz:dL Tryz.prog 96 2=true:=by kernel_rfl
theorem BU:c_ Tryz.prog 96 0 0:=by
 unfold c_;intro a w;simp[Instr.fieldAt,run_underlying Tryz.underlying96,Instr.sureAddr,fieldPlace,cQ kY]
theorem BS:c_ Tryz.prog 96 1 1:=by
 unfold c_;intro a w;simp[Instr.fieldAt,run_underlying Tryz.underlying96,Instr.sureAddr,fieldPlace,cQ (aW (t:=3) F)]
theorem r6:im Tryz.prog 96 (.agg #[.slice none 0 0,.int .i64 0]):=by unfold im;kernel_rfl
theorem xV{n:Nat}{S:World->World->Prop}{k:Nat}{K:Fr->World->Prop}{f:Fr}{w:World}{d ty:Nat}{x y:Operand}{pos:String}{aft:Array Edge}{gd:Option (Nat×Bool)}{A:Option Addr}{m c:Nat}{z:Int}(b:ev n f x=.slice A m c)(a:ev n f y=.int .i64 z)(h:K (bS f d (.agg #[.slice A m c,.int .i64 z])) w):
 R1 Tryz.prog n S k ⟨some d,.build 96 #[(0,x),(1,y)],ty,pos,aft,gd⟩ K f w:=by
 refine cD (v:=.agg #[.slice A m c,.int .i64 z]) (λw=>?_) h;have e:(#[(0,x),(1,y)]:Array (Nat×Operand)).map (λ(i,x)=>(i,ev n f x))=#[(0,.slice A m c),(1,.int .i64 z)]:=by simp[b,a]
 have b:(Value.agg #[.slice none 0 0,.int .i64 0]).cells=#[.slice none 0 0,.int .i64 0]:=F;have g:(Value.slice A m c).cells=#[.slice A m c]:=F;have a:(Value.int .i64 z).cells=#[.int .i64 z]:=F;simp[execOp,e,Instr.build,run_underlying Tryz.underlying96,Instr.fill,b,g,a,cQ kY,cQ (aW (t:=3) F)]
theorem gp{G G':Prop}(h:G')(t:Gw G'->G:=by intro hgg;(repeat (first|refine uP ?_|(refine nO ?_;(first|refine dP dF rfl rfl (by omega) ?_|refine dY dF rfl rfl (by omega) ?_|refine kK dF rfl (by omega) ?_|refine l8 dF rfl (by omega) ?_|refine iC dF rfl ?_|refine rW (by decide) kY F (by assumption) ?_|refine rX (by decide) kY F (by assumption) ?_|refine ki (by decide) (aW F) F (by assumption) ?_|refine ki (by decide) kY F (by assumption) ?_|refine l7 (by decide) aN F (by assumption) (by assumption) ?_|refine rU (by decide) jz F (by assumption) (by assumption) ?_|refine rV (by decide) jz F (by assumption) (by assumption) ?_|refine b6 BU rfl ?_|refine b6 BS rfl ?_|refine xV rfl rfl ?_))));exact hgg.out):G:=t ⟨h⟩
section
variable {n:Nat}{S:World->World->Prop}{k:Nat}{K:Fr->World->Prop}{f:Fr}{w:World}
 {d ty:Nat} {x y:Operand} {pos:String} {aft:Array Edge} {gd:Option (Nat×Bool)}
theorem v9{g c cap:Nat}{p:Addr}{l h1:Nat->Value}(u:ev n f x=.slice (some ⟨g,0,none⟩) c c)(t:ev n f y=.slice (some p) c cap)(r:bh w g 27 (arr c l))(C:Hq (arr c l))(B:∀j,j<c->w.cell? (p.add (j*1))=some (h1 j)/\(h1 j).oneCell'=true)
 (h:∀w',bh w' g 27 (arr c h1)->Ch (λb=>b=g) w w'->Kp w w'->w'.heap.size=w.heap.size->K (bS f d (.int .i64 (c:Int))) w'):
 R1 Tryz.prog n S 2 ⟨some d,.call { callee:=.builtin .copy,args:=#[x,y],argTypes:=#[94,94] },ty,pos,aft,gd⟩ K f w:=by
 have o:∀k,k<c->w.cell? (p.add k)=some (h1 k)/\(h1 k).oneCell'=true:=λk m=>by
  have:=B k m;rwa[Nat.mul_one]at this
 have s:=run_loadCells_list (P:=Tryz.prog) w p ((List.range c).map h1) (λj v b=>by
  simp only[List.getElem?_map]at b;by_cases p:j<c
  ·rw[List.getElem?_range p]at b;simp at b;rw[<-b];exact(o j p).1
  ·rw[List.getElem?_eq_none (by simp;omega)]at b;simp at b)
 have q:=run_storeCells_at Tryz.prog g 0 27 ((List.range c).map h1) 0 (arr c l) w r (by simp[bk]) (λv z=>by
  obtain⟨k,m,rfl⟩:=List.mem_map.1 z;exact(o k (by simpa using m)).2)
 have b:(((arr c l).toList.take (0+0)++(List.range c).map h1++(arr c l).toList.drop (0+0+((List.range c).map h1).length)).toArray)=arr c h1:=by
  have:(arr c l).toList.drop (0+0+((List.range c).map h1).length)=[]:=List.drop_eq_nil_of_le (by simp[bk]);rw[this];apply Array.ext_getElem?;intro i;by_cases e:i<c
  ·rw[b8 e];simp[e]
  ·simp[arr,e]
 rw[b]at q;have m:=cK r C (gz w g (arr c h1));obtain⟨A,a⟩:=dF;cases e:Tryz.prog.info? 27 with
 |none=>rw[e]at a;simp at a
 |some i=>
  rw[e]at a;simp at a;obtain⟨b,b,i⟩:=a;have a:Nat.min c c=c:=Nat.min_self c;simp only[List.length_map,List.length_range]at s;refine kJ (v:=.int .i64 (c:Int)) (w':=w.setRow g (arr c h1)) (.inl F) ?_ (h _ (setRow_heap w g _ _ _ _ r) (gz _ _ _) m (by simp[World.setRow]));simp[execOp,resolve,invoke,builtin,u,t,Builtin.copy_,run_underlying A,Builtin.lenOf,Builtin.firstCells,sizeOf,typeInfo,e,b,s,q,goInt]
end
theorem FA{n:Nat}{S:World->World->Prop}{k:Nat}{K:Fr->World->Prop}{f:Fr}{w:World}{d ty:Nat}{x t:Operand}{y:String}{E:Array Edge}{V:Option (Nat×Bool)}
 {g s r m N:Nat} {cn:Bool} {M U:Nat->Int}
 (J:k=2\/k=1/\∀o,Ext w o->S w o) (H:ev n f x=.slice (some ⟨g,0,none⟩) r r) (G:ev n f t=.slice (some ⟨s,0,none⟩) m m) (Q:f_ w g r r cn (λ_=>N) M) (O:dk w s m cn (λ_=>N) U)
 (W:1<=m) (W:r<=1048576) (W:m<=1048576)
 (h:∀o cap,f_ o w.heap.size (r+m) cap cn (λ_=>N) (λj=>if j<r then M j else U (j-r))->Ext w o->K (bS f d (.slice (some ⟨w.heap.size,0,none⟩) (r+m) cap)) o):
 R1 Tryz.prog n S k ⟨some d,.call { callee:=.builtin .append,args:=#[x,t],argTypes:=#[27,27] },ty,y,E,V⟩ K f w:=by
 obtain⟨I,a⟩:=eE;cases hi:Tryz.prog.info? 35 with
 |none=>rw[hi]at a;simp at a
 |some i=>
  rw[hi]at a;simp at a;obtain⟨o,q,C⟩:=a;obtain⟨T,R,p,a,t,L⟩:=Q;obtain⟨l,D,A⟩:=O;have B:maxLen=9223372036854775807:=F;have z:(Value.agg #[Value.bool false,Value.slice none 0 0]).cells=#[Value.bool false,Value.slice none 0 0]:=F;have e:=run_append_grow (P:=Tryz.prog) w 27 ty 35 i _ I hi o ⟨g,0,none⟩ r r ((List.range (r*2)).map p) (by rw[q];simp) (λj u c=>by
   rw[add_lit,a.cell,Nat.zero_add];by_cases b:j<r*2
   ·rw[b8 b];simpa[b]using c
   ·rw[List.getElem?_eq_none (by simp;omega)]at c;cases c) ⟨s,0,none⟩ m m ((List.range (m*2)).map l) (by rw[q];simp) (λj u c=>by
   rw[add_lit,D.cell,Nat.zero_add];by_cases b:j<m*2
   ·rw[b8 b];simpa[b]using c
   ·rw[List.getElem?_eq_none (by simp;omega)]at c;cases c) aq aq (growslice_fits aq (by rw[C];omega))
  rw[z]at e;have a:=grownCap_ge w (r+m) r 35;have a:=grownCap_le_maxLen w (r+m) r 35 (by rw[B];omega);obtain⟨a,b⟩ : ∃a,a=((List.range (r*2)).map p).toArray++((List.range (m*2)).map l).toArray++Builtin.zeroCells #[Value.bool false,Value.slice none 0 0] (grownCap w (r+m) r 35-(r+m)):=⟨_,F⟩;rw[<-b]at e;have o:=lk w (.cells a 35);refine kJ (v:=.slice (some ⟨w.heap.size,0,none⟩) (r+m) (grownCap w (r+m) r 35)) (J.imp id λh=>⟨h.1,h.2 _ o⟩) ?_ (h _ (grownCap w (r+m) r 35) ?_ o)
  ·simp only[execOp,resolve,invoke,builtin,Sem.run_bind,Sem.run_pure,Result.andThen_ok,List.map_toArray,List.map_cons,List.map_nil,H,G,e]
  ·have t:∀q,q<r*2->a[q]?=some (p q):=λq e=>by
    rw[b,Array.append_assoc,Array.getElem?_append_left (by simp;omega)];simp[e]
   have s:∀q,q<m*2->a[r*2+q]?=some (l q):=λq e=>by
    rw[b,Array.append_assoc,Array.getElem?_append_right aA,Array.getElem?_append_left (by simp;omega)];simp[e]
   have JQ:∀q,q<grownCap w (r+m) r 35-(r+m)->a[(r+m)*2+q*2]?=some (.bool false)/\a[(r+m)*2+q*2+1]?=some (.slice none 0 0):=λq e=>by
    obtain⟨x,u⟩:=FF (grownCap w (r+m) r 35-(r+m)) q e;rw[b];constructor
    ·rw[Array.getElem?_append_right (by simp;omega)];rw[show(r+m)*2+q*2-(((List.range (r*2)).map p).toArray++((List.range (m*2)).map l).toArray).size=q*2 by simp;omega];exact x
    ·rw[Array.getElem?_append_right (by simp;omega)];rw[show(r+m)*2+q*2+1-(((List.range (r*2)).map p).toArray++((List.range (m*2)).map l).toArray).size=q*2+1 by simp;omega];exact u
   have p:=yp (w:=w.drew.alloc (.cells a 35)) (g:=w.heap.size) (cap:=grownCap w (r+m) r 35) (m:=r+m) (N:=N) (cn:=cn) (M:=λj=>if j<r then M j else U (j-r)) (cs:=a) (heap_alloc_new w.drew _) (by
    rw[b,Array.size_append,Array.size_append,size_zeroCells];simp only[List.size_toArray,List.length_map,List.length_range,List.length_cons,List.length_nil];omega) (λj c=>by
    by_cases e:j<r
    ·refine⟨_,_,t (j*2) aq,t (j*2+1) aq,?_⟩;rw[ae e];exact(L j e).kp (bN o)
    ·refine⟨l ((j-r)*2),l ((j-r)*2+1),?_,?_,?_⟩
     ·have:=s ((j-r)*2) aq;rwa[show r*2+(j-r)*2=j*2 by omega]at this
     ·have:=s ((j-r)*2+1) aq;rwa[show r*2+((j-r)*2+1)=j*2+1 by omega]at this
     ·rw[aa e];exact(A (j-r) aq).kp (bN o)) (λj T R=>by
    have:=JQ (j-(r+m)) aq;rwa[show(r+m)*2+(j-(r+m))*2=j*2 by omega]at this)
   exact(p.rg (show r+m<=_ by omega) aq).congr λj c=>⟨aD,by unfold nB;rw[ae c]⟩
def iW(r:Nat)(M:Nat->Nat->Int):Nat->Nat->Int:=λj i=>if i<r then M i j else if i-r=j then 1 else 0
def JU(w:World)(r c N:Nat)(M:Nat->Nat->Int)(v:Value)(w':World):Prop:=
 Ext w w'/\∃gO gs cp,v=.agg #[.slice (some ⟨gO,0,none⟩) c c,.int .i64 (r:Int)]/\w.heap.size<=gO/\(∀i,i<c->w.heap.size<=gs i)/\bO w' gO gs cp c (r+c) false (λ_ _=>N) (iW r M)
structure kr(w:World)(gO r c k N:Nat)(gs cp:Nat->Nat)(M:Nat->Nat->Int):Prop where
 outer:bh w gO 27 (arr c λi=>.slice (some ⟨gs i,0,none⟩) (if i<k then r+c else r) (cp i))
 row:∀i,i<c->f_ w (gs i) (if i<k then r+c else r) (cp i) false (λ_=>N) (iW r M i)
 ne:∀i,i<c->gs i≠gO
 inj:∀i j,i<c->j<c->gs i=gs j->i=j
 full:∀i,k<=i->i<c->cp i=r
section
variable {w w':World}{gO r c k N:Nat}{gs cp:Nat->Nat}{M:Nat->Nat->Int}
theorem kr.kp{a:Nat->Prop}(h:kr w gO r c k N gs cp M)(f:Kp w w')(b:Ch a w w')(e:¬a gO)(d:∀i,i<c->¬a (gs i)):kr w' gO r c k N gs cp M:=
 ⟨h.outer.ch b e,λi a=>(h.row i a).kp f b (d i a),h.ne,h.inj,h.full⟩
theorem kr.Y(h:kr w gO r c k N gs cp M)(a:Ext w w'):kr w' gO r c k N gs cp M:=h.kp (bN a) a id λ_ _=>id
theorem kr.start(h:bO w gO gs (λ_=>r) c r false (λ_ _=>N) λj i=>M i j):kr w gO r c 0 N gs (λ_=>r) M:=
 ⟨h.outer,λi a=>(h.row i a).congr λj a=>⟨aD,by unfold iW;rw[ae (show j<r from a)]⟩,h.ne,h.inj,λ_ _ _=>rfl⟩
theorem kr.at(h:kr w gO r c k N gs cp M){i:Nat}(b:i<c)(a:k<=i):w.cell? ⟨gO,0+i*1,none⟩=some (.slice (some ⟨gs i,0,none⟩) r r):=by
 rw[h.outer.cell,b8 aq,Nat.zero_add,Nat.mul_one,aa aq,h.full i a b]
theorem kr.done(h:kr w gO r c c N gs cp M):bO w gO gs cp c (r+c) false (λ_ _=>N) (iW r M):=
 ⟨by have:=h.outer;rwa[du (h':=λi=>.slice (some ⟨gs i,0,none⟩) (r+c) (cp i)) (λi a=>by rw[ae a])]at this,λi a=>by have:=h.row i a;rwa[ae a]at this,h.ne,h.inj⟩
theorem kr.step{g p:Nat}(h:kr w gO r c k N gs cp M)(_hk:k<c)(t:f_ w' g (r+c) p false (λ_=>N) (iW r M k))(u:Ch (λb=>b=gO) w w')(q:Kp w w')
 (b:bh w' gO 27 (arr c (bS (λi=>Value.slice (some ⟨gs i,0,none⟩) (if i<k then r+c else r) (cp i)) (0+k*1) (.slice (some ⟨g,0,none⟩) (r+c) p)))) (s:g≠gO) (n:∀a,a<c->gs a≠g):
 kr w' gO r c (k+1) N (eF gs k g) (eF cp k p) M:=by
 refine⟨?_,λi j=>?_,λi j=>?_,λa l o m e=>?_,λi d f=>?_⟩
 ·rw[du (h':=λi=>.slice (some ⟨eF gs k g i,0,none⟩) (if i<k+1 then r+c else r) (eF cp k p i)) λi _=>?_]at b
  ·exact b
  ·rw[Nat.zero_add,Nat.mul_one];by_cases e:i=k
   ·subst e;rw[bG,cJ,cJ,ae aq]
   ·rw[bw _ _ e,bZ _ _ e,bZ _ _ e];by_cases d:i<k
    ·rw[ae d,ae aq]
    ·rw[aa d,aa aq]
 ·by_cases e:i=k
  ·subst e;rw[cJ,cJ,ae aq];exact t
  ·rw[bZ _ _ e,bZ _ _ e];have:=(h.row i j).kp q u (h.ne i j);by_cases d:i<k
   ·rw[ae d]at this;rw[ae aq];exact this
   ·rw[aa d]at this;rw[aa aq];exact this
 ·by_cases e:i=k
  ·subst e;rw[cJ];exact s
  ·rw[bZ _ _ e];exact h.ne i j
 ·by_cases d:a=k
  ·by_cases f:l=k
   ·omega
   ·subst d;rw[cJ,bZ _ _ f]at e;exact absurd e.symm (n l m)
  ·by_cases f:l=k
   ·subst f;rw[cJ,bZ _ _ d]at e;exact absurd e (n a o)
   ·rw[bZ _ _ d,bZ _ _ f]at e;exact h.inj a l o m e
 ·rw[bZ _ _ aq];exact h.full i aq f
end
theorem wW(v:Value)(r c N:Nat)(M:Nat->Nat->Int)(w:World)(h:cO (EI N) w v r (λ_=>c) M)(ai:1<=r)(u:r<=65536)(a3:1<=c)(u:c<=65536)(al:1<=N):
 aT Tryz.prog 63 #[v] w (JU w r c N M):=by
 obtain⟨ad,a4,u,e,a5,p⟩:=h.at (show 0<r by omega);subst e;obtain⟨_,_,e,u,u,u⟩:=id h;cases e;obtain⟨a0,u,rfl,_,_,_⟩:=id p;refine bF (n:=38) Tryz.func63 F rfl aw aA ?_;refine gp ?_;refine aR (.inl F) r6 ?_;intro X q I ab;replace q:bh X w.heap.size 96 #[.slice none 0 0,.int .i64 0]:=q;obtain⟨m,Z⟩ : ∃g,g=w.heap.size:=⟨_,F⟩;rw[<-Z]at q⊢;refine gp ?_;have hh:cO (EB N false) X (.slice (some ad) r a4) r (λ_=>c) M:=h.imp (λp u p=>aS I p) λx y z p=>⟨IV.Y p I,λe=>by cases e⟩;refine aJ (nC _ r c N false M X hh ai aq a3 aq) ?_;rintro _ p ⟨Q,s,d,rfl,ak,t,hW⟩;refine gp ?_;refine aR (.inl F) r6 ?_;intro u a P a7;replace a:bh u p.heap.size 96 #[.slice none 0 0,.int .i64 0]:=a;obtain⟨o,a2⟩ : ∃g,g=p.heap.size:=⟨_,F⟩;rw[<-a2]at a⊢;refine gp ?_;refine aV jz (.inl F) F rfl rfl rfl a aA ?_;intro p D J a6;replace D:bh p o 96 #[.slice (some ⟨s,0,none⟩) c c,.int .i64 (r:Int)]:=D;have z1:=I.size;have z2:=Q.size;have zR:=q.lt;have zO:=hW.lt;have zg:∀i,i<c->X.heap.size<=d i/\d i<o:=λi l=>by have:=t i l;have:=(hW.row i l).lt;omega
 have B:kr p s r c 0 N d (λ_=>r) M:=((kr.start hW).Y P).kp (cK a (by
  intro j z C
  match j,C with
  |0,C=>cases C
  |1,C=>cases C) J) J aq (λi l=>by have:=zg i l;omega)
 have V:=(q.Y (Q.trans P)).ch J (show m≠o by omega);have A:=J.aK (I.trans (Q.trans P)) λb hb=>aq;have O:∀i,i<c->w.heap.size<=d i/\d i≠o/\d i≠m:=λi l=>by have:=zg i l;omega
 have p:s≠o/\s≠m/\m≠o/\w.heap.size<=s/\w.heap.size<=m:=aq;clear hh I Q P q a hW J ab a7 a6 zg t z1 z2 zR zO ak a2 Z;obtain⟨T,S⟩:=a9 D;refine gp ?_;refine aX (λf a=>∃d L,f 2=.pointer (some ⟨m,0,none⟩)/\f 3=.pointer (some ⟨o,0,none⟩)/\Ext w a/\kr a s r c c N d L M/\bh a o 96 #[.slice (some ⟨s,0,none⟩) c c,.int .i64 (r:Int)]/\bh a m 96 #[.slice none 0 0,.int .i64 0]/\∀i,i<c->w.heap.size<=d i/\d i≠o/\d i≠m) ?_ ?_
 ·refine gp ?_;clear T S;refine aU (λq f a=>∃k d L,q=c-k/\k<=c/\f 0=.slice (some ad) r a4/\f 2=.pointer (some ⟨m,0,none⟩)/\f 3=.pointer (some ⟨o,0,none⟩)/\f 13=.slice (some ⟨s,0,none⟩) c c/\f 14=.int .i64 (c:Int)/\f 15=.int .i64 ((k:Nat):Int)/\Ext w a/\kr a s r c k N d L M/\bh a o 96 #[.slice (some ⟨s,0,none⟩) c c,.int .i64 (r:Int)]/\bh a m 96 #[.slice none 0 0,.int .i64 0]/\∀i,i<c->w.heap.size<=d i/\d i≠o/\d i≠m)
   c ⟨0,d,_,F,aE,F,F,F,F,F,F,A,B,D,V,O⟩ ?_
  clear A B D V O d;rintro q f w5 ⟨k,d,L,rfl,a,u,H,G,q,p,a,A,B,R,K,t⟩;rw[ui u,ui H,ui G,ui q,ui p,ui a];clear u H G q p a;by_cases E:k<c;rotate_left
  ·obtain rfl:k=c:=aq;refine gp ?_;exact⟨d,L,F,F,A,B,R,K,t⟩
  have p:=B.at E (Nat.le_refl k);have a:=aS A a5;refine gp ?_;refine cF eE (.inl F) F rfl aD aq aq ?_;intro w6 J Q Y;obtain⟨X,q⟩ : ∃g,g=w5.heap.size:=⟨_,F⟩;rw[<-q]at J⊢;have Z:=ff false N J;have g:=B.outer.lt;have g:=R.lt;have g:=K.lt;have x:∀i,i<c->d i<X:=λi l=>by have:=(B.row i l).lt;omega
  clear p a;refine gp ?_;refine aJ (fb 1 w6 ar ar) ?_;rintro _ a ⟨I,a0,a,rfl,a⟩;refine gp ?_;have g:Bd N 1:=Bd.mono (N:=1) (by unfold Bd;decide) al;refine dW (.inl F) F rfl (Z.Y I) E (a.ev false g) ?_;intro a y q P a2;have g:=Q.trans I;have u:=q.aK (A.trans g) (λb hb=>by have:=A.size;omega);have a:=(B.Y g).kp P q aq (λi l=>by have:=x i l;omega);have p:=(R.Y g).ch q (show o≠X by omega);have x:=(K.Y g).ch q (show m≠X by omega);have X:=A.size;clear A B R K J Q Y Z I q P a2 g;refine gp ?_;refine c8 [(0,3),(1,0),(2,3),(3,3),(4,3),(5,1),(6,3),(7,2)] mixed aw λX g _=>?_;replace u:=u.trans g;replace a:=a.Y g;replace p:=p.Y g;replace x:=x.Y g;replace y:=y.Y g;obtain⟨T,S⟩:=a9 p;have g:=a.row k E;rw[aa aq,a.full k (Nat.le_refl k) E]at g;refine gp ?_;refine FA (.inr ⟨F,λ_ h=>h⟩) rfl rfl g (y.congr (bn':=λ_=>N) (M':=λi=>if i=k then 1 else 0) λi _=>⟨by simp only[cZ];split<;>exact Nat.le_refl _,by simp only[fR]⟩) a3 aq aq ?_;intro g g P q;refine gp ?_;have J:=a.Y q;have Q:=J.outer;refine cH (aW F) (.inl F) F rfl Q (by rw[bk];omega) ?_;intro g I g y;rw[cC]at I;have y:=cK Q (dJ λ_ _=>⟨_,_,_,rfl⟩).jn g;have Q:=u.size;have Q:=a.outer.lt;have Q:∀i,i<c->d i<X.heap.size:=λi l=>(a.row i l).lt;have a:=p.lt;have a:=x.lt;have a:=(P.kp y g aq).congr (bn':=λ_=>N) (M':=iW r M k) λi _=>⟨aD,by
   unfold iW;by_cases e:i<r
   ·rw[ae e,ae e]
   ·rw[aa e,aa e]⟩
  have P:=J.step E a g y I aq (λa y=>by have:=Q a y;omega);have a:=g.aK (u.trans q) λb hb=>aq;have FZ:=(p.Y q).ch g (show o≠s by omega);have o:=(x.Y q).ch g (show m≠s by omega);clear T S;refine gp ?_;refine⟨_,?_,k+1,_,_,F,aq,F,F,F,F,F,F,a,P,FZ,o,λi l=>?_⟩
  ·omega
  ·by_cases e:i=k
   ·subst e;rw[cJ];omega
   ·rw[bZ _ _ e];exact t i l
 clear A B D V O T S;rintro f w5 ⟨d,L,H,G,A,B,R,K,t⟩;rw[ui H,ui G];clear H G;obtain⟨T,S⟩:=a9 R;refine gp ?_;refine aV jz (.inl F) F rfl rfl rfl K aA ?_;intro w6 U W Y;replace U:bh w6 m 96 #[.slice (some ⟨s,0,none⟩) c c,.int .i64 (r:Int)]:=U;have aj:=cK K (by
  intro j z C
  match j,C with
  |0,C=>cases C
  |1,C=>cases C) W
 have e:=B.kp aj W aq λi l=>(t i l).2.2;have a:=W.aK A λb hb=>aq;clear T S;refine gp ?_;exact dO F jz F U ⟨a,s,d,L,F,aq,λi l=>by have:=t i l;omega,e.done⟩
theorem Dh(N:Nat):∀j,N<=Nb N j
 |0=>Nat.le_refl _
 |j+1=>Nat.le_trans (Dh N j) (iI N j)
theorem G0{n m N k i j:Nat}{A:Nat->Nat->Int}(a:1<=N)(b:n<=16)(c:∀i j,i<n->j<m->Bd N (A i j))(b:k<n)(b:n<=m)(b:i<n)(b:j<m):Bd (Nb N 16) (Go.bc.bm k A i j):=by
 unfold Go.bc.bm;rw[<-jw];exact(s4 a λa b a a=>c _ _ (by split<;>omega) (by split<;>omega)).mono (tR N (k+1) aq)
theorem _root_.Go.cU.bh.jI{w:World}{g b:Nat}{t a:TypeId}{cs c:Array Value}(h:bh w g t cs)(h':bh w b a c)(d:t≠a):g≠b:=λe=>by
 subst e;unfold bh at h h';rw[h]at h';injection h' with h';injection h' with _ h2;exact d h2
def ig(W:Nat->Nat->Int)(r j:Nat)(a:Int):Nat->Nat->Int:=λt k=>if r<t/\t<j then(W r r*W t k+-W t r*W r k)/a else W t k
theorem pV(W:Nat->Nat->Int){r j:Nat}(a:Int)(d:r<j):eF (ig W r j a) j (λk=>oG (ig W r j a) r j r k/a)=ig W r (j+1) a:=by
 funext t k;have c:∀k,ig W r j a r k=W r k:=λk=>by unfold ig;rw[aa aq]
 have b:∀k,ig W r j a j k=W j k:=λk=>by unfold ig;rw[aa aq]
 by_cases e:t=j
 ·subst e;rw[cJ];unfold oG;rw[c,c,b,b];unfold ig;rw[ae aq]
 ·rw[bZ _ _ e];unfold ig;by_cases a:r<t/\t<j
  ·rw[ae a,ae aq]
  ·rw[aa a,aa aq]
theorem oN(gP n m a3 N:Nat)(d H:Nat->Nat)(C:Nat->Nat->Int)(w:World)(hP:bO w gP d H n m false (λ_ _=>N) C)(c3:Go.bc.aQ n C≠0)(x:1<=n)(hn:n<=16)(b4:n<=m)(hm:m<=1048576)(_htop:a3<=1048576)(dx:1<=N)(x:N<=8):
 aT Tryz.prog 84 #[.agg #[.slice (some ⟨gP,0,none⟩) n n,.int .i64 (a3:Int)]] w λv o=>Ext w o/\kq o v n λk=>k:=by
 refine bF (n:=92) Tryz.func84 F rfl aw aA ?_;have bC:∀i j,i<n->j<m->Bd N (C i j):=λa b ha c=>by
  obtain⟨x,y,_,_,hv⟩:=(hP.row a ha).at c;exact hv.1.bd
 obtain⟨K,hK⟩ : ∃K,K=Nb N 16:=⟨_,F⟩;have ds:N<=K:=by rw[hK];exact Dh N 16
 have dy:K<1048576:=by
  have h1:=F_ N 16;rw[<-hK]at h1;have:(2:Nat)^16=65536:=ar;rw[this]at h1;omega
 have b5:∀i,i<n->d i<w.heap.size:=λi hi=>(hP.row i hi).lt;have s:Ext w w:=Ext.refl w;refine gp ?_;refine aZ (v:=.agg _) (.inl F) F ?_;intro y x P bI;have hA:bh y w.heap.size 96 #[.slice (some ⟨gP,0,none⟩) n n,.int .i64 (a3:Int)]:=x;obtain⟨gA,y⟩ : ∃g,g=w.heap.size:=⟨_,F⟩;rw[<-y]at hA⊢;have ca:w.heap.size<=gA:=by have:=s.size;omega
 replace s:=s.trans P;clear x bI y P;refine gp ?_;refine gp ?_;refine iq [(0,3),(1,0),(2,3),(4,3),(5,0)] [(3,[(6,3)],[]),(7,[],[])] [(8,2)] mixed aw λdq P _=>?_;replace hA:=hA.Y P;replace s:=s.trans P;clear P;obtain⟨a0,a1⟩:=a9 hA;refine gp ?_;refine gp ?_;refine dT [(3,[(6,3)])] [fA 7 3 96 (.agg #[.slice none 0 0,.int .i64 0])] [13,16,3] aw (λa ha f' o _ _=>by
  rcases List.mem_singleton.1 ha with rfl;exact b_ r6 F f' o) ?_
 have bt:=hA.lt;have cx:=s.size;refine cT λwa y=>?_;refine gp ?_;refine cF dF (.inr ⟨F,λ_ h=>h⟩) rfl rfl aD aq aq ?_;intro wb x bI dr;obtain⟨z,ca⟩ : ∃g,g=wa.heap.size:=⟨_,F⟩;rw[<-ca]at x⊢;have hO:bh wb z 27 (arr n λ_=>.slice none 0 0):=by
  rw[il,Nat.mul_one]at x;rw[du (h':=λ_=>Value.slice none 0 0) (λk _=>by simp[Value.cells,Nat.mod_one])]at x;exact x
 have dC:w.heap.size<=z/\gA<z:=by have:=s.size;have:=hA.lt;have:=y.size;omega
 replace s:=s.trans (y.trans bI);replace hA:=hA.Y (y.trans bI);clear x y bI dr ca a0 a1;refine gp ?_;refine fM λy P x cc cA=>?_;replace hA:=hA.Y P;replace hO:=hO.Y P;replace s:=s.trans P;clear P;obtain⟨a6,bl⟩:=cc _ aG;have a6:dq.heap.size<=x 3:=a6;have bx:bh y (x 3) 96 #[.slice none 0 0,.int .i64 0]:=bl;show Ro _ _ _ _ _ _ (bS _ 3 (.pointer (some ⟨x 3,0,none⟩))) _;generalize x 3=l at*;have x:w.heap.size<=l:=aq;have x:l≠gA:=aq;clear cc cA cx bl a6 bt;have cx:l≠z/\l≠gA:=⟨bx.jI hO ar,aq⟩;refine gp ?_;refine aV jz (.inl F) F rfl rfl rfl bx aA ?_;intro w3 I x y;replace I:bh w3 l 96 #[.slice (some ⟨z,0,none⟩) n n,.int .i64 (a3:Int)]:=I;have a4:=x.aK s λb c=>aq;have ca:=hA.ch x (show gA≠l by omega);have bI:=hO.ch x (show z≠l by omega);clear hA hO bx x y s;refine gp ?_;obtain⟨a0,a1⟩:=a9 ca;obtain⟨f0,f1⟩:=a9 I;have x:=hP.Y a4;refine gp ?_;refine v9 (h1:=λi=>.slice (some ⟨d i,0,none⟩) m (H i)) rfl rfl bI (dJ λ_ _=>⟨_,_,_,rfl⟩).jn (λj hj=>⟨by rw[add_lit];exact x.at hj,F⟩) ?_;intro w4 bx a6 bl cc;have P:bO w4 z d H n m false (λ_ _=>N) C:=⟨bx,λi hi=>(x.row i hi).kp bl a6 (by have:=b5 i hi;omega),λi hi=>by have:=b5 i hi;omega,x.inj⟩;have y:=a6.aK a4 λb c=>aq;have bt:=I.ch a6 cx.1;clear bx a6 bl cc a0 a1 f0 f1 x a4 bI ca I;refine gp ?_;refine aJ (fb 1 w4 ar ar) ?_;rintro _ w5 ⟨a6,x,s1,rfl,bI⟩;refine gp ?_;refine aR (.inl F) a_ ?_;intro w6 av Q bu;have bl:=Bx.zero (N:=1) false av;obtain⟨B,bx⟩ : ∃g,g=w5.heap.size:=⟨_,F⟩;rw[<-bx]at bl⊢;have x:Bd K 1:=Bd.mono (N:=1) (by unfold Bd;decide) aq;refine gp ?_;refine aL (.inl F) F rfl bl ((bI.Y Q).ev false x) ?_;intro w7 al V a7 cc;have x:=a6.trans Q;have zO:=P.lt;have zW:=bt.lt;have ca:=a6.size;have aj:=((P.Y x).kp a7 V aq (λi hi=>by have:=(P.row i hi).lt;omega)).congr (bn':=λ_ _=>K) (M':=C) (λ_ _ _ _=>⟨ds,rfl⟩);have au:=(bt.Y x).ch V (show l≠B by omega);have ai:=V.aK (y.trans x) (λb c=>by have:=y.size;omega);have b0:∀t,t<n->d t≠l/\d t≠B:=λt R=>by have:=b5 t R;have:=y.size;omega
 have cx:z≠l/\z≠B/\l≠B/\w.heap.size<=z/\w.heap.size<=l/\w.heap.size<=B:=by have:=y.size;omega
 have bD:Go.Hn.x6 n m 0 C C 1:=Go.Hn.x6.start c3;clear P bt a6 Q av bl V a7 cc bu bI x y bx zO zW ca hP;refine gp ?_;refine aX (λf o=>∃v,f 4=v/\Ext w o/\kq o v n λk=>k) ?_ ?_
 ·refine gp ?_;refine aU (λq f o=>∃r A W Y d H U T,q=n-r/\r<=n/\f 3=.pointer (some ⟨l,0,none⟩)/\f 4=.slice U r T/\f 5=.pointer (some ⟨B,0,none⟩)/\f 6=.int .i64 ((r:Nat):Int)/\Ext w o/\bO o z d H n m false (λ_ _=>K) W/\bh o l 96 #[.slice (some ⟨z,0,none⟩) n n,.int .i64 (a3:Int)]/\Bx o B K false Y/\
   lJ 3 (.int .i64 0) o (.slice U r T) r (λk=>.int .i64 ((k:Nat):Int))/\(∀b,some b=(Value.slice U r T).ownBlock->l<b/\B<b/\z<b/\∀t,t<n->d t≠b)/\Go.Hn.x6 n m r A W Y/\(∀i j,i<n->j<m->Bd N (A i j))/\∀t,t<n->d t≠l/\d t≠B)
   n ⟨0,C,C,1,d,H,none,0,F,aE,F,F,F,F,ai,aj,au,al,lJ.nil,λb c=>(by cases c),bD,bC,b0⟩ ?_
  clear ai aj au al b0 bD bC b5 c3 d H;rintro q f w1 ⟨r,A,W,Y,d,H,U,T,rfl,x,G,u,E,D,s,X,S,hD,hL,a2,hI,bA,M⟩;rw[ui G,ui u,ui E,ui D];clear G u E D;refine aP ?_;obtain⟨f0,f1⟩:=a9 S;by_cases L:r<n;rotate_left
  ·obtain rfl:r=n:=aq;refine gp ?_;exact⟨_,F,s,hL.ints λ_ _=>rfl⟩
  refine gp ?_;refine aX (λf o=>∃j,f 3=.pointer (some ⟨l,0,none⟩)/\f 4=.slice U r T/\f 5=.pointer (some ⟨B,0,none⟩)/\f 6=.int .i64 (r:Int)/\f 7=.int .i64 (r:Int)/\f 8=.int .i64 ((j:Nat):Int)/\r<=j/\j<n/\Ext w1 o/\W j r≠0) ?_ ?_
  ·refine gp ?_;refine aU (λq f o=>∃j,q=n-j/\j<=n/\f 3=.pointer (some ⟨l,0,none⟩)/\f 4=.slice U r T/\f 5=.pointer (some ⟨B,0,none⟩)/\f 6=.int .i64 (r:Int)/\f 7=.int .i64 (r:Int)/\f 8=.int .i64 ((j:Nat):Int)/\r<=j/\Ext w1 o/\∀i,r<=i->i<j->W i r=0)
    (n-r) ⟨r,F,aq,F,F,F,F,F,F,Nat.le_refl r,Ext.refl _,λi h1 h2=>absurd h2 aq⟩ ?_
   rintro q f w2 ⟨j,rfl,hj,G,u,E,D,O,P,b5,y,hz⟩;rw[ui G,ui u,ui E,ui D,ui O,ui P];clear G u E D O P;refine aP ?_;by_cases x:j<n;rotate_left
   ·exact(hI.cR L b4 λi h1 h2=>hz i h1 aq).elim
   have g0:=aS y f0;have a6:=(X.Y y).at x;obtain⟨x0,y0,c5,c4,hv⟩:=((X.Y y).row j x).at (show r<m by omega);clear f0 f1;refine gp ?_;refine aJ (cE _ _ _ K w2 hv.1 aq) ?_;rintro _ w3 ⟨bl,rfl⟩;have g1:=aS bl g0;by_cases a6:W j r=0
   ·have hs:(W j r).sign=0:=by rw[a6];rfl
    refine gp ?_;refine⟨_,?_,j+1,F,aq,F,F,F,F,F,F,aq,y.trans bl,λi h1 h2=>?_⟩
    ·omega
    ·by_cases e:i=j
     ·rw[e];exact a6
     ·exact hz i h1 aq
   ·have hs:¬(W j r).sign=0:=λh=>a6 (Int.sign_eq_zero_iff_zero.1 h);refine gp ?_;exact⟨j,F,F,F,F,F,F,b5,x,y.trans bl,a6⟩
  rintro f w2 ⟨j,G,u,E,D,O,P,b5,x,y,h⟩;rw[ui G,ui u,ui E,ui D,ui O,ui P];clear G u E D O P;refine aP ?_;clear f0 f1;replace s:=s.trans y;replace X:=X.Y y;replace S:=S.Y y;replace hD:=hD.Y y;replace hL:=hL.Y y;clear y;obtain⟨f0,f1⟩:=a9 S;refine gp ?_;refine aJ (sQ z n m r j K d H false W w2 X L x aq) ?_;rintro _ w3 ⟨rfl,hC,hk,I⟩;have ak:=hI.swap (p:=j) L b5 x;have c9:swp r j W r r≠0:=by simpa only[swp,ae]using h
  have bY:∀a b,a<n->b<m->Bd N (swp r j A a b):=λa b ha c=>by
   simp only[swp];split
   ·exact bA _ _ x c
   ·split
    ·exact bA _ _ L c
    ·exact bA _ _ ha c
  have ab:∀t,t<n->(swp r j d t≠l/\swp r j d t≠B)/\∀b,some b=(Value.slice U r T).ownBlock->swp r j d t≠b:=λt R=>by
   simp only[swp];split
   ·exact⟨M _ x,λb c=>(a2 b c).2.2.2 _ x⟩
   ·split
    ·exact⟨M _ L,λb c=>(a2 b c).2.2.2 _ L⟩
    ·exact⟨M _ R,λb c=>(a2 b c).2.2.2 _ R⟩
  have ad:∀b,some b=(Value.slice U r T).ownBlock->l<b/\B<b/\z<b:=λb c=>⟨(a2 b c).1,(a2 b c).2.1,(a2 b c).2.2.1⟩;have a4:=hC.aK s λb c=>aq;have bM:=S.ch hC (show l≠z by omega);have bK:=hD.kp hk hC aq;have bB:=hL.ch hC (λb c e=>by have:=(a2 b c).2.2.1;omega);clear s X S hD hL hC hk f0 f1 hI bA M a2 h;generalize swp r j d=bW at I ab;generalize swp r j H=bX at I;generalize swp r j W=W1 at I ak c9;generalize swp r j A=A1 at ak bY;refine gp ?_;refine aX (λf o=>∃d H,f 3=.pointer (some ⟨l,0,none⟩)/\f 4=.slice U r T/\f 5=.pointer (some ⟨B,0,none⟩)/\f 6=.int .i64 (r:Int)/\f 7=.int .i64 (r:Int)/\Ext w o/\bO o z d H n m false (λ_ _=>K) (ig W1 r n Y)/\bh o l 96 #[.slice (some ⟨z,0,none⟩) n n,.int .i64 (a3:Int)]/\Bx o B K false Y/\
   lJ 3 (.int .i64 0) o (.slice U r T) r (λk=>.int .i64 ((k:Nat):Int))/\∀t,t<n->(d t≠l/\d t≠B)/\∀b,some b=(Value.slice U r T).ownBlock->d t≠b) ?_ ?_
  ·refine gp ?_;refine aU (λq f o=>∃J d H,q=n-J/\J<=n/\r<J/\f 3=.pointer (some ⟨l,0,none⟩)/\f 4=.slice U r T/\f 5=.pointer (some ⟨B,0,none⟩)/\f 6=.int .i64 (r:Int)/\f 7=.int .i64 (r:Int)/\f 9=.int .i64 ((J:Nat):Int)/\Ext w o/\bO o z d H n m false (λ_ _=>K) (ig W1 r J Y)/\bh o l 96 #[.slice (some ⟨z,0,none⟩) n n,.int .i64 (a3:Int)]/\Bx o B K false Y/\
    lJ 3 (.int .i64 0) o (.slice U r T) r (λk=>.int .i64 ((k:Nat):Int))/\∀t,t<n->(d t≠l/\d t≠B)/\∀b,some b=(Value.slice U r T).ownBlock->d t≠b)
    (n-(r+1)) ⟨r+1,bW,bX,F,aq,aq,F,F,F,F,F,F,a4,I.congr (λa b _ _=>⟨aD,by unfold ig;rw[aa aq]⟩),bM,bK,bB,ab⟩ ?_
   clear a4 I bM bK bB ab bW bX;rintro q f w4 ⟨J,d,H,rfl,a,ay,G,u,E,D,O,a,s,X,S,hD,hL,M⟩;rw[ui G,ui u,ui E,ui D,ui O,ui a];clear G u E D O a;refine aP ?_;obtain⟨f0,f1⟩:=a9 S;by_cases aH:J<n;rotate_left
   ·obtain rfl:J=n:=aq;refine gp ?_;exact⟨d,H,F,F,F,F,F,s,X,S,hD,hL,M⟩
   obtain⟨h,a,ck,cf⟩:=id hD;obtain⟨g0,g1⟩:=a9 ck;refine gp ?_;refine aJ (qR z n m r J r K d H _ Y h a w4 X L aH aq cf.1 ak.d0 aq hm aq dy λk hk=>?_) ?_
   ·have e:oG (ig W1 r J Y) r J r k/Y=ig W1 r (J+1) Y J k:=by rw[<-pV W1 Y ay,cJ]
    rw[e];unfold ig;rw[ae aq,ak.elim L b4 ay aH hk,hK];exact G0 dx hn bY aq b4 aH hk
   rintro _ w5 ⟨rfl,g,a,hC,hk,a5⟩;rw[pV W1 Y ay]at a5;have bg:=hC.aK s λb c=>aq;have ax:=S.ch hC (show l≠z by omega);have an:=hD.kp hk hC aq;have bj:=hL.ch hC (λb c e=>by have:=(ad b c).2.2;omega);have cy:∀t,t<n->(eF d J g t≠l/\eF d J g t≠B)/\∀b,some b=(Value.slice U r T).ownBlock->eF d J g t≠b:=λt R=>by
    by_cases e:t=J
    ·subst e;rw[cJ];have:=S.lt;have:=hD.lt;exact⟨aq,λb c=>by have:=hL.lt c;omega⟩
    ·rw[bZ _ _ e];exact M t R
   clear s X S hD hL hC hk f0 f1 g0 g1 ck cf;refine gp ?_;refine⟨_,?_,J+1,_,_,F,aq,aq,F,F,F,F,F,F,bg,a5,ax,an,bj,cy⟩;omega
  clear a4 I bM bK bB ab bW bX;rintro f w4 ⟨d,H,G,u,E,D,O,s,X,S,hD,hL,M⟩;rw[ui G,ui u,ui E,ui D,ui O];clear G u E D O;obtain⟨f0,f1⟩:=a9 S;have o:=X.at L;obtain⟨x0,y0,c5,c4,hv⟩:=(X.row r L).at (show r<m by omega);have a:ig W1 r n Y r r=W1 r r:=by unfold ig;rw[aa aq]
  rw[a]at hv;refine gp ?_;refine aL (.inl F) F rfl hD hv ?_;intro w5 an a g h;have bg:=a.aK s λb c=>aq;have ax:=S.ch a (show l≠B by omega);have a5:=X.kp g a (show z≠B by omega) (λt R=>(M t R).1.2);have bj:=hL.ch a (λb c e=>by have:=(ad b c).2.1;omega);clear s X S hD hL a g f0 f1 o c5 c4 hv h;refine gp ?_;refine eM (v0:=.int .i64 (r:Int)) iP F (.inl F) F rfl ?_;intro w6 av Q bu;have cb:=ir av;refine gp ?_;refine pe iP F (.inl F) F rfl (bj.Y Q) cb F aq ar (λ_ _ _=>aA) (λ_=>aA) ?_;intro a w7 cd a7 V c6;obtain⟨cv,cq,rfl,_,_⟩:=cd.slice;have Z:∀b,some b=(Value.slice U r T).ownBlock->b≠l/\b≠B/\b≠z/\(∀t,t<n->d t≠b)/\w.heap.size<=b:=λb c=>by
   have:=ad b c;exact⟨aq,aq,aq,λt R=>(M t R).2 b c,aq⟩
  have ai:Ext w w7:=V.aK (bg.trans Q) λb c=>(Z b c).2.2.2.2;have au:=(ax.Y Q).ch V λe=>(Z _ e).1 rfl;have al:=(an.Y Q).kp a7 V λe=>(Z _ e).2.1 rfl;have aj:=(a5.Y Q).kp a7 V (λe=>(Z _ e).2.2.1 rfl) λt R e=>(Z _ e).2.2.2.1 t R rfl;have dA:=ak.next (W':=ig W1 r n Y) L b4 c9 (λi j h1 h2 _=>by unfold ig;rw[ae ⟨h1,h2⟩])
  have dd:∀b,some b=(Value.slice cv (r+1) cq).ownBlock->l<b/\B<b/\z<b/\∀t,t<n->d t≠b:=λb c=>by
   rcases c6 with e|e
   ·rw[e]at c;have:=ad b c;exact⟨this.1,this.2.1,this.2.2,(Z b c).2.2.2.1⟩
   ·rw[e]at c;injection c with c;have h1:=ax.lt;have h2:=an.lt;have a:=a5.lt;have a:=Q.size;exact⟨aq,aq,aq,λt R=>by have:=(a5.row t R).lt;omega⟩
  clear bg a5 ax an bj Q av cb bu V a7 c6 Z;refine gp ?_;refine⟨_,?_,r+1,A1,_,_,d,H,cv,cq,F,aq,F,F,F,F,ai,aj,au,al,cd.congr λk hk=>?_,dd,dA,bY,λt R=>(M t R).1⟩
  ·omega
  ·by_cases e:k=r
   ·rw[ae e,e]
   ·rw[aa e]
 clear ai aj au al b0 bD;rintro f w1 ⟨v,u,s,hI⟩;rw[ui u];clear u;refine gp ?_;exact cI F rfl ⟨s,hI⟩
