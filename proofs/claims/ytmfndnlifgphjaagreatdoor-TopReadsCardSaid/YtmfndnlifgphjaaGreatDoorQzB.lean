import Derived.Test.YtmfndnlifgphjaaGreatDoorQzA
set_option maxHeartbeats 64000000
open Go.Proofs.YtmfndnlifgphjaaGreatDoor
namespace Go.Proofs.Qq
section
open Go Go.cW Go.c7 Go.Proofs
open Go.aW (dC)
def NA:Array Value:=#[.bool false,.slice none 0 0,.bool false,.slice none 0 0,.bool false,.slice none 0 0,.bool false,.slice none 0 0,.bool false,.slice none 0 0,.bool false,.slice none 0 0,.bool false,.slice none 0 0]
theorem Dt:fo Tryz.prog 137 (.agg NA):=by unfold fo NA;kernel_rfl
section
variable {n:Nat}{S:World->World->Prop}{k:Nat}{K:Fr->World->Prop}{f:Fr}{w:World}{d ty t t2:Nat}{x y:Operand}{pos:String}{aft:Array Edge}{gd:Option (Nat×Bool)}
theorem wu{a b c e:Value}(j:ev n f x=.agg #[a,b])(g:ev n f y=.agg #[c,e])(h:K (cg f d (.agg #[a,b,c,e])) w):
 R1 Tryz.prog n S k ⟨some d,.build 135 #[(0,x),(1,y)],ty,pos,aft,gd⟩ K f w:=by
 refine cH (v:=.agg #[a,b,c,e]) (λw=>?_) h;have h:(#[(0,x),(1,y)]:Array (Nat×Operand)).map (λ(i,x)=>(i,ev n f x))=#[(0,.agg #[a,b]),(1,.agg #[c,e])]:=by simp[j,g]
 simp[execOp,h,Instr.build,run_underlying Tryz.underlying135,Instr.fill,Value.cells,eu aQ]
theorem Br{u s r q p o m l j g e c b a:Value}{C B A z i:Operand}(H:ev n f C=.agg #[u,s])(h1:ev n f B=.agg #[r,q])(G:ev n f A=.agg #[p,o])(E:ev n f z=.agg #[m,l,j,g])(D:ev n f i=.agg #[e,c,b,a])
 (h:K (cg f d (.agg #[u,s,r,q,p,o,m,l,j,g,e,c,b,a])) w):
 R1 Tryz.prog n S k ⟨some d,.build 137 #[(0,C),(1,B),(2,A),(3,z),(4,i)],ty,pos,aft,gd⟩ K f w:=by
 refine cH (v:=.agg #[u,s,r,q,p,o,m,l,j,g,e,c,b,a]) (λw=>?_) h;have h:(#[(0,C),(1,B),(2,A),(3,z),(4,i)]:Array (Nat×Operand)).map (λ(i,x)=>(i,ev n f x))=#[(0,.agg #[u,s]),(1,.agg #[r,q]),(2,.agg #[p,o]),(3,.agg #[m,l,j,g]),(4,.agg #[e,c,b,a])]:=by simp[H,h1,G,E,D]
 simp[execOp,h,Instr.build,run_underlying Tryz.underlying137,Instr.fill,Value.cells,eu aQ,eu iB]
end
def I8(w:World)(v:Value)(N:Nat)(z:Nat->Int):Prop:=∃h,v=.agg (arr 14 h)/\∀j,j<7->EV w N true (h (j*2)) (h (j*2+1)) (z j)
theorem I8.Y{w w':World}{v:Value}{N:Nat}{z:Nat->Int}(h:I8 w v N z)(c:Ext w w'):I8 w' v N z:=by
 obtain⟨h,e,b⟩:=h;exact⟨h,e,λj a=>(b j a).Y c⟩
theorem Ml{w:World}{N:Nat}{A z s r q p o m l j i h g e:Value}{a b c u v x y:Int}(H:EV w N true A z a)(h1:EV w N true s r b)(G:EV w N true q p c)(E:EV w N true o m u)(D:EV w N true l j v)(C:EV w N true i h x)(B:EV w N true g e y):
 I8 w (.agg #[A,z,s,r,q,p,o,m,l,j,i,h,g,e]) N (pz a b c u v x y):=by
 refine⟨_,congrArg Value.agg (Iv (cs:=#[A,z,s,r,q,p,o,m,l,j,i,h,g,e]) F),λj e=>?_⟩;have:j=0\/j=1\/j=2\/j=3\/j=4\/j=5\/j=6:=aq;rcases this with rfl|rfl|rfl|rfl|rfl|rfl|rfl
 ·exact H
 ·exact h1
 ·exact G
 ·exact E
 ·exact D
 ·exact C
 ·exact B
theorem I8.one{w:World}{N:Nat}{z:Nat->Int}{h:Nat->Value}(c:∀j,j<7->EV w N true (h (j*2)) (h (j*2+1)) (z j)):∀v∈(arr 14 h).toList,v.oneCell'=true:=by
 intro v b;obtain⟨i,a⟩:=List.mem_iff_getElem?.1 b;rw[Array.getElem?_toList]at a;by_cases b:i<14
 ·rw[cE b]at a;have e:=Option.some.inj a;have b:=c (i/2) aq;by_cases c:i%2=0
  ·rw[<-e,show i=i/2*2 by omega];exact b.1.ep
  ·rw[<-e,show i=i/2*2+1 by omega];exact b.1.eN
 ·rw[Array.getElem?_eq_none (by rw[bf];omega)]at a;cases a
section
variable {n:Nat}{S:World->World->Prop}{k:Nat}{K:Fr->World->Prop}{f:Fr}{w:World}{d ty t t2:Nat}{x y:Operand}{pos:String}{aft:Array Edge}{gd:Option (Nat×Bool)}
theorem tL{g N:Nat}{cs:Array Value}{z:Nat->Int}{v:Value}(r:k=2\/k=1/\∀c,Ch (λb=>b=g) w c->S w c)(m:ev n f x=.pointer (some ⟨g,0,none⟩))(l:ev n f y=v)(o:I8 w v N z)(j:bg w g 137 cs)(p:cs.size=14)(q:Ll cs)
 (h:∀c,qG c g N z->Ch (λb=>b=g) w c->Kp w c->c.heap.size=w.heap.size->K f c):
 R1 Tryz.prog n S k ⟨none,.store 137 x y,ty,pos,aft,gd⟩ K f w:=by
 obtain⟨e,rfl,i⟩:=o;refine rN qX r m l (I8.one i) j p (bf 14 e) ?_;intro c o l m;have b:=c8 j q l;exact h c ⟨e,o,λj c=>(i j c).kp b⟩ l b m
theorem Du:Ll NA:=by
 intro i z h;have:i<14:=by
  refine Classical.byContradiction λa=>?_;rw[Array.getElem?_eq_none (by unfold NA;simp;omega)]at h;cases h
 have:i=0\/i=1\/i=2\/i=3\/i=4\/i=5\/i=6\/i=7\/i=8\/i=9\/i=10\/i=11\/i=12\/i=13:=aq;rcases this with rfl|rfl|rfl|rfl|rfl|rfl|rfl|rfl|rfl|rfl|rfl|rfl|rfl|rfl<;>cases h
end
theorem B6(I:Ga)(n N k v:Nat)(d:Nat->Int)(l T:Nat->Nat->Int)(w:World)(p:jf w I n N d l T)(ar:I.gS=v)(ay:1<=k)(hk:k<n)(hn:n<=8)(ay:1<=N)(hN:N<10000000)(hd:d k≠0):
 aT Tryz.prog 82 #[.pointer (some ⟨v,0,none⟩),.int .i64 (k:Int)] w λv V=>Ext w V/\I8 V v (N+N+1) (pz (d k) (l k (k-1)) ((d (k-1)*d (k+1)+l k (k-1)*l k (k-1))/d k) 1 0 0 1):=by
 refine bo (n:=67) Tryz.func82 F rfl az aA ?_;subst ar;have O:∀b,rM I n b->b<w.heap.size:=λb J=>p.mb J;have q:Ext w w:=Ext.refl w;refine gh ?_;refine aS (.inl F) Dt ?_;intro I ar v ay;have i:bg I w.heap.size 137 NA:=ar;obtain⟨gP,I⟩ : ∃g,g=w.heap.size:=⟨_,F⟩;rw[<-I]at i⊢;have aH:w.heap.size<=gP:=aq;replace p:=p.Y v;replace q:=q.trans v;clear ar v ay I;refine gh ?_;refine om [(0,3),(1,3),(2,3),(3,0),(4,3),(5,3),(6,0),(7,3),(8,3),(9,3),(10,0),(11,3),(12,3),(13,0),(14,3),(15,3),(16,3),(17,0)] [(18,[],[]),(19,[],[])] [(20,1),(21,2)] mixed az λan c _=>?_;replace p:=p.Y c;replace i:=i.Y c;replace q:=q.trans c;clear c;have e0:=p.c0;have e1:=p.c1;have e2:=p.pZ hk;obtain⟨x0,y0,p0,al,M⟩:=p.mi.at (j:=k) aq;obtain⟨x1,y1,p1,ak,L⟩:=(p.la k hk).at (j:=k-1) aq;refine gh ?_;refine kt [] [fA 18 5 44 (.agg #[.bool false,.slice none 0 0]),fA 19 6 44 (.agg #[.bool false,.slice none 0 0])] [5,6] az az (λa ha f' V _ _=>by
  rcases List.mem_cons.1 ha with rfl|ha
  ·exact cm a_ F f' V
  ·skip;rcases List.mem_singleton.1 ha with rfl;exact cm a_ F f' V) ?_
 have H:=i.lt;have W:=q.size;clear e0 e1 e2 p0 al p1 ak;refine eW λI c E Q R=>?_;replace p:=p.Y c;replace i:=i.Y c;replace M:=M.Y c;replace L:=L.Y c;replace q:=q.trans c;clear c;obtain⟨v,ae⟩:=Q _ aG;have v:an.heap.size<=E 5:=v;have s:Bx I (E 5) 1 true 0:=Bx.zero true ae;obtain⟨v,a8⟩:=Q _ (List.mem_cons_of_mem _ aG);have v:an.heap.size<=E 6:=v;have r:Bx I (E 6) 1 true 0:=Bx.zero true a8;have v:E 6≠E 5:=R _ _ (List.mem_cons_of_mem _ aG) aG (show(6:Nat)≠5 by decide);show Ro _ _ _ _ _ _ (cg (cg _ 6 (.pointer (some ⟨E 6,0,none⟩))) 5 (.pointer (some ⟨E 5,0,none⟩))) _;generalize E 5=g5 at*;generalize E 6=g6 at*;have v:w.heap.size<=g5:=aq;have v:g5≠gP:=aq;have v:w.heap.size<=g6:=aq;have v:g6≠gP:=aq;clear Q R W ae a8 H;refine gh ?_;refine aL ag F rfl s (M) ?_;intro v s o m z;replace p:=p.kp m o (λb J h=>by have:=O b h;omega);replace i:=i.ch o aq;replace M:=M.kp m;replace L:=L.kp m;replace r:=r.kp m o ah;replace q:=o.aK q λb J=>aq;clear o m z;refine gh ?_;refine aL ag F rfl r (L) ?_;intro v r o m z;replace p:=p.kp m o (λb J h=>by have:=O b h;omega);replace i:=i.ch o aq;replace M:=M.kp m;replace L:=L.kp m;replace s:=s.kp m o ah;replace q:=o.aK q λb J=>aq;clear o m z;have bA:=M.bd;have bB:=L.bd;clear M L;refine gh ?_;refine ib [(0,3),(1,3),(2,3),(3,0),(4,3),(5,3),(6,3),(7,0),(8,3),(9,3),(10,3),(11,0),(12,3),(13,3),(14,3),(15,0),(17,0),(18,0)] [(16,[],[]),(21,[],[]),(19,[],[16]),(20,[],[16,19])] [(22,2)] mixed az λax c _=>?_;replace p:=p.Y c;replace i:=i.Y c;replace s:=s.Y c;replace r:=r.Y c;replace q:=q.trans c;clear c;have e0:=p.c0;obtain⟨x0,y0,p0,al,M⟩:=p.mi.at (j:=k-1) aq;obtain⟨x1,y1,p1,ak,L⟩:=p.mi.at (j:=k+1) aq;obtain⟨av,au,Y,X⟩:=id r;obtain⟨a6,Z⟩:=bh Y;have D:=M.1;have C:=L.1;have u:=X.1;refine gh ?_;refine dN [(16,[]),(19,[]),(20,[])] [fA 21 7 44 (.agg #[.bool false,.slice none 0 0])] [45,48,49,7] az (λa ha f' V _ _=>by
  rcases List.mem_singleton.1 ha with rfl;exact cm a_ F f' V) ?_
 have H:=i.lt;have aj:=s.lt;have ai:=r.lt;have W:=q.size;clear e0 p0 al p1 ak a6 Z;have b0:=IV.bd D;have b1:=IV.bd C;refine gh ?_;refine cS λa c=>?_;replace p:=p.Y c;replace i:=i.Y c;replace s:=s.Y c;replace r:=r.Y c;replace D:=D.Y c;replace C:=C.Y c;replace u:=u.Y c;replace q:=q.trans c;clear c;refine gh ?_;refine aM (fy _ _ _ _ _ _ N a D C aq) ?_;rintro _ a ⟨c,a0,a,rfl,B⟩;refine⟨c,?_⟩;replace p:=p.Y c;replace i:=i.Y c;replace s:=s.Y c;replace r:=r.Y c;replace D:=D.Y c;replace C:=C.Y c;replace u:=u.Y c;replace q:=q.trans c;clear c;refine gh ?_;refine cS λa c=>?_;replace p:=p.Y c;replace i:=i.Y c;replace s:=s.Y c;replace r:=r.Y c;replace D:=D.Y c;replace C:=C.Y c;replace u:=u.Y c;replace B:=B.Y c;replace q:=q.trans c;clear c;refine gh ?_;refine aM (fy _ _ _ _ _ _ N a u u aq) ?_;rintro _ a ⟨c,a2,a3,rfl,G⟩;refine⟨c,?_⟩;replace p:=p.Y c;replace i:=i.Y c;replace s:=s.Y c;replace r:=r.Y c;replace D:=D.Y c;replace C:=C.Y c;replace u:=u.Y c;replace B:=B.Y c;replace q:=q.trans c;clear c;refine gh ?_;refine cS λa c=>?_;replace p:=p.Y c;replace i:=i.Y c;replace s:=s.Y c;replace r:=r.Y c;replace D:=D.Y c;replace C:=C.Y c;replace u:=u.Y c;replace B:=B.Y c;replace G:=G.Y c;replace q:=q.trans c;clear c;refine gh ?_;refine aM (kH _ _ _ _ _ _ (N+N) a (B.iv (b0.mul b1)) (G.iv (bB.mul bB)) aq) ?_;rintro _ a ⟨c,a4,a5,rfl,U⟩;refine⟨c,?_⟩;replace p:=p.Y c;replace i:=i.Y c;replace s:=s.Y c;replace r:=r.Y c;replace D:=D.Y c;replace C:=C.Y c;replace u:=u.Y c;replace B:=B.Y c;replace G:=G.Y c;replace q:=q.trans c;clear c;refine gh ?_;refine eW λa c E Q R=>?_;replace p:=p.Y c;replace i:=i.Y c;replace s:=s.Y c;replace r:=r.Y c;replace D:=D.Y c;replace C:=C.Y c;replace u:=u.Y c;replace B:=B.Y c;replace G:=G.Y c;replace U:=U.Y c;replace q:=q.trans c;clear c;obtain⟨P,a7⟩:=Q _ aG;have P:ax.heap.size<=E 7:=P;have A:Bx a (E 7) 1 true 0:=Bx.zero true a7;show Ro _ _ _ _ _ _ (cg _ 7 (.pointer (some ⟨E 7,0,none⟩))) _;generalize E 7=g7 at*;have a:w.heap.size<=g7:=aq;have a:g7≠gP:=aq;have a:g7≠g5:=aq;have a:g7≠g6:=aq;clear Q R W a7 P H aj ai;have V:=(b0.mul b1).add (bB.mul bB);refine gh ?_;refine aL ag F rfl A (U.ev true V) ?_;intro a A o m z;replace p:=p.kp m o (λb J h=>by have:=O b h;omega);replace i:=i.ch o aq;replace s:=s.kp m o ah;replace r:=r.kp m o ah;replace D:=D.kp m;replace C:=C.kp m;replace u:=u.kp m;replace B:=B.kp m;replace G:=G.kp m;replace U:=U.kp m;replace q:=o.aK q λb J=>aq;clear o m z;obtain⟨v,v,B,v⟩:=id A;obtain⟨M,E⟩:=bh B;obtain⟨U,R,H,G⟩:=id s;obtain⟨L,I⟩:=bh H;refine gh ?_;refine aJ (jd _ _ _ _ _ _ (N+N+1) a v.1 (G.1.mono aq) aq hd) ?_;rintro _ v ⟨c,d0,d1,d2,d3,rfl,D,C⟩;replace p:=p.Y c;replace i:=i.Y c;replace s:=s.Y c;replace r:=r.Y c;replace A:=A.Y c;replace q:=q.trans c;clear c;clear M E L I;refine gh ?_;refine aS (.inl F) a_ ?_;intro Q B c z;have a:=Bx.zero (N:=1) true B;obtain⟨P,E⟩ : ∃g,g=v.heap.size:=⟨_,F⟩;rw[<-E]at a⊢;have v:w.heap.size<=P:=by have:=q.size;omega
 have v:gP<P:=by have:=i.lt;omega
 have v:g5<P:=by have:=s.lt;omega
 have v:g6<P:=by have:=r.lt;omega
 have v:g7<P:=by have:=A.lt;omega
 replace p:=p.Y c;replace i:=i.Y c;replace s:=s.Y c;replace r:=r.Y c;replace A:=A.Y c;replace D:=D.Y c;replace C:=C.Y c;replace q:=q.trans c;clear B z E c;refine gh ?_;refine aS (.inl F) a_ ?_;intro v B c z;have v:=Bx.zero (N:=1) true B;obtain⟨M,E⟩ : ∃g,g=Q.heap.size:=⟨_,F⟩;rw[<-E]at v⊢;have g:w.heap.size<=M:=by have:=q.size;omega
 have g:gP<M:=by have:=i.lt;omega
 have g:g5<M:=by have:=s.lt;omega
 have g:g6<M:=by have:=r.lt;omega
 have g:g7<M:=by have:=A.lt;omega
 have g:P<M:=by have:=a.lt;omega
 replace p:=p.Y c;replace i:=i.Y c;replace s:=s.Y c;replace r:=r.Y c;replace A:=A.Y c;replace D:=D.Y c;replace C:=C.Y c;replace a:=a.Y c;replace q:=q.trans c;clear B z E c;refine gh ?_;refine aL ag F rfl a (D.ev true V.ediv) ?_;intro g a o m z;replace p:=p.kp m o (λb J h=>by have:=O b h;omega);replace i:=i.ch o aq;replace s:=s.kp m o ah;replace r:=r.kp m o ah;replace A:=A.kp m o ah;replace D:=D.kp m;replace C:=C.kp m;replace v:=v.kp m o ah;replace q:=o.aK q λb J=>aq;clear o m z;refine gh ?_;refine aL ag F rfl v (C.ev true (Bd.emod (bA.mono (show N<=N+N+1 by omega)) hd)) ?_;intro e v o m z;replace p:=p.kp m o (λb J h=>by have:=O b h;omega);replace i:=i.ch o aq;replace s:=s.kp m o ah;replace r:=r.kp m o ah;replace A:=A.kp m o ah;replace D:=D.kp m;replace C:=C.kp m;replace a:=a.kp m o ah;replace q:=o.aK q λb J=>aq;clear o m z;refine gh ?_;refine b_ [(0,0),(1,0),(2,0),(4,3),(6,3),(3,1),(5,3),(7,1),(8,3),(9,3),(10,2)] mixed az λh c _=>?_;replace p:=p.Y c;replace i:=i.Y c;replace s:=s.Y c;replace r:=r.Y c;replace A:=A.Y c;replace a:=a.Y c;replace v:=v.Y c;replace q:=q.trans c;clear c;obtain⟨U,R,H,G⟩:=id s;obtain⟨L,I⟩:=bh H;obtain⟨av,au,Y,X⟩:=id r;obtain⟨a6,Z⟩:=bh Y;obtain⟨e,e,e,B⟩:=id a;obtain⟨D,C⟩:=bh e;have g:=G.mono (show N<=N+N+1 by omega);have u:=X.mono (show N<=N+N+1 by omega);have e:=B;refine gh ?_;refine dR fm ?_;refine gh ?_;refine dR fm ?_;refine gh ?_;refine aM (du 1 h aw aw) ?_;rintro _ B ⟨c,h,s1,rfl,h⟩;refine⟨c,?_⟩;replace p:=p.Y c;replace i:=i.Y c;replace s:=s.Y c;replace r:=r.Y c;replace A:=A.Y c;replace a:=a.Y c;replace v:=v.Y c;replace g:=g.Y c;replace u:=u.Y c;replace e:=e.Y c;replace q:=q.trans c;clear c;clear L I a6 Z D C;refine gh ?_;refine wu F rfl ?_;refine gh ?_;refine aM (du 1 B aw aw) ?_;rintro _ B ⟨c,s2,C,rfl,C⟩;refine⟨c,?_⟩;replace p:=p.Y c;replace i:=i.Y c;replace s:=s.Y c;replace r:=r.Y c;replace A:=A.Y c;replace a:=a.Y c;replace v:=v.Y c;replace g:=g.Y c;replace u:=u.Y c;replace e:=e.Y c;replace h:=h.Y c;replace q:=q.trans c;clear c;refine gh ?_;refine wu F rfl ?_;refine gh ?_;refine Br F rfl rfl rfl rfl ?_;refine gh ?_;have a:Bd (N+N+1) 1:=(show Bd 1 1 by unfold Bd;decide).mono aq;have c:=Ml g u e (h.ev true a) ((CV.zero B).ev true (Bd.zero (N+N+1))) ((CV.zero B).ev true (Bd.zero (N+N+1))) (C.ev true a);refine tL (.inl F) F rfl c i F Du ?_;intro a Gc o m z;obtain⟨a,e,c⟩:=Gc;refine gh ?_;exact Mg F qX F e (bf 14 a) ⟨o.aK q λb J=>aq,a,F,c⟩
