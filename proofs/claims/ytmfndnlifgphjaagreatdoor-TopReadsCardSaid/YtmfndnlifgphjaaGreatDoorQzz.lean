import Derived.Test.YtmfndnlifgphjaaGreatDoorQzy
set_option maxHeartbeats 64000000
open Go.Proofs.YtmfndnlifgphjaaGreatDoor

namespace Go.Proofs.Qq
section
open Go Go.cW Go.c7 Go.Proofs
open Go.aW (dC)
def dW(T:Nat)(w:World)(g c:Nat)(bn:Nat->Nat)(M:Nat->Int):Prop:=
 ∃h,bg w g T (arr (c*2) h)/\∀j,j<c->EV w (bn j) true (h (j*2)) (h (j*2+1)) (M j)
section
variable {T:Nat}{w w':World}{g c:Nat}{bn bn':Nat->Nat}{M M':Nat->Int}
theorem dW.lt(h:dW T w g c bn M):g<w.heap.size:=by obtain⟨_,hB,_⟩:=h;exact hB.lt
theorem dW.kp{a:Nat->Prop}(h:dW T w g c bn M)(e:Kp w w')(j:Ch a w w')(b:¬a g):dW T w' g c bn M:=by
 obtain⟨a,l,i⟩:=h;exact⟨a,l.ch j b,λj a=>(i j a).kp e⟩
theorem dW.Y(h:dW T w g c bn M)(a:Ext w w'):dW T w' g c bn M:=h.kp (bJ a) a id
theorem dW.congr(h:dW T w g c bn M)(e:∀j,j<c->bn j<=bn' j/\M j=M' j):dW T w g c bn' M':=by
 obtain⟨a,i,b⟩:=h;exact⟨a,i,λj a=>by rw[<-(e j a).2];exact(b j a).mono (e j a).1⟩
theorem dW.at{j:Nat}(h:dW T w g c bn M)(e:j<c):
 ∃x y,w.cell? ⟨g,0+j*2,none⟩=some x/\w.cell? ((⟨g,0+j*2,none⟩ : Addr).add 1)=some y/\EV w (bn j) true x y (M j):=by
 obtain⟨a,b,i⟩:=h;refine⟨a (j*2),a (j*2+1),?_,?_,i j e⟩
 ·rw[b.cell,Nat.zero_add,cE aq]
 ·rw[add_lit,b.cell,Nat.zero_add,cE aq]
theorem dW.Iu{j:Nat}(h:dW T w g c bn M)(i:j+1<c):
 ∃x y b a,w.cell? ⟨g,0+j*2,none⟩=some x/\w.cell? ((⟨g,0+j*2,none⟩ : Addr).add 1)=some y/\w.cell? ((⟨g,0+j*2,none⟩ : Addr).add 2)=some b/\w.cell? ((⟨g,0+j*2,none⟩ : Addr).add 3)=some a/\EV w (bn j) true x y (M j)/\EV w (bn (j+1)) true b a (M (j+1)):=by
 obtain⟨a,b,e⟩:=h;refine⟨a (j*2),a (j*2+1),a ((j+1)*2),a ((j+1)*2+1),?_,?_,?_,?_,e j aq,e (j+1) i⟩
 ·rw[b.cell,Nat.zero_add,cE aq]
 ·rw[add_lit,b.cell,Nat.zero_add,cE aq]
 ·rw[add_lit,b.cell,Nat.zero_add,cE aq,show j*2+2=(j+1)*2 by omega]
 ·rw[add_lit,b.cell,Nat.zero_add,cE aq,show j*2+3=(j+1)*2+1 by omega]
end
section
variable {n:Nat}{S:World->World->Prop}{k:Nat}{K:Fr->World->Prop}{f:Fr}{w:World}{d ty t t2:Nat}{x y:Operand}{pos:String}{aft:Array Edge}{gd:Option (Nat×Bool)}
theorem kI{T g c j N:Nat}{bn:Nat->Nat}{M:Nat->Int}{z:Int}{a b:Value}(v:k=2\/k=1/\∀w',Ch (λb=>b=g) w w'->S w w')(p:ev n f x=.pointer (some ⟨g,0+j*2,none⟩))(i:ev n f y=.agg #[a,b])(s:dW T w g c bn M)(h:j<c)(l:EV w N true a b z)
 (h:∀w',dW T w' g c (cC bn j N) (ef M j z)->Ch (λb=>b=g) w w'->Kp w w'->w'.heap.size=w.heap.size->K f w'):
 R1 Tryz.prog n S k ⟨none,.store 44 x y,ty,pos,aft,gd⟩ K f w:=by
 obtain⟨r,r,o⟩:=s;refine aZ aQ v p i l.1.ep l.1.eN r (by rw[bf];omega) ?_;intro w' i p s;have m:=c8 r (jK o).lh p;refine h w' ⟨_,by rw[cT,cT]at i;exact i,λq u=>?_⟩ p m s;by_cases e:q=j
 ·subst e;rw[Nat.zero_add,b9 _ _ (show q*2≠q*2+1 by omega),ct,ct];simp only[ef,cC,if_true];exact l.kp m
 ·rw[Nat.zero_add,b9 _ _ aq,b9 _ _ aq,b9 _ _ aq,b9 _ _ aq];simp only[ef,cC,aa e];exact(o q u).kp m
theorem iB:eP Tryz.prog 135 4=true:=by kernel_rfl
theorem tM{T g c j N:Nat}{bn:Nat->Nat}{M:Nat->Int}{z z':Int}{a b l h:Value}(C:k=2\/k=1/\∀w',Ch (λb=>b=g) w w'->S w w')(v:ev n f x=.pointer (some ⟨g,0+j*2,none⟩))(r:ev n f y=.agg #[a,b,l,h])(A:dW T w g c bn M)(s:j+1<c)(m:EV w N true a b z)(e:EV w N true l h z')
 (h:∀w',dW T w' g c (cC (cC bn j N) (j+1) N) (ef (ef M j z) (j+1) z')->Ch (λb=>b=g) w w'->Kp w w'->w'.heap.size=w.heap.size->K f w'):
 R1 Tryz.prog n S k ⟨none,.store 135 x y,ty,pos,aft,gd⟩ K f w:=by
 obtain⟨l,s,p⟩:=A;refine FU iB C v r m.1.ep m.1.eN e.1.ep e.1.eN s (by rw[bf];omega) ?_;intro w' l r v;have i:=c8 s (jK p).lh r;refine h w' ⟨_,by rw[cT,cT,cT,cT]at l;exact l,λq B=>?_⟩ r i v;by_cases o:q=j+1
 ·subst o;rw[Nat.zero_add,b9 _ _ (show(j+1)*2≠j*2+3 by omega),show(j+1)*2=j*2+2 by omega,ct,show j*2+2+1=j*2+3 by omega,ct];simp only[ef,cC,if_true];exact e.kp i
 ·by_cases u:q=j
  ·subst u;rw[Nat.zero_add,b9 _ _ (show q*2≠q*2+3 by omega),b9 _ _ (show q*2≠q*2+2 by omega),b9 _ _ (show q*2≠q*2+1 by omega),ct,b9 _ _ (show q*2+1≠q*2+3 by omega),b9 _ _ (show q*2+1≠q*2+2 by omega),ct];simp only[ef,cC,if_true,aa o];exact m.kp i
  ·rw[Nat.zero_add,b9 _ _ aq,b9 _ _ aq,b9 _ _ aq,b9 _ _ aq,b9 _ _ aq,b9 _ _ aq,b9 _ _ aq,b9 _ _ aq];simp only[ef,cC,aa o,aa u];exact(p q B).kp i
theorem kY{j G o:Nat}(b:ev n f x=.pointer (some ⟨G,o,none⟩))(a:ev n f y=.int .i64 (j:Int))(e:j<2)
 (h:K (cg f d (.pointer (some ⟨G,o+j*2,none⟩))) w):R1 Tryz.prog n S k ⟨some d,.indexAddr 135 x y,ty,pos,aft,gd⟩ K f w:=by
 refine cH (v:=.pointer (some ⟨G,o+j*2,none⟩)) (λw=>?_) h;have e:(0:Int)<=(j:Int)/\(j:Int)<((2:Nat):Int):=aq;simp only[execOp,b,a,Instr.indexAt,asIntOf,Sem.run_bind,Sem.run_pure,Result.andThen_ok,run_underlying Tryz.underlying135,Instr.sureAddr,Int.toNat_natCast];rw[ab e];simp only[Sem.run_bind,Sem.run_pure,Result.andThen_ok,eu aQ,add_lit]
theorem C_{a b c e:Value}(j:ev n f x=.agg #[a,b,c,e])(i:ev n f y=.int .i64 (((0:Nat)):Int))(h:K (cg f d (.agg #[a,b])) w):R1 Tryz.prog n S k ⟨some d,.index 135 x y,ty,pos,aft,gd⟩ K f w:=by
 refine cH (v:=.agg #[a,b]) (λw=>?_) h;simp[execOp,j,i,Instr.index,asIntOf,run_underlying Tryz.underlying135,part,eu aQ,iN aQ]
theorem C8{a b c e:Value}(j:ev n f x=.agg #[a,b,c,e])(i:ev n f y=.int .i64 (((1:Nat)):Int))(h:K (cg f d (.agg #[c,e])) w):R1 Tryz.prog n S k ⟨some d,.index 135 x y,ty,pos,aft,gd⟩ K f w:=by
 refine cH (v:=.agg #[c,e]) (λw=>?_) h;simp[execOp,j,i,Instr.index,asIntOf,run_underlying Tryz.underlying135,part,eu aQ,iN aQ]
end
theorem sV(Z e x2 y2:Value)(H A:Int)(N:Nat)(w:World)(h1:IV w N Z e H)(j:IV w N x2 y2 A)(a:N<1000000000)(a:0<A):
 aT Tryz.prog 139 #[.agg #[Z,e],.agg #[x2,y2]] w (RI w (dC H A)):=by
 refine bo (n:=22) Tryz.func139 F rfl az aA ?_;have i:Ext w w:=Ext.refl w;refine gg ?_;refine bO (v:=.agg _) (.inl F) F ?_;intro U a b u;have l:bg U w.heap.size 44 #[Z,e]:=a;obtain⟨R,e⟩ : ∃g,g=w.heap.size:=⟨_,F⟩;rw[<-e]at l⊢;have Z:w.heap.size<=R:=by have:=i.size;omega
 replace h1:=h1.Y b;replace j:=j.Y b;replace i:=i.trans b;clear a u e b;refine gg ?_;refine bO (v:=.agg _) (.inl F) F ?_;intro Z a b u;have m:bg Z U.heap.size 44 #[x2,y2]:=a;obtain⟨Q,e⟩ : ∃g,g=U.heap.size:=⟨_,F⟩;rw[<-e]at m⊢;have U:w.heap.size<=Q:=by have:=i.size;omega
 have U:R<Q:=by have:=l.lt;omega
 replace h1:=h1.Y b;replace j:=j.Y b;replace l:=l.Y b;replace i:=i.trans b;clear a u e b;refine gg ?_;refine aS (.inl F) a_ ?_;intro U a b u;have q:=Bx.zero (N:=1) true a;obtain⟨P,e⟩ : ∃g,g=Z.heap.size:=⟨_,F⟩;rw[<-e]at q⊢;have U:w.heap.size<=P:=by have:=i.size;omega
 have U:R<P:=by have:=l.lt;omega
 have U:Q<P:=by have:=m.lt;omega
 replace h1:=h1.Y b;replace j:=j.Y b;replace l:=l.Y b;replace m:=m.Y b;replace i:=i.trans b;clear a u e b;refine gg ?_;refine ib [(0,0),(1,0),(3,0),(5,0),(6,0)] [(2,[],[]),(13,[],[]),(14,[],[]),(4,[],[2]),(7,[],[4]),(8,[(9,3),(10,3),(11,3),(12,3)],[4,7])] [(15,2),(16,2),(17,3)] mixed az λY b _=>?_;replace h1:=h1.Y b;replace j:=j.Y b;replace l:=l.Y b;replace m:=m.Y b;replace q:=q.Y b;replace i:=i.trans b;clear b;obtain⟨p0,p1⟩:=bh l;obtain⟨q0,q1⟩:=bh m;have X:=h1.bd;have b2:=j.bd;refine gg ?_;refine dN [(2,[]),(4,[]),(7,[]),(8,[(9,3),(10,3),(11,3),(12,3)])] [fA 13 5 44 (.agg #[.bool false,.slice none 0 0]),fA 14 6 44 (.agg #[.bool false,.slice none 0 0])] [11,13,16,17,8,18,19,20,5,6] az (λa ha f' w' _ _=>by
  rcases List.mem_cons.1 ha with rfl|ha
  ·exact cm a_ F f' w'
  ·skip;rcases List.mem_singleton.1 ha with rfl;exact cm a_ F f' w') ?_
 have O:=l.lt;have L:=m.lt;have J:=q.lt;have a6:=i.size;clear p0 p1 q0 q1;refine gg ?_;refine cS λa b=>?_;replace h1:=h1.Y b;replace j:=j.Y b;replace l:=l.Y b;replace m:=m.Y b;replace q:=q.Y b;replace i:=i.trans b;clear b;refine gg ?_;refine aM (kH _ _ _ _ _ _ N a h1 h1 aq) ?_;rintro _ a ⟨b,a0,a,rfl,o⟩;refine⟨b,?_⟩;replace h1:=h1.Y b;replace j:=j.Y b;replace l:=l.Y b;replace m:=m.Y b;replace q:=q.Y b;replace i:=i.trans b;clear b;refine gg ?_;refine cS λa b=>?_;replace h1:=h1.Y b;replace j:=j.Y b;replace l:=l.Y b;replace m:=m.Y b;replace q:=q.Y b;replace o:=o.Y b;replace i:=i.trans b;clear b;refine gg ?_;refine aM (kH _ _ _ _ _ _ (N+1) a (o.iv (X.add X)) (j.mono aq) aq) ?_;rintro _ a ⟨b,a2,a3,rfl,r⟩;refine⟨b,?_⟩;replace h1:=h1.Y b;replace j:=j.Y b;replace l:=l.Y b;replace m:=m.Y b;replace q:=q.Y b;replace o:=o.Y b;replace i:=i.trans b;clear b;refine gg ?_;refine cS λa b=>?_;replace h1:=h1.Y b;replace j:=j.Y b;replace l:=l.Y b;replace m:=m.Y b;replace q:=q.Y b;replace o:=o.Y b;replace r:=r.Y b;replace i:=i.trans b;clear b;refine gg ?_;refine aM (kH _ _ _ _ _ _ N a j j aq) ?_;rintro _ a ⟨b,a4,a5,rfl,s⟩;refine⟨b,?_⟩;replace h1:=h1.Y b;replace j:=j.Y b;replace l:=l.Y b;replace m:=m.Y b;replace q:=q.Y b;replace o:=o.Y b;replace r:=r.Y b;replace i:=i.trans b;clear b;have b3:Bd (N+2) (H+H+A):=(X.add X).add (b2.mono aq);have b4:Bd (N+2) (A+A):=(b2.add b2).mono aq;refine gg ?_;refine cS λa b=>?_;replace h1:=h1.Y b;replace j:=j.Y b;replace l:=l.Y b;replace m:=m.Y b;replace q:=q.Y b;replace o:=o.Y b;replace r:=r.Y b;replace s:=s.Y b;replace i:=i.trans b;clear b;refine gg ?_;refine aM (jd _ _ _ _ _ _ (N+2) a (r.iv b3) (s.iv b4) aq aq) ?_;rintro _ a ⟨b,d0,d1,d2,d3,rfl,C,B⟩;refine⟨b,?_⟩;replace h1:=h1.Y b;replace j:=j.Y b;replace l:=l.Y b;replace m:=m.Y b;replace q:=q.Y b;replace o:=o.Y b;replace r:=r.Y b;replace s:=s.Y b;replace i:=i.trans b;clear b;refine gg ?_;refine eW λa b z V W=>?_;replace h1:=h1.Y b;replace j:=j.Y b;replace l:=l.Y b;replace m:=m.Y b;replace q:=q.Y b;replace o:=o.Y b;replace r:=r.Y b;replace s:=s.Y b;replace C:=C.Y b;replace B:=B.Y b;replace i:=i.trans b;clear b;obtain⟨p,G⟩:=V _ aG;have p:Y.heap.size<=z 5:=p;have D:Bx a (z 5) 1 true 0:=Bx.zero true G;obtain⟨h,E⟩:=V _ (List.mem_cons_of_mem _ aG);have h:Y.heap.size<=z 6:=h;have I:Bx a (z 6) 1 true 0:=Bx.zero true E;have a:z 6≠z 5:=W _ _ (List.mem_cons_of_mem _ aG) aG (show(6:Nat)≠5 by decide);show Ro _ _ _ _ _ _ (cg (cg _ 6 (.pointer (some ⟨z 6,0,none⟩))) 5 (.pointer (some ⟨z 5,0,none⟩))) _;generalize z 5=g5 at*;generalize z 6=g6 at*;have a:w.heap.size<=g5:=aq;have a:g5≠R:=aq;have a:g5≠Q:=aq;have a:g5≠P:=aq;have a:w.heap.size<=g6:=aq;have a:g6≠R:=aq;have a:g6≠Q:=aq;have a:g6≠P:=aq;clear V W a6 G p E h O L J;refine gg ?_;refine aL ag F rfl D (C.ev true b3.ediv) ?_;intro a D p a u;replace h1:=h1.kp a;replace j:=j.kp a;replace l:=l.ch p aq;replace m:=m.ch p aq;replace q:=q.kp a p ah;replace o:=o.kp a;replace r:=r.kp a;replace s:=s.kp a;replace C:=C.kp a;replace B:=B.kp a;replace I:=I.kp a p ah;replace i:=p.aK i λb E=>aq;clear p a u;have z:Bd (N+2) ((H+H+A)%(A+A)):=Bd.emod b4 aq;refine gg ?_;refine aL ag F rfl I (B.ev true z) ?_;intro z I p a u;replace h1:=h1.kp a;replace j:=j.kp a;replace l:=l.ch p aq;replace m:=m.ch p aq;replace q:=q.kp a p ah;replace o:=o.kp a;replace r:=r.kp a;replace s:=s.kp a;replace C:=C.kp a;replace B:=B.kp a;replace D:=D.kp a p ah;replace i:=p.aK i λb E=>aq;clear p a u;obtain⟨z,z,A,z⟩:=id D;obtain⟨G,G⟩:=bh A;refine gg ?_;refine aL ag F rfl q (z) ?_;intro e q p a u;replace h1:=h1.kp a;replace j:=j.kp a;replace l:=l.ch p aq;replace m:=m.ch p aq;replace o:=o.kp a;replace r:=r.kp a;replace s:=s.kp a;replace C:=C.kp a;replace B:=B.kp a;replace D:=D.kp a p ah;replace I:=I.kp a p ah;replace i:=p.aK i λb E=>aq;clear p a u;obtain⟨u,v,b,a⟩:=q;refine gg ?_;exact eZ F aQ F b ⟨i,u,v,F,a.2 F⟩
theorem jL(B h q e A z D u:Value)(v0 v1 b a:Int)(N:Nat)(w:World)(p:IV w N B h v0)(h1:IV w N q e v1)(o:IV w N A z b)(m:IV w N D u a)(i:N<1000000000):
 aT Tryz.prog 142 #[.agg #[B,h,q,e],.agg #[A,z],.agg #[D,u]] w (RI w (v0*b+v1*a)):=by
 refine bo (n:=16) Tryz.func142 F rfl az aA ?_;have i:Ext w w:=Ext.refl w;refine gg ?_;refine bO (v:=.agg _) (.inl F) F ?_;intro r b a s;have l:bg r w.heap.size 135 #[B,h,q,e]:=b;obtain⟨B,e⟩ : ∃g,g=w.heap.size:=⟨_,F⟩;rw[<-e]at l⊢;have h:w.heap.size<=B:=by have:=i.size;omega
 replace p:=p.Y a;replace h1:=h1.Y a;replace o:=o.Y a;replace m:=m.Y a;replace i:=i.trans a;clear b s e a;refine gg ?_;refine bO (v:=.agg _) (.inl F) F ?_;intro h b a s;have q:bg h r.heap.size 44 #[A,z]:=b;obtain⟨A,e⟩ : ∃g,g=r.heap.size:=⟨_,F⟩;rw[<-e]at q⊢;have r:w.heap.size<=A:=by have:=i.size;omega
 have r:B<A:=by have:=l.lt;omega
 replace p:=p.Y a;replace h1:=h1.Y a;replace o:=o.Y a;replace m:=m.Y a;replace l:=l.Y a;replace i:=i.trans a;clear b s e a;refine gg ?_;refine bO (v:=.agg _) (.inl F) F ?_;intro C b a s;have r:bg C h.heap.size 44 #[D,u]:=b;obtain⟨u,e⟩ : ∃g,g=h.heap.size:=⟨_,F⟩;rw[<-e]at r⊢;have h:w.heap.size<=u:=by have:=i.size;omega
 have h:B<u:=by have:=l.lt;omega
 have h:A<u:=by have:=q.lt;omega
 replace p:=p.Y a;replace h1:=h1.Y a;replace o:=o.Y a;replace m:=m.Y a;replace l:=l.Y a;replace q:=q.Y a;replace i:=i.trans a;clear b s e a;refine gg ?_;refine aS (.inl F) a_ ?_;intro h b a s;have z:=Bx.zero (N:=1) true b;obtain⟨h,e⟩ : ∃g,g=C.heap.size:=⟨_,F⟩;rw[<-e]at z⊢;have C:w.heap.size<=h:=by have:=i.size;omega
 have C:B<h:=by have:=l.lt;omega
 have B:A<h:=by have:=q.lt;omega
 have A:u<h:=by have:=r.lt;omega
 replace p:=p.Y a;replace h1:=h1.Y a;replace o:=o.Y a;replace m:=m.Y a;replace l:=l.Y a;replace q:=q.Y a;replace r:=r.Y a;replace i:=i.trans a;clear b s e a;refine gg ?_;refine b_ [(0,3),(1,0),(2,0),(4,3),(5,0),(6,0),(3,1),(7,1),(8,1),(9,2)] mixed az λb a _=>?_;replace p:=p.Y a;replace h1:=h1.Y a;replace o:=o.Y a;replace m:=m.Y a;replace l:=l.Y a;replace q:=q.Y a;replace r:=r.Y a;replace z:=z.Y a;replace i:=i.trans a;clear a;obtain⟨⟨P,O⟩,L,J⟩:=Pa l;obtain⟨I,H⟩:=bh q;obtain⟨h,e⟩:=bh r;refine gg ?_;refine kY (j:=0) F rfl aw ?_;refine gg ?_;refine kY (j:=1) F rfl aw ?_;have G:=p.bd;have E:=h1.bd;have D:=o.bd;have C:=m.bd;refine gg ?_;refine aM (fy _ _ _ _ _ _ N b p o aq) ?_;rintro _ b ⟨a,a0,u,rfl,u⟩;refine⟨a,?_⟩;replace p:=p.Y a;replace h1:=h1.Y a;replace o:=o.Y a;replace m:=m.Y a;replace l:=l.Y a;replace q:=q.Y a;replace r:=r.Y a;replace z:=z.Y a;replace i:=i.trans a;clear a;refine gg ?_;refine aM (fy _ _ _ _ _ _ N b h1 m aq) ?_;rintro _ b ⟨a,a2,a3,rfl,A⟩;refine⟨a,?_⟩;replace p:=p.Y a;replace h1:=h1.Y a;replace o:=o.Y a;replace m:=m.Y a;replace l:=l.Y a;replace q:=q.Y a;replace r:=r.Y a;replace z:=z.Y a;replace u:=u.Y a;replace i:=i.trans a;clear a;refine gg ?_;refine aM (kH _ _ _ _ _ _ (N+N) b (u.iv (G.mul D)) (A.iv (E.mul C)) aq) ?_;rintro _ b ⟨a,a4,a5,rfl,B⟩;refine⟨a,?_⟩;replace p:=p.Y a;replace h1:=h1.Y a;replace o:=o.Y a;replace m:=m.Y a;replace l:=l.Y a;replace q:=q.Y a;replace r:=r.Y a;replace z:=z.Y a;replace u:=u.Y a;replace A:=A.Y a;replace i:=i.trans a;clear a;clear P O L J I H h e;refine gg ?_;refine aL ag F rfl z (B.ev true ((G.mul D).add (E.mul C))) ?_;intro a z e a s;replace p:=p.kp a;replace h1:=h1.kp a;replace o:=o.kp a;replace m:=m.kp a;replace l:=l.ch e aq;replace q:=q.ch e aq;replace r:=r.ch e aq;replace u:=u.kp a;replace A:=A.kp a;replace B:=B.kp a;replace i:=e.aK i λb b=>aq;clear e a s;obtain⟨u,v,b,a⟩:=z;refine gg ?_;exact eZ F aQ F b ⟨i,u,v,F,a.2 F⟩
theorem qX:eP Tryz.prog 137 14=true:=by kernel_rfl
def pz(a b c j i h e:Int):Nat->Int
 |0=>a
 |1=>b
 |2=>c
 |3=>j
 |4=>i
 |5=>h
 |_=>e
theorem qR{M:Nat->Int}{a b c l i h e:Int}(s:M 0=a)(h1:M 1=b)(r:M 2=c)(q:M 3=l)(p:M 4=i)(o:M 5=h)(m:M 6=e):∀j,j<7->M j=pz a b c l i h e j:=λj e=>by
 have:j=0\/j=1\/j=2\/j=3\/j=4\/j=5\/j=6:=aq;rcases this with rfl|rfl|rfl|rfl|rfl|rfl|rfl
 ·exact s
 ·exact h1
 ·exact r
 ·exact q
 ·exact p
 ·exact o
 ·exact m
def qG(w:World)(g N:Nat)(z:Nat->Int):Prop:=dW 137 w g 7 (λ_=>N) z
theorem qG.kp{w w':World}{g N:Nat}{z:Nat->Int}{a:Nat->Prop}(h:qG w g N z)(e:Kp w w')(i:Ch a w w')(b:¬a g):qG w' g N z:=dW.kp h e i b
theorem qG.Y{w w':World}{g N:Nat}{z:Nat->Int}(h:qG w g N z)(a:Ext w w'):qG w' g N z:=dW.Y h a
theorem qG.lt{w:World}{g N:Nat}{z:Nat->Int}(h:qG w g N z):g<w.heap.size:=dW.lt h
theorem qG.congr{w:World}{g N N':Nat}{z z':Nat->Int}(h:qG w g N z)(b:N<=N')(e:∀j,j<7->z j=z' j):qG w g N' z':=dW.congr h λj a=>⟨b,e j a⟩
theorem ks:cI Tryz.prog 137 0 0:=by
 unfold cI;intro a w;simp[Instr.fieldAt,run_underlying Tryz.underlying137,Instr.sureAddr,fieldPlace,eu aQ]
theorem lZ:cI Tryz.prog 137 1 2:=by
 unfold cI;intro a w;simp[Instr.fieldAt,run_underlying Tryz.underlying137,Instr.sureAddr,fieldPlace,eu aQ]
theorem kr:cI Tryz.prog 137 2 4:=by
 unfold cI;intro a w;simp[Instr.fieldAt,run_underlying Tryz.underlying137,Instr.sureAddr,fieldPlace,eu aQ]
theorem ob:cI Tryz.prog 137 3 6:=by
 unfold cI;intro a w;simp[Instr.fieldAt,run_underlying Tryz.underlying137,Instr.sureAddr,fieldPlace,eu iB]
theorem lY:cI Tryz.prog 137 4 10:=by
 unfold cI;intro a w;simp[Instr.fieldAt,run_underlying Tryz.underlying137,Instr.sureAddr,fieldPlace,eu iB]
theorem oB(g N:Nat)(z:Nat->Int)(w:World)(C:qG w g N z)(a:N<1000000000):
 aT Tryz.prog 83 #[.pointer (some ⟨g,0,none⟩)] w λv w'=>Ext w w'/\v=.bool (decide (4*z 2<3*z 0)):=by
 refine bo (n:=21) Tryz.func83 F rfl az aA ?_;have m:Ext w w:=Ext.refl w;have A:Bd 1 4:=by unfold Bd;decide
 have B:Bd 1 3:=by unfold Bd;decide
 refine gg ?_;refine aJ (du 4 w aw aw) ?_;rintro _ b ⟨a,a0,e,rfl,i⟩;replace m:=m.trans a;clear a;refine gg ?_;refine aJ (du 3 b aw aw) ?_;rintro _ p ⟨a,a2,a3,rfl,l⟩;replace i:=i.Y a;replace m:=m.trans a;clear a;refine gg ?_;refine aS (.inl F) a_ ?_;intro h b a r;have o:=Bx.zero (N:=1) true b;obtain⟨q,e⟩ : ∃g,g=p.heap.size:=⟨_,F⟩;rw[<-e]at o⊢;have p:w.heap.size<=q:=by have:=m.size;omega
 replace i:=i.Y a;replace l:=l.Y a;replace m:=m.trans a;clear b r e a;refine gg ?_;refine aS (.inl F) a_ ?_;intro p b a r;have p:=Bx.zero (N:=1) true b;obtain⟨s,e⟩ : ∃g,g=h.heap.size:=⟨_,F⟩;rw[<-e]at p⊢;have h:w.heap.size<=s:=by have:=m.size;omega
 have h:q<s:=by have:=o.lt;omega
 replace i:=i.Y a;replace l:=l.Y a;replace o:=o.Y a;replace m:=m.trans a;clear b r e a;refine gg ?_;refine aL ag F rfl o (i.ev true A) ?_;intro q o s q r;replace i:=i.kp q;replace l:=l.kp q;replace p:=p.kp q s ah;replace m:=s.aK m λb u=>aq;clear s q r;refine gg ?_;refine aL ag F rfl p (l.ev true B) ?_;intro e p s q r;replace i:=i.kp q;replace l:=l.kp q;replace o:=o.kp q s ah;replace m:=s.aK m λb u=>aq;clear s q r;refine gg ?_;refine b_ [(0,0),(1,3),(2,3),(3,3),(4,0),(6,0),(7,3),(8,3),(9,3),(10,0),(5,1),(11,1),(12,1),(13,3),(14,3)] mixed az λH a _=>?_;replace i:=i.Y a;replace l:=l.Y a;replace o:=o.Y a;replace p:=p.Y a;replace m:=m.trans a;clear a;have q:=C.Y m;obtain⟨b,b,O,J,e⟩:=dW.at q (j:=0) aw;obtain⟨b,b,L,I,b⟩:=dW.at q (j:=2) aw;obtain⟨q,q,r,q⟩:=id o;obtain⟨C,u⟩:=bh r;obtain⟨r,r,r,D⟩:=id p;obtain⟨G,E⟩:=bh r;have r:=q.1;have s:=D.1;replace e:=e.1;replace b:=b.1;refine gg ?_;refine aV kr F ?_;refine gg ?_;refine aV ks F ?_;refine gg ?_;clear O J L I C u G E;have E:=IV.bd e;have D:=IV.bd b;refine gg ?_;refine aM (fy _ _ _ _ _ _ (N+1) H (r.mono aq) (b.mono aq) aq) ?_;rintro _ u ⟨a,a4,a5,rfl,q⟩;refine⟨a,?_⟩;replace i:=i.Y a;replace l:=l.Y a;replace o:=o.Y a;replace p:=p.Y a;replace e:=e.Y a;replace b:=b.Y a;replace r:=r.Y a;replace s:=s.Y a;replace m:=m.trans a;clear a;refine gg ?_;refine aM (fy _ _ _ _ _ _ (N+1) u (s.mono aq) (e.mono aq) aq) ?_;rintro _ C ⟨a,u,u,rfl,u⟩;refine⟨a,?_⟩;replace i:=i.Y a;replace l:=l.Y a;replace o:=o.Y a;replace p:=p.Y a;replace e:=e.Y a;replace b:=b.Y a;replace r:=r.Y a;replace s:=s.Y a;replace q:=q.Y a;replace m:=m.trans a;clear a;refine gg ?_;refine aM (o8 _ _ _ _ _ _ (1+N) C (q.iv (A.mul D)) (u.iv (B.mul E)) aq) ?_;rintro _ A ⟨a,rfl⟩;refine⟨a,?_⟩;replace i:=i.Y a;replace l:=l.Y a;replace o:=o.Y a;replace p:=p.Y a;replace e:=e.Y a;replace b:=b.Y a;replace r:=r.Y a;replace s:=s.Y a;replace q:=q.Y a;replace u:=u.Y a;replace m:=m.trans a;clear a;have b:decide (e_ (4*z 2) (3*z 0)<0)=decide (4*z 2<3*z 0):=by
  unfold e_;by_cases h:4*z 2<3*z 0
  ·rw[ab h,decide_eq_true h];rfl
  ·rw[aa h,decide_eq_false h];by_cases a:3*z 0<4*z 2
   ·rw[ab a];rfl
   ·rw[aa a];rfl
 refine gg ?_;exact bF (v:=.bool _) F rfl ⟨m,by rw[<-b]⟩
section
variable {n:Nat}{S:World->World->Prop}{k:Nat}{K:Fr->World->Prop}{f:Fr}{w:World}{d ty t t2:Nat}{x y:Operand}{pos:String}{aft:Array Edge}{gd:Option (Nat×Bool)}
theorem F5{a b c e:Value}{j:Nat}{v:Value}(m:j<2)(g:v=if j=0 then .agg #[a,b]else .agg #[c,e])(l:ev n f x=.agg #[a,b,c,e])(i:ev n f y=.int .i64 (((j:Nat)):Int))(h:K (cg f d v) w):R1 Tryz.prog n S k ⟨some d,.index 135 x y,ty,pos,aft,gd⟩ K f w:=by
 have:j=0\/j=1:=aq;rcases this with rfl|rfl
 ·rw[ab F]at g;subst g;exact C_ l i h
 ·rw[aa aw]at g;subst g;exact C8 l i h
end
theorem zM{N:Nat}{a b:Int}(c:Bd N a)(c:0<b):Bd (N+1) (dC a b):=by
 have h:=Go.aW.vw (a:=a) (b:=b) (U:=(a.natAbs:Int)) c (by
  have:=Int.mul_le_mul_of_nonneg_left (show(1:Int)<=b by omega) (show(0:Int)<=(a.natAbs:Int) by omega);omega) (by
  have:=Int.mul_le_mul_of_nonneg_left (show(1:Int)<=b by omega) (show(0:Int)<=(a.natAbs:Int) by omega);omega)
 unfold Bd at*;have c:=Lv N;have c:=BC N;omega
structure Ey(J:Int->Int->Int->Int->Int->Int->Int->Prop)(N:Nat):Prop where
 step:∀a b c f0 f1 g0 g1,J a b c f0 f1 g0 g1->4*c<3*a->J c (b-dC b c*c) (a-dC b c*(b+(b-dC b c*c))) g0 g1 (f0-dC b c*g0) (f1-dC b c*g1)
 pos:∀a b c f0 f1 g0 g1,J a b c f0 f1 g0 g1->0<a/\0<c
 bd:∀a b c f0 f1 g0 g1,J a b c f0 f1 g0 g1->Bd N a/\Bd N b/\Bd N c/\Bd N f0/\Bd N f1/\Bd N g0/\Bd N g1
theorem sS(J:Int->Int->Int->Int->Int->Int->Int->Prop)(g N:Nat)(a b c I H G E:Int)(w:World)(o:qG w g N (pz a b c I H G E))(hJ:Ey J N)(U:J a b c I H G E)(v:N<100000000):
 aT Tryz.prog 141 #[.pointer (some ⟨g,0,none⟩)] w λv L=>v=.tuple #[]/\Ch (λb=>b=g) w L/\Kp w L/\∃a b c I H G E,qG L g N (pz a b c I H G E)/\J a b c I H G E/\¬4*c<3*a:=by
 refine bo (n:=100) Tryz.func141 F rfl az aA ?_;refine gg ?_;refine aU (λm f L=>∃a b c I H G E,m=a.toNat/\f 0=.pointer (some ⟨g,0,none⟩)/\Ch (λb=>b=g) w L/\Kp w L/\qG L g N (pz a b c I H G E)/\J a b c I H G E) a.toNat ⟨a,b,c,I,H,G,E,rfl,rfl,Ch.refl _ _,Kp.refl _,o,U⟩ ?_;clear o U;clear a b c I H G E;rintro m f w1 ⟨a,b,c,I,H,G,E,rfl,ay,c5,J,o,U⟩;rw[ui ay];clear ay;obtain⟨ha,hc⟩:=hJ.pos _ _ _ _ _ _ _ U;obtain⟨v,bb,bc,v,v,v,v⟩:=hJ.bd _ _ _ _ _ _ _ U;refine aN ?_;have p:Ext w1 w1:=Ext.refl w1;refine gg ?_;refine aJ (oB g N _ w1 o aq) ?_;rintro _ v ⟨l,rfl⟩;replace o:=o.Y l;replace p:=p.trans l;clear l;by_cases v:4*pz a b c I H G E 2<3*pz a b c I H G E 0;rotate_left
 ·refine gg ?_;exact lP F ⟨F,c5.trans (p.mono λ_ _ h=>h.elim),J.trans (bJ p),a,b,c,I,H,G,E,o,U,v⟩
 have cf:4*c<3*a:=v;refine gg ?_;refine gg ?_;refine b_ [(0,3),(1,3),(2,3),(3,3),(4,3),(5,0),(6,3),(7,3),(8,3),(9,0),(10,3),(11,3),(12,2),(13,3),(14,3),(15,2)] mixed az λv l _=>?_;replace o:=o.Y l;replace p:=p.trans l;clear l;obtain⟨x0,y0,e0,b5,s⟩:=dW.at o (j:=0) aw;obtain⟨x2,y2,e2,bG,O⟩:=dW.at o (j:=2) aw;have C:Ch (λb=>b=g) w v:=c5.trans (p.mono λ_ _ h=>h.elim);have B:Kp w v:=J.trans (bJ p);clear p;refine gg ?_;refine aV kr F ?_;refine gg ?_;refine aV ks F ?_;refine gg ?_;refine aV ks F ?_;refine gg ?_;refine kI (j:=0) (.inl F) F rfl o aw O ?_;intro v c4 b1 R cq;replace s:=s.kp R;clear e0 b5 e2 bG o;refine gg ?_;refine aV kr F ?_;refine gg ?_;refine kI (j:=2) (.inl F) F rfl c4 aw s ?_;intro w3 bY b0 ax ck;have o:qG w3 g N (pz c b a I H G E):=dW.congr bY λj U=>⟨by simp only[cC];split<;>(first|exact Nat.le_refl _|(split<;>exact Nat.le_refl _)),by
  revert j;exact qR F rfl rfl rfl rfl rfl rfl⟩
 replace C:=C.trans (b1.trans b0);replace B:=B.trans (R.trans ax);clear c4 bY b1 b0 R ax s O;refine gg ?_;have p:Ext w3 w3:=Ext.refl w3;refine gg ?_;refine b_ [(0,3),(1,3),(2,3),(3,3),(4,3),(5,0),(6,3),(7,3),(8,3),(9,0),(10,3),(11,3),(12,2),(13,3),(14,3),(15,2)] mixed az λv l _=>?_;replace o:=o.Y l;replace p:=p.trans l;clear l;obtain⟨u0,u1,u2,u3,k0,k1,k2,k3,s,r⟩:=dW.Iu o (j:=3) aw;obtain⟨J,J,J,J,l0,l1,l2,J,O,v3⟩:=dW.Iu o (j:=5) aw;replace C:Ch (λb=>b=g) w v:=C.trans (p.mono λ_ _ h=>h.elim);replace B:Kp w v:=B.trans (bJ p);clear p;refine gg ?_;refine aV lY F ?_;refine gg ?_;refine jh aw iB F l0 l1 l2 J ?_;refine gg ?_;refine aV ob F ?_;refine gg ?_;refine jh aw iB F k0 k1 k2 k3 ?_;refine gg ?_;refine aV ob F ?_;refine gg ?_;refine tM (j:=3) (.inl F) F rfl o aw O v3 ?_;intro v bX b1 R cq;replace s:=s.kp R;replace r:=r.kp R;clear k0 k1 k2 k3 l0 l1 l2 J o;refine gg ?_;refine aV lY F ?_;refine gg ?_;refine tM (j:=5) (.inl F) F rfl bX aw s r ?_;intro w5 bW b0 ax ck;have o:qG w5 g N (pz c b a G E I H):=dW.congr bW λj U=>⟨by simp only[cC];repeat (first|exact Nat.le_refl _|split),by
  revert j;exact qR F rfl rfl rfl rfl rfl rfl⟩
 replace C:=C.trans (b1.trans b0);replace B:=B.trans (R.trans ax);clear bX bW b1 b0 R ax s r O v3;refine gg ?_;have p:Ext w5 w5:=Ext.refl w5;refine gg ?_;refine ib [(0,3),(1,3),(2,3),(3,0),(4,3),(5,3),(6,3),(7,0)] [(8,[],[]),(9,[],[])] [(10,2)] mixed az λcc l _=>?_;replace o:=o.Y l;replace p:=p.trans l;clear l;obtain⟨x0,y0,e0,b5,s⟩:=dW.at o (j:=0) aw;obtain⟨x1,y1,e1,b4,r⟩:=dW.at o (j:=1) aw;refine gg ?_;refine aV lZ F ?_;refine gg ?_;refine aV ks F ?_;replace s:=s.1;replace r:=r.1;refine gg ?_;refine dN [(8,[])] [fA 9 2 44 (.agg #[.bool false,.slice none 0 0])] [44,2] az (λa ha f' L _ _=>by
  rcases List.mem_singleton.1 ha with rfl;exact cm a_ F f' L) ?_
 have aj:=o.lt;have b6:=p.size;clear e0 b5 e1 b4;obtain⟨q,hq⟩ : ∃q,q=dC b c:=⟨_,F⟩;have bq:Bd (N+1) q:=by rw[hq];exact zM bb hc
 refine gg ?_;refine cS λv l=>?_;replace o:=o.Y l;replace s:=s.Y l;replace r:=r.Y l;replace p:=p.trans l;clear l;refine gg ?_;refine aM (sV _ _ _ _ b c N v r s aq hc) ?_;rintro _ v ⟨l,a0,v,rfl,an⟩;refine⟨l,?_⟩;replace o:=o.Y l;replace s:=s.Y l;replace r:=r.Y l;replace p:=p.trans l;clear l;rw[<-hq]at an;refine gg ?_;refine eW λv l bs aH b7=>?_;replace o:=o.Y l;replace s:=s.Y l;replace r:=r.Y l;replace an:=an.Y l;replace p:=p.trans l;clear l;obtain⟨ak,bx⟩:=aH _ aG;have ak:cc.heap.size<=bs 2:=ak;have z:Bx v (bs 2) 1 true 0:=Bx.zero true bx;show Ro _ _ _ _ _ _ (cg _ 2 (.pointer (some ⟨bs 2,0,none⟩))) _;generalize bs 2=gF at*;have v:w5.heap.size<=gF:=aq;have v:gF≠g:=aq;clear aH b7 b6 bx ak aj;refine gg ?_;refine aL ag F rfl z (an.ev true bq) ?_;intro v z A u M;replace o:=o.kp u A ah;replace s:=s.kp u;replace r:=r.kp u;replace an:=an.kp u;replace p:=A.aK p λb hb=>aq;clear A u M;refine gg ?_;refine ib [(0,3),(1,3),(2,3),(3,0),(4,0),(5,3),(6,3),(7,3),(8,0)] [(9,[],[]),(11,[],[]),(10,[],[9])] [(12,2)] mixed az λcb l _=>?_;replace o:=o.Y l;replace z:=z.Y l;replace p:=p.trans l;clear l;obtain⟨x0,y0,e0,b5,s⟩:=dW.at o (j:=0) aw;obtain⟨x1,y1,e1,b4,r⟩:=dW.at o (j:=1) aw;obtain⟨bK,bI,a8,Z⟩:=id z;obtain⟨ai,ae⟩:=bh a8;have D:=Z.1;refine gg ?_;refine aV lZ F ?_;refine gg ?_;refine aV ks F ?_;replace s:=s.1;replace r:=r.1;refine gg ?_;refine dN [(9,[]),(10,[])] [fA 11 3 44 (.agg #[.bool false,.slice none 0 0])] [54,55,3] az (λa ha f' L _ _=>by
  rcases List.mem_singleton.1 ha with rfl;exact cm a_ F f' L) ?_
 have aj:=o.lt;have bB:=z.lt;have b6:=p.size;clear e0 b5 e1 b4 ai ae;refine gg ?_;refine cS λv l=>?_;replace o:=o.Y l;replace z:=z.Y l;replace s:=s.Y l;replace r:=r.Y l;replace D:=D.Y l;replace p:=p.trans l;clear l;refine gg ?_;refine aM (fy _ _ _ _ _ _ (N+1) v D (s.mono aq) aq) ?_;rintro _ v ⟨l,a2,a3,rfl,Q⟩;refine⟨l,?_⟩;replace o:=o.Y l;replace z:=z.Y l;replace s:=s.Y l;replace r:=r.Y l;replace D:=D.Y l;replace p:=p.trans l;clear l;have J:=bq.mul bc;refine gg ?_;refine cS λv l=>?_;replace o:=o.Y l;replace z:=z.Y l;replace s:=s.Y l;replace r:=r.Y l;replace D:=D.Y l;replace Q:=Q.Y l;replace p:=p.trans l;clear l;refine gg ?_;refine aM (mj _ _ _ _ _ _ (N+1+N) v (r.mono aq) (Q.iv J) aq) ?_;rintro _ v ⟨l,a4,a5,rfl,Y⟩;refine⟨l,?_⟩;replace o:=o.Y l;replace z:=z.Y l;replace s:=s.Y l;replace r:=r.Y l;replace D:=D.Y l;replace Q:=Q.Y l;replace p:=p.trans l;clear l;obtain⟨W,bD⟩ : ∃W,W=b-q*c:=⟨_,F⟩;have Y:CV v a4 a5 W:=by rw[bD];exact Y
 have c9:Bd (N+1+N+1) W:=by rw[bD];exact(bb.mono aq).sub J
 refine gg ?_;refine eW λv l bs aH b7=>?_;replace o:=o.Y l;replace z:=z.Y l;replace s:=s.Y l;replace r:=r.Y l;replace D:=D.Y l;replace Q:=Q.Y l;replace Y:=Y.Y l;replace p:=p.trans l;clear l;obtain⟨al,bA⟩:=aH _ aG;have al:cb.heap.size<=bs 3:=al;have P:Bx v (bs 3) 1 true 0:=Bx.zero true bA;show Ro _ _ _ _ _ _ (cg _ 3 (.pointer (some ⟨bs 3,0,none⟩))) _;generalize bs 3=gB at*;have v:w5.heap.size<=gB:=aq;have v:gB≠g:=aq;have v:gB≠gF:=aq;clear aH b7 b6 bA al aj bB;refine gg ?_;refine aL ag F rfl P (Y.ev true c9) ?_;intro v P A u M;replace o:=o.kp u A ah;replace z:=z.kp u A ah;replace s:=s.kp u;replace r:=r.kp u;replace D:=D.kp u;replace Q:=Q.kp u;replace Y:=Y.kp u;replace p:=A.aK p λb hb=>aq;clear A u M;refine gg ?_;refine b_ [(0,3),(1,3),(2,3),(3,3),(4,0),(5,0),(6,3),(7,3),(8,3),(9,0),(10,0),(11,1),(12,1),(13,1),(14,3),(15,3),(16,2)] mixed az λv l _=>?_;replace o:=o.Y l;replace z:=z.Y l;replace P:=P.Y l;replace p:=p.trans l;clear l;obtain⟨x2,y2,e2,bG,O⟩:=dW.at o (j:=2) aw;obtain⟨x1,y1,e1,b4,r⟩:=dW.at o (j:=1) aw;obtain⟨bK,bI,a8,Z⟩:=id z;obtain⟨ai,ae⟩:=bh a8;obtain⟨bS,bM,b8,av⟩:=id P;obtain⟨bl,bj⟩:=bh b8;have D:=Z.1;have vB:=av.1;replace O:IV v N x2 y2 a:=O.1;replace r:IV v N x1 y1 b:=r.1;refine gg ?_;refine aV kr F ?_;refine gg ?_;refine aV lZ F ?_;refine gg ?_;refine aM (kH _ _ _ _ _ _ (N+1+N+1) v (r.mono aq) vB aq) ?_;rintro _ J ⟨l,a2,a3,rfl,v⟩;refine⟨l,?_⟩;replace o:=o.Y l;replace z:=z.Y l;replace P:=P.Y l;replace r:=r.Y l;replace O:=O.Y l;replace D:=D.Y l;replace vB:=vB.Y l;replace p:=p.trans l;clear l;clear e2 bG e1 b4 ai ae bl bj;have R:Bd (N+1+N+1+1) (b+W):=(bb.mono aq).add c9;refine gg ?_;refine aM (fy _ _ _ _ _ _ (N+1+N+1+1) J (D.mono aq) (v.iv R) aq) ?_;rintro _ Y ⟨l,a4,a5,rfl,J⟩;refine⟨l,?_⟩;replace o:=o.Y l;replace z:=z.Y l;replace P:=P.Y l;replace r:=r.Y l;replace O:=O.Y l;replace D:=D.Y l;replace vB:=vB.Y l;replace v:=v.Y l;replace p:=p.trans l;clear l;have aj:=bq.mul R;refine gg ?_;refine aM (mj _ _ _ _ _ _ (N+1+(N+1+N+1+1)) Y (O.mono aq) (J.iv aj) aq) ?_;rintro _ R ⟨l,R,R,rfl,bu⟩;refine⟨l,?_⟩;replace o:=o.Y l;replace z:=z.Y l;replace P:=P.Y l;replace r:=r.Y l;replace O:=O.Y l;replace D:=D.Y l;replace vB:=vB.Y l;replace v:=v.Y l;replace J:=J.Y l;replace p:=p.trans l;clear l;have bt:=hJ.step _ _ _ _ _ _ _ U cf;rw[<-hq,<-bD]at bt;obtain⟨v,cv,v,J,J,J,J⟩:=hJ.bd _ _ _ _ _ _ _ bt;refine gg ?_;refine aV kr F ?_;refine gg ?_;refine kI (N:=N) (j:=2) (.inl F) F rfl o aw (bu.ev true v) ?_;intro au o A u M;replace z:=z.kp u A ah;replace P:=P.kp u A ah;replace bu:=bu.kp u;obtain⟨c',J⟩ : ∃c',c'=a-q*(b+W):=⟨_,F⟩;rw[<-J]at o bt v;replace C:=C.trans ((p.mono λ_ _ h=>h.elim).trans A);replace B:=B.trans ((bJ p).trans u);replace o:qG au g N (pz c b c' G E I H):=dW.congr o λj U=>⟨by simp only[cC];split<;>exact Nat.le_refl _,by
  revert j;exact qR F rfl rfl rfl rfl rfl rfl⟩
 clear A u M bu;clear p;have p:Ext au au:=Ext.refl _;obtain⟨bS,bM,b8,av⟩:=id P;obtain⟨bl,bj⟩:=bh b8;have vB:EV au N true bS bM W:=(av.2 F).ev true cv;refine gg ?_;refine aV lZ F ?_;clear av;refine gg ?_;refine kI (N:=N) (j:=1) (.inl F) F rfl o aw vB ?_;intro ar o A u M;replace z:=z.kp u A ah;replace C:=C.trans ((p.mono λ_ _ h=>h.elim).trans A);replace B:=B.trans ((bJ p).trans u);replace o:qG ar g N (pz c W c' G E I H):=dW.congr o λj U=>⟨by simp only[cC];split<;>exact Nat.le_refl _,by
  revert j;exact qR F rfl rfl rfl rfl rfl rfl⟩
 clear A u M vB P bl bj;clear p;have p:Ext ar ar:=Ext.refl _;obtain⟨u0,u1,u2,u3,k0,k1,k2,k3,s,r⟩:=dW.Iu o (j:=3) aw;refine gg ?_;refine aV ob F ?_;refine gg ?_;refine q_ aw iB F k0 k1 k2 k3 ?_;clear k0 k1 k2 k3;obtain⟨v,J⟩ : ∃v,v=ar:=⟨_,F⟩;rw[<-J]at C B o s r z⊢;clear p;have v:gF≠g:=aq;refine gg ?_;refine aU (λm f L=>∃i,m=2-i/\i<=2/\f 0=.pointer (some ⟨g,0,none⟩)/\f 2=.pointer (some ⟨gF,0,none⟩)/\f 79=.agg #[u0,u1,u2,u3]/\f 80=.int .i64 ((i:Nat):Int)/\Ch (λb=>b=g) w L/\Kp w L/\qG L g N (pz c W c' G E (if 0<i then I-q*G else I) (if 1<i then H-q*E else H))/\Bx L gF (N+1) true q/\EV L N true u0 u1 G/\EV L N true u2 u3 E)
  2 ⟨0,F,aw,F,F,F,F,C,B,o,z,s,r⟩ ?_
 clear C B o z s r;rintro m f w6 ⟨i,rfl,m,ay,J,v,m,C,B,o,z,s,r⟩;rw[ui ay,ui J,ui v,ui m];clear ay J v m;by_cases bC:i<2;rotate_left
 ·obtain rfl:i=2:=aq;rw[ab aw,ab aw]at o;refine gg ?_;refine⟨_,?_,_,_,_,_,_,_,_,F,F,C,B,o,bt⟩;omega
 obtain⟨J,v,L,m⟩ : ∃J v,Value.agg #[J,v]=(if i=0 then Value.agg #[u0,u1]else Value.agg #[u2,u3])/\EV w6 N true J v (if i=0 then G else E):=by
  by_cases e:i=0
  ·rw[ab e,ab e];exact⟨_,_,F,s⟩
  ·rw[aa e,aa e];exact⟨_,_,F,r⟩
 obtain⟨gx,X⟩ : ∃gx:Int,gx=if i=0 then G else E:=⟨_,F⟩;rw[<-X]at m;have p:Ext w6 w6:=Ext.refl w6;refine gg ?_;refine F5 bC L F rfl ?_;refine gg ?_;refine aS (.inl F) a_ ?_;intro e J v L;have V:=Bx.zero (N:=1) true J;obtain⟨e,O⟩ : ∃g,g=w6.heap.size:=⟨_,F⟩;rw[<-O]at V⊢;have O:e≠g/\e≠gF:=by have:=o.lt;have:=z.lt;omega
 refine gg ?_;refine aL (N':=N) (.inl F) F rfl V (m.Y v) ?_;intro O V A u M;have e:Ext w6 O:=A.aK v λb hb=>aq;replace o:=o.Y e;replace z:=z.Y e;replace s:=s.Y e;replace r:=r.Y e;replace p:=p.trans e;clear J v L A u M m e;refine gg ?_;refine gg ?_;refine cP [(0,3),(1,3),(2,3),(3,3),(4,3),(5,3),(6,3),(7,0),(8,0),(9,0),(12,3),(13,3),(10,1),(11,1),(14,3),(15,2)] mixed az λca l _=>?_;replace o:=o.Y l;replace z:=z.Y l;replace V:=V.Y l;replace s:=s.Y l;replace r:=r.Y l;replace p:=p.trans l;clear l;obtain⟨e,e,e5,c6,v5⟩:=dW.at o (j:=5+i) aq;obtain⟨fx,T⟩ : ∃fx:Int,fx=if i=0 then I else H:=⟨_,F⟩;have cu:pz c W c' G E (if 0<i then I-q*G else I) (if 1<i then H-q*E else H) (5+i)=fx:=by
  have:i=0\/i=1:=aq;rcases this with rfl|rfl
  ·rw[T];rfl
  ·rw[T];rfl
 rw[cu]at v5;rw[show 0+(5+i)*2=0+10+i*2 by omega]at e5 c6;obtain⟨bK,bI,a8,Z⟩:=id z;obtain⟨ai,ae⟩:=bh a8;obtain⟨e,e,e,m⟩:=id V;obtain⟨J,v⟩:=bh e;have D:=Z.1;have e:=m.1;replace v5:=v5.1;refine gg ?_;refine aV lY F ?_;refine gg ?_;refine kY F rfl bC ?_;refine gg ?_;refine aV lY F ?_;have L:Bd N gx:=by rw[X];split<;>assumption
 have m:Bd N fx:=by rw[T];split<;>assumption
 refine gg ?_;refine aM (fy _ _ _ _ _ _ (N+1) ca D (e.mono aq) aq) ?_;rintro _ m ⟨l,a2,a3,rfl,Q⟩;refine⟨l,?_⟩;replace o:=o.Y l;replace z:=z.Y l;replace V:=V.Y l;replace s:=s.Y l;replace r:=r.Y l;replace v5:=v5.Y l;replace D:=D.Y l;replace e:=e.Y l;replace p:=p.trans l;clear l;clear e5 c6 ai ae J v;refine gg ?_;refine aM (mj _ _ _ _ _ _ (N+1+N) m (v5.mono aq) (Q.iv (bq.mul L)) aq) ?_;rintro _ m ⟨l,a4,a5,rfl,m⟩;refine⟨l,?_⟩;replace o:=o.Y l;replace z:=z.Y l;replace V:=V.Y l;replace s:=s.Y l;replace r:=r.Y l;replace v5:=v5.Y l;replace D:=D.Y l;replace e:=e.Y l;replace Q:=Q.Y l;replace p:=p.trans l;clear l;have e:Bd N (fx-q*gx):=by
  rw[T,X];split<;>assumption
 refine gg ?_;refine kY F rfl bC ?_;refine gg ?_;rw[show 0+10+i*2=0+(5+i)*2 by omega];refine gg ?_;refine kI (N:=N) (j:=5+i) (.inl F) F rfl o aq (m.ev true e) ?_;intro e o A u M;replace z:=z.kp u A ah;replace V:=V.kp u A ah;replace s:=s.kp u;replace r:=r.kp u;replace C:=C.trans ((p.mono λ_ _ h=>h.elim).trans A);replace B:=B.trans ((bJ p).trans u);replace o:qG e g N (pz c W c' G E (if 0<i+1 then I-q*G else I) (if 1<i+1 then H-q*E else H)):=dW.congr o λj U=>⟨by simp only[cC];split<;>exact Nat.le_refl _,by
  have:i=0\/i=1:=aq;rcases this with rfl|rfl
  ·rw[ab F]at T X;subst T X;revert j;exact qR F rfl rfl rfl rfl rfl rfl
  ·rw[aa aw]at T X;subst T X;revert j;exact qR F rfl rfl rfl rfl rfl rfl⟩
 refine gg ?_;refine⟨_,?_,i+1,F,aq,F,F,F,F,C,B,o,z,s,r⟩;omega
