import Derived.Test.YtmfndnlifgphjaaGreatQzn
set_option maxHeartbeats 64000000
open Go.Proofs.YtmfndnlifgphjaaGreat
namespace Go.Proofs.Qq
section
open Go Go.cU Go.cV Go.Proofs
section
variable {P:Program}{n:Nat}{S:World->World->Prop}{k:Nat}{K:Fr->World->Prop}{f:Fr}{w:World}
 {d ty t t2:Nat} {x y:Operand} {pos:String} {aft:Array Edge} {gd:Option (Nat×Bool)}
theorem ko{g:FuncId}{l:List Operand}{c:Array TypeId}{b:Value->World->Prop}(e:aT P g (l.map (ev n f)).toArray w b)
 (h:∀v a,b v a->S w a/\K (bS f d v) a):R1 P n S 1 ⟨some d,.call { callee:=.value (.func g),args:=l.toArray,argTypes:=c },ty,pos,aft,gd⟩ K f w:=
 o_ (.inr F) aA e λv a b=>⟨λ_=>(h v a b).1,(h v a b).2⟩
theorem eK{M:Nat->Prop}{g T:Nat}{u v:Value}(i:k≠3)(l:dL P t 2=true)(j:ev n f x=.pointer (some ⟨g,0,none⟩))(c:bh w g T #[u,v])(m:¬M g)(h:K (bS f d (.agg #[u,v])) w):
 R1 P n (Ch M) k ⟨some d,.load t x,ty,pos,aft,gd⟩ K f w:=by
 refine fX i (v:=.agg #[u,v]) (λi b=>?_) h;have e:bh i g T #[u,v]:=by
  rcases b with b|rfl
  ·exact c.ch b m
  ·exact c
 obtain⟨c,b⟩:=a9 e;simp only[execOp,j,Sem.run_bind,cW l c b,Result.andThen_ok,Sem.run_pure]
theorem wi(M:Nat->Prop):∀a b c:World,Ch M a b->Ch M b c->Ch M a c:=λ_ _ _ h k=>h.trans k
theorem kE{Q:Exit->Fr->World->Prop}{i:Nat}{a:Array Oper}{c:Code}(M:Nat->Prop)(b:List (Nat×Nat))(j:P.follows .mixedOrders=true)
 (g:(b.length == a.size&&Region.noSelect a&&iu a (qF b) b (Array.replicate a.size false))=true)
 (h:∀e,Ext w e->e.heap=w.heap->Ro P n a (Ch M) (W P n c Q) b f e):W P n (.seq (.region i a true) c) Q f w:=
 aP (qg (Ch M) (wi M) b j g (by rw[ji];exact h _ (kC w) F))
end
def HA(w:World)(b a:Int)(v:Value)(w':World):Prop:=
 if a=0 then Ext w w'/\v=.tuple #[.agg #[.bool false,.slice none 0 0],.agg #[.bool false,.slice none 0 0],.bool false]else RD w b a v w'
theorem wN{w w':World}{b a:Int}{v:Value}(h:¬a=0)(h':RD w b a v w'):HA w b a v w':=by unfold HA;rw[aa h];exact h'
theorem Jx(e c:Bool)(a b:Nat)(g:0<b):
 (¬sg e (a%b)<0->sg e a/sg c b=sg (e != c) (a/b)/\sg e a%sg c b=sg e (a%b))/\
 (sg e (a%b)<0->sg e a%sg c b=sg e (a%b)+sg false b/\(sg c b<0->sg e a/sg c b=sg (e != c) (a/b)+1)/\(¬sg c b<0->sg e a/sg c b=sg (e != c) (a/b)-1)):=by
 have h:=Nat.div_add_mod a b;have h:=Nat.mod_lt a g;cases e
 ·have h:=Cc c a b g;refine⟨λ_=>?_,λe=>absurd e (by simp[sg];omega)⟩;simp only[fc,Bool.false_bne];exact h
 ·refine⟨λe=>?_,λe=>?_⟩
  ·have j:a%b=0:=by simp[sg]at e;omega
   have h:=sX c a b (a/b) 0 g g (by rw[Nat.mul_comm];omega);rw[e9,j,e9,Bool.true_bne];exact h
  ·have j:0<a%b:=by simp[sg]at e;omega
   have h:=sX c a b (a/b+1) (b-a%b) g aq (by rw[Nat.add_mul,Nat.one_mul,Nat.mul_comm];omega);rw[e9,Bool.true_bne,h.1,h.2];refine⟨?_,λi=>?_,λi=>?_⟩
   ·rw[e9,fc];omega
   ·cases c
    ·simp[sg]at i;omega
    ·simp[sg]
   ·cases c
    ·simp[sg];omega
    ·simp[sg]at i;omega
theorem pI(x1 y1 x2 y2:Value)(g e:Int)(N:Nat)(w:World)(h1:IV w N x1 y1 g)(h2:IV w N x2 y2 e)(hN:N<68719476736):
 aT Tryz.prog 56 #[.agg #[x1,y1],.agg #[x2,y2]] w (HA w g e):=by
 have i2:=h2;obtain⟨V,e,E,e,rfl,rfl,eV,e,G,dR,rfl⟩:=h1;obtain⟨I,e,p,e,rfl,rfl,eU,e,ca,eS,rfl⟩:=h2;refine bF (n:=61) Tryz.func56 F rfl aw aA ?_;refine gg ?_;refine aZ (v:=.agg _) (.inl F) F ?_;intro w1 cd ej eR;refine gg ?_;refine aZ (v:=.agg _) (.inl F) F ?_;intro w2 cc cb eQ;refine gg ?_;refine aR (.inl F) a_ ?_;intro w3 eo bl eN;refine gg ?_;refine aR (.inl F) a_ ?_;intro w4 ek e eL;obtain⟨ga,e6⟩ : ∃g,g=w.heap.size:=⟨_,F⟩;obtain⟨gb,e5⟩ : ∃g,g=w1.heap.size:=⟨_,F⟩;obtain⟨gq,e4⟩ : ∃g,g=w2.heap.size:=⟨_,F⟩;obtain⟨gr,dS⟩ : ∃g,g=w3.heap.size:=⟨_,F⟩;have c9:Bx w4 w2.heap.size 1 true 0:=(Bx.zero true eo).Y e;have c5:Bx w4 w3.heap.size 1 true 0:=Bx.zero true ek;rw[<-dS]at c5⊢;rw[<-e4]at c9⊢;rw[<-e5]at cc⊢;rw[<-e6]at cd⊢;have cf:=cd.Y (cb.trans (bl.trans e));have av:=cc.Y (bl.trans e);have an:=ej.trans (cb.trans (bl.trans e));have g:ga<gb/\gb<gq/\gq<gr/\w.heap.size<=ga:=aq;obtain⟨fv,fv,fv,fv⟩:=g;clear cd cc eo ek ej cb bl e eR eQ eN eL dS e4 e5 e6;refine gg ?_;refine b7 [(0,3),(1,0),(3,3),(4,0),(2,1),(5,1),(6,3),(7,3)] mixed aw λe Q _=>?_;have f1:=fG (cf.Y Q);have f3:=fG (av.Y Q);have al:=an.trans Q;refine gg ?_;refine aM (fS _ _ _ _ e (G.Y al) F eV aq) ?_;rintro _ e ⟨bj,e7⟩;refine⟨bj,?_⟩;refine gg ?_;refine aM (fS _ _ _ _ e (ca.Y (al.trans bj)) F eU aq) ?_;rintro _ w7 ⟨bg,eW⟩;refine⟨bg,?_⟩;obtain⟨e,t1,e,rfl,_,_,eX,eG,ct⟩:=e7.Y bg;obtain⟨T2,t2,e,rfl,eB,e,c4,bK,fg⟩:=eW;have e:t1.length<=N:=by have:=fw G.e_ eG (Nat.le_of_eq ct);omega
 have e:t2.length<=N:=by have:=fw ca.e_ bK (Nat.le_of_eq fg);omega
 have e:=Q.trans (bj.trans bg);have ds:=an.trans e;have er:=cf.Y e;have dx:=av.Y e;have c6:=c9.Y e;have b5:=c5.Y e;clear Q bj bg e an al cf av c9 c5 f1 f3 e7;refine gg ?_;by_cases hz:t2.length=0
 ·have W:val p=0:=by rw[<-fg,List.eq_nil_of_length_eq_zero hz];rfl
  have e0:sg I (val p)=0:=by rw[W];cases I<;>rfl
  refine aP ?_;refine gg ?_;refine fp ij ?_;refine gg ?_;refine fp ij ?_;refine gg ?_;obtain⟨qx,qy,s,L⟩:=c6;refine aV aN (.inl F) F rfl rfl rfl s aA ?_;intro w8 al e g;have g:=cK s L.1.jn e;obtain⟨rx,ry,A,X⟩:=b5.kp g e aq;refine gg ?_;refine aV aN (.inl F) F rfl rfl rfl A aA ?_;intro w9 Q g an;refine gg ?_;refine mD (v:=.bool _) F aN F rfl rfl (al.ch g aq) Q ?_;unfold HA;rw[ae e0];exact⟨g.aK (e.aK ds λb U=>aq) λb U=>aq,F⟩
 ·have ey:0<val t2:=by
   rcases Nat.eq_zero_or_pos (val t2)with h|h
   ·exact absurd (by rw[val_zero bK h];rfl) hz
   ·exact h
  have W:¬sg I (val p)=0:=λe=>by
   have:=congrArg Int.natAbs e;rw[jM,<-fg]at this;simp at this;omega
  have dI:=Jx V I (val E) (val p) aq;refine aP ?_;refine gg ?_;refine aJ (zP _ _ _ _ _ _ t1 t2 w7 eX c4 F rfl aq aq bK ey) ?_;rintro _ w8 ⟨M,q,r,rfl,hq,hr⟩;obtain⟨e,tq,e,rfl,eA,e,eg,eD,bI⟩:=hq;obtain⟨e,tr,e,rfl,ez,e,ef,e,bD⟩:=hr;rw[ct,fg]at bI bD;have g:tq.length<=N:=by have:=fw G.e_ eD (by rw[bI];exact Nat.div_le_self _ _);omega
  have g:tr.length<=N:=by have:=fw G.e_ e (by rw[bD];exact Nat.mod_le _ _);omega
  have bt:=er.Y M;have au:=dx.Y M;have dd:=ds.trans M;refine gg ?_;refine iq [(0,3),(1,0),(2,3),(3,0),(4,3),(5,3),(7,3),(8,0),(9,3)] [(6,[],[]),(11,[],[]),(12,[],[]),(10,[],[6])] [(13,2),(14,2)] mixed aw λw9 H _=>?_;have f0:=jy (bt.Y H);have f2:=jy (au.Y H);refine gg ?_;refine dT [(6,[]),(10,[])] [fA 11 11 35 (.agg #[.bool false,.slice none 0 0]),fA 12 12 35 (.agg #[.bool false,.slice none 0 0])] [36,40,11,12] aw (λa ha f' w' _ _=>by
   rcases List.mem_cons.1 ha with rfl|ha
   ·exact b_ a_ F f' w'
   ·rcases List.mem_singleton.1 ha with rfl;exact b_ a_ F f' w') ?_
  refine cT λe a3=>?_;refine gg ?_;refine aM (ib (V != I) _ _ _ tq e (eg.Y (H.trans a3)) F eA aq) ?_;rintro _ e ⟨a2,e,e,rfl,bX⟩;refine⟨a2,?_⟩;refine gg ?_;refine cT λe a1=>?_;refine gg ?_;refine aM (ib V _ _ _ tr e (ef.Y (H.trans (a3.trans (a2.trans a1)))) F ez aq) ?_;rintro _ e ⟨a0,e,e,rfl,bW⟩;refine⟨a0,?_⟩;refine gg ?_;refine fM λe Z D c3 cv=>?_;obtain⟨a5,dA⟩:=c3 _ aG;obtain⟨a4,dy⟩:=c3 _ (List.mem_cons_of_mem _ aG);have bM:D 11≠D 12:=cv _ _ aG (List.mem_cons_of_mem _ aG) (show(11:Nat)≠12 by decide);have cL:Bx e (D 11) 1 true 0:=Bx.zero true dA;have cA:Bx e (D 12) 1 true 0:=Bx.zero true dy;have a5:w9.heap.size<=D 11:=a5;have a4:w9.heap.size<=D 12:=a4;show Ro _ _ _ _ _ _ (bS (bS _ 12 (.pointer (some ⟨D 12,0,none⟩))) 11 (.pointer (some ⟨D 11,0,none⟩))) _;generalize D 11=fu at*;generalize D 12=fs at*;clear dA dy c3 cv;rw[bI]at bX;rw[bD]at bW;have e:Bd N (sg (V != I) (val E/val p)):=by
   unfold Bd;rw[jM];have a:=fY E G.e_;have b:B^E.length<=B^N:=Nat.pow_le_pow_right ar dR;have:=Nat.div_le_self (val E) (val p);omega
  have av:Bd N (sg V (val E%val p)):=by
   unfold Bd;rw[jM];have a:=fY E G.e_;have b:B^E.length<=B^N:=Nat.pow_le_pow_right ar dR;have:=Nat.mod_le (val E) (val p);omega
  refine gg ?_;refine aL (.inl F) F rfl cL ((bX.Y (a1.trans (a0.trans Z))).ev true e) ?_;intro e ad D G bj;refine gg ?_;refine aL (.inl F) F rfl (cA.kp G D bM.symm) (((bW.Y Z).kp G).ev true av) ?_;intro an ab g Q bg;have ad:=ad.kp Q g bM;have e:=H.trans (a3.trans (a2.trans (a1.trans (a0.trans Z))));have bI:=bt.lt;have c3:gr<w9.heap.size:=by have:=(b5.Y (M.trans H)).lt;omega
  have bD:=((bt.Y e).ch D aq).ch g aq;have al:=((au.Y e).ch D aq).ch g aq;have aj:=((c6.Y (M.trans e)).kp G D aq).kp Q g aq;have ai:=((b5.Y (M.trans e)).kp G D aq).kp Q g aq;have bK:=(dd.trans H).size;have ak:Ext w an:=g.aK (D.aK (dd.trans e) λb U=>aq) λb U=>aq;have bl:eP an T2 t2:=((c4.Y (M.trans e)).kp G).kp Q;have M:gr<fu:=aq;have M:gr<fs:=aq;clear e bI c3 bt au c6 b5 G D Q g bj bg cL cA Z a0 a1 a2 a3 H bK a5 a4 er dx bX bW eg ef c4 f0 f2;obtain⟨G,D,Z,Q⟩:=id ab;obtain⟨s0,s1⟩:=a9 Z;refine gg ?_;refine aP ?_;refine gg ?_;refine aJ (h_ _ _ _ N an Q.1 aq) ?_;rintro _ e ⟨C,rfl⟩;by_cases Y:sg V (val E%val p)<0
  ·have eH:(sg V (val E%val p)).sign<0:=by rw[Int.sign_eq_neg_one_of_neg Y];decide
   obtain⟨k1,k2,k3⟩:=dI.2 Y;refine gg ?_;refine b7 [(0,0),(1,3),(2,1),(3,1),(4,2)] mixed aw λg a1 _=>?_;have e:=C.trans a1;obtain⟨G,D,Z,Q⟩:=ab.Y e;obtain⟨s0,s1⟩:=a9 Z;refine gg ?_;refine aM (ib false _ _ _ t2 g (bl.Y e) F eB aq) ?_;rintro _ G ⟨g,D,D,rfl,ma⟩;refine⟨g,?_⟩;rw[fg]at ma;have D:Bd N (sg false (val p)):=by
    unfold Bd;rw[jM];have a:=fY p ca.e_;have b:B^p.length<=B^N:=Nat.pow_le_pow_right ar eS;omega
   refine gg ?_;refine aM (sE _ _ _ _ _ _ N G (Q.Y g).1 (ma.iv D) aq) ?_;rintro _ a ⟨H,a,a,rfl,M⟩;refine⟨H,?_⟩;rw[<-k1]at M;have a:Bd (N+1) (sg V (val E)%sg I (val p)):=by rw[k1];exact av.add D
   refine gg ?_;refine aL (.inl F) F rfl (ab.Y (e.trans (g.trans H))) (M.ev true a) ?_;intro a3 au a G a4;have D:=e.trans (g.trans H);have a2:=(al.Y D).ch a aq;have an:=(aj.Y D).kp G a aq;have a5:=(ai.Y D).kp G a aq;have av:=(ad.Y D).kp G a bM;have a0:Ext w a3:=a.aK (ak.trans D) λb U=>aq;clear D e H g a1 C M ma G a a4 Z Q s0 s1 ab ad aj ai al bD ak;obtain⟨a,a⟩:=a9 a2;refine gg ?_;refine aP ?_;refine gg ?_;refine aJ (h_ _ _ _ N a3 (i2.Y a0) aq) ?_;rintro _ a ⟨a,rfl⟩;have cy:=an.Y a;have cx:=a5.Y a;have bB:=av.Y a;have bA:=au.Y a;have bu:=a0.trans a;by_cases b4:sg I (val p)<0
   ·have a:(sg I (val p)).sign<0:=by rw[Int.sign_eq_neg_one_of_neg b4];decide
    refine gg ?_;refine kE (λb=>b=gq) [(0,0),(3,0),(1,1),(2,1),(4,1),(5,2),(6,3)] mixed aw λaH c _=>?_;obtain⟨ax,ay,a7,O⟩:=bB.Y c;obtain⟨bx,et,a6,u⟩:=bA.Y c;refine gg ?_;refine eK ar aN F a7 aq ?_;refine gg ?_;refine eK ar aN F a6 aq ?_;refine gg ?_;refine ko (iy 1 aH ar ar) ?_;rintro _ bC ⟨i,o1,o2,rfl,bY⟩;refine⟨i.ch,?_⟩;refine gg ?_;refine ko (sE _ _ _ _ _ _ (N+1) bC (O.Y i |>.mono (Nat.le_succ N)).1 (bY.iv (Bd.mono (N:=1) (show(1:Int).natAbs<B^1 by decide) aq)) aq) ?_;rintro _ eC ⟨l,o3,o4,rfl,J⟩;refine⟨l.ch,?_⟩;refine gg ?_;obtain⟨qx,qy,s,L⟩:=cy.Y (c.trans (i.trans l));refine aV aN (.inr ⟨F,λ_ h=>h⟩) rfl rfl J.db J.de s aA ?_;intro dE T o cq;have j:=cK s L.1.jn o;obtain⟨rx,ry,A,X⟩:=(cx.Y (c.trans (i.trans l))).kp j o aq;refine gg ?_;refine aV aN (.inl F) F rfl u.1.db u.1.de A aA ?_;intro dC R m ck;have z:=cK A X.1.jn m;refine gg ?_;refine mD (v:=.bool _) F aN F rfl rfl (T.ch m aq) R (wN W ⟨m.aK (o.aK (bu.trans (c.trans (i.trans l))) λb U=>aq) λb U=>aq,_,_,_,_,F,?_,?_⟩)
    ·rw[k2 b4];exact(J.kp j).kp z
    ·exact(((u.2 F).Y (i.trans l)).kp j).kp z
   ·have a:¬(sg I (val p)).sign<0:=by
     rcases Int.lt_trichotomy (sg I (val p)) 0 with h|h|h
     ·exact absurd h b4
     ·exact absurd h W
     ·rw[Int.sign_eq_one_of_pos h];decide
    refine gg ?_;refine kE (λb=>b=gq) [(0,0),(3,0),(1,1),(2,1),(4,1),(5,2),(6,3)] mixed aw λaH c _=>?_;obtain⟨ax,ay,a7,O⟩:=bB.Y c;obtain⟨bx,et,a6,u⟩:=bA.Y c;refine gg ?_;refine eK ar aN F a7 aq ?_;refine gg ?_;refine eK ar aN F a6 aq ?_;refine gg ?_;refine ko (iy 1 aH ar ar) ?_;rintro _ bC ⟨i,o1,o2,rfl,bY⟩;refine⟨i.ch,?_⟩;refine gg ?_;refine ko (yi _ _ _ _ _ _ (N+1) bC (O.Y i |>.mono (Nat.le_succ N)).1 (bY.iv (Bd.mono (N:=1) (show(1:Int).natAbs<B^1 by decide) aq)) aq) ?_;rintro _ eC ⟨l,o3,o4,rfl,J⟩;refine⟨l.ch,?_⟩;refine gg ?_;obtain⟨qx,qy,s,L⟩:=cy.Y (c.trans (i.trans l));refine aV aN (.inr ⟨F,λ_ h=>h⟩) rfl rfl J.db J.de s aA ?_;intro dE T o cq;have j:=cK s L.1.jn o;obtain⟨rx,ry,A,X⟩:=(cx.Y (c.trans (i.trans l))).kp j o aq;refine gg ?_;refine aV aN (.inl F) F rfl u.1.db u.1.de A aA ?_;intro dC R m ck;have z:=cK A X.1.jn m;refine gg ?_;refine mD (v:=.bool _) F aN F rfl rfl (T.ch m aq) R (wN W ⟨m.aK (o.aK (bu.trans (c.trans (i.trans l))) λb U=>aq) λb U=>aq,_,_,_,_,F,?_,?_⟩)
    ·rw[k3 b4];exact(J.kp j).kp z
    ·exact(((u.2 F).Y (i.trans l)).kp j).kp z
  ·have eH:¬(sg V (val E%val p)).sign<0:=by
    rcases Int.lt_trichotomy (sg V (val E%val p)) 0 with h|h|h
    ·exact absurd h Y
    ·rw[h];decide
    ·rw[Int.sign_eq_one_of_pos h];decide
   obtain⟨k1,k2⟩:=dI.1 Y;refine gg ?_;refine kE (λb=>b=gq) [(0,0),(1,0),(2,1),(3,2),(4,3)] mixed aw λaH c _=>?_;obtain⟨ax,ay,a7,O⟩:=ad.Y (C.trans c);obtain⟨bx,et,a6,u⟩:=ab.Y (C.trans c);refine gg ?_;refine eK ar aN F a7 aq ?_;refine gg ?_;refine eK ar aN F a6 aq ?_;refine gg ?_;obtain⟨qx,qy,s,L⟩:=aj.Y (C.trans c);refine aV aN (.inr ⟨F,λ_ h=>h⟩) rfl rfl O.1.db O.1.de s aA ?_;intro dE T o cq;have j:=cK s L.1.jn o;obtain⟨rx,ry,A,X⟩:=(ai.Y (C.trans c)).kp j o aq;refine gg ?_;refine aV aN (.inl F) F rfl u.1.db u.1.de A aA ?_;intro dC R m ck;have z:=cK A X.1.jn m;refine gg ?_;refine mD (v:=.bool _) F aN F rfl rfl (T.ch m aq) R (wN W ⟨m.aK (o.aK (ak.trans (C.trans c)) λb U=>aq) λb U=>aq,_,_,_,_,F,?_,?_⟩)
   ·rw[k1];exact((O.2 F).kp j).kp z
   ·rw[k2];exact((u.2 F).kp j).kp z
theorem sk(X V W U:Value)(o G:Int)(N:Nat)(w:World)(h1:IV w N X V o)(h2:IV w N W U G)(hN:N<68719476736):
 aT Tryz.prog 30 #[.agg #[X,V],.agg #[W,U]] w (RI w (o/G)):=by
 refine bF (n:=16) Tryz.func30 F rfl aw aA ?_;refine gg ?_;refine aZ (v:=.agg _) (.inl F) F ?_;intro w1 ai L b5;refine gg ?_;refine aZ (v:=.agg _) (.inl F) F ?_;intro Z ad C b4;refine gg ?_;refine aR (.inl F) a_ ?_;intro O ab A b1;have j:Bx O Z.heap.size 1 true 0:=Bx.zero true ab;obtain⟨gR,a3⟩ : ∃g,g=Z.heap.size:=⟨_,F⟩;rw[<-a3]at j⊢;have e:=L.trans (C.trans A);obtain⟨f0,f1⟩:=a9 (ai.Y (C.trans A));obtain⟨f2,f3⟩:=a9 (ad.Y A);refine gg ?_;refine aJ (pI _ _ _ _ _ _ N O (h1.Y e) (h2.Y e) hN) ?_;intro v H m;obtain⟨i,s,r,q,p,b,rfl,Q,u⟩ : Ext O H/\∃s r q p b,v=.tuple #[.agg #[s,r],.agg #[q,p],.bool b]/\CV H s r (o/G)/\∃M,CV H q p M/\Bd N M:=by
  unfold HA at m;split at m
  ·rename_i I;obtain⟨R,rfl⟩:=m;exact⟨R,_,_,_,_,_,F,by rw[I,Int.ediv_zero];exact CV.zero _,0,CV.zero _,Bd.zero _⟩
  ·rename_i I;obtain⟨R,s,r,q,p,rfl,Q,u⟩:=m;refine⟨R,s,r,q,p,true,F,Q,_,u,?_⟩;have a:=Int.emod_nonneg o I;have b:=Int.emod_lt o I;have c:G.natAbs<B^N:=IV.bd h2;unfold Bd;omega
 obtain⟨M,u,a2⟩:=u;refine gg ?_;refine aR (.inl F) a_ ?_;intro w5 a7 l b0;refine gg ?_;refine aR (.inl F) a_ ?_;intro Y a6 h aH;have h5:Bx Y H.heap.size 1 true 0:=(Bx.zero true a7).Y h;have h6:Bx Y w5.heap.size 1 true 0:=Bx.zero true a6;refine gg ?_;refine aL (.inl F) F rfl h5 ((Q.Y (l.trans h)).ev true (Bd.ediv (IV.bd h1))) ?_;intro w7 h7 E z av;refine gg ?_;refine aL (.inl F) F rfl (h6.kp z E aq) (((u.Y (l.trans h)).kp z).ev true a2) ?_;intro w8 h8 D J au;obtain⟨ax,ay,ak,aj⟩:=h7.kp J D aq;obtain⟨a0,a1⟩:=a9 ak;have a4:=((j.Y (i.trans (l.trans h))).kp z E (by have:=j.lt;have:=i.size;omega)).kp J D (by have:=j.lt;have:=i.size;omega);have al:=(e.trans i).size;have T:Ext w w8:=D.aK (E.aK (e.trans (i.trans (l.trans h))) λb hb=>aq) λb hb=>aq;refine gg ?_;refine aL (.inl F) F rfl a4 aj ?_;intro w9 h9 a5 bg an;refine gg ?_;obtain⟨x,y,hB,m⟩:=h9;exact dO F aN F hB ⟨a5.aK T (λb hb=>by have:=(L.trans C).size;omega),x,y,F,m.2 F⟩
section
variable {P:Program}{n:Nat}{k:Nat}{K:Fr->World->Prop}{f:Fr}{w:World}
 {d ty t t2:Nat} {x y:Operand} {pos:String} {aft:Array Edge} {gd:Option (Nat×Bool)}
theorem gY{M:Nat->Prop}{p:Addr}{v:Value}(h3:k≠3)(ht:ia P t=true)(hx:ev n f x=.pointer (some p))(hc:w.cell? p=some v)(hn:¬M p.block)(h:K (bS f d v) w):
 R1 P n (Ch M) k ⟨some d,.load t x,ty,pos,aft,gd⟩ K f w:=by
 refine fX h3 (v:=v) (λw' hw=>?_) h;have hc':w'.cell? p=some v:=by
  rcases hw with hw|rfl
  ·rw[jK hw (World.block_lt_of_cell? w _ hc) hn];exact hc
  ·exact hc
 simp only[execOp,hx,Sem.run_bind,iY ht hc',Result.andThen_ok,Sem.run_pure]
theorem o8{Q:Exit->Fr->World->Prop}{g:Nat}{a:Array Oper}(M:Nat->Prop)(b:List (Nat×Nat))(i:P.follows .mixedOrders=true)
 (e:(b.length == a.size&&Region.noSelect a&&iu a (qF b) b (Array.replicate a.size false))=true)
 (h:∀c,Ext w c->c.heap=w.heap->Ro P n a (Ch M) (Q .normal) b f c):W P n (.region g a true) Q f w:=
 qg (Ch M) (wi M) b i e (h _ (kC w) F)
theorem Av{a:Int}(e:lF P t (.int .i8))(c:lF P t2 (.int .i64))(b:ev n f x=.int .i8 a)(h1:-128<=a)(g:a<128){S:World->World->Prop}(h:K (bS f d (.int .i64 a)) w):R1 P n S k ⟨some d,.convert t t2 x,ty,pos,aft,gd⟩ K f w:=
 l9 e c b (wrap_i64 aq aq) h
end
structure ou(w:World)(A:Option Addr)(n:Nat)(ns:Nat->Int):Prop where
 cell:∀i,i<n->∃ad,A=some ad/\w.cell? (ad.add (i*1))=some (.int .i8 (ns i))/\-128<=ns i/\ns i<128
 small:n<=140737488355328
theorem ou.Y{w w':World}{A:Option Addr}{n:Nat}{a:Nat->Int}(h:ou w A n a)(g:Ext w w'):ou w' A n a:=
 ⟨λi b=>by obtain⟨j,e,c,a⟩:=h.cell i b;exact⟨j,e,aS g c,a⟩,h.small⟩
def tp(n:Nat)(b:Nat->Int)(k:Nat):Int:=if k<n then b k else 0
theorem tY{w:World}{A:Option Addr}{n:Nat}{a:Nat->Int}(h:ou w A n a)(k:Nat):-128<=tp n a k/\tp n a k<128:=by
 unfold tp;split
 ·rename_i b;obtain⟨_,_,_,h⟩:=h.cell k b;exact h
 ·decide
def jA(w:World)(g:Nat)(A:Option Addr)(n c k:Nat):Prop:=bh w g 79 #[.slice A n c,.int .i64 ((min k n:Nat):Int)]
theorem Bn{A:Option Addr}{n c:Nat}{z:Int}:Hq #[.slice A n c,.int .i64 z]:=by
 intro i a
 match i with
 |0=>simp
 |1=>simp
 |i+2=>simp
theorem yx(g:Nat)(A:Option Addr)(n c k:Nat)(u:Nat->Int)(o w:World)(q:Ext o w)(z:ou o A n u)(s:o.heap.size<=g)(j:jA w g A n c k):
 aT Tryz.prog 46 #[.pointer (some ⟨g,0,none⟩)] w λv s=>v=.int .i64 (tp n u k)/\jA s g A n c (k+1)/\Ch (λb=>b=g) w s/\Kp w s:=by
 refine bF (n:=32) Tryz.func46 F rfl aw aA ?_;have s:=z.small;unfold jA at j;by_cases p:k<n
 ·rw[show min k n=k by omega]at j;refine gg ?_;refine aP ?_;refine b7 [(0,3),(1,3),(2,3),(3,0),(4,3),(5,3),(6,3),(7,0),(8,3),(9,3)] mixed aw λJ a _=>?_;have h:=j.Y a;have D:=jy h;have C:=fG h;obtain⟨E,rfl,B,H,G⟩:=(z.Y (q.trans a)).cell k p;refine gg ?_;refine cg (aW F) (.inl F) F rfl h aA ?_;intro s s l L;have I:=cK h Bn l;refine gg ?_;refine b7 [(0,3),(1,3),(2,3),(3,0),(4,3),(5,3),(6,3),(7,0),(8,3),(9,3),(10,0),(11,3),(12,3)] mixed aw λr i _=>?_;have m:bh r g 79 #[.slice (some E) n c,.int .i64 ((k+1:Nat):Int)]:=s.Y i;have D:=jy m;have C:=fG m;have s:Ext o r:=(l.aK (q.trans a) λb b=>aq).trans i;obtain⟨b,e,B,_⟩:=(z.Y s).cell k p;injection e with e;subst e;have b:r.cell? (E.add ((k+1-1)*1))=some (.int .i8 (u k)):=B;refine gg ?_;refine Av HC pf F H G ?_;refine gg ?_;refine cI (v:=.int _ _) F rfl ⟨by rw[tp,ae p],?_,(a.ch.trans l).trans i.ch,(bN a).trans (I.trans (bN i))⟩;unfold jA;rw[show min (k+1) n=k+1 by omega];exact m
 ·rw[show min k n=n by omega]at j;refine gg ?_;refine aP ?_;refine b7 [(0,3),(1,3),(2,3),(3,0),(4,3),(5,3),(6,3),(7,0),(8,3),(9,3)] mixed aw λJ a _=>?_;have h:=j.Y a;have D:=jy h;have C:=fG h;refine gg ?_;refine cI (v:=.int _ _) F rfl ⟨by rw[tp,aa p];rfl,?_,a.ch,bN a⟩;unfold jA;rw[show min (k+1) n=n by omega];exact h
def iA(w:World)(g c:Nat)(M:Nat->Int):Prop:=bh w g 2 (arr c λj=>.int .i64 (M j))
theorem D9{c:Nat}{h:Nat->Value}(g:∀j,j<c->∃z,h j=.int .i64 z):Hq (arr c h):=by
 intro i z a;by_cases b:i<c
 ·rw[b8 b]at a;obtain⟨e,e⟩:=g i b;rw[e]at a;cases a
 ·simp[arr,b]at a
theorem re{w:World}{g c:Nat}(h:bh w g 2 (madeCells (Value.int .i64 0).cells (c*1))):iA w g c (λ_=>0):=by
 rw[il,Nat.mul_one]at h;unfold iA;have e:arr c (λk=>(Value.int IntKind.i64 0).cells[k%(Value.int IntKind.i64 0).cells.size]!)=arr c λ_=>.int .i64 0:=du λk _=>by simp[Value.cells,Nat.mod_one]
 rw[e]at h;exact h
theorem iA.congr{w:World}{g c:Nat}{M M':Nat->Int}(h:iA w g c M)(e:∀j,j<c->M j=M' j):iA w g c M':=by
 unfold iA at*;rw[du (λj a=>by rw[<-e j a])];exact h
theorem iA.set{w':World}{g c j:Nat}{M:Nat->Int}{z:Int}(h:bh w' g 2 ((arr c λj=>.int .i64 (M j)).setIfInBounds (0+j*1) (.int .i64 z))):iA w' g c (fR M j z):=by
 unfold iA;rw[cC,Nat.zero_add,Nat.mul_one]at h;rw[du λk _=>?_]
 ·exact h
 ·by_cases e:k=j
  ·subst e;rw[bG];simp[fR]
  ·rw[bw _ _ e];simp[fR,e]
structure vw(w:World)(gO:Nat)(gs:Nat->Nat)(r c:Nat)(M:Nat->Nat->Int):Prop where
 outer:bh w gO 48 (arr r λi=>.slice (some ⟨gs i,0,none⟩) c c)
 row:∀i,i<r->iA w (gs i) c (M i)
 ne:∀i,i<r->gs i≠gO
 inj:∀i j,i<r->j<r->gs i=gs j->i=j
theorem vw.read{w:World}{a:Nat}{e:Nat->Nat}{r c:Nat}{M:Nat->Nat->Int}(h:vw w a e r c M)(l:∀i j,i<r->j<c->-9223372036854775808<=M i j/\M i j<9223372036854775808)(b:r<9223372036854775808)(g:c<9223372036854775808):
 Hr w (.slice (some ⟨a,0,none⟩) r r) r (λ_=>c) M:=by
 refine⟨_,_,F,aD,b,λi b=>⟨_,_,rfl,by rw[add_lit,h.outer.cell,b8 aq,Nat.zero_add,Nat.mul_one],_,_,F,aD,g,λj a=>⟨_,rfl,?_,l i j b a⟩⟩⟩;have g:bh w (e i) 2 (arr c λj=>.int .i64 (M i j)):=h.row i b;have a:j<c:=a;rw[add_lit,g.cell,b8 aq,Nat.zero_add,Nat.mul_one]
def RZ(w:World)(r c:Nat)(M:Nat->Nat->Int)(v:Value)(w':World):Prop:=
 Ext w w'/\∃b e,v=.slice (some ⟨b,0,none⟩) r r/\w.heap.size<=b/\(∀i,i<r->w.heap.size<=e i)/\vw w' b e r c M
def lG(w:World)(v:Value)(r c n:Nat)(e:Nat->Int):Prop:=∃A b,v=.agg #[.int .u8 (r:Int),.int .u8 (c:Int),.slice A n b]/\r<256/\c<256/\n<=b/\ou w A n e
theorem F4{w:World}{g T:Nat}{x y z:Value}(h:bh w g T #[x,y,z]):w.cell? ⟨g,0+0,none⟩=some x:=by rw[h.cell];rfl
theorem Ia{w:World}{g T:Nat}{x y z:Value}(h:bh w g T #[x,y,z]):w.cell? ⟨g,0+1,none⟩=some y:=by rw[h.cell];rfl
theorem H_{w:World}{g T:Nat}{x y z:Value}(h:bh w g T #[x,y,z]):w.cell? ⟨g,0+2,none⟩=some z:=by rw[h.cell];rfl
def kQ(c n:Nat)(b:Nat->Int):Nat->Nat->Int:=λi j=>tp n b (i*c+j)
theorem En(v:Value)(r c n m:Nat)(S:Nat->Int)(w:World)(h:lG w v r c n S)(hm:0<m)(G:m<=256):
 aT Tryz.prog 45 #[v,.int .i64 (m:Int)] w (RZ w (1+r%m) (1+c%m) (kQ (1+c%m) n S)):=by
 obtain⟨A,p,rfl,hr,G,G,hN⟩:=h;refine bF (n:=54) Tryz.func45 F rfl aw aA ?_;have G:=Nat.mod_lt r hm;have G:=Nat.mod_lt c hm;obtain⟨R,H⟩ : ∃R,R=1+r%m:=⟨_,F⟩;obtain⟨C,hC⟩ : ∃C,C=1+c%m:=⟨_,F⟩;refine gg ?_;refine aZ (v:=.agg _) (.inl F) F ?_;intro w1 ak ai au;have G:bh w1 w.heap.size 24 #[.int .u8 (r:Int),.int .u8 (c:Int),.slice A n p]:=ak;have f0:=F4 G;have f2:=H_ G;refine gg ?_;refine qD F ?_;refine gg ?_;refine aZ (v:=.agg _) (.inl F) F ?_;intro w2 aj I an;have ab:jA w2 w1.heap.size A n p 0:=by unfold jA;rw[Nat.zero_min];exact aj
 have f0:=aS I f0;refine gg ?_;refine mL F rfl hm ?_;refine gg ?_;rw[show(OfNat.ofNat 1+r%m:Nat)=R from H.symm];refine cF lO (.inl F) F rfl aD aq aq ?_;intro Q a3 H al;have a2:=G.Y (I.trans H);have a0:jA Q w1.heap.size A n p 0:=ab.Y H;obtain⟨X,a7⟩ : ∃g,g=w.heap.size:=⟨_,F⟩;obtain⟨E,a6⟩ : ∃g,g=w1.heap.size:=⟨_,F⟩;obtain⟨u,V⟩ : ∃g,g=w2.heap.size:=⟨_,F⟩;rw[<-V]at a3⊢;rw[<-a6]at a0⊢;rw[<-a7]at a2⊢;have a5:=ai.trans (I.trans H);have ad:X<E/\E<u/\w.heap.size<=X:=aq;obtain⟨av,av,av⟩:=ad;have ad:eO 48 Q u R 0 C (λ_=>0):=iz a3;have av:(∃k,k=R*C):=⟨_,F⟩;clear f0 f2 ak aj a3 ab G ai I H au an al a7 a6 V av;refine gg ?_;refine aP ?_;refine gg ?_;refine aU (λq f s=>∃i l,q=R-i/\i<=R/\f 1=.int .i64 (m:Int)/\f 2=.pointer (some ⟨X,0,none⟩)/\f 5=.pointer (some ⟨E,0,none⟩)/\f 6=.slice (some ⟨u,0,none⟩) R R/\f 21=.int .i64 (R:Int)/\f 22=.int .i64 ((i:Nat):Int)/\
  Ext w s/\bh s X 24 #[.int .u8 (r:Int),.int .u8 (c:Int),.slice A n p]/\jA s E A n p (i*C)/\eO 48 s u R i C l/\(∀k,k<i->iA s (l k) C (kQ C n S k)/\u<l k)/\(∀k T,k<i->T<i->l k=l T->k=T))
  R ⟨0,λ_=>0,rfl,aE,rfl,rfl,rfl,rfl,rfl,rfl,a5,a2,by rw[Nat.zero_mul];exact a0,ad,λk a=>absurd a aq,λk T a=>absurd a aq⟩ ?_
 clear a5 a2 a0 ad Q;rintro q f Q ⟨i,l,rfl,G,O,N,M,L,D,B,U,W,Z,J,o,a4⟩;rw[ui O,ui N,ui M,ui L,ui D,ui B];clear O N M L D B;by_cases a1:i<R
 ·have f1:=Ia W;refine gg ?_;refine mL F rfl hm ?_;refine gg ?_;rw[show(OfNat.ofNat 1+c%m:Nat)=C from hC.symm];refine cF po (.inl F) F rfl aD aq aq ?_;intro G ab G ai;have a0:=re ab;obtain⟨g,H⟩ : ∃g,g=Q.heap.size:=⟨_,F⟩;rw[<-H]at a0⊢;have H:=J.lt;refine gg ?_;refine eY (aW F) (.inl F) F rfl (J.Y G) a1 ?_;intro w5 ⟨_,Q⟩ H aj ad;have Q:=Q F;have a3:=Q.at (k:=i) aq a1;rw[show cZ l i g i=g by simp[cZ]]at a3;have a2:Ext w w5:=H.aK (U.trans G) λb Y=>aq;have a7:=(W.Y G).ch H aq;have a6:jA w5 E A n p (i*C):=bh.ch (bh.Y Z G) H aq;have a5:iA w5 g C (λ_=>0):=bh.ch a0 H aq;have I:∀k,k<i->iA w5 (l k) C (kQ C n S k)/\u<l k/\l k<g:=λk a=>by
   obtain⟨h1,h2⟩:=o k a;have:=bh.lt h1;exact⟨bh.ch (bh.Y h1 G) H aq,h2,aq⟩
  have V:u<g:=aq;clear H aj ad a0 ab G ai W Z J o U f1;refine gg ?_;refine aU (λq f s=>∃j,q=C-j/\j<=C/\f 1=.int .i64 (m:Int)/\f 2=.pointer (some ⟨X,0,none⟩)/\f 5=.pointer (some ⟨E,0,none⟩)/\f 6=.slice (some ⟨u,0,none⟩) R R/\f 7=.int .i64 (i:Int)/\f 21=.int .i64 (R:Int)/\f 22=.int .i64 (i:Int)/\f 39=.int .i64 (C:Int)/\f 40=.int .i64 ((j:Nat):Int)/\
   Ext w s/\bh s X 24 #[.int .u8 (r:Int),.int .u8 (c:Int),.slice A n p]/\jA s E A n p (i*C+j)/\eO 48 s u R (i+1) C (cZ l i g)/\(∀k,k<i->iA s (l k) C (kQ C n S k))/\iA s g C λb=>if b<j then kQ C n S i b else 0)
   C ⟨0,F,aE,F,F,F,F,F,F,F,F,F,a2,a7,a6,Q,λk a=>(I k a).1,a5.congr λb _=>aA⟩ ?_
  have z:∀k,k<i->u<l k/\l k<g:=λk a=>(I k a).2;have s:w.heap.size<g:=by have:=a2.size;omega
  clear a2 a7 a6 Q I a5 a3 f;rintro q f q ⟨j,rfl,q,O,N,M,L,G,D,B,s,q,U,W,Z,J,o,hr⟩;rw[ui O,ui N,ui M,ui L,ui G,ui D,ui B,ui s,ui q];clear O N M L G D B s q;by_cases q:j<C
  ·refine gg ?_;refine o8 (λb=>b=E) [(0,3),(1,3),(2,3),(3,0),(4,3),(5,3),(6,1),(7,3),(8,2)] mixed aw λB q _=>?_;have s:=(J.Y q).at (k:=i) aq a1;rw[show cZ l i g i=g by simp[cZ]]at s;refine gg ?_;refine gY ar (aW F) F s (by show¬u=E;omega) ?_;refine gg ?_;refine ko (yx E A n p (i*C+j) S w B (U.trans q) hN aq (Z.Y q)) ?_;rintro _ A ⟨rfl,B,p,s⟩;refine⟨p,?_⟩;have s:iA A g C _:=bh.ch (bh.Y hr q) p aq;refine gg ?_;refine cg (aW F) (.inl F) F rfl s (by rw[bk];omega) ?_;intro s D s A;have A:=iA.set D;refine gg ?_;refine⟨_,?_,j+1,F,aq,F,F,F,F,F,F,F,F,F,s.aK (p.aK (U.trans q) λb Y=>aq) λb Y=>aq,((W.Y q).ch p aq).ch s aq,bh.ch B s aq,((J.Y q).kp p aq).kp s aq,λk a=>?_,A.congr λb Y=>?_⟩
   ·omega
   ·have:=z k a;exact bh.ch (bh.ch (bh.Y (o k a) q) p aq) s aq
   ·simp only[fR];by_cases e:b=j
    ·subst e;rw[ae F,ae aq,kQ]
    ·rw[aa e];by_cases p:b<j
     ·rw[ae p,ae aq]
     ·rw[aa p,aa aq]
  ·refine gg ?_;have:j=C:=aq;subst this;refine⟨_,?_,i+1,cZ l i g,F,aq,F,F,F,F,F,F,U,W,by rw[Nat.succ_mul];exact Z,J,λk a=>?_,λk T a g e=>?_⟩
   ·omega
   ·by_cases e:k=i
    ·subst e;simp only[cZ,if_true];exact⟨hr.congr λb Y=>by rw[ae Y],V⟩
    ·simp only[cZ,aa e];exact⟨o k aq,(z k aq).1⟩
   ·simp only[cZ]at e;split at e<;>split at e
    ·omega
    ·have:=z T aq;omega
    ·have:=z k aq;omega
    ·exact a4 k T aq aq e
 ·refine gg ?_;have:i=R:=aq;subst this;refine cI (v:=.slice _ _ _) F rfl ?_;rw[<-hC];exact⟨U,u,l,F,aq,λk a=>by have:=(o k a).2;omega,J.full,λk a=>(o k a).1,λk a=>by have:=(o k a).2;omega,a4⟩
theorem lh{w:World}{A:Option Addr}{n:Nat}{a:Nat->Int}(h:ou w A n a)(c i j:Nat):-128<=kQ c n a i j/\kQ c n a i j<128:=tY h _
theorem BJ{w:World}{A:Option Addr}{n:Nat}{a:Nat->Int}(h:ou w A n a)(c i j:Nat):Bd 1 (kQ c n a i j):=by
 have:=lh h c i j;unfold Bd;have:B^1=4294967296:=ar;omega
theorem lG.Y{w w':World}{v:Value}{r c n:Nat}{a:Nat->Int}(h:lG w v r c n a)(b:Ext w w'):lG w' v r c n a:=by
 obtain⟨A,a,l,j,i,g,e⟩:=h;exact⟨A,a,l,j,i,g,e.Y b⟩
theorem G1{w:World}{g T:Nat}{x y z:Value}(h:bh w g T #[x,y,z]):w.cell? ⟨g,0,none⟩=some x/\w.cell? ((⟨g,0,none⟩ : Addr).add 1)=some y/\w.cell? ((⟨g,0,none⟩ : Addr).add 2)=some z:=by
 refine⟨by rw[h.cell];rfl,by rw[add_lit,h.cell];rfl,by rw[add_lit,h.cell];rfl⟩
theorem qT(v:Value)(r c n m:Nat)(e:Nat->Int)(w:World)(h:lG w v r c n e)(g:0<m)(j:m<=16):
 aT Tryz.prog 15 #[v,.int .i64 (m:Int)] w (RM w (1+r%m) (1+c%m) (kQ (1+c%m) n e)):=by
 have B:=h;obtain⟨A,s,rfl,j,j,j,z⟩:=h;refine bF (n:=9) Tryz.func15 F rfl aw aA ?_;have j:=Nat.mod_lt r g;have j:=Nat.mod_lt c g;refine gg ?_;refine aZ (v:=.agg _) (.inl F) F ?_;intro j o a C;obtain⟨E,D,C⟩:=G1 (show bh j w.heap.size 24 #[.int .u8 (r:Int),.int .u8 (c:Int),.slice A n s]from o);refine gg ?_;refine oh ar qe F E D C ?_;refine gg ?_;refine aJ (En _ r c n m e j (B.Y a) g aq) ?_;rintro _ e ⟨b,g,gs,rfl,_,_,g⟩;refine gg ?_;refine aJ (Gs _ (1+r%m) (λ_=>1+c%m) _ e (g.read (λi j _ _=>by have:=lh z (1+c%m) i j;omega) aq aq)) ?_;intro v e u;obtain⟨l,q,p,rfl,e,e,g⟩:=u.get (cX.2 ⟨⟨aq,aq,aq,aq⟩,λ_ _=>rfl⟩);refine gg ?_;have:=(a.trans b).size;exact cI (v:=.slice _ _ _) F rfl ⟨(a.trans b).trans l,q,p,F,aq,λi a=>by have:=e i a;omega,g⟩
theorem qS(v:Value)(r c n m:Nat)(i:Nat->Int)(w:World)(h:lG w v r c n i)(u:0<m)(p:m<=16):
 aT Tryz.prog 4 #[v,.int .i64 (m:Int)] w (RM w (1+r%m) (1+r%m) (kQ (1+r%m) n i)):=by
 obtain⟨A,e,rfl,l,a,j,z⟩:=h;refine bF (n:=11) Tryz.func4 F rfl aw aA ?_;refine gg ?_;refine aZ (v:=.agg _) (.inl F) F ?_;intro o g b a;have a:bh o w.heap.size 24 #[.int .u8 (r:Int),.int .u8 (c:Int),.slice A n e]:=g;have o:=F4 a;refine gg ?_;refine cg (aW F) (.inl F) F rfl a aA ?_;intro g s q a;have a:Ext w g:=q.aK b λb b=>aq;obtain⟨o,q,b⟩:=G1 (show bh g w.heap.size 24 #[.int .u8 (r:Int),.int .u8 (r:Int),.slice A n e]from s);refine gg ?_;refine oh ar qe F o q b ?_;refine gg ?_;refine aJ (qT _ r r n m i g ⟨A,e,F,l,l,j,z.Y a⟩ u p) ?_;rintro _ b ⟨e,i,g,rfl,b,b,j⟩;refine gg ?_;have:=a.size;exact cI (v:=.slice _ _ _) F rfl ⟨a.trans e,i,g,F,aq,λi a=>by have:=b i a;omega,j⟩
