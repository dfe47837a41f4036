import Derived.Test.YtmfndnlifgphjaaGreatDoorQzC
set_option maxHeartbeats 64000000
open Go.Proofs.YtmfndnlifgphjaaGreatDoor
namespace Go.Proofs.Qq
section
open Go Go.cW Go.c7 Go.Proofs
open Go.aW (k9)
theorem mX(N:Nat){k m:Nat}(h:k<=m):Nb N k<=Nb N m:=by
 obtain⟨d,rfl⟩ : ∃d,m=k+d:=⟨m-k,aq⟩;clear h;induction d with
 |zero=>exact Nat.le_refl _
 |succ d a=>exact Nat.le_trans a (jF N (k+d))
theorem xu:gz Tryz.prog 82=true:=by kernel_rfl
theorem HI:cI Tryz.prog 84 3 3:=by
 unfold cI;intro a w;simp[Instr.fieldAt,run_underlying Tryz.underlying84,Instr.sureAddr,fieldPlace,cK xu]
section
variable {n:Nat}{S:World->World->Prop}{k:Nat}{K:Fr->World->Prop}{f:Fr}{w:World}{d ty t t2:Nat}{x y:Operand}{pos:String}{aft:Array Edge}{gd:Option (Nat×Bool)}
theorem IU{a:Fn}{v:Value}(b:ev n f x=v)(h:K (cg f d (.func a #[v] #[])) w):R1 Tryz.prog n S k ⟨some d,.makeFunc a #[x] #[],ty,pos,aft,gd⟩ K f w:=
 cH (v:=.func a #[v] #[]) (λ_=>by simp[execOp,b,Instr.makeFunc]) h
theorem OC(w:World):(zeroValue 84).run Tryz.prog w=.ok (.agg #[.slice none 0 0,.slice none 0 0,.slice none 0 0,.nilFunc]) w:=by kernel_rfl
theorem IZ{A B:Option Addr}{p q b a:Nat}(e:ev n f x=.slice A p q)(c:ev n f y=.slice B b a)(h:K (cg f d (.agg #[.slice A p q,.slice B b a,.slice none 0 0,.nilFunc])) w):
 R1 Tryz.prog n S k ⟨some d,.build 84 #[(0,x),(1,y)],ty,pos,aft,gd⟩ K f w:=by
 refine cH (v:=.agg #[.slice A p q,.slice B b a,.slice none 0 0,.nilFunc]) (λw=>?_) h;have g:(#[(0,x),(1,y)]:Array (Nat×Operand)).map (λ(i,x)=>(i,ev n f x))=#[(0,.slice A p q),(1,.slice B b a)]:=by simp[e,c]
 have e:(Value.slice A p q).cells=#[.slice A p q]:=F;have c:(Value.slice B b a).cells=#[.slice B b a]:=F;have a:(Value.agg #[.slice none 0 0,.slice none 0 0,.slice none 0 0,.nilFunc]).cells=#[.slice none 0 0,.slice none 0 0,.slice none 0 0,.nilFunc]:=F;simp[execOp,g,Instr.build,run_underlying Tryz.underlying84,Instr.fill,e,c,a,cK xu,cK (aX (t:=49) F),cK (aX (t:=25) F)]
end
theorem zK(v:Value)(n N0 N:Nat)(G:Nat->Nat->Int)(w:World)(W:cB (EI N0) w v n (λ_=>n) G)(e3:1<=n)(p:n<=8)(ck:1<=N0)(e6:N0<1048576)(hN:Nb N0 8<=N)(hp:Go.aW.PM n G):
 aT Tryz.prog 34 #[v] w λu B=>Ext w B/\∃I:Ga,u=.pointer (some ⟨I.gS,0,none⟩)/\I.ok n/\(∀b,rM I n b->w.heap.size<=b)/\jf B I n N (λm=>Go.aW.aO m G) (λi c=>Go.aW.bm c G i c) Go.aW.one:=by
 obtain⟨p,p,p,_⟩:=id W;refine bo (n:=96) Tryz.func34 F rfl az aA ?_;rw[p];refine gh ?_;rw[<-p];have I:jt n (λ_=>n)=true:=dj.2 ⟨e3,aq,λ_ _=>rfl⟩;have au:∀q,q<=n->∀i j,k9 G q i j=Go.aW.bm q G (q+i) (q+j):=λq E=>(Go.aW.GA G q λp h1 h2=>by have:=hp p aq;omega).1;have p:JU n G:=λq E=>by
  rw[au q aq,Nat.add_zero,Go.aW.db];have:=hp (q+1) aq;omega
 refine aJ (uV _ n N0 (λ_=>n) G w W ck e6) ?_;rintro _ w2 ⟨bK,⟨e3,_⟩|⟨_,u,u,u,rfl,b5⟩⟩
 ·exact absurd ⟨I,p⟩ e3
 obtain⟨gT,bM,rfl,bu⟩:=b5.list aq;have bS:∀m,m<=n->Bd N (Go.aW.aO m G):=λm hm=>by
  rw[<-eJ];exact(ie ck λi j D hj=>W.bd (show i<n by omega) (show j<n by omega)).mono (Nat.le_trans (mX N0 (show m<=8 by omega)) hN)
 have e7:∀q i j,q<n->i<n-q->j<n-q->Bd N (k9 G q i j):=λq i j E D hj=>((b5.2 q E).bd D hj).mono (Nat.le_trans (mX N0 (show q<=8 by omega)) hN);refine gh ?_;refine ib [(0,3),(1,3),(3,3)] [(2,[],[]),(4,[],[])] [(5,3),(6,2),(7,3)] mixed az λw3 bc _=>?_;refine gh ?_;refine dN [] [⟨2,18,44,madeCells (Value.agg #[.bool false,.slice none 0 0]).cells ((n+1)*2),λg=>.slice (some ⟨g,0,none⟩) (n+1) (n+1)⟩,⟨4,20,49,madeCells (Value.slice none 0 0).cells (n*1),λg=>.slice (some ⟨g,0,none⟩) n n⟩] [18,20] az (λa W u B p _=>by
  have cy:u 17=.int .i64 ((n+1:Nat):Int):=p 17 aw aw;have cx:u 19=.int .i64 (n:Int):=p 19 aw aw;rcases List.mem_cons.1 W with rfl|W
  ·refine tJ F rfl ?_;refine cJ dJ (.inr ⟨F,λ_ h=>h⟩) cy cy aD aq aq ?_;intro dy hB hE _;exact qZ ⟨F,hB,hE⟩
  ·rcases List.mem_singleton.1 W with rfl;refine tJ F rfl ?_;refine cJ fL (.inr ⟨F,λ_ h=>h⟩) cx cx aD aq aq ?_;intro dy hB hE _;exact qZ ⟨F,hB,hE⟩) ?_
 refine eW λw4 cq Z bD c5=>?_;obtain⟨ax,cu⟩:=bD _ aG;obtain⟨ay,cv⟩:=bD _ (List.mem_cons_of_mem _ aG);have e4:Z 18≠Z 20:=c5 _ _ aG (List.mem_cons_of_mem _ aG) (show(18:Nat)≠20 by decide);have ak:di w4 (Z 18) (n+1) true (λ_=>N) (λ_=>0):=fq true N cu;have a8:bg w4 (Z 20) 49 (madeCells (Value.slice none 0 0).cells (n*1)):=cv;have ax:w3.heap.size<=Z 18:=ax;have ay:w3.heap.size<=Z 20:=ay;show Ro _ _ _ _ _ _ (cg (cg _ 20 (.slice (some ⟨Z 20,0,none⟩) n n)) 18 (.slice (some ⟨Z 18,0,none⟩) (n+1) (n+1))) _;generalize Z 18=gM at*;generalize Z 20=gL at*;clear bD c5 cu cv;rw[jA,Nat.mul_one]at a8;have p:=bc.trans cq;have u:=bK.trans p;have e0:=(bK.trans bc).size;refine gh ?_;refine IZ F rfl ?_;refine gh ?_;refine bO (v:=.agg _) (.inl F) F ?_;intro Z I an e2;have b7:bg Z w4.heap.size 84 #[.slice (some ⟨gM,0,none⟩) (n+1) (n+1),.slice (some ⟨gL,0,none⟩) n n,.slice none 0 0,.nilFunc]:=I;obtain⟨r,cd⟩ : ∃g,g=w4.heap.size:=⟨_,F⟩;rw[<-cd]at b7⊢;have dd:=ak.lt;have dq:=a8.lt;have b4:r≠gM/\r≠gL:=aq;have bC:w.heap.size<=gM/\w.heap.size<=gL/\w.heap.size<=r:=by have:=u.size;omega
 have Z:w2.heap.size<=gM/\w2.heap.size<=gL/\w2.heap.size<=r:=by have:=bc.size;omega
 replace ak:=ak.Y an;replace a8:=a8.Y an;have c6:=p.trans an;have dx:=u.trans an;clear I bc cq p u ax ay;refine gh ?_;refine b_ [(0,3),(1,3),(2,3),(3,0),(4,1),(5,3),(6,2)] mixed az λp bI _=>?_;have c0:p.cell? ⟨r,0+0,none⟩=some (.slice (some ⟨gM,0,none⟩) (n+1) (n+1)):=by rw[(b7.Y bI).cell];rfl
 refine gh ?_;refine aM (du 1 p aw aw) ?_;rintro _ p ⟨bG,p,p,rfl,c4⟩;refine⟨bG,?_⟩;clear c0;have A:=bI.trans bG;refine gh ?_;refine dX dJ F aq ?_;refine gh ?_;have p:Bd N 1:=bS 0 aE;refine c_ (j:=0) (.inl F) F rfl (ak.Y A) aq (c4.ev true p) ?_;intro L a7 bj e5 e1;have b6:=(b7.Y A).ch bj aq;have b8:=(a8.Y A).ch bj aq;have b0:Ext w2 L:=bj.aK (c6.trans A) λb hb=>aq;have a7:di L gM (n+1) true (λ_=>N) (λm=>if m<=0 then Go.aW.aO m G else 0):=a7.congr λm hm=>⟨by simp only[cC];split<;>exact Nat.le_refl _,by
  simp only[ef];by_cases e:m=0
  ·subst e;rw[ab F,ab aD];rfl
  ·rw[aa e,aa aq]⟩
 have p:r<L.heap.size:=b6.lt;have p:gM<L.heap.size:=a7.lt;have p:gL<L.heap.size:=b8.lt;clear ak a8 b7 A bI bG c6 dx an e5 bj e1 e2 c4 dd dq cd e0;refine gh ?_;refine aY (λf B=>∃l:Nat->Nat,f 3=.int .i64 (n:Int)/\f 4=.slice (some ⟨gT,0,none⟩) n bM/\f 6=.pointer (some ⟨r,0,none⟩)/\Ext w2 B/\bg B r 84 #[.slice (some ⟨gM,0,none⟩) (n+1) (n+1),.slice (some ⟨gL,0,none⟩) n n,.slice none 0 0,.nilFunc]/\di B gM (n+1) true (λ_=>N) (λm=>Go.aW.aO m G)/\bg B gL 49 (arr n λi=>.slice (some ⟨l i,0,none⟩) i i)/\(∀k,k<n->di B (l k) k true (λ_=>N) (λc=>Go.aW.bm c G k c)/\L.heap.size<=l k)/\∀a b,a<n->b<n->l a=l b->a=b) ?_ ?_
 ·refine gh ?_;refine aU (λm f B=>∃(i:Nat) (l:Nat->Nat) (h:Nat->Value),m=n-i/\i<=n/\f 3=.int .i64 (n:Int)/\f 4=.slice (some ⟨gT,0,none⟩) n bM/\f 6=.pointer (some ⟨r,0,none⟩)/\f 29=.int .i64 (n:Int)/\f 30=.int .i64 (i:Int)/\Ext w2 B/\L.heap.size<=B.heap.size/\bg B r 84 #[.slice (some ⟨gM,0,none⟩) (n+1) (n+1),.slice (some ⟨gL,0,none⟩) n n,.slice none 0 0,.nilFunc]/\di B gM (n+1) true (λ_=>N) (λm=>if m<=i then Go.aW.aO m G else 0)/\bg B gL 49 (arr n h)/\(∀k,k<n->∃A m c,h k=.slice A m c)/\(∀k,k<i->h k=.slice (some ⟨l k,0,none⟩) k k)/\(∀k,k<i->di B (l k) k true (λ_=>N) (λc=>Go.aW.bm c G k c)/\L.heap.size<=l k)/\∀a b,a<i->b<i->l a=l b->a=b)
   n ⟨0,λ_=>0,_,rfl,aE,rfl,rfl,rfl,rfl,rfl,b0,aD,b6,a7,b8,λk _=>⟨none,0,0,by simp[Value.cells,Nat.mod_one]⟩,λk s=>absurd s aq,λk s=>absurd s aq,λa b W=>absurd W aq⟩ ?_
  clear b0 b6 a7 b8;rintro m f w9 ⟨i,l,h,rfl,D,P,O,M,V,U,hX,p,Q,hM,X,cb,bY,C,aj⟩;rw[ui P,ui O,ui M,ui V,ui U];clear P O M V U;by_cases a6:i<n;rotate_left
  ·obtain rfl:i=n:=aq;refine gh ?_;refine⟨l,F,F,F,hX,Q,hM.congr λm hm=>⟨aD,by rw[ab aq]⟩,?_,C,aj⟩;rw[dO (h':=h) λk s=>(bY k s).symm];exact X
  refine gh ?_;refine b_ [(0,3),(1,3),(2,3),(3,0),(4,3),(5,3),(6,3),(7,3),(8,3),(9,0),(10,3),(11,0),(12,3),(13,0),(14,3),(15,2)] mixed az λb1 o _=>?_;have p:=hX.trans o;have c0:b1.cell? ⟨r,0+0,none⟩=some (.slice (some ⟨gM,0,none⟩) (n+1) (n+1)):=by rw[(Q.Y o).cell];rfl
  have k1:=aP p (bu i a6);have al:=(b5.2 i a6).Y p;have k2:=al.at (i:=0) aq;obtain⟨x0,y0,p0,ca,t0⟩:=al.entry (i:=0) (j:=0) aq aq;refine gh ?_;refine dP lI F rfl aq ?_;refine gh ?_;refine dX dJ F aq ?_;refine gh ?_;have et:k9 G i 0 0=Go.aW.aO (i+1) G:=by rw[au i aq,Nat.add_zero,Go.aW.db]
  rw[et]at t0;refine c_ (j:=i+1) (.inl F) F rfl (hM.Y o) aq ((t0.2 F).ev true (bS (i+1) a6)) ?_;intro R Z J ai bX;clear c0 k1 k2 p0 ca t0;have H:=(Q.Y o).ch J aq;have ax:=(X.Y o).ch J aq;have u:∀k,k<i->di R (l k) k true (λ_=>N) (λc=>Go.aW.bm c G k c)/\L.heap.size<=l k:=λk s=>⟨((C k s).1.Y o).kp ai J (by have:=(C k s).2;omega),(C k s).2⟩;have bD:Ext w2 R:=J.aK p λb hb=>aq;have Z:di R gM (n+1) true (λ_=>N) (λm=>if m<=i+1 then Go.aW.aO m G else 0):=Z.congr λm hm=>⟨by simp only[cC];split<;>exact Nat.le_refl _,by
   simp only[ef];by_cases e:m=i+1
   ·rw[ab e,ab aq,e]
   ·rw[aa e];by_cases e':m<=i
    ·rw[ab e',ab aq]
    ·rw[aa e',aa aq]⟩
  have cq:=o.size;clear Q hM X C hX p;refine gh ?_;refine b_ [(0,3),(1,3),(2,3),(3,0),(4,3),(5,3),(6,1),(7,3),(8,2)] mixed az λa1 A _=>?_;have c1:a1.cell? ⟨r,0+1,none⟩=some (.slice (some ⟨gL,0,none⟩) n n):=by rw[(H.Y A).cell];rfl
  refine gh ?_;refine cJ dJ (.inr ⟨F,λ_ h=>h⟩) rfl rfl aD aq aq ?_;intro p c5 ak ck;have an:di p a1.heap.size i true (λ_=>N) (λ_=>0):=fq true N c5;obtain⟨Y,p⟩ : ∃g,g=a1.heap.size:=⟨_,F⟩;rw[<-p]at an⊢;have bW:=A.size;clear c1;refine gh ?_;refine cZ (aX F) (.inl F) F rfl (ax.Y (A.trans ak)) (by rw[bf];omega) ?_;intro ay a8 p cd;rw[cT,show 0+i*1=i by omega]at a8;have I:=c8 (ax.Y (A.trans ak)) (ff cb).lh p;have g:=A.trans ak;have bj:Ext w2 ay:=p.aK (bD.trans g) λb hb=>aq;have ds:L.heap.size<=Y:=aq;have av:∀k,k<i->l k≠Y:=λk s=>by have:=(u k s).1.lt;omega
  have bG:=(H.Y g).ch p aq;have c4:=(Z.Y g).kp I p aq;have bI:=an.kp I p aq;have bc:∀k,k<i->di ay (l k) k true (λ_=>N) (λc=>Go.aW.bm c G k c)/\L.heap.size<=l k:=λk s=>⟨((u k s).1.Y g).kp I p (by have:=(u k s).2;omega),(u k s).2⟩;have b7:L.heap.size<=ay.heap.size:=aq;have c6:ay.cell? ⟨gL,0+i*1,none⟩=some (.slice (some ⟨Y,0,none⟩) i i):=by
   rw[a8.cell,show 0+i*1=i by omega,cE a6,ct]
  clear H Z ax an u bD A ak g p I cd ck bW bX cq o J ai c5;refine gh ?_;refine aU (λm f B=>∃j,m=i-j/\j<=i/\f 3=.int .i64 (n:Int)/\f 4=.slice (some ⟨gT,0,none⟩) n bM/\f 6=.pointer (some ⟨r,0,none⟩)/\f 29=.int .i64 (n:Int)/\f 30=.int .i64 (i:Int)/\f 7=.int .i64 (i:Int)/\f 56=.int .i64 (i:Int)/\f 57=.int .i64 ((j:Nat):Int)/\Ext w2 B/\L.heap.size<=B.heap.size/\bg B r 84 #[.slice (some ⟨gM,0,none⟩) (n+1) (n+1),.slice (some ⟨gL,0,none⟩) n n,.slice none 0 0,.nilFunc]/\di B gM (n+1) true (λ_=>N) (λm=>if m<=i+1 then Go.aW.aO m G else 0)/\bg B gL 49 (arr n (cg h i (.slice (some ⟨Y,0,none⟩) i i)))/\(∀k,k<i->di B (l k) k true (λ_=>N) (λc=>Go.aW.bm c G k c)/\L.heap.size<=l k)/\di B Y i true (λ_=>N) λc=>if c<j then Go.aW.bm c G i c else 0)
   i ⟨0,F,aE,F,F,F,F,F,F,F,F,bj,b7,bG,c4,a8,bc,bI.congr λc _=>⟨aD,by rw[aa aq]⟩⟩ ?_
  clear bG c4 a8 bI bc bj b7 c6;rintro m f g ⟨j,rfl,hj,P,O,M,V,U,p,m,g,hX,cL,Q,hM,X,C,hR⟩;rw[ui P,ui O,ui M,ui V,ui U,ui p,ui m,ui g];clear P O M V U p m g;by_cases cc:j<i;rotate_left
  ·obtain rfl:j=i:=aq;have bl:cC l j Y j=Y:=by simp only[cC,if_true]
   have ae:∀k,k≠j->cC l j Y k=l k:=λk h=>by simp only[cC,aa h]
   refine gh ?_;refine⟨_,?_,j+1,cC l j Y,_,F,a6,F,F,F,F,F,hX,cL,Q,hM,X,λk s=>?_,λk s=>?_,λk s=>?_,λa b W hb e=>?_⟩
   ·omega
   ·by_cases e:k=j
    ·subst e;exact⟨_,_,_,ct _ _ _⟩
    ·rw[b9 _ _ e];exact cb k s
   ·by_cases e:k=j
    ·subst e;rw[ct,bl]
    ·rw[b9 _ _ e,ae k e];exact bY k aq
   ·by_cases e:k=j
    ·subst e;rw[bl];exact⟨hR.congr λc A=>⟨aD,by rw[ab A]⟩,ds⟩
    ·rw[ae k e];exact C k aq
   ·by_cases m:a=j
    ·by_cases g:b=j
     ·rw[m,g]
     ·rw[m,bl,ae b g]at e;exact absurd e.symm (av b aq)
    ·by_cases g:b=j
     ·rw[g,bl,ae a m]at e;exact absurd e (av a aq)
     ·rw[ae a m,ae b g]at e;exact aj a b aq aq e
  refine gh ?_;refine cP [(0,3),(1,3),(2,3),(3,0),(4,3),(5,3),(6,0),(7,3),(8,3),(9,3),(10,3),(11,0),(12,3),(13,3),(14,3),(15,3),(16,0),(17,3),(18,0),(19,3),(20,2)] mixed az λg a _=>?_;have m:=hX.trans a;have c1:g.cell? ⟨r,0+1,none⟩=some (.slice (some ⟨gL,0,none⟩) n n):=by rw[(Q.Y a).cell];rfl
  have p:g.cell? ⟨gL,0+i*1,none⟩=some (.slice (some ⟨Y,0,none⟩) i i):=by
   rw[(X.Y a).cell,show 0+i*1=i by omega,cE a6,ct]
  have k1:=aP m (bu j aq);have al:=(b5.2 j aq).Y m;have k2:=al.at (i:=i-j) aq;obtain⟨x0,y0,p0,ca,t0⟩:=al.entry (i:=i-j) (j:=0) aq aq;have et:k9 G j (i-j) 0=Go.aW.bm j G i j:=by rw[au j aq,show j+(i-j)=i by omega,Nat.add_zero]
  have g:=e7 j (i-j) 0 aq aq aq;rw[et]at t0 g;refine gh ?_;refine dP lI F rfl aq ?_;refine gh ?_;refine dX dJ F aq ?_;refine gh ?_;refine c_ (j:=j) (.inl F) F rfl (hR.Y a) cc ((t0.2 F).ev true g) ?_;intro g u g p B;have B:=a.size;refine gh ?_;refine⟨_,?_,j+1,F,cc,F,F,F,F,F,F,F,F,g.aK m (λb hb=>aq),aq,(Q.Y a).ch g aq,(hM.Y a).kp p g aq,(X.Y a).ch g aq,λk s=>⟨((C k s).1.Y a).kp p g (av k s),(C k s).2⟩,u.congr λc A=>⟨by simp only[cC];split<;>exact Nat.le_refl _,?_⟩⟩
  ·omega
  ·simp only[ef];by_cases e:c=j
   ·rw[ab e,ab aq,e]
   ·rw[aa e];by_cases e':c<j
    ·rw[ab e',ab aq]
    ·rw[aa e',aa aq]
 clear b0 b6 a7 b8;rintro f w9 ⟨l,P,O,M,hX,Q,hM,X,C,aj⟩;rw[ui P,ui O,ui M];clear P O M;refine gh ?_;refine aJ (z8 (n:Int) w9 aq aq) ?_;intro a b1 cA;obtain⟨_,rfl,o,gB,gb,e,a,T,hO⟩:=cA.get (by unfold Ht;exact decide_eq_true aq);subst e;rw[Int.toNat_natCast]at hO T;have cf:eM b1 gB gb n n true (λ_ _=>N) Go.aW.one:=hO.wm true λi j _ _=>by
  unfold uB;split
  ·exact bS 0 aE
  ·exact Bd.zero _
 have a:=Q.lt;have a:=hM.lt;have a:=X.lt;have l4:∀k,k<n->l k<w9.heap.size:=λk s=>(C k s).1.lt;have T:∀i,i<n->w9.heap.size<=gb i:=T;clear cA hO;rw[Int.toNat_natCast];refine gh ?_;refine cZ (aX F) (.inl F) F rfl (Q.Y o) aA ?_;intro R H J bX;have ai:Kp b1 R:=c8 (Q.Y o) (by
  intro q z E;have:q=0\/q=1\/q=2\/q=3\/4<=q:=aq;rcases this with rfl|rfl|rfl|rfl|bA
  ·cases E
  ·cases E
  ·cases E
  ·cases E
  ·rw[Array.getElem?_eq_none (by simpa using bA)]at E;cases E) J
 have H:bg R r 84 #[.slice (some ⟨gM,0,none⟩) (n+1) (n+1),.slice (some ⟨gL,0,none⟩) n n,.slice (some ⟨gB,0,none⟩) n n,.nilFunc]:=H;refine gh ?_;refine IU (v:=.pointer (some ⟨r,0,none⟩)) F ?_;refine gh ?_;refine aV HI F ?_;refine gh ?_;refine jg (v:=.func (.func 81) #[.pointer (some ⟨r,0,none⟩)] #[]) xu (.inl F) F rfl rfl H aA ?_;intro a1 aH c9 bW;have aH:bg a1 r 84 #[.slice (some ⟨gM,0,none⟩) (n+1) (n+1),.slice (some ⟨gL,0,none⟩) n n,.slice (some ⟨gB,0,none⟩) n n,.func (.func 81) #[.pointer (some ⟨r,0,none⟩)] #[]]:=aH;have dr:Kp R a1:=c8 H (by
  intro q z E;have:q=0\/q=1\/q=2\/q=3\/4<=q:=aq;rcases this with rfl|rfl|rfl|rfl|bA
  ·cases E
  ·cases E
  ·cases E
  ·cases E
  ·rw[Array.getElem?_eq_none (by simpa using bA)]at E;cases E) c9
 have ar:=J.trans c9;have bB:=ai.trans dr;have a:gM≠gL:=e4;refine gh ?_;have c:=o.size;refine bF (v:=.pointer _) F rfl ⟨ar.aK (bK.trans (hX.trans o)) (λb hb=>aq),⟨r,gM,gL,gB,l,gb⟩,F,⟨b4.1,b4.2,by show r≠gB;omega,a,by show gM≠gB;omega,by show gL≠gB;omega,λi D=>?_,λi D=>?_,λi j D hj=>?_,aj⟩,λb hb=>?_,?_⟩
 ·have h1:=(C i D).2;have h2:=l4 i D;show l i≠r/\l i≠gM/\l i≠gL/\l i≠gB;omega
 ·have h1:=T i D;have h2:=cf.ne i D;show gb i≠r/\gb i≠gM/\gb i≠gL/\gb i≠gB;omega
 ·have h1:=l4 i D;have h2:=T j hj;show l i≠gb j;omega
 ·have a:w.heap.size<=L.heap.size:=aq;have a:w.heap.size<=w9.heap.size:=aq;rcases hb with h|h|h|h|⟨i,D,h|h⟩
  ·rw[h];exact bC.2.2
  ·rw[h];exact bC.1
  ·rw[h];exact bC.2.1
  ·rw[h];show w.heap.size<=gB;omega
  ·rw[h];have:=(C i D).2;show w.heap.size<=l i;omega
  ·rw[h];have:=T i D;show w.heap.size<=gb i;omega
 ·refine⟨aH,(hM.Y o).kp bB ar b4.1.symm,(X.Y o).ch ar b4.2.symm,λi D=>((C i D).1.Y o).kp bB ar ?_,cf.kp bB ar ?_ λi D=>?_⟩
  ·have:=(C i D).2;show¬l i=r;omega
  ·show¬gB=r;omega
  ·have:=T i D;show¬gb i=r;omega
end
end Go.Proofs.Qq
namespace Go.aW
section
variable {n:Nat}{T V G:Mt}
theorem LI.up{k:Nat}{D B d:Int}(h:LI n k G T D B)(e:B<=d):LI n k G T D d:=⟨h.BK,h.pos,h.red,h.uj,λi d=>Int.le_trans (h.Gb i d) e⟩
def PJ(n p:Nat)(T G:Mt)(E:Int)(a b c f0 f1 g0 g1:Int):Prop:=
 ∃V,PI n p T V G f0 f1 g0 g1/\PN n p V G a b c/\PA (aO (p+1) (gr n T G)) (bm p (gr n T G) (p+1) p) (bm p (gr n T G) (p+1) (p+1)) a b c f0 f1 g0 g1/\0<a/\0<c/\
  (a<aO (p+1) (gr n T G)\/(a=aO (p+1) (gr n T G)/\c=bm p (gr n T G) (p+1) (p+1)))/\2*b<=a/\-(2*b)<=a/\c<=E
theorem PJ.start{p:Nat}{E:Int}(e:Sy n G)(d:PM n (gr n T G))(kO:p+1<n)(h1:2*bm p (gr n T G) (p+1) p<=aO (p+1) (gr n T G))(g:-(2*bm p (gr n T G) (p+1) p)<=aO (p+1) (gr n T G))(f:bm p (gr n T G) (p+1) (p+1)<=E):
 PJ n p T G E (aO (p+1) (gr n T G)) (bm p (gr n T G) (p+1) p) (bm p (gr n T G) (p+1) (p+1)) 1 0 0 1:=
 ⟨T,PI.start n p T G,⟨by rw[db],F,F⟩,PA.start _ _ _,d _ aq,jT (eI e) d kO 1 p aq,.inr ⟨F,F⟩,h1,g,f⟩
theorem PJ.step{p:Nat}{E D:Int}(l:Sy n G)(d:PM n (gr n T G))(kO:p+1<n)(o:∀m,m<=n->aO m (gr n T G)<=D)(e:D*D+D<=E){a b c f0 f1 g0 g1:Int}(h:PJ n p T G E a b c f0 f1 g0 g1)(e:4*c<3*a):
 PJ n p T G E c (b-dC b c*c) (a-dC b c*(b+(b-dC b c*c))) g0 g1 (f0-dC b c*g0) (f1-dC b c*g1):=by
 obtain⟨V,e,f,j,g,i,g,g,g,g⟩:=h;have g:=(e.swap kO).sub (dC b c);have e:=(f.swap l).sub l (dC b c);have h:=j.swap.sub (dC b c);have f:=nF (a:=b) i;have s:=d p aq;have r:=d (p+2) aq;have j:=g.dm p aq;have m:=g.dm (p+2) aq;have d:=e.O8 l (by rw[j];omega);rw[j,m]at d;obtain⟨l,q⟩ : ∃l,l=b-dC b c*c:=⟨_,F⟩;obtain⟨j,m⟩ : ∃j,j=a-dC b c*(b+l):=⟨_,F⟩;rw[<-q]at e h f d⊢;rw[<-m]at e h d⊢;have m:=Int.mul_pos s r;have q:=sq_nonneg l;have l:0<j:=Int.pos_of_mul_pos_right (show 0<c*j by omega) i;have j:=JO i (Int.le_of_lt m) d f.1 f.2;have j:=o p aq;have d:=o (p+2) aq;have m:=o (p+1) aq;have m:aO p (gr n T G)*aO (p+2) (gr n T G)<=D*D:=Int.mul_le_mul j d aq aq;have d:c<aO (p+1) (gr n T G):=aq;exact⟨_,g,e,h,i,l,.inl d,f.1,f.2,aq⟩
theorem PJ.bound{p:Nat}{E D:Int}(e:Sy n G)(d:PM n (gr n T G))(kO:p+1<n)(g:∀m,m<=n->aO m (gr n T G)<=D)(f:D<=E)(i:bm p (gr n T G) (p+1) (p+1)<=E){a b c f0 f1 g0 g1:Int}(h:PJ n p T G E a b c f0 f1 g0 g1):
 a.natAbs<=E.natAbs/\b.natAbs<=E.natAbs/\c.natAbs<=E.natAbs/\f0.natAbs<=E.natAbs/\f1.natAbs<=E.natAbs/\g0.natAbs<=E.natAbs/\g1.natAbs<=E.natAbs:=by
 obtain⟨V,f,f,j,f,f,f,f,f,f⟩:=h;have m:=d p aq;have l:=d (p+1) aq;have h:=d (p+2) aq;have o:=g (p+1) aq;have g:=Int.mul_pos m h;have g:=jc (eI e (T:=T)) (show aO p (gr n T G)≠0 by omega) (p+1);rw[db,show p+1+1=p+2 from F]at g;have g:=jT (eI e (T:=T)) d kO 1 p aq;have d:=j.O_ (E:=E) aq l g aq aq aq i aq f;exact⟨aq,aq,aq,d.1,d.2.1,d.2.2.1,d.2.2.2⟩
end
end Go.aW
namespace Go.Proofs.Qq
open Go Go.cW Go.c7 Go.Proofs
open Go.aW (dC gr bm aO Sy PM ld xl LI SI PJ PI PN)
def dH(n:Nat)(G T:Nat->Nat->Int):Nat->Int:=λm=>aO m (gr n T G)
def lH(n:Nat)(G T:Nat->Nat->Int):Nat->Nat->Int:=λi c=>bm c (gr n T G) i c
theorem BO(T:Nat->Nat->Int)(q:Int)(i j:Nat):oT T q i j=ld q i j T:=by
 funext a c;simp only[oT,ld,Go.aW.cj]
theorem MV{n:Nat}{G T:Nat->Nat->Int}{q:Int}{i j:Nat}(d:j<i)(m:Nat):dH n G (ld q i j T) m=dH n G T m:=by
 unfold dH;rw[Go.aW.f_,Go.aW.jx q _ d]
theorem Hp{n:Nat}{G T:Nat->Nat->Int}{q:Int}{i j:Nat}(f:Sy n G)(d:j<i){a c:Nat}(e:c<a):oU (dH n G T) (lH n G T) q i j a c=lH n G (ld q i j T) a c:=by
 unfold lH oU dH;rw[Go.aW.f_,Go.aW.oa (Go.aW.eI f) d e];by_cases e:a=i
 ·rw[ab e,ab e];by_cases d:c<j
  ·rw[ab d,ab d]
  ·rw[aa d,aa d];by_cases d:c=j
   ·rw[ab d,ab d,d]
   ·rw[aa d,aa d]
 ·rw[aa e,aa e]
section
variable {n k:Nat}{G T V:Nat->Nat->Int}{f0 f1 g0 g1 a b c:Int}
theorem DZ(d:1<=k)(h:PI n (k-1) T V G f0 f1 g0 g1)(i q:Nat):p7 T k f0 f1 g0 g1 i q=V i q:=by
 have e:k-1+1=k:=aq;have d:=h.B0 q;have f:=h.E4 q;rw[e]at d f;unfold p7;by_cases e:i=k-1
 ·rw[ab e,e];exact d.symm
 ·rw[aa e];by_cases d:i=k
  ·rw[ab d,d];exact f.symm
  ·rw[aa d,h.other i e aq]
theorem MW(d:1<=k)(h:PI n (k-1) T V G f0 f1 g0 g1)(d:PN n (k-1) V G a b c)(m:Nat):ef (dH n G T) k a m=dH n G V m:=by
 simp only[ef];unfold dH;by_cases e:m=k
 ·rw[ab e,e,<-d.pa,Go.aW.db,show k-1+1=k by omega]
 ·rw[aa e,h.dm m aq]
theorem D3(d:Sy n G)(e:1<=k)(h:PI n (k-1) T V G f0 f1 g0 g1)(r:PN n (k-1) V G a b c)(p:aO (k-1) (gr n T G)≠0)(t:aO k (gr n T G)≠0){i q:Nat}(e:q<i):
 nI (dH n G T) (lH n G T) k (aO k (gr n T G)) (bm (k-1) (gr n T G) k (k-1)) a b f0 f1 g0 g1 i q=lH n G V i q:=by
 have f:k-1+1=k:=aq;have e:k-1+2=k+1:=aq;have l:=h.l0;have j:=h.l1;have g:=h.lo;have o:=h.hi;rw[f,e]at j;rw[f,e]at l;rw[e]at g o;unfold nI lH;by_cases e:i=k-1
 ·rw[ab e,e,l q q aq aq]
 ·rw[aa e];by_cases e:i=k
  ·rw[ab e];by_cases m:q<k-1
   ·rw[ab m,e,j q q aq aq]
   ·rw[aa m,e,show q=k-1 by omega];have:=r.pb;rw[f]at this;exact this.symm
  ·rw[aa e];by_cases s:k<i
   ·rw[ab s];have u:Cq (dH n G T) (lH n G T) k (aO k (gr n T G)) (bm (k-1) (gr n T G) k (k-1)) i=bm (k-1) (gr n T G) i k:=by
     unfold Cq dH lH;have e:=Go.aW.pH (Go.aW.eI d (T:=T)) p i k;rw[f]at e;rw[show aO (k-1) (gr n T G)*bm k (gr n T G) i k+bm (k-1) (gr n T G) i (k-1)*bm (k-1) (gr n T G) k (k-1)=aO k (gr n T G)*bm (k-1) (gr n T G) i k by omega];exact Int.mul_ediv_cancel_left _ t
    have m:bm (k-1) (gr n V G) i (k-1)=f0*bm (k-1) (gr n T G) i (k-1)+f1*bm (k-1) (gr n T G) i k:=by
     rw[Go.aW.iV (Go.aW.eI d),l (k-1) i aD aq,Go.aW.iV (Go.aW.eI d) (k-1) (k-1) i,Go.aW.iV (Go.aW.eI d) (k-1) k i]
    have t:bm (k-1) (gr n V G) i k=g0*bm (k-1) (gr n T G) i (k-1)+g1*bm (k-1) (gr n T G) i k:=by
     rw[Go.aW.iV (Go.aW.eI d),j (k-1) i aD aq,Go.aW.iV (Go.aW.eI d) (k-1) (k-1) i,Go.aW.iV (Go.aW.eI d) (k-1) k i]
    have j:Cq (dH n G T) (λi c=>bm c (gr n T G) i c) k (aO k (gr n T G)) (bm (k-1) (gr n T G) k (k-1)) i=bm (k-1) (gr n T G) i k:=u;rw[j];by_cases j:q=k-1
    ·rw[ab j,j,m]
    ·rw[aa j];by_cases l:q=k
     ·rw[ab l,l];have j:aO (k-1) (gr n V G)=aO (k-1) (gr n T G):=h.dm (k-1) aq;have e:=Go.aW.pH (Go.aW.eI d (T:=V)) (show aO (k-1) (gr n V G)≠0 by rw[j];exact p) i k;have h:aO k (gr n V G)=a:=by rw[<-r.pa,Go.aW.db,f]
      have d:=r.pb;rw[f]at e d;rw[h,d,j,m,t]at e;have d:lH n G T i (k-1)=bm (k-1) (gr n T G) i (k-1):=F;rw[show dH n G T (k-1)=aO (k-1) (gr n T G)from F];rw[show a*(g0*bm (k-1) (gr n T G) i (k-1)+g1*bm (k-1) (gr n T G) i k)-b*(f0*bm (k-1) (gr n T G) i (k-1)+f1*bm (k-1) (gr n T G) i k)=aO (k-1) (gr n T G)*bm k (gr n V G) i k by rw[e];grind];exact Int.mul_ediv_cancel_left _ p
     ·rw[aa l];by_cases d:q<k-1
      ·rw[g q i q aq aq aq]
      ·rw[o q i q aq aq aD]
   ·rw[aa s,g q i q aq aq aq]
end
end Go.Proofs.Qq
namespace Go.Proofs.Qq
section
open Go Go.cW Go.c7 Go.Proofs
open Go.aW (dC gr bm aO Sy PM ld xl LI SI PJ PI PN uF)
section
variable {P:Program}{n:Nat}{S:World->World->Prop}{k:Nat}{K:Fr->World->Prop}{f:Fr}{w:World}{d ty t:Nat}{x y:Operand}{pos:String}{aft:Array Edge}{gd:Option (Nat×Bool)}
theorem F9{g:FuncId}{x i e:Operand}{j:Array TypeId}{v0 v1 c:Value}{b:Value->World->Prop}
 (o:k=2\/k=1) (l:ev n f x=.func (.func g) #[v0] #[]) (q:ev n f i=v1) (p:ev n f e=c) (m:aT P g #[v0,v1,c] w b)
 (h:∀v c,b v c->(k=1->S w c)/\K (cg f d v) c):R1 P n S k ⟨some d,.call { callee:=.value x,args:=#[i,e],argTypes:=j },ty,pos,aft,gd⟩ K f w:=
 ue o l (by simp[q,p]) m h
theorem Lc{b:Nat}{a:Array TypeId}(c:ev n f y=.int .i64 (b:Int))(h:K (cg f d (.int .i64 ((Nat.max 1 b:Nat):Int))) w):R1 P n S k ⟨some d,.call { callee:=.builtin .max,args:=#[.const (.int .i64 1),y],argTypes:=a },ty,pos,aft,gd⟩ K f w:=by
 refine cH (v:=.int .i64 ((Nat.max 1 b:Nat):Int)) (λw=>?_) h;have e:(if(b:Int)>1 then(b:Int)else 1)=((Nat.max 1 b:Nat):Int):=by
  have:Nat.max 1 b=if b>1 then b else 1:=by
   show Max.max 1 b=_;split<;>omega
  rw[this];split<;>split<;>omega
 have a:ev n f (.const (.int .i64 1))=.int .i64 1:=F;simp[execOp,resolve,invoke,builtin,Builtin.max_,Builtin.max2,c,a,e]
end
structure KZ(n N:Nat)(G:Nat->Nat->Int)(D B Bs E:Int):Prop where
 sy:Sy n G
 De:D*D+D<=E
 Dl:D<=E
 C9:D*(9*D)<=E
 B9:9*D<=B
 BE:D+8*(2*E*(2*E)*D)<=B
 Bl:B<=Bs
 Bu:∀t:Nat,t<=8->D+8*((2^t*(D*B+1)-1)*(2^t*(D*B+1)-1)*D)<=Bs
 bT:∀k T,LI n k G T D Bs->∀i c,i<n->c<n->Bd N (T i c)
 bL:∀k T,LI n k G T D Bs->∀i c,c<i->i<n->Bd N (bm c (gr n T G) i c)
 bE:∀z:Int,z.natAbs<=E.natAbs->Bd N z
theorem KZ.N3{n N k p:Nat}{G T:Nat->Nat->Int}{D B a E:Int}(h:KZ n N G D B a E)(g:LI n k G T D a)(kO:p+1<n)(q:bm p (gr n T G) (p+1) (p+1)<=E):Ey (PJ n p T G E) N where
 step:=λa b c m l j i e o=>e.step h.sy g.pos kO g.uj h.De o
 pos:=λa b c m l j i e=>by
  obtain⟨V,_,_,_,o,hc,_⟩:=e;exact⟨o,hc⟩
 bd:=λa b c m l j i e=>by
  obtain⟨m,l,j,i,c,b,a⟩:=e.bound h.sy g.pos kO g.uj h.Dl q;exact⟨h.bE _ m,h.bE _ l,h.bE _ j,h.bE _ i,h.bE _ c,h.bE _ b,h.bE _ a⟩
theorem Mc(I:Ga)(n N v:Nat)(G T0:Nat->Nat->Int)(D B Bs E:Int)(w:World)(o:jf w I n N (dH n G T0) (lH n G T0) T0)(hI:I.ok n)(bs:I.gS=v)(bl:1<=n)(hn:n<=8)(bC:1<=N)(hN:N<1000000)(A:KZ n N G D B Bs E)(l:LI n 1 G T0 D B):
 aT Tryz.prog 35 #[.pointer (some ⟨v,0,none⟩)] w λv J=>v=.tuple #[]/\Ch (fk I n) w J/\Kp w J/\∃T,jf J I n N (dH n G T) (lH n G T) T/\LI n n G T D B:=by
 refine bo (n:=39) Tryz.func35 F rfl az aA ?_;subst bs;have v:∀b,rM I n b->b<w.heap.size:=λb hb=>o.mb hb;have s:=A.sy;refine gh ?_;refine aU (λm f J=>∃k T,m=uF (gr n T G) n*16+(n-k)/\1<=k/\k<=n/\f 0=.pointer (some ⟨I.gS,0,none⟩)/\f 2=.int .i64 ((k:Nat):Int)/\Ch (fk I n) w J/\Kp w J/\jf J I n N (dH n G T) (lH n G T) T/\LI n k G T D B)
  (uF (gr n T0 G) n*16+(n-1)) ⟨1,T0,F,aD,bl,F,F,Ch.refl _ _,Kp.refl _,o,l⟩ ?_
 clear o l;rintro m f v ⟨k,T1,rfl,O,v,R,Q,r,u,o,l⟩;rw[ui R,ui Q];clear R Q;refine aN ?_;have e2:=o.c2;by_cases C:k<n;rotate_left
 ·obtain rfl:k=n:=aq;refine gh ?_;exact lP F ⟨F,r,u,T1,o,l⟩
 refine gh ?_;clear e2;have v:0<=D*B:=by
  have h1:=l.D1;have h2:=l.Mr s (show 0<n by omega);have h3:=l.Gb 0 aq;exact Int.mul_nonneg aq aq
 refine aY (λf J=>∃T,f 0=.pointer (some ⟨I.gS,0,none⟩)/\f 2=.int .i64 (k:Int)/\Ch (fk I n) w J/\Kp w J/\jf J I n N (dH n G T) (lH n G T) T/\LI n k G T D B/\(∃U,SI n k 0 (gr n T G) U)/\uF (gr n T G) n=uF (gr n T1 G) n) ?_ ?_
 ·refine gh ?_;refine aU (λm f J=>∃(v:Nat) (T:Nat->Nat->Int),m=v/\v<=k/\f 0=.pointer (some ⟨I.gS,0,none⟩)/\f 2=.int .i64 (k:Int)/\f 3=.int .i64 ((v:Int)-1)/\Ch (fk I n) w J/\Kp w J/\jf J I n N (dH n G T) (lH n G T) T/\LI n k G T D Bs/\SI n k v (gr n T G) (2^(k-v)*(D*B+1)-1)/\(∀i,i<n->i≠k->gr n T G i i<=B)/\uF (gr n T G) n=uF (gr n T1 G) n)
   k ⟨k,T1,F,aD,F,F,?_,r,u,o,l.up A.Bl,?_,λi hi _=>l.Gb i hi,rfl⟩ ?_
  ·show Value.int .i64 ((k-1:Nat):Int)=_;rw[show((k-1:Nat):Int)=(k:Int)-1 by omega]
  ·have:=l.si s C;rw[Nat.sub_self,Int.pow_zero,Int.one_mul,show D*B+1-1=D*B by omega];exact this
  clear o r u;rintro m f w2 ⟨v,T,rfl,v,R,Q,v,r,u,o,g,z,aj,M⟩;rw[ui R,ui Q,ui v];clear R Q v;refine aN ?_;have aH:0<=2^(k-m)*(D*B+1)-1:=by
   have h1:(1:Int)<=2^(k-m):=by
    have:0<(2:Nat)^(k-m):=Nat.pow_pos aw
    exact_mod_cast this
   have:=Int.mul_le_mul h1 (show(1:Int)<=D*B+1 by omega) aq aq;omega
  by_cases hz:m=0
  ·subst hz;refine gh ?_;have ai:=z.short s g.pos g.uj C hn;refine⟨T,F,F,r,u,o,⟨g.BK,g.pos,g.red,g.uj,λi hi=>?_⟩,⟨_,z⟩,M⟩;by_cases e:i=k
   ·subst e;exact Int.le_trans ai A.B9
   ·exact aj i hi e
  obtain⟨j,rfl⟩ : ∃j,m=j+1:=⟨m-1,aq⟩;rw[show((j+1:Nat):Int)-1=(j:Int) by omega];obtain⟨q,Y⟩ : ∃q,q=dC (lH n G T k j) (dH n G T (j+1)):=⟨_,F⟩;have bl:0<dH n G T (j+1):=g.pos (j+1) aq;have ay:2*(2^(k-(j+1))*(D*B+1)-1)+1=2^(k-j)*(D*B+1)-1:=by
   rw[show k-j=(k-(j+1))+1 by omega,Int.pow_succ];grind
  have a7:=z.step (Go.aW.eI s) g.pos aH C (show j<k by omega);rw[ay,<-Go.aW.f_]at a7;have v:dC (bm j (gr n T G) k j) (aO (j+1) (gr n T G))=q:=Y.symm;rw[v]at a7;have v:PM n (gr n (ld q k j T) G):=by rw[Go.aW.f_];exact g.pos.xl aq
  have J:∀m,m<=n->aO m (gr n (ld q k j T) G)<=D:=λm hm=>by rw[Go.aW.f_,Go.aW.jx q _ aq];exact g.uj m hm
  have bA:0<=2^(k-j)*(D*B+1)-1:=aq;have bs:=a7.norm s v J bA C;have al:LI n k G (ld q k j T) D Bs:=g.sub s q aq C aD (Int.le_refl _) (by
   refine Int.le_trans bs (Int.le_trans ?_ (A.Bu (k-j) aq));have h1:0<=(2^(k-j)*(D*B+1)-1)*(2^(k-j)*(D*B+1)-1)*D:=Int.mul_nonneg (Go.aW.sq_nonneg _) (by have:=g.D1;omega);have:=Int.mul_le_mul_of_nonneg_right (show(k:Int)<=8 by omega) h1;omega)
  refine gh ?_;refine aV HI F ?_;refine gh ?_;refine ji aw xu F o.c3 ?_;refine gh ?_;refine F9 (.inl F) F rfl rfl (oS I n N k j I.gS (dH n G T) (lH n G T) T w2 o hI F C aq hn aq bl (λ_ c Z=>?_) λ_ c Z=>?_) ?_
  ·rw[<-Y];have:=A.bT _ _ al k c C Z;simp only[ld,Go.aW.cj,if_true]at this;exact this
  ·rw[<-Y,Hp s aq Z];exact A.bL _ _ al k c Z C
  rintro _ w3 ⟨rfl,bG,bt,a8⟩;refine⟨(λe=>by cases e),?_⟩;replace r:=r.trans bG;replace u:=u.trans bt;refine gh ?_;by_cases v:2*lH n G T k j<=dH n G T (j+1)/\-(2*lH n G T k j)<=dH n G T (j+1)
  ·rw[ab v]at a8;have J:=z.skip g.pos aH C (show j<k by omega) v;rw[ay]at J;exact⟨_,Nat.lt_succ_self j,j,T,F,aq,F,F,F,r,u,a8,g,J,aj,M⟩
  ·rw[aa v,<-Y,BO]at a8;have g:jf w3 I n N (dH n G (ld q k j T)) (lH n G (ld q k j T)) (ld q k j T):=a8.congr aD (λm _=>(MV aq m).symm) (λa c Z _=>Hp s aq Z) λ_ _ _ _=>rfl;refine⟨_,Nat.lt_succ_self j,j,ld q k j T,F,aq,F,F,F,r,u,g,al,a7,λi hi g=>?_,?_⟩
   ·rw[Go.aW.f_,Go.aW.zE g];exact aj i hi g
   ·rw[Go.aW.JM q aq];exact M
 clear o r u l;rintro f w2 ⟨T,R,Q,r,u,o,l,⟨U,z⟩,M⟩;rw[ui R,ui Q];clear R Q;have bj:0<aO k (gr n T G):=l.pos k aq;have g:0<aO (k-1) (gr n T G):=l.pos (k-1) aq;have L:k-1+1=k:=aq;have v:=r.size;refine gh ?_;refine aJ (B6 I n N k I.gS (dH n G T) (lH n G T) T w2 o F O C hn bC aq (show dH n G T k≠0 by unfold dH;omega)) ?_;rintro v w3 ⟨ae,ak⟩;replace o:=o.Y ae;replace r:=r.add ae;replace u:=u.trans (bJ ae);have g:(dH n G T (k-1)*dH n G T (k+1)+lH n G T k (k-1)*lH n G T k (k-1))/dH n G T k=bm (k-1) (gr n T G) k k:=by
  unfold dH lH;have hs:=Go.aW.jc (Go.aW.eI s (T:=T)) (show aO (k-1) (gr n T G)≠0 by omega) k;rw[L,Go.aW.db]at hs;rw[<-hs];exact Int.mul_ediv_cancel_left _ aq
 rw[g]at ak;have ai:=z.short s l.pos l.uj C hn;have an:bm (k-1) (gr n T G) k k<=E:=by
  have h1:=Go.aW.xS (Go.aW.eI s (T:=T)) l.pos C (k-1) aq;have h2:=l.uj (k-1) aq;have h3:=l.Mr s C;have h4:aO (k-1) (gr n T G)*gr n T G k k<=D*(9*D):=Int.mul_le_mul h2 ai aq aq;have:=A.C9;omega
 have ax:PJ n (k-1) T G E (aO k (gr n T G)) (bm (k-1) (gr n T G) k (k-1)) (bm (k-1) (gr n T G) k k) 1 0 0 1:=by
  have h:=PJ.start (p:=k-1) (E:=E) s l.pos aq (by have:=(z.sz (k-1) aE aq).1;rw[L]at this⊢;exact this) (by have:=(z.sz (k-1) aE aq).2;rw[L]at this⊢;exact this) (by rw[L];exact an);rw[L]at h;exact h
 have b0:Ey (PJ n (k-1) T G E) N:=A.N3 (l.up A.Bl) aq (by rw[L];exact an);obtain⟨b1,b2,b3,b4,b5,b6,b7⟩:=b0.bd _ _ _ _ _ _ _ ax;have a1:I8 w3 v N (pz (aO k (gr n T G)) (bm (k-1) (gr n T G) k (k-1)) (bm (k-1) (gr n T G) k k) 1 0 0 1):=by
  obtain⟨hh,e,Z⟩:=ak;refine⟨hh,e,λj hj=>((Z j hj).2 rfl).ev true ?_⟩;have:j=0\/j=1\/j=2\/j=3\/j=4\/j=5\/j=6:=aq;rcases this with rfl|rfl|rfl|rfl|rfl|rfl|rfl
  ·exact b1
  ·exact b2
  ·exact b3
  ·exact b4
  ·exact b5
  ·exact b6
  ·exact b7
 clear ak;refine gh ?_;refine aS (.inl F) Dt ?_;intro g Q v a8;have j:bg g w3.heap.size 137 NA:=Q;obtain⟨U,J⟩ : ∃g,g=w3.heap.size:=⟨_,F⟩;rw[<-J]at j⊢;refine gh ?_;refine tL (.inl F) F rfl (a1.Y v) j F Du ?_;intro R Gc J ai a7;have g:Ext w3 R:=J.aK v λb hb=>aq;replace o:=o.Y g;replace r:=r.add g;replace u:=u.trans (bJ g);replace a1:=a1.Y g;clear j Q v a8 J ai a7 g;have g:w.heap.size<=U:=by have:=ae.size;omega
 refine gh ?_;refine aN ?_;refine gh ?_;refine aJ (oB U N _ R Gc aq) ?_;rintro _ w6 ⟨g,rfl⟩;replace o:=o.Y g;replace r:=r.add g;replace u:=u.trans (bJ g);replace Gc:=Gc.Y g;replace a1:=a1.Y g;have g:aO k (gr n T G)*bm (k-1) (gr n T G) k k=aO (k-1) (gr n T G)*aO (k+1) (gr n T G)+bm (k-1) (gr n T G) k (k-1)*bm (k-1) (gr n T G) k (k-1):=by
  have hs:=Go.aW.jc (Go.aW.eI s (T:=T)) (show aO (k-1) (gr n T G)≠0 by omega) k;rw[L,Go.aW.db]at hs;exact hs
 by_cases g:4*pz (aO k (gr n T G)) (bm (k-1) (gr n T G) k (k-1)) (bm (k-1) (gr n T G) k k) 1 0 0 1 2<3*pz (aO k (gr n T G)) (bm (k-1) (gr n T G) k (k-1)) (bm (k-1) (gr n T G) k k) 1 0 0 1 0;rotate_left
 ·have au:¬4*bm (k-1) (gr n T G) k k<3*aO k (gr n T G):=g;rw[decide_eq_false g];refine gh ?_;refine⟨_,?_,k+1,T,F,aq,C,F,F,r,u,o,l.next s O C z ?_⟩
  ·rw[M];omega
  ·have h1:=Int.mul_le_mul_of_nonneg_left (show 3*aO k (gr n T G)<=4*bm (k-1) (gr n T G) k k by omega) (Int.le_of_lt bj);have j:aO k (gr n T G)*(3*aO k (gr n T G))=3*(aO k (gr n T G)*aO k (gr n T G)):=aC;have e2:aO k (gr n T G)*(4*bm (k-1) (gr n T G) k k)=4*(aO k (gr n T G)*bm (k-1) (gr n T G) k k):=aC;omega
 have au:4*bm (k-1) (gr n T G) k k<3*aO k (gr n T G):=g;rw[decide_eq_true g];have bD:1<=E:=by have:=l.D1;have:=A.Dl;omega
 have a:1<=B:=by have:=l.D1;have:=A.B9;omega
 have bB:SI n (k-1+1) 0 (gr n T G) B:=by
  rw[L];refine⟨z.red,z.sz,λc Z=>?_⟩;obtain⟨h1,h2⟩:=z.sz c aE Z;have h3:=l.pos (c+1) aq;have h4:=Int.mul_le_mul_of_nonneg_right a (Int.le_of_lt h3);omega
 have b8:LI n (k-1+1) G T D B:=by rw[L];exact l
 have ar:∀a' b' c' u0 u1 v0 v1,PJ n (k-1) T G E a' b' c' u0 u1 v0 v1->¬4*c'<3*a'->∃V,PI n (k-1) T V G u0 u1 v0 v1/\PN n (k-1) V G a' b' c'/\LI n (k-1) G V D B/\uF (gr n V G) n<uF (gr n T G) n:=by
  intro a' b' c' u0 u1 v0 v1 hj a6;obtain⟨_,_,_,k0,k1,k2,k3⟩:=hj.bound s l.pos (show k-1+1<n by omega) l.uj A.Dl (by rw[L];exact an);obtain⟨V,H,W,a,ha,Z,a,bx,bu,c⟩:=hj;rw[L]at a;have av:a'<aO (k-1+1) (gr n T G):=by
   rw[L];rcases a with h|⟨h1,h2⟩
   ·exact h
   ·exact absurd au (by rw[<-h1,<-h2];exact a6)
  have a:=l.uj k aq;have a:=Go.aW.B_ s (show k-1+1<n by omega) hn b8 bB H W ha (by rw[L]at av;omega) bx bu bD k0 k1 k2 k3;obtain⟨h1,h2⟩:=Go.aW.LI.oL s (show k-1+1<n by omega) b8 H W ha av (Int.le_refl B) (Int.le_trans a.1 A.BE) (Int.le_trans a.2 A.BE);exact⟨V,H,W,h1,h2⟩
 obtain⟨hh,c,a⟩:=id Gc;refine gh ?_;refine Bj aw qX F c (bf 14 hh) ?_;refine gh ?_;refine aJ (Cp (PJ n (k-1) T G E) I n N k I.gS (dH n G T) (lH n G T) T _ _ _ _ _ _ _ _ w6 o hI F O C hn aq ⟨hh,F,a⟩ b0 ax (show dH n G T (k-1)≠0 by unfold dH;omega) (λa' b' c' u0 u1 v0 v1 hj a6=>?_)) ?_
 ·obtain⟨V,H,W,X,_⟩:=ar _ _ _ _ _ _ _ hj a6;refine⟨λi q hi Y=>?_,λi q Y hi=>?_⟩
  ·rw[DZ O H];exact A.bT _ _ (X.up A.Bl) i q hi Y
  ·rw[D3 s O H W aq aq Y];exact A.bL _ _ (X.up A.Bl) i q Y hi
 rintro _ c ⟨rfl,l,j,a',b',c',u0,u1,v0,v1,hj,a6,a⟩;obtain⟨V,H,W,X,g⟩:=ar _ _ _ _ _ _ _ hj a6;have h:jf c I n N (dH n G V) (lH n G V) V:=a.congr aD (λm _=>MW O H W m) (λi q Y _=>D3 s O H W aq aq Y) λi q _ _=>DZ O H i q;refine gh ?_;refine Lc (b:=k-1) F ?_;refine gh ?_;have c:Nat.max 1 (k-1)=1\/Nat.max 1 (k-1)=k-1:=by
  show Max.max 1 (k-1)=1\/Max.max 1 (k-1)=k-1;omega
 have a:1<=Nat.max 1 (k-1):=by show 1<=Max.max 1 (k-1);omega
 obtain⟨g,i⟩ : ∃g,g=Nat.max 1 (k-1):=⟨_,F⟩;rw[<-i]at c a⊢;refine⟨_,?_,g,V,F,a,aq,?_⟩
 ·rw[<-M];omega
 refine⟨F,F,r.trans l,u.trans j,h,?_⟩;rcases c with e|e
 ·rw[e];exact⟨X.BK,X.pos,Go.aW.po.one _,X.uj,X.Gb⟩
 ·rw[e];exact X
