import Derived.Test.YtmfndnlifgphjaaGreatDoorQzf
set_option maxHeartbeats 64000000
open Go.Proofs.YtmfndnlifgphjaaGreatDoor
namespace Go.Proofs.Qq
section
open Go Go.cW Go.c7 Go.Proofs
theorem L2(R V:List Nat)(o k:Nat)(a:fH R)(hV:fH V)(c:V.length=k+2)(b:o+k+3<=R.length)(b:2147483648<=V.getD (k+1) 0)(b:val (k_ R o (k+3))<B*val V):
 x_ (B^k) (val (V.take k)) (V.getD k 0) (V.getD (k+1) 0) (val (k_ R o k)) (R.getD (o+k) 0) (R.getD (o+(k+1)) 0) (R.getD (o+(k+2)) 0) (val (k_ R o (k+3))) (val V) where
 hV:=by
  rw[<-dK V,c,bN _ _ aq,bN _ _ aq,Nat.pow_succ,Nat.mul_add,Nat.mul_assoc];omega
 hU:=by
  rw[ee _ _ _ aq,ee _ _ _ aq,ee _ _ _ aq];simp only[Nat.pow_succ,Nat.mul_add,Nat.mul_assoc];omega
 Ob:=Nat.pow_pos aw
 O6:=fX hV k
 Pj:=me a o k
 fc:=hV.getD k
 cQ:=hV.getD (k+1)
 O7:=a.getD _
 z_:=a.getD _
 pn:=a.getD _
 norm:=by unfold B;omega
 lt:=b
theorem uJ(g o k n nu cu cv:Nat)(N:Addr)(R V:List Nat)(w:World)(hR:Lb w g R)(a6:fH R)(hV:fM w (some N) V)(bs:N.block≠g)(hk:V.length=k+2)(hn:n=k+2)(bY:nu=k+3)(ho:o+k+3<=R.length)(cq:R.length<35184372088832)
 (bD:2147483648<=V.getD (k+1) 0) (c4:val (k_ R o (k+3))<B*val V):
 aT Tryz.prog 151 #[.slice (some ⟨g,0+o*1,none⟩) nu cu,.slice (some N) n cv] w λv c=>∃q R',v=.int .u32 ((q:Nat):Int)/\q<4294967296/\Ch (λb=>b=g) w c/\c.heap.size=w.heap.size/\Lb c g R'/\R'.length=R.length/\fH R'/\
  (∀j,j<o\/o+k+3<=j->R'.getD j 0=R.getD j 0)/\val (k_ R o (k+3))=q*val V+val (k_ R' o (k+3))/\val (k_ R' o (k+3))<val V:=by
 subst hn bY;have hT:=L2 R V o k a6 hV.fD hk ho bD c4;have bY:=a6.getD (o+(k+2));have bD:=a6.getD (o+(k+1));have ck:=a6.getD (o+k);have cf:=hV.fD.getD (k+1);have cd:=hV.fD.getD k;have Z:=wO _ _ bY bD;have ai:=hT.start;have au:=Nat.mod_lt (R.getD (o+(k+2)) 0*B+R.getD (o+(k+1)) 0) hT.yW;refine bo (n:=171) Tryz.func151 F rfl az aA ?_;refine gg ?_;refine b_ [(0,3),(1,3),(2,3),(3,0),(4,3),(5,3),(6,3),(7,3),(8,3),(9,3),(10,0),(11,3),(12,3),(13,3)] mixed az λw1 a7 cb=>?_;have b0:=hR.Y a7;have K:=b0.at (j:=o+(k+2)) aq;have hy:=b0.at (j:=o+(k+1)) aq;rw[<-qV]at K hy;refine gg ?_;refine jN F rfl (Nat.mod_lt _ aw) aq ?_;rw[show R.getD (o+(k+2)) 0*2^(OfNat.ofNat 32)%18446744073709551616 ||| R.getD (o+(k+1)) 0=R.getD (o+(k+2)) 0*4294967296+R.getD (o+(k+1)) 0 from Z.1];refine gg ?_;refine b_ [(0,3),(1,3),(2,3),(3,3),(4,3),(5,0),(6,3),(7,3),(8,3),(9,3),(10,3),(11,3),(12,3),(13,0),(14,3),(15,3),(16,3),(17,3)] mixed az λw2 al ca=>?_;have aH:=hV.Y (a7.trans al);obtain⟨_,D,hc⟩:=aH.at (j:=k+1) aq;injection D with D;subst D;have hz:=hc (k+1) aq;refine gg ?_;refine mR F rfl Z.2 hT.yW ?_;refine gg ?_;refine kJ F rfl hT.yW ?_;refine gg ?_;have b8:Ch (λb=>b=g) w w2:=(a7.trans al).ch;have bl:w2.heap.size=w.heap.size:=by rw[ca,cb]
 refine aY (λf c=>∃C,f 0=.slice (some ⟨g,0+o*1,none⟩) (k+3) cu/\f 1=.slice (some N) (k+2) cv/\f 5=.int .i64 ((k+2:Nat):Int)/\f 7=.int .u64 ((C:Nat):Int)/\
  Ch (λb=>b=g) w c/\c.heap.size=w.heap.size/\Lb c g R/\fM c (some N) V/\C<4294967296/\val (k_ R o (k+3))<(C+1)*val V/\C*val V<val (k_ R o (k+3))+val V) ?_ ?_
 ·refine mO ?_;refine aU (λm f c=>∃r,f 0=.slice (some ⟨g,0+o*1,none⟩) (k+3) cu/\f 1=.slice (some N) (k+2) cv/\f 5=.int .i64 ((k+2:Nat):Int)/\f 7=.int .u64 ((m:Nat):Int)/\f 8=.int .u64 ((r:Nat):Int)/\
   Ch (λb=>b=g) w c/\c.heap.size=w.heap.size/\Lb c g R/\fM c (some N) V/\r<4294967296/\m<=4294967297/\m*V.getD (k+1) 0+r=R.getD (o+(k+2)) 0*B+R.getD (o+(k+1)) 0/\val (k_ R o (k+3))<(m+1)*val V)
   _ ⟨_,F,F,F,F,F,b8,bl,hR.Y (a7.trans al),aH,Nat.lt_trans au cf,ai.2.1,ai.2.2,ai.1⟩ ?_
  clear hc hz aH al K hy b0 a7 au ai Z b8 bl;rintro m f w3 ⟨r,p,s,l,d,aj,M,z,I,H,hr,hm,bt,T⟩;rw[ui p,ui s,ui l,ui d,ui aj];clear p s l d aj;refine aY (λf c=>f 0=.slice (some ⟨g,0+o*1,none⟩) (k+3) cu/\f 1=.slice (some N) (k+2) cv/\f 5=.int .i64 ((k+2:Nat):Int)/\f 7=.int .u64 (m:Int)/\f 8=.int .u64 (r:Int)/\
   Ch (λb=>b=g) w c/\c.heap.size=w.heap.size/\Lb c g R/\fM c (some N) V/\val (k_ R o (k+3))<m*val V) ?_ ?_
  ·refine b_ [(0,3),(1,3),(2,3),(3,3),(4,3),(5,3),(6,3),(7,3),(8,3),(9,0),(10,3),(11,3),(12,3),(13,3),(14,3),(15,3),(16,3),(17,3),(18,0),(19,3),(20,3),(21,3),(22,3)] mixed az λw4 bD bY=>?_;have bG:Ch (λb=>b=g) w w4:=M.trans bD.ch;have bj:w4.heap.size=w.heap.size:=by rw[bY,z]
   have b5:=I.Y bD;have b1:=H.Y bD;by_cases bD:m/4294967296=0
   ·obtain⟨_,D,hc⟩:=b1.at (j:=k) aq;injection D with D;subst D;have hz:=hc k aq;have K:=b5.at (j:=o+k) aq;rw[<-qV]at K;have bD:=lU m _ aq cd;have Z:=wO r _ hr ck;refine gg ?_;refine jO F rfl aq ?_;refine gg ?_;refine jN F rfl (Nat.mod_lt _ aw) aq ?_;rw[show r*2^(OfNat.ofNat 32)%18446744073709551616 ||| R.getD (o+k) 0=r*4294967296+R.getD (o+k) 0 from Z.1];by_cases bD:r*4294967296+R.getD (o+k) 0<m*V.getD k 0
    ·refine gg ?_;exact⟨F,F,F,F,F,bG,bj,b5,b1,hT.second bt bD⟩
    ·refine gg ?_;exact⟨m,F,F,F,F,bG,bj,b5,b1,aq,T,hT.stop bt (show m<B by unfold B;omega) (show _<=r*4294967296+_ by omega)⟩
   ·refine gg ?_;exact⟨F,F,F,F,F,bG,bj,b5,b1,hT.Pv (show B<=m by unfold B;omega)⟩
  ·clear M z I H f w3;rintro f w3 ⟨p,s,l,d,aj,M,z,I,H,T⟩;rw[ui p,ui s,ui l,ui d,ui aj];clear p s l d aj;have aj:0<m:=by
    rcases Nat.eq_zero_or_pos m with h|h
    ·subst h;simp at T
    ·exact h
   obtain⟨j,rfl⟩ : ∃j,m=j+1:=⟨m-1,aq⟩;have ax:j*V.getD (k+1) 0+(r+V.getD (k+1) 0)=R.getD (o+(k+2)) 0*B+R.getD (o+(k+1)) 0:=by rw[<-bt,Nat.add_mul];omega
   obtain⟨_,D,hc⟩:=H.at (j:=k+1) aq;injection D with D;subst D;have hz:=hc (k+1) aq;by_cases aj:(r+V.getD (k+1) 0)/4294967296=0
   ·refine gg ?_;exact⟨j,aq,_,F,F,F,F,F,M,z,I,H,aq,aq,ax,T⟩
   ·refine gg ?_;have hb:=hT.Pu ax (show B<=r+V.getD (k+1) 0 by unfold B;omega);exact⟨j,F,F,F,F,M,z,I,H,hb.1,T,hT.stop ax hb.1 hb.2⟩
 ·clear hc hz aH al K hy b0 a7 au ai Z b8 bl;rintro f w3 ⟨C,p,s,l,d,M,z,I,H,bK,T,c5⟩;rw[ui p,ui s,ui l,ui d];clear p s l d;refine gg ?_;refine aY (λf c=>∃u J R',f 0=.slice (some ⟨g,0+o*1,none⟩) (k+3) cu/\f 1=.slice (some N) (k+2) cv/\f 5=.int .i64 ((k+2:Nat):Int)/\f 7=.int .u64 (C:Int)/\f 9=.int .u64 ((u:Nat):Int)/\f 10=.int .u64 ((J:Nat):Int)/\
   Ch (λb=>b=g) w c/\c.heap.size=w.heap.size/\Lb c g R'/\fM c (some N) V/\R'.length=R.length/\fH R'/\u<4294967296/\J<=1/\
   val (k_ R' o (k+2))+C*val V=val (k_ R o (k+2))+(u+J)*B^(k+2)/\(∀q,q<o\/o+(k+2)<=q->R'.getD q 0=R.getD q 0)) ?_ ?_
  ·refine gg ?_;refine aU (λm f c=>∃i u J R',m=k+2-i/\i<=k+2/\f 0=.slice (some ⟨g,0+o*1,none⟩) (k+3) cu/\f 1=.slice (some N) (k+2) cv/\f 5=.int .i64 ((k+2:Nat):Int)/\f 7=.int .u64 (C:Int)/\f 9=.int .u64 ((u:Nat):Int)/\f 10=.int .u64 ((J:Nat):Int)/\f 82=.int .i64 ((k+2:Nat):Int)/\f 83=.int .i64 ((i:Nat):Int)/\
    Ch (λb=>b=g) w c/\c.heap.size=w.heap.size/\Lb c g R'/\fM c (some N) V/\R'.length=R.length/\fH R'/\u<4294967296/\J<=1/\
    val (k_ R' o i)+C*val (V.take i)=val (k_ R o i)+(u+J)*B^i/\(∀q,q<o\/o+i<=q->R'.getD q 0=R.getD q 0))
    (k+2) ⟨0,0,0,R,F,aE,F,F,F,F,F,F,F,F,M,z,I,H,F,a6,aq,aq,by simp[zd,val],λ_ _=>rfl⟩ ?_
   clear M z I H f w3;rintro m f w3 ⟨i,u,J,R',rfl,hi,p,s,l,d,G,Y,Z,r,M,z,I,H,X,O,bM,bx,hv,E⟩;rw[ui p,ui s,ui l,ui d,ui G,ui Y,ui Z,ui r];clear p s l d G Y Z r;by_cases c6:i<k+2
   ·obtain⟨_,D,hc⟩:=H.at (j:=i) aq;injection D with D;subst D;have hz:=hc i aq;have K:=I.at (j:=o+i) aq;rw[<-qV,E (o+i) aq]at K;have bu:=a6.getD (o+i);have bv:=hV.fD.getD i;have r:=lU C _ bK bv;have r:(u+C*V.getD i 0)%4294967296<4294967296:=Nat.mod_lt _ aw;refine gg ?_;refine jO F rfl aq ?_;refine gg ?_;refine iy F rfl aq ?_;refine gg ?_;refine iy F rfl aq ?_;refine gg ?_;obtain⟨sp,hB⟩:=I;refine bZ (aX F) (.inl F) F rfl hB (by rw[Array.size_append,cN];omega) ?_;intro w5 U P a1;rw[qV]at U;refine gg ?_;have hs:=Fg (R.getD (o+i) 0) _ J bu r bx;refine⟨_,?_,i+1,_,_,_,F,aq,F,F,F,F,F,F,F,F,M.trans P,a1.trans z,Lb.set aq U,H.ch P (λad e=>by injection e with e;subst e;exact bs),by simpa using X,O.set (Nat.mod_lt _ aw),aq,hs.2,?_,λq hq=>by rw[c7.getD_set_ne aq];exact E q aq⟩
    ·omega
    ·rw[ee _ _ _ (by simp;omega),ee _ _ _ aq,fE aq,bN _ _ aq,Nat.mul_add,Nat.mul_left_comm C,Nat.pow_succ];rw[n6 (R:=R'.set (o+i) _) (R':=R') o i aA λq _ h2=>c7.getD_set_ne aq];exact Ff _ _ _ _ _ _ _ _ _ _ _ hv hs.1
   ·refine gg ?_;have:i=k+2:=aq;subst this;rw[<-hk,dK,hk]at hv;exact⟨u,J,R',F,F,F,F,F,F,M,z,I,H,X,O,bM,bx,hv,E⟩
  ·clear M z I H f w3;rintro f w3 ⟨u,J,R',p,s,l,d,G,Y,M,z,I,H,X,O,bM,bx,hv,E⟩;rw[ui p,ui s,ui l,ui d,ui G,ui Y];clear p s l d G Y;have K:=I.at (j:=o+(k+2)) aq;rw[<-qV,E (o+(k+2)) aq]at K;refine gg ?_;refine iy F rfl aq ?_;refine gg ?_;refine iy F rfl aq ?_;refine gg ?_;obtain⟨sp,hB⟩:=I;refine bZ (aX F) (.inl F) F rfl hB (by rw[Array.size_append,cN];omega) ?_;intro w5 U P a1;rw[qV]at U;have bB:=H.ch P (λad e=>by injection e with e;subst e;exact bs);have b4:=Lb.set (L:=R') aq U;have hU:=ee R o (k+2) aq;have ar:∀x,val (k_ (R'.set (o+(k+2)) x) o (k+3))=val (k_ R' o (k+2))+B^(k+2)*x:=λx=>by
    rw[ee _ _ _ (by simp;omega),fE aq,n6 (R:=R'.set (o+(k+2)) x) (R':=R') o (k+2) aA (λq _ h2=>c7.getD_set_ne aq)]
   generalize bX:((R.getD (o+(k+2)) 0+(18446744073709551616-u))%18446744073709551616+(18446744073709551616-J))%18446744073709551616=t at*;have a8:t%4294967296+(u+J)=R.getD (o+(k+2)) 0/\t/9223372036854775808=0\/R.getD (o+(k+2)) 0<u+J/\t%4294967296+(u+J)=R.getD (o+(k+2)) 0+4294967296/\t/9223372036854775808=1:=aq;clear bX;have bA:fH (R'.set (o+(k+2)) (t%4294967296)):=O.set (Nat.mod_lt _ aw);refine gg ?_;rcases a8 with⟨a8,r⟩|⟨H,a8,r⟩
   ·refine aN ?_;refine gg ?_;have hf:=MJ (a:=R.getD (o+(k+2)) 0) hv a8 (by rw[<-hU];exact T);refine bF (v:=.int _ _) F rfl ⟨C%4294967296,_,F,Nat.mod_lt _ aw,M.trans P,a1.trans z,b4,by simpa using X,bA,λj hj=>by rw[c7.getD_set_ne aq];exact E j aq,?_,?_⟩
    ·rw[Nat.mod_eq_of_lt bK,ar,hU];exact hf.2.1
    ·rw[ar];exact hf.2.2
   ·refine aN ?_;refine gg ?_;have cc:0<C:=by
     rcases Nat.eq_zero_or_pos C with h|h
     ·exfalso;subst h;rw[Nat.zero_mul,Nat.add_zero]at hv;have:=me O o (k+2);have h2:1*B^(k+2)<=(u+J)*B^(k+2):=Nat.mul_le_mul_right _ aq;omega
     ·exact h
    have bW:val V<B^(k+2):=by have:=g_ V hV.fD;rw[hk]at this;exact this
    refine aY (λf c=>∃u y,f 0=.slice (some ⟨g,0+o*1,none⟩) (k+3) cu/\f 5=.int .i64 ((k+2:Nat):Int)/\f 7=.int .u64 (C:Int)/\f 9=.int .u64 ((u:Nat):Int)/\
     Ch (λb=>b=g) w c/\c.heap.size=w.heap.size/\Lb c g y/\y.length=R.length/\fH y/\u<=1/\
     val (k_ y o (k+2))+u*B^(k+2)=val (k_ R' o (k+2))+val V/\y.getD (o+(k+2)) 0=t%4294967296/\(∀q,q<o\/o+(k+3)<=q->y.getD q 0=R.getD q 0)) ?_ ?_
    ·refine gg ?_;refine aU (λm f c=>∃i u y,m=k+2-i/\i<=k+2/\f 0=.slice (some ⟨g,0+o*1,none⟩) (k+3) cu/\f 1=.slice (some N) (k+2) cv/\f 5=.int .i64 ((k+2:Nat):Int)/\f 7=.int .u64 (C:Int)/\f 9=.int .u64 ((u:Nat):Int)/\f 135=.int .i64 ((k+2:Nat):Int)/\f 136=.int .i64 ((i:Nat):Int)/\
      Ch (λb=>b=g) w c/\c.heap.size=w.heap.size/\Lb c g y/\fM c (some N) V/\y.length=R.length/\fH y/\u<=1/\
      val (k_ y o i)+u*B^i=val (k_ R' o i)+val (V.take i)/\(∀q,q<o\/o+i<=q->y.getD q 0=(R'.set (o+(k+2)) (t%4294967296)).getD q 0))
      (k+2) ⟨0,0,_,F,aE,F,F,F,F,F,F,F,M.trans P,a1.trans z,b4,bB,by simpa using X,bA,aq,by simp[zd,val],λ_ _=>rfl⟩ ?_
     clear hB U b4 bB a1 P w5 K f;rintro m f w6 ⟨i,W,y,rfl,hi,p,s,l,d,G,c,b,b7,ay,ak,h,S,Q,bI,ae,A⟩;rw[ui p,ui s,ui l,ui d,ui G,ui c,ui b];clear p s l d G c b;by_cases c6:i<k+2
     ·refine gg ?_;refine b_ [(0,3),(1,3),(2,3),(3,3),(4,0),(5,3),(6,3),(7,3),(8,3),(9,0),(10,3),(11,3),(12,3),(13,3)] mixed az λb bC c9=>?_;have bS:=h.Y bC;obtain⟨_,D,hc⟩:=bS.at (j:=i) aq;injection D with D;subst D;have hz:=hc i aq;have b:=ak.Y bC;have K:=b.at (j:=o+i) aq;have c:y.getD (o+i) 0=R'.getD (o+i) 0:=by rw[A (o+i) aq,c7.getD_set_ne aq]
      rw[<-qV,c]at K;have bu:=O.getD (o+i);have bv:=hV.fD.getD i;refine gg ?_;obtain⟨c,c⟩:=b;refine bZ (aX F) (.inl F) F rfl c (by rw[Array.size_append,cN];omega) ?_;intro w8 an b6 bc;rw[qV]at an;refine gg ?_;refine⟨_,?_,i+1,_,_,F,aq,F,F,F,F,F,F,F,(b7.trans bC.ch).trans b6,by rw[bc,c9,ay],Lb.set aq an,bS.ch b6 (λad e=>by injection e with e;subst e;exact bs),by simpa using S,Q.set (Nat.mod_lt _ aw),aq,?_,λq hq=>by rw[c7.getD_set_ne aq];exact A q aq⟩
      ·omega
      ·rw[ee _ _ _ (by simp;omega),ee _ _ _ aq,fE aq,bN _ _ aq,Nat.pow_succ];rw[n6 (R:=y.set (o+i) _) (R':=y) o i aA λq _ h2=>c7.getD_set_ne aq];exact(nW _ _ _ _ _ _ ae).trans aq
     ·refine gg ?_;have:i=k+2:=aq;subst this;rw[<-hk,dK,hk]at ae;exact⟨W,y,F,F,F,F,b7,ay,ak,S,Q,bI,ae,by rw[A _ aq,fE aq],λq hq=>by rw[A q aq,c7.getD_set_ne aq];exact E q aq⟩
    ·clear hB U b4 bB a1 P w5 K f;rintro f w6 ⟨W,y,p,l,d,G,b7,ay,ak,S,Q,bI,ae,b,A⟩;rw[ui p,ui l,ui d,ui G];clear p l d G;have K:=ak.at (j:=o+(k+2)) aq;rw[<-qV,b]at K;refine gg ?_;refine Bv F rfl ?_;refine gg ?_;obtain⟨b,b⟩:=ak;refine bZ (aX F) (.inl F) F rfl b (by rw[Array.size_append,cN];omega) ?_;intro w8 an b6 bc;rw[qV]at an;refine gg ?_;have b:∀x,val (k_ (y.set (o+(k+2)) x) o (k+3))=val (k_ y o (k+2))+B^(k+2)*x:=λx=>by
      rw[ee _ _ _ (by simp;omega),fE aq,n6 (R:=y.set (o+(k+2)) x) (R':=y) o (k+2) aA (λq _ h2=>c7.getD_set_ne aq)]
     have c:fH (y.set (o+(k+2)) ((t%4294967296+W%4294967296)%4294967296)):=Q.set (Nat.mod_lt _ aw);have f:=me c o (k+3);have d:=me bA o (k+3);rw[b,Nat.pow_succ]at f;rw[ar,Nat.pow_succ]at d;have hf:=HC (a:=R.getD (o+(k+2)) 0) (x:=t%4294967296) cc hv a8 (by rw[<-hU];exact c5) f d bW ⟨(t%4294967296+W)/4294967296,by
      have e:=oh (B^(k+2)) (val (k_ y o (k+2))) W _ (t%4294967296) ae;rw[Nat.mod_eq_of_lt (show W<4294967296 by omega),Nat.add_comm (t%4294967296) W];exact e.trans aq⟩
     refine bF (v:=.int _ _) F rfl ⟨(C-1)%4294967296,_,F,Nat.mod_lt _ aw,b7.trans b6,bc.trans ay,Lb.set aq an,by simpa using S,c,λj hj=>by rw[c7.getD_set_ne aq];exact A j aq,?_,?_⟩
     ·rw[Nat.mod_eq_of_lt (show C-1<4294967296 by omega),b,hU];exact hf.1
     ·rw[b];exact hf.2
theorem pX(w:World):jX w (.slice none 0 0) 0:=⟨none,[],0,F,Nat.le_refl _,by omega,fM.nil _ _,dz.nil,F⟩
theorem BL{l:List Nat}(h:dz l)(b:0<l.length):0<l.getD (l.length-1) 0:=by
 have a:l≠[]:=by rintro rfl;simp at b
 have:=h a;rw[List.getLast_eq_getElem]at this;have a:l.length-1<l.length:=aq;have e:l.getD (l.length-1) 0=l[l.length-1]:=by simp[List.getD,a]
 rw[e];omega
theorem jX.Y{w w':World}{v:Value}{m:Nat}(h:jX w v m)(a:Ext w w'):jX w' v m:=by
 obtain⟨A,l,c,e,i,g,f,d,b⟩:=h;exact⟨A,l,c,e,i,g,f.Y a,d,b⟩
theorem mz{w:World}{v:Value}{l:List Nat}{n base:Nat}(d:fH l)(b:dz l)(c:l.length=n)(h:(v=.slice none 0 0/\l=[])\/∃g a,v=.slice (some ⟨g,0,none⟩) n a/\base<=g/\n<=a/\a<=9223372036854775807/\Lb w g l):jX w v (val l):=by
 rcases h with⟨rfl,rfl⟩|⟨g,a,rfl,e,h1,h2,h3⟩
 ·exact pX w
 ·exact⟨_,l,a,by rw[c],aq,aq,h3.J2 d,b,F⟩
theorem vJ(A1 A2:Option Addr)(n1 n2 c1 c2:Nat)(i c:List Nat)(w:World)(h1:fM w A1 i)(U:fM w A2 c)(bc:i.length=n1)(b8:c.length=n2)(X:n1<17592186044416)(b0:n2<17592186044416)(t1:dz i)(t2:dz c)(N:0<val c):
 aT Tryz.prog 112 #[.slice A1 n1 c1,.slice A2 n2 c2] w λv I=>∃q r,v=.tuple #[q,r]/\Ext w I/\jX I q (val i/val c)/\jX I r (val i%val c):=by
 subst bc b8;refine bo (n:=104) Tryz.func112 F rfl az aA ?_;have bt:0<c.length:=by
  rcases Nat.eq_zero_or_pos c.length with h|h
  ·rw[List.eq_nil_of_length_eq_zero h]at N;simp[val]at N
  ·exact h
 refine gg ?_;refine aJ (lp _ _ _ _ _ _ _ _ w h1 U F rfl X b0 t1 t2) ?_;rintro _ D ⟨o,rfl⟩;by_cases W:val i<val c
 ·have ec:fl (val i) (val c)=-1:=by rw[fl,ab W]
  rw[ec];refine gg ?_;refine aJ (l8 _ _ _ _ D (h1.Y o) F X h1.lS) ?_;rintro v p ⟨u,hv⟩;refine gg ?_;refine cU (v:=.slice _ _ _) (v':=v) F rfl rfl ⟨_,_,F,o.trans u,?_,?_⟩
  ·rw[Nat.div_eq_of_lt W];exact pX _
  ·rw[Nat.mod_eq_of_lt W];exact mz h1.fD t1 F hv
 have ec:¬fl (val i) (val c)<0:=by rw[fl,aa W];split<;>omega
 generalize fl (val i) (val c)=cz at*;have b8:c.length<=i.length:=by
  rcases Nat.lt_or_ge i.length c.length with h|h
  ·exact absurd (il h1.fD t2 h) W
  ·exact h
 by_cases ay:i.length<=2
 ·refine gg ?_;refine aJ (mc _ _ _ _ D (h1.Y o) F aq) ?_;rintro _ _ ⟨rfl,rfl⟩;refine gg ?_;refine aJ (mc _ _ _ _ D (U.Y o) F aq) ?_;rintro _ _ ⟨rfl,rfl⟩;refine gg ?_;have h:val i<18446744073709551616:=by
   have:=g_ i h1.fD;exact Nat.lt_of_lt_of_le this (Nat.le_trans (Nat.pow_le_pow_right aw ay) aw)
  refine b_ [(0,3),(1,3),(2,3),(4,3),(5,3),(6,3),(3,1),(7,1),(8,3),(9,3)] mixed az λp u _=>?_;refine gg ?_;refine mR F rfl h N ?_;refine gg ?_;refine kJ F rfl N ?_;refine gg ?_;refine aM (ix _ p (Nat.lt_of_le_of_lt (Nat.div_le_self _ _) h)) ?_;rintro N t ⟨H,hq⟩;refine⟨H,?_⟩;refine gg ?_;refine aM (ix _ t (Nat.lt_of_le_of_lt (Nat.mod_le _ _) h)) ?_;rintro vr w4 ⟨z,hr⟩;refine⟨z,?_⟩;refine gg ?_;exact cU (v:=N) (v':=vr) F rfl rfl ⟨_,_,F,((o.trans u).trans H).trans z,hq.Y z,hr⟩
 by_cases b7:c.length=1
 ·refine gg ?_;refine aJ (l8 _ _ _ _ D (h1.Y o) F X h1.lS) ?_;rintro v p ⟨u,hv⟩;rcases hv with⟨_,rfl⟩|⟨g,h,rfl,h,bs,h,hL⟩
  ·simp at ay
  refine gg ?_;obtain⟨ad,rfl,hc⟩:=(U.Y (o.trans u)).at (j:=0) aq;have hx:=hc 0 aq;have h:=U.fD.getD 0;have b5:val c=c.getD 0 0:=by
   match c,b7 with
   |[x],_=>simp[val]
  refine fh dM (j:=0) F rfl aq ?_;refine gg ?_;refine aJ (m_ _ _ _ _ _ p hL h1.fD F X aq h) ?_;rintro _ t ⟨r,h,rfl,r,h,b4,h,ae,ar,aH⟩;have H:Ext w t:=r.aK (o.trans u) (λb hb=>by have:=o.size;omega);refine gg ?_;refine aJ (dA _ _ _ _ t (b4.J2 ae) h bs aq) ?_;rintro v w4 ⟨rfl,m,bj,rfl,aj,y⟩;refine gg ?_;refine aJ (ix _ t aq) ?_;rintro vr w5 ⟨h,hr⟩;refine gg ?_;rw[<-b5]at ar aH;have r:=HX ar aH;refine cU (v:=.slice _ _ _) (v':=vr) F rfl rfl ⟨_,_,F,H.trans h,?_,?_⟩
  ·rw[<-r.1];exact(iA (b4.J2 ae) bj aq aq aj y F).Y h
  ·rw[<-r.2];exact hr
 ·obtain⟨k,hk⟩ : ∃k,c.length=k+2:=⟨c.length-2,aq⟩;have an:=BL t2 bt;have bl:=U.fD.getD (c.length-1);refine gg ?_;obtain⟨ad,rfl,hc⟩:=(U.Y o).at (j:=c.length-1) aq;have hx:=hc (c.length-1) aq;refine gg ?_;refine aJ (rT _ D bl an) ?_;rintro _ _ ⟨rfl,s,rfl,hs,ar,an⟩;refine gg ?_;refine aJ (pL _ _ _ _ _ D (U.Y o) F b0 hs) ?_;rintro _ p ⟨r,rfl,u,ae,h,h,N,_⟩;refine gg ?_;refine aJ (pL _ _ _ _ _ p (h1.Y (o.trans u)) F X hs) ?_;rintro _ t ⟨R0,rfl,H,a7,G,d,av,a8⟩;refine gg ?_;refine cJ dM (.inl F) F rfl aD aq aq ?_;intro w4 A z ax;rw[iW]at A;have W:=u.size;have W:=H.size;have W:D.heap.size<p.heap.size:=ae.lt;have W:p.heap.size<t.heap.size:=a7.lt;have W:=o.size;rw[show c.length-1=k+1 by omega]at ar an;have W:=zb c k s U.fD hk hs ar an;have U:=sn (l:=r) (k:=k+2) aq (by rw[N];exact W.1);have J:(r.take (k+2)).length=k+2:=by rw[List.length_take];omega
  have ai:=h.take (k+2);have T:val (r.take (k+2))=val c*2^s:=U.1.trans N;have au:2147483648<=(r.take (k+2)).getD (k+1) 0:=L3 ai J (by rw[T];exact W.2);have S:fM w4 (some ⟨D.heap.size,0,none⟩) (r.take (k+2)):=((dE ae h).take (k+2)).Y (H.trans z);clear U W ae h N;generalize r.take (k+2)=V at*;have L:val (R0.drop (i.length-c.length+1))<val V:=by
   refine Fu R0 V _ k d aq J ?_;rw[show i.length-c.length+1+(k+1)=i.length by omega];have:2^s<=2147483648:=Nat.pow_le_pow_right (n:=2) aw (show s<=31 by omega);omega
  have al:Ext w w4:=((o.trans u).trans H).trans z;have ak:Lb w4 p.heap.size R0:=(Lb.of a7).Y z;refine gg ?_;refine aY (λf I=>∃R Q,f 4=.slice (some ⟨t.heap.size,0,none⟩) (i.length-c.length+1) (i.length-c.length+1)/\f 9=.int .i64 (s:Int)/\f 11=.slice (some ⟨p.heap.size,0,none⟩) (i.length+1) (i.length+1)/\
   Ext w I/\Lb I p.heap.size R/\R.length=i.length+1/\fH R/\bg I t.heap.size 153 (cells Q)/\Q.length=i.length-c.length+1/\fH Q/\val R<val V/\val R0=val Q*val V+val R) ?_ ?_
  ·refine gg ?_;refine aU (λm f I=>∃R Q,m<=i.length-c.length+1/\f 1=.slice (some ad) c.length c2/\f 4=.slice (some ⟨t.heap.size,0,none⟩) (i.length-c.length+1) (i.length-c.length+1)/\f 9=.int .i64 (s:Int)/\f 10=.slice (some ⟨D.heap.size,0,none⟩) c.length (c.length+1)/\f 11=.slice (some ⟨p.heap.size,0,none⟩) (i.length+1) (i.length+1)/\f 12=.int .i64 ((m:Int)-1)/\
    Ext w I/\fM I (some ⟨D.heap.size,0,none⟩) V/\Lb I p.heap.size R/\R.length=i.length+1/\fH R/\bg I t.heap.size 153 (cells Q)/\Q.length=i.length-c.length+1/\fH Q/\val (R.drop m)<val V/\val R0=val (Q.drop m)*(B^m*val V)+val R)
    (i.length-c.length+1) ⟨R0,_,aD,F,F,F,F,F,?_,al,S,ak,G,d,A,aA,fz _,L,by simp[val]⟩ ?_
   ·show Value.int .i64 _=_;congr 1;omega
   clear hx hc A ak al S ax z a7 G d av a8 L;rintro m f w5 ⟨R,Q,hm,h,Z,Y,c,K,O,hE,hM,hL,G,d,A,a1,C,E,y⟩;rw[ui h,ui Z,ui Y,ui c,ui K];clear h Z Y c K;rcases m with _|j
   ·rw[ui O];refine aN ?_;refine gg ?_;refine⟨R,Q,F,F,F,hE,hL,G,d,A,a1,C,by simpa using E,by simpa using y⟩
   ·have c:(((j+1:Nat):Int)-1)=(j:Int):=aq;rw[c]at O;rw[ui O];clear O;refine aN ?_;refine gg ?_;refine rO dM F rfl rfl aq aq aq ?_;refine gg ?_;refine aJ (uJ p.heap.size j k _ _ _ _ _ R V w5 hL d hM ?_ J hk ?_ aq aq au ?_) ?_
    ·show D.heap.size≠p.heap.size;omega
    ·omega
    ·have c:val (R.drop j)=R.getD j 0+B*val (R.drop (j+1)):=by rw[drop_cons R j aq,val]
     have h1:B*val (R.drop (j+1))+B<=B*val V:=by rw[<-Nat.mul_succ];exact Nat.mul_le_mul_left _ E
     have hb:R.getD j 0<B:=d.getD j;have c:val (k_ R j (k+3))<=val (R.drop j):=by
      have:=fP (R.drop j) (k+3) (by rw[List.length_drop];omega);unfold k_;omega
     omega
    rintro _ w6 ⟨q,O,rfl,hq,M,b6,a6,I,i,h,r,o⟩;refine gg ?_;have P:bg w6 t.heap.size 153 (cells Q):=A.ch M (show¬t.heap.size=p.heap.size by omega);refine bZ (aX F) (.inl F) F rfl P (by rw[cN];omega) ?_;intro N H c u;rw[dV]at H;refine gg ?_;have u:=J4 d aq I J ai aq E y h r o;have h:Ext w N:=Ch.aK (M.aK hE λb hb=>aq) c λb hb=>aq;obtain⟨r,o⟩:=a6;refine⟨j,aq,O,Q.set j q,aq,F,F,F,F,F,F,h,?_,⟨r,o.ch c (show¬p.heap.size=t.heap.size by omega)⟩,aq,i,H,by simpa using a1,C.set hq,u.1,u.2⟩;refine(hM.ch M ?_).ch c ?_
    ·intro a e;injection e with e;subst e;show¬D.heap.size=p.heap.size;omega
    ·intro a e;injection e with e;subst e;show¬D.heap.size=t.heap.size;omega
  ·clear hx hc A ak al S ax z a7 G d a8 L;rintro f w5 ⟨R,Q,Z,Y,K,hE,hL,G,d,A,a1,C,E,y⟩;rw[ui Z,ui Y,ui K];clear Z Y K;refine gg ?_;refine aJ (uz p.heap.size _ _ _ R w5 hL d G aq hs) ?_;rintro _ w6 ⟨M,b6,a6⟩;have h:Ext w w6:=M.aK hE λb hb=>aq;have P:bg w6 t.heap.size 153 (cells Q):=A.ch M (show¬t.heap.size=p.heap.size by omega);refine gg ?_;refine aJ (dA _ _ _ _ w6 (dE P C) a1 aD aq) ?_;rintro _ _ ⟨rfl,m,hm,rfl,aj,e⟩;refine gg ?_;refine aJ (dA _ _ _ _ w6 (a6.J2 (BS s R d)) (by rw[wK];exact G) aD aq) ?_;rintro _ _ ⟨rfl,a,f,rfl,c,b⟩;refine gg ?_;rw[av,T]at y;rw[T]at E;have a:=zP y E;refine cU (v:=.slice _ _ _) (v':=.slice _ _ _) F rfl rfl ⟨_,_,F,h,?_,?_⟩
   ·rw[<-a.1];exact iA (dE P C) hm aq aq aj e F
   ·rw[<-a.2,<-GC s hs R d];exact iA (a6.J2 (BS s R d)) f (by rw[wK];omega) aq c b F
def sg(a:Bool)(m:Nat):Int:=if a then -(m:Int)else(m:Int)
def IV(w:World)(N:Nat)(x y:Value)(z:Int):Prop:=∃a A l c,x=.bool a/\y=.slice A l.length c/\l.length<=c/\c<9223372036854775808/\fM w A l/\l.length<=N/\z=sg a (val l)
def CV(w:World)(x y:Value)(z:Int):Prop:=∃a A l c,x=.bool a/\y=.slice A l.length c/\l.length<=c/\c<9223372036854775808/\fM w A l/\dz l/\(l=[]->a=false)/\z=sg a (val l)
def RI(w:World)(z:Int)(v:Value)(w':World):Prop:=Ext w w'/\∃x y,v=.agg #[x,y]/\CV w' x y z
theorem IV.Y{w w':World}{N:Nat}{x y:Value}{z:Int}(h:IV w N x y z)(b:Ext w w'):IV w' N x y z:=by
 obtain⟨a,A,l,c,k,j,i,g,f,e,d⟩:=h;exact⟨a,A,l,c,k,j,i,g,f.Y b,e,d⟩
theorem CV.Y{w w':World}{x y:Value}{z:Int}(h:CV w x y z)(b:Ext w w'):CV w' x y z:=by
 obtain⟨a,A,l,c,k,j,i,g,f,e,d⟩:=h;exact⟨a,A,l,c,k,j,i,g,f.Y b,e,d⟩
theorem iq(a:Bool)(m:Nat):(sg a m).natAbs=m:=by unfold sg;split<;>simp
theorem CV.iv{w:World}{N:Nat}{x y:Value}{z:Int}(h:CV w x y z)(e:z.natAbs<B^N):IV w N x y z:=by
 obtain⟨b,A,l,c,m,k,j,i,g,f,a,a⟩:=h;refine⟨b,A,l,c,m,k,j,i,g,?_,a⟩;rw[a,iq]at e;rcases Nat.lt_or_ge N l.length with h|h
 ·exfalso;have d:l≠[]:=by rintro rfl;simp at h
  have a:=kQ d f;have b:B^N<=B^(l.length-1):=Nat.pow_le_pow_right aw aq;omega
 ·exact h
theorem IV.abs{w:World}{N:Nat}{x y:Value}{z:Int}(h:IV w N x y z):z.natAbs<B^N:=by
 obtain⟨a,A,l,c,a,a,a,a,c,b,a⟩:=h;rw[a,iq];exact Nat.lt_of_lt_of_le (g_ l c.fD) (Nat.pow_le_pow_right aw b)
def nX(cs:Array Value):Prop:=∀(i:Nat) (k:IntKind) (z:Int),cs[i]?≠some (.int k z)
theorem AT{w:World}{g T:Nat}{cs:Array Value}{p:Addr}{v:Value}(a:bg w g T cs)(c:p.block=g)(h:w.cell? p=some v):∃i:Nat,cs[i]?=some v:=by
 obtain⟨b,o,d⟩:=p;obtain rfl:b=g:=c;unfold bg at a;simp only[World.cell?,a]at h;split at h
 ·cases h
 ·exact⟨o,h⟩
theorem fM.dT{w w':World}{g T:Nat}{cs:Array Value}{A:Option Addr}{l:List Nat}(h:fM w A l)(f:bg w g T cs)(c:nX cs)(d:Ch (λb=>b=g) w w'):fM w' A l:=
 ⟨h.fD,λj b=>by
  obtain⟨i,e,a⟩:=h.cell j b;refine⟨i,e,?_⟩;rw[<-a];refine jz d (World.block_lt_of_cell? w _ a) λd=>?_;obtain⟨i,b⟩:=AT f d a;exact c _ _ _ b⟩
theorem CV.dT{w w':World}{g T:Nat}{cs:Array Value}{x y:Value}{z:Int}(h:CV w x y z)(e:bg w g T cs)(d:nX cs)(f:Ch (λb=>b=g) w w'):CV w' x y z:=by
 obtain⟨a,A,l,c,o,n,m,k,j,i,b⟩:=h;exact⟨a,A,l,c,o,n,m,k,j.dT e d f,i,b⟩
theorem dn{b:Bool}{A:Option Addr}{m c:Nat}:nX #[.bool b,.slice A m c]:=by
 intro i k z
 match i with
 |0=>simp
 |1=>simp
 |i+2=>simp
theorem iR{w:World}{g T:Nat}{x y:Value}(h:bg w g T #[x,y]):w.cell? ⟨g,0+0,none⟩=some x:=by rw[h.cell];rfl
theorem fG{w:World}{g T:Nat}{x y:Value}(h:bg w g T #[x,y]):w.cell? ⟨g,0+1,none⟩=some y:=by rw[h.cell];rfl
theorem CV.ep{w:World}{x y:Value}{z:Int}(h:CV w x y z):x.oneCell'=true:=by obtain⟨a,A,l,c,rfl,_⟩:=h;rfl
theorem CV.eN{w:World}{x y:Value}{z:Int}(h:CV w x y z):y.oneCell'=true:=by obtain⟨a,A,l,c,_,rfl,_⟩:=h;rfl
theorem fa(a:Bool)(v:Value)(m:Nat)(w:World)(h:jX w v m):
 aT Tryz.prog 78 #[.bool a,v] w (RI w (sg a m)):=by
 obtain⟨A,l,c,rfl,r,k,t,p,rfl⟩:=h;refine bo (n:=12) Tryz.func78 F rfl az aA ?_;refine gg ?_;refine aS (.inl F) a_ ?_;intro u f g u;refine gg ?_;by_cases i:l.length=0
 ·have q:=List.eq_nil_of_length_eq_zero i;refine aN ?_;refine gg ?_;refine dR fm ?_;refine gg ?_;refine aZ aQ (.inl F) F rfl rfl rfl f aw ?_;intro o e d j;refine gg ?_;refine eZ F aQ F e ⟨d.aK g λb s=>aq,_,_,F,false,none,[],0,F,F,aD,aq,fM.nil _ _,dz.nil,λ_=>rfl,?_⟩;subst q;simp[sg,val]
 ·refine aN ?_;refine gg ?_;refine sf (v0:=.bool _) (v1:=.slice _ _ _) xZ F rfl rfl rfl ?_;refine gg ?_;refine aZ aQ (.inl F) F rfl rfl rfl f aw ?_;intro o e d j;refine gg ?_;have f:=d.aK g λb s=>aq;exact eZ F aQ F e ⟨f,_,_,F,a,A,l,c,F,F,r,k,t.Y f,p,λh=>absurd (by rw[h];rfl) i,F⟩
theorem eY(m:Nat):sg false m=m:=F
theorem fb(m:Nat):sg true m=-(m:Int):=F
theorem BW(b:Bool)(m:Nat):sg (!b) m=- sg b m:=by cases b<;>simp[sg]
theorem oN(x y:Value)(z:Int)(N:Nat)(w:World)(h:IV w N x y z)(a:N<17592186044416):
 aT Tryz.prog 67 #[.agg #[x,y]] w (RI w z):=by
 obtain⟨i,A,l,c,rfl,rfl,k,e,g,a,rfl⟩:=h;refine bo (n:=10) Tryz.func67 F rfl az aA ?_;refine gg ?_;refine bO (v:=.agg _) (.inl F) F ?_;intro a f h a;refine gg ?_;refine aS (.inl F) a_ ?_;intro a j c a;refine gg ?_;refine b_ [(0,3),(1,0),(2,3),(3,0),(4,1),(5,1),(6,1),(7,2)] mixed az λd a _=>?_;have b:=f.Y (c.trans a);have f:=j.Y a;have j:=iR b;have j:=fG b;have b:=(h.trans c).trans a;refine gg ?_;refine aM (dA _ _ _ _ d (g.Y b) F k e) ?_;rintro _ _ ⟨rfl,m,hm,rfl,a,j⟩;refine⟨Ext.refl _,?_⟩;refine gg ?_;refine aM (l8 _ _ _ (l.take m) d ((g.Y b).take m) (List.length_take_of_le hm) aq (λe=>by have:=g.lS e;omega)) ?_;rintro v c ⟨d,e⟩;refine⟨d,?_⟩;refine gg ?_;refine aM (fa i v _ c (mz (g.fD.take m) a (List.length_take_of_le hm) e)) ?_;rintro _ a ⟨c,a,a,rfl,a⟩;refine⟨c,?_⟩;refine gg ?_;refine aZ aQ (.inl F) F rfl a.ep a.eN (f.Y (d.trans c)) aw ?_;intro k i e g;refine gg ?_;have g:Ext w k:=e.aK ((b.trans d).trans c) (λb b=>by have:=h.size;omega);rw[j]at a;exact eZ F aQ F i ⟨g,_,_,F,a.dT (f.Y (d.trans c)) dn e⟩
theorem iz(x y:Value)(z:Int)(N:Nat)(w:World)(h:IV w N x y z)(a:N<1099511627776):
 aT Tryz.prog 67 #[.agg #[x,y]] w (RI w z):=oN x y z N w h aq
theorem j8(x y:Value)(z:Int)(N:Nat)(w:World)(h:IV w N x y z)(a:N<17592186044416):
 aT Tryz.prog 138 #[.agg #[x,y]] w (RI w (-z)):=by
 obtain⟨i,A,l,c,rfl,rfl,k,e,g,a,rfl⟩:=h;refine bo (n:=11) Tryz.func138 F rfl az aA ?_;refine gg ?_;refine bO (v:=.agg _) (.inl F) F ?_;intro a f h a;refine gg ?_;refine aS (.inl F) a_ ?_;intro a j c a;refine gg ?_;refine b_ [(0,3),(1,0),(2,3),(3,3),(4,0),(5,1),(6,1),(7,1),(8,2)] mixed az λd a _=>?_;have b:=f.Y (c.trans a);have f:=j.Y a;have j:=iR b;have j:=fG b;have b:=(h.trans c).trans a;refine gg ?_;refine aM (dA _ _ _ _ d (g.Y b) F k e) ?_;rintro _ _ ⟨rfl,m,hm,rfl,a,j⟩;refine⟨Ext.refl _,?_⟩;refine gg ?_;refine aM (l8 _ _ _ (l.take m) d ((g.Y b).take m) (List.length_take_of_le hm) aq (λe=>by have:=g.lS e;omega)) ?_;rintro v c ⟨d,e⟩;refine⟨d,?_⟩;refine gg ?_;refine aM (fa (!i) v _ c (mz (g.fD.take m) a (List.length_take_of_le hm) e)) ?_;rintro _ a ⟨c,a,a,rfl,a⟩;refine⟨c,?_⟩;refine gg ?_;refine aZ aQ (.inl F) F rfl a.ep a.eN (f.Y (d.trans c)) aw ?_;intro k i e g;refine gg ?_;have g:Ext w k:=e.aK ((b.trans d).trans c) (λb b=>by have:=h.size;omega);rw[j,BW]at a;exact eZ F aQ F i ⟨g,_,_,F,a.dT (f.Y (d.trans c)) dn e⟩
theorem Cj(x y:Value)(z:Int)(N:Nat)(w:World)(h:IV w N x y z)(a:N<1099511627776):
 aT Tryz.prog 138 #[.agg #[x,y]] w (RI w (-z)):=j8 x y z N w h aq
theorem du(z:Int)(w:World)(h1:-9223372036854775808<=z)(a:z<9223372036854775808):
 aT Tryz.prog 33 #[.int .i64 z] w (RI w z):=by
 refine bo (n:=14) Tryz.func33 F rfl az aA ?_;refine gg ?_;refine aS (.inl F) a_ ?_;intro o g j a;refine gg ?_;by_cases a:z<0
 ·refine aN ?_;refine gg ?_;refine mU nw mg F ?_;refine gg ?_;refine pj F aq ?_;refine gg ?_;refine aJ (ix _ o (Nat.mod_lt _ aw)) ?_;rintro v l ⟨d,m⟩;refine gg ?_;refine aJ (fa true v _ l m) ?_;rintro _ s ⟨c,r,q,rfl,a⟩;refine gg ?_;refine aZ aQ (.inl F) F rfl a.ep a.eN (g.Y (d.trans c)) aw ?_;intro k i f p;refine gg ?_;have h:Ext w k:=f.aK ((j.trans d).trans c) λb t=>aq;have e:sg true ((18446744073709551616-(z%18446744073709551616).toNat)%18446744073709551616)=z:=by rw[fb];omega
  rw[e]at a;exact eZ F aQ F i ⟨h,_,_,F,a.dT (g.Y (d.trans c)) dn f⟩
 ·refine aN ?_;refine gg ?_;refine mU nw mg F ?_;refine gg ?_;refine aJ (ix _ o aq) ?_;rintro v l ⟨d,m⟩;refine gg ?_;refine aJ (fa false v _ l m) ?_;rintro _ s ⟨c,r,q,rfl,a⟩;refine gg ?_;refine aZ aQ (.inl F) F rfl a.ep a.eN (g.Y (d.trans c)) aw ?_;intro k i f p;refine gg ?_;have h:Ext w k:=f.aK ((j.trans d).trans c) λb t=>aq;have e:sg false ((z%18446744073709551616).toNat)=z:=by rw[eY];omega
  rw[e]at a;exact eZ F aQ F i ⟨h,_,_,F,a.dT (g.Y (d.trans c)) dn f⟩
theorem val_zero{l:List Nat}(h:dz l)(b:val l=0):l=[]:=by
 rcases l with _|⟨a,r⟩
 ·rfl
 ·have:=kQ (List.cons_ne_nil a r) h;have:=Nat.pow_pos (n:=(a::r).length-1) (show 0<B by decide);omega
theorem dw(x y:Value)(z:Int)(N:Nat)(w:World)(h:IV w N x y z)(_hN:N<17592186044416):
 aT Tryz.prog 50 #[.agg #[x,y]] w λv c=>Ext w c/\v=.int .i64 z.sign:=by
 obtain⟨b,A,l,c,rfl,rfl,j,g,k,c,rfl⟩:=h;refine bo (n:=12) Tryz.func50 F rfl az aA ?_;refine gg ?_;refine bO (v:=.agg _) (.inl F) F ?_;intro i c a o;have o:=iR c;have o:=fG c;refine gg ?_;refine aJ (dA _ _ _ _ i (k.Y a) F j g) ?_;rintro _ _ ⟨rfl,m,hm,rfl,f,d⟩;by_cases e:m=0
 ·refine gg ?_;refine bF (v:=.int _ _) F rfl ⟨a,?_⟩;subst e;have:val l=0:=by rw[<-d];simp[val]
  rw[this];cases b<;>rfl
 ·have c:0<val l:=by
   rcases Nat.eq_zero_or_pos (val l)with h|h
   ·have:=val_zero f (d.trans h);have:=congrArg List.length this;rw[List.length_take_of_le hm]at this;exact absurd this e
   ·exact h
  cases b
  ·refine gg ?_;refine bF (v:=.int _ _) F rfl ⟨a,?_⟩;rw[eY,Int.sign_eq_one_of_pos aq];rfl
  ·refine gg ?_;refine bF (v:=.int _ _) F rfl ⟨a,?_⟩;rw[fb,Int.sign_eq_neg_one_of_neg aq]
theorem pK(x y:Value)(z:Int)(N:Nat)(w:World)(h:IV w N x y z)(_hN:N<1099511627776):
 aT Tryz.prog 50 #[.agg #[x,y]] w λv a=>Ext w a/\v=.int .i64 z.sign:=dw x y z N w h aq
