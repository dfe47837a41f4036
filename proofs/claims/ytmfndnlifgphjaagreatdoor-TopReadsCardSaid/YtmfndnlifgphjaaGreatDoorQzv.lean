import Derived.Test.YtmfndnlifgphjaaGreatDoorQzu
set_option maxHeartbeats 64000000
open Go.Proofs.YtmfndnlifgphjaaGreatDoor
namespace Go.Proofs.Qq
section
open Go Go.cW Go.c7 Go.Proofs
open Go.aW (sw ov jq su lG Rk)
theorem GV(i j d r c N:Nat)(b:Value)(M:Nat->Nat->Int)(w:World)(l:bg w d 25 #[b])(k:cB (EI N) w b r (λ_=>c) M)(h:i<r)(g:j<c):
 aT Tryz.prog 104 #[.int .i64 (i:Int),.int .i64 (j:Int),.pointer (some ⟨d,0,none⟩)] w (OJ w N false (M i j)):=by
 refine bo (n:=13) Tryz.func104 F rfl az aA ?_;refine gg ?_;refine aS (.inl F) a_ ?_;intro d b a m;have f:Bx d w.heap.size 1 false 0:=Bx.zero false b;have b:=iY (l.Y a);obtain⟨b,b,b,rfl,b,e⟩:=(k.Y a).at h;obtain⟨b,b,b,b,rfl,b,b,b⟩:=e.at g;refine gg ?_;refine aL (N':=N) (.inl F) F rfl f ⟨b,λe=>by cases e⟩ ?_;intro b b d e e;refine gg ?_;obtain⟨x,y,f,e⟩:=b;exact eZ F aQ F f ⟨d.aK a λb a=>aq,x,y,F,e⟩
def PC(w:World)(ok:Bool)(r c:Nat)(M:Nat->Nat->Int)(v:Value)(w':World):Prop:=
 Ext w w'/\((ok=false/\v=.tuple #[.int .i64 ((0:Nat):Int),.bool false])\/(ok=true/\∃k,v=.tuple #[.int .i64 ((k:Nat):Int),.bool true]/\Rk r c M k))
def NW(k j:Nat)(W:Nat->Nat->Int)(l:Int)(a b:Nat):Int:=(W k j*W a b-W a j*W k b)/l
theorem JD(va:Value)(r N:Nat)(len:Nat->Nat)(M:Nat->Nat->Int)(w:World)(ha:cB (EI N) w va r len M)(b6:1<=N)(hN:N<1048576):
 aT Tryz.prog 44 #[va] w (PC w (kF r len) r (len 0) M):=by
 obtain⟨g,g,g,_⟩:=id ha;refine bo (n:=112) Tryz.func44 F rfl az aA ?_;refine gg ?_;refine bO (v:=va) (.inl F) F ?_;intro w1 a8 a7 aj;have au:bg w1 w.heap.size 25 #[va]:=by rw[g]at a8⊢;exact a8
 have f1:=iY au;obtain⟨gA,aj⟩ : ∃g,g=w.heap.size:=⟨_,F⟩;rw[<-aj]at au f1⊢;clear a8;refine gg ?_;refine Eo ?_;refine gg ?_;refine aJ (kh (EI N) _ r len M w1 (ha.Y a7)) ?_;rintro _ w2 ⟨rfl,rfl⟩;by_cases T:kF r len=true;rotate_left
 ·rw[dG T];have T:kF r len=false:=by simpa using T
  refine gg ?_;refine aN ?_;refine gg ?_;exact cU (v:=.int _ _) (v':=.bool _) F rfl rfl ⟨a7,.inl ⟨T,F⟩⟩
 rw[js T];obtain⟨⟨bA,bs,ak,aj⟩,a8⟩:=cD.1 T;obtain⟨c,hc⟩ : ∃c,c=len 0:=⟨_,F⟩;rw[<-hc]at ak aj⊢;have hM:cB (EI N) w va r (λ_=>c) M:=(ha.sq λi hi=>by rw[a8 i hi,hc]);refine gg ?_;refine aN ?_;refine gg ?_;refine jD ?_;refine gg ?_;refine aJ (ss r c _ N false _ M w1 aq aq aq λi j hi hj C a8=>GV i j gA r c N va M C (au.Y a8) (hM.Y (a7.trans a8)) hi hj) ?_;rintro _ w5 ⟨bx,L,S,rfl,bX,bY,d⟩;clear f1;have bD:=a7.size;have o:Ext w w5:=a7.trans bx;refine gg ?_;refine aJ (du 1 w5 aw aw) ?_;rintro _ a8 ⟨u,a1,b1,rfl,b5⟩;replace d:=d.Y u;replace o:=o.trans u;clear u;have bt:Bd N 1:=Bd.mono (N:=1) (by unfold Bd;decide) b6;have c4:=d.outer.lt;have c5:S<a8.heap.size:=by obtain⟨_,h4,_⟩:=d.flat;exact h4.lt
 have bC:=o.size;refine gg ?_;refine aS (.inl F) a_ ?_;intro bs b6 ak bB;have aj:Bx bs a8.heap.size 1 true 0:=Bx.zero true b6;obtain⟨O,bs⟩ : ∃g,g=a8.heap.size:=⟨_,F⟩;rw[<-bs]at aj⊢;refine gg ?_;refine aL (.inl F) F rfl aj ((b5.Y ak).ev true bt) ?_;intro w7 s g bG bA;have ay:Ext a8 w7:=g.aK ak λb hb=>aq;have b7:a8.heap.size<=O:=aq;clear aj b6 ak bB bA g bG bs;replace d:=d.Y ay;replace o:=o.trans ay;have g:O≠L/\O≠S:=aq;have g:w.heap.size<=L/\w.heap.size<=S/\w.heap.size<=O:=aq;have g:=d.ne;have s:Bx w7 O N false 1:=by
  obtain⟨x,y,q1,g⟩:=s;exact⟨x,y,q1,g.1,λe=>by cases e⟩
 clear b5 bt c4 c5 ay bx a7 au b7 ha bX bY bC bD;refine gg ?_;refine aN (x9 ?_);refine gg ?_;refine aY (λf C=>∃k,f 9=.int .i64 ((k:Nat):Int)/\Ext w C/\Rk r c M k) ?_ ?_
 ·refine gg ?_;refine aU (λm f C=>∃j k W l p cs Y,m=c-j/\j<=c/\f 4=.int .i64 (r:Int)/\f 5=.int .i64 (c:Int)/\f 7=.slice (some ⟨L,0,none⟩) r r/\f 8=.pointer (some ⟨O,0,none⟩)/\f 9=.int .i64 ((k:Nat):Int)/\f 29=.int .i64 (c:Int)/\f 30=.int .i64 ((j:Nat):Int)/\Ext w C/\ij C L S Y r c false (Nb N k) W/\Bx C O (Nb N k) false l/\Go.aW.RI r c j k M W l p cs)
   c ⟨0,0,M,1,id,id,λi=>i,rfl,aE,rfl,rfl,rfl,rfl,rfl,rfl,rfl,o,d,s,Go.aW.RI.start r c M⟩ ?_
  clear o d s;rintro m f w8 ⟨j,k,W0,l,p0,cs,av,rfl,hj,I,H,G,E,B,A,z,o,d,s,Z⟩;rw[ui I,ui H,ui G,ui E,ui B,ui A,ui z];clear I H G E B A z;by_cases Q:j<c;rotate_left
  ·obtain rfl:j=c:=aq;refine gg ?_;exact⟨k,F,o,Z.done⟩
  have g:=Z.km;have a7:=Z.kj;refine gg ?_;refine aU (λm f C=>∃i,m=r-i/\k<=i/\i<=r/\f 4=.int .i64 (r:Int)/\f 5=.int .i64 (c:Int)/\f 7=.slice (some ⟨L,0,none⟩) r r/\f 8=.pointer (some ⟨O,0,none⟩)/\f 9=.int .i64 (k:Int)/\f 29=.int .i64 (c:Int)/\f 30=.int .i64 (j:Int)/\f 10=.int .i64 (j:Int)/\f 11=.int .i64 ((i:Nat):Int)/\Ext w C/\ij C L S av r c false (Nb N k) W0/\Bx C O (Nb N k) false l/\∀a,k<=a->a<i->W0 a j=0)
   (r-k) ⟨k,F,aD,g,F,F,F,F,F,F,F,F,F,o,d,s,λa h1 h2=>absurd h1 aq⟩ ?_
  clear o d s;rintro m f w9 ⟨i,rfl,bW,hi,I,H,G,E,B,A,z,D,g,o,d,s,ai⟩;rw[ui I,ui H,ui G,ui E,ui B,ui A,ui z,ui D,ui g];clear I H G E B A z D g;refine aN ?_;by_cases ae:i<r;rotate_left
  ·refine gg ?_;refine⟨_,?_,j+1,k,W0,l,p0,cs,av,F,aq,F,F,F,F,F,F,F,o,d,s,Z.none Q λa h1 h2=>ai a h1 aq⟩;omega
  have g:=iL hN (show k+1<=16 by omega);have bu:=jF N k;have o:Ext w w9:=o;have k1:=d.at ae;obtain⟨x,y,p1,al,hv⟩:=d.entry ae Q;refine gg ?_;refine aN ?_;refine gg ?_;refine aJ (pK _ _ _ _ w9 hv.1 aq) ?_;rintro _ g ⟨u,rfl⟩;replace d:=d.Y u;replace s:=s.Y u;replace o:=o.trans u;clear u;clear k1 p1 al;by_cases hz:W0 i j=0
  ·have hs:(W0 i j).sign=0:=by rw[hz];rfl
   refine gg ?_;refine⟨_,?_,i+1,F,aq,aq,F,F,F,F,F,F,F,F,F,o,d,s,λa h1 h2=>?_⟩
   ·omega
   ·by_cases e:a=i
    ·subst e;exact hz
    ·exact ai a h1 aq
  have hs:¬(W0 i j).sign=0:=λe=>hz (Int.sign_eq_zero_iff_zero.1 e);have P:k<r:=aq;refine gg ?_;refine b_ [(0,3),(1,3),(2,3),(3,3),(4,3),(5,3),(6,3),(7,0),(8,3),(9,3),(10,3),(11,0),(12,3),(13,2),(14,3),(15,2)] mixed az λg u _=>?_;replace d:=d.Y u;replace s:=s.Y u;replace o:=o.trans u;clear u;have k1:=d.at ae;have g:=d.at P;refine gg ?_;refine cZ (aX F) (.inl F) F rfl d.outer (by rw[bf];omega) ?_;intro x ar b0 bM;rw[cT,show 0+k*1=k by omega]at ar;have bl:=c8 d.outer (ff λ_ _=>⟨_,_,_,rfl⟩).lh b0;clear k1 g;refine gg ?_;refine cZ (aX F) (.inl F) F rfl ar (by rw[bf];omega) ?_;intro w5 b4 aH bK;rw[cT,show 0+i*1=i by omega]at b4;have bj:=c8 ar (ff λa _=>by
   by_cases e:a=k
   ·subst e;exact⟨_,_,_,ct _ _ _⟩
   ·exact⟨_,_,_,b9 _ _ e⟩).lh aH
  have R:=bl.trans bj;have J:=b0.trans aH;replace d:=d.swap P ae J R b4;replace s:=s.kp R J aq;replace o:=J.aK o λb hb=>aq;replace Z:=Z.swap bW ae;clear R J bl bj b0 aH ar b4 bM bK hv hs;obtain⟨W,ax⟩ : ∃W,W=ov k i W0:=⟨_,F⟩;have bS:W k j≠0:=by
   rw[ax,jq];unfold sw;rw[ab F];exact hz
  rw[<-ax]at d Z;generalize (λt=>av (sw k i t))=Y at d;generalize (λt=>p0 (sw k i t))=p at Z;have an:∀a b,a<r->b<c->Bd (Nb N k) (W a b):=λa b ha hb=>d.bd ha hb;clear hz ax ai;have k1:=d.at P;refine gg ?_;clear k1;refine aY (λf C=>f 4=.int .i64 (r:Int)/\f 5=.int .i64 (c:Int)/\f 7=.slice (some ⟨L,0,none⟩) r r/\f 8=.pointer (some ⟨O,0,none⟩)/\f 9=.int .i64 (k:Int)/\f 29=.int .i64 (c:Int)/\f 30=.int .i64 (j:Int)/\f 10=.int .i64 (j:Int)/\f 12=.slice (some ⟨S,0+Y k*c*2,none⟩) c c/\Ext w C/\ij C L S Y r c false (Nb N (k+1)) (λa b=>if k<a/\j<b then NW k j W l a b else W a b)/\Bx C O (Nb N k) false l) ?_ ?_
  ·refine gg ?_;refine v8 (l:=k+1) fL F rfl aq ?_;obtain⟨vS,bc⟩ : ∃v,v=Value.slice (if r=k+1 then some ⟨L,0,none⟩else(some (⟨L,0,none⟩ : Addr)).map (·.add ((k+1)*1))) (r-(k+1)) (r-(k+1)):=⟨_,F⟩;refine gg ?_;rw[<-bc];refine aU (λm f C=>∃q,m=r-(k+1)-q/\q<=r-(k+1)/\f 4=.int .i64 (r:Int)/\f 5=.int .i64 (c:Int)/\f 7=.slice (some ⟨L,0,none⟩) r r/\f 8=.pointer (some ⟨O,0,none⟩)/\f 9=.int .i64 (k:Int)/\f 29=.int .i64 (c:Int)/\f 30=.int .i64 (j:Int)/\f 10=.int .i64 (j:Int)/\f 12=.slice (some ⟨S,0+Y k*c*2,none⟩) c c/\f 69=vS/\f 70=.int .i64 (((r-(k+1)):Nat):Int)/\f 71=.int .i64 ((q:Nat):Int)/\Ext w C/\ij C L S Y r c false (Nb N (k+1)) (λa b=>if k<a/\a<k+1+q/\j<b then NW k j W l a b else W a b)/\Bx C O (Nb N k) false l)
    (r-(k+1)) ⟨0,F,aE,F,F,F,F,F,F,F,F,F,F,F,F,o,d.congr bu (λa b _ _=>by rw[aa aq]),s⟩ ?_
   clear o d s;rintro m f b8 ⟨q,rfl,g,I,H,G,E,B,A,z,D,K,X,V,U,o,d,s⟩;rw[ui I,ui H,ui G,ui E,ui B,ui A,ui z,ui D,ui K,ui X,ui V,ui U];clear I H G E B A z D K X V U;by_cases g:q<r-(k+1);rotate_left
   ·refine gg ?_;exact⟨F,F,F,F,F,F,F,F,F,o,d.congr aD (λa b ha hb=>by
     by_cases h:k<a/\j<b
     ·rw[ab h,ab aq]
     ·rw[aa h,aa aq]),s⟩
   have g:vS=.slice (some ⟨L,0+(k+1)*1,none⟩) (r-(k+1)) (r-(k+1)):=by
    rw[bc,aa aq];rfl
   have a6:k+1+q<r:=aq;have k1:=d.at a6;rw[show 0+(k+1+q)*1=0+(k+1)*1+q*1 by omega]at k1;rw[g];refine gg ?_;rw[<-g];clear k1;refine aU (λm f C=>∃b,m=c-b/\j<b/\b<=c/\f 4=.int .i64 (r:Int)/\f 5=.int .i64 (c:Int)/\f 7=.slice (some ⟨L,0,none⟩) r r/\f 8=.pointer (some ⟨O,0,none⟩)/\f 9=.int .i64 (k:Int)/\f 29=.int .i64 (c:Int)/\f 30=.int .i64 (j:Int)/\f 10=.int .i64 (j:Int)/\f 12=.slice (some ⟨S,0+Y k*c*2,none⟩) c c/\f 69=vS/\f 70=.int .i64 (((r-(k+1)):Nat):Int)/\f 71=.int .i64 (q:Int)/\f 14=.slice (some ⟨S,0+Y (k+1+q)*c*2,none⟩) c c/\f 15=.int .i64 ((b:Nat):Int)/\Ext w C/\ij C L S Y r c false (Nb N (k+1)) (λa b'=>if k<a/\(a<k+1+q\/a=k+1+q/\b'<b)/\j<b' then NW k j W l a b' else W a b')/\Bx C O (Nb N k) false l)
    (c-(j+1)) ⟨j+1,F,aq,aq,F,F,F,F,F,F,F,F,F,F,F,F,F,F,o,d.congr aD λa b _ _=>?_,s⟩ ?_
   ·by_cases h:k<a/\a<k+1+q/\j<b
    ·rw[ab h,ab aq]
    ·rw[aa h,aa aq]
   clear o d s;rintro m f bI ⟨b,rfl,g,hb,I,H,G,E,B,A,z,D,K,X,V,U,m,g,o,d,s⟩;rw[ui I,ui H,ui G,ui E,ui B,ui A,ui z,ui D,ui K,ui X,ui V,ui U,ui m,ui g];clear I H G E B A z D K X V U m g;refine aN ?_;by_cases g:b<c;rotate_left
   ·refine gg ?_;refine⟨_,?_,q+1,F,aq,F,F,F,F,F,F,F,F,F,F,F,F,o,d.congr aD λa b' ha c=>?_,s⟩
    ·omega
    ·by_cases h:k<a/\a<k+1+(q+1)/\j<b'
     ·rw[ab h,ab aq]
     ·rw[aa h,aa aq]
   have o:Ext w bI:=o;refine gg ?_;refine cP [(0,3),(1,3),(2,3),(3,3),(4,3),(5,0),(6,3),(7,3),(8,3),(9,0),(10,3),(11,3),(12,3),(13,0),(14,3),(15,3),(16,3),(17,0),(18,0),(19,1),(20,3),(21,2)] mixed az λC u _=>?_;replace d:=d.Y u;replace s:=s.Y u;replace o:=o.trans u;clear u;obtain⟨V,U,p1,al,cQ⟩:=d.entry (i:=k) (j:=j) P Q;obtain⟨c,c,p2,S,fc⟩:=d.entry (i:=k+1+q) (j:=j) a6 Q;obtain⟨c,c,p3,O,m⟩:=d.entry (i:=k) (j:=b) P g;obtain⟨c,c,X,L,c⟩:=d.entry (i:=k+1+q) (j:=b) a6 g;rw[aa aq]at cQ fc m c;obtain⟨r,r,t,r⟩:=id s;obtain⟨y,x⟩:=bh t;refine gg ?_;refine aM (AM _ _ _ _ _ _ _ _ _ _ _ _ _ _ _ (Nb N (k+1)) C cQ.1 fc.1 m.1 c.1 (r.1.mono bu) aq Z.ne) ?_;rintro _ m ⟨u,a0,a1,rfl,c⟩;refine⟨u,?_⟩;replace d:=d.Y u;replace s:=s.Y u;replace o:=o.trans u;clear u;have r:Bd (Nb N (k+1)) (NW k j W l (k+1+q) b):=by
    have e:Nb N (k+1)=Nb N k+Nb N k+1:=by simp only[Nb];omega
    rw[e];exact(((an k j P Q).mul (an _ b a6 g)).sub ((an _ j a6 Q).mul (an k b P g))).ediv
   have c:CV m a0 a1 (NW k j W l (k+1+q) b):=c;clear p1 al p2 S p3 O X L y x;refine gg ?_;refine FT (.inl F) F rfl d a6 g (c.ev false r) ?_;intro c d J R g;replace s:=s.kp R J ah;replace o:=J.aK o λb hb=>aq;refine gg ?_;refine⟨_,?_,b+1,F,aq,aq,F,F,F,F,F,F,F,F,F,F,F,F,F,F,o,d.congr aD λc b' _ _=>?_,s⟩
   ·omega
   ·simp only[cV];by_cases e:c=k+1+q/\b'=b
    ·rw[ab e,ab aq,e.1,e.2]
    ·rw[aa e];by_cases h:k<c/\(c<k+1+q\/c=k+1+q/\b'<b)/\j<b'
     ·rw[ab h,ab aq]
     ·rw[aa h,aa aq]
  clear o d s;rintro f b8 ⟨I,H,G,E,B,A,z,D,K,o,d,s⟩;rw[ui I,ui H,ui G,ui E,ui B,ui A,ui z,ui D,ui K];clear I H G E B A z D K;have o:Ext w b8:=o;obtain⟨V,U,p1,al,cQ⟩:=d.entry (i:=k) (j:=j) P Q;rw[aa aq]at cQ;refine gg ?_;refine aL ag F rfl s (cQ) ?_;intro c s J R g;replace d:=d.kp R J aq aq;replace o:=J.aK o λb hb=>aq;clear J R g;refine gg ?_;refine⟨_,?_,j+1,k+1,_,W k j,p,_,Y,F,aq,F,F,F,F,F,F,F,o,d,s,Z.step Q P bS λa b h1 h2 a h4=>?_⟩
  ·omega
  ·rw[ab ⟨h1,a⟩];rfl
 clear o d s;rintro f w8 ⟨k,B,o,a⟩;rw[ui B];refine gg ?_;exact cU (v:=.int _ _) (v':=.bool _) F rfl rfl ⟨o,.inr ⟨T,k,F,a⟩⟩
end
section
open Go Go.cW Go.c7 Go.Proofs
def PK(w:World)(r:Nat)(len:Nat->Nat)(M:Nat->Nat->Int)(v:Value)(w':World):Prop:=
 Ext w w'/\∃x y,v=.tuple #[.agg #[x,y],.int .i64 ((dQ r len M:Nat):Int)]/\CV w' x y (if dQ r len M=0 then Go.aW.aO r M else 0)
theorem xF(b:Value)(r N:Nat)(len:Nat->Nat)(M:Nat->Nat->Int)(w:World)(m:cB (EI N) w b r len M)(i:1<=N)(j:N<1048576):
 aT Tryz.prog 13 #[b] w (PK w r len M):=by
 refine bo (n:=19) Tryz.func13 F rfl az aA ?_;have c:Ext w w:=Ext.refl w;refine gg ?_;refine aS (.inl F) a_ ?_;intro e p a k;have d:=Bx.zero (N:=1) true p;obtain⟨C,q⟩ : ∃g,g=w.heap.size:=⟨_,F⟩;rw[<-q]at d⊢;have f:w.heap.size<=C:=by have:=c.size;omega
 replace m:=m.Y a;replace c:=c.trans a;clear p k q a;refine gg ?_;refine aN ?_;refine gg ?_;refine gg ?_;refine aJ (jb b r N len M e m i j) ?_;rintro _ f ⟨a,rfl⟩;replace m:=m.Y a;replace d:=d.Y a;replace c:=c.trans a;clear a;have b:=mf r len M;by_cases t:dQ r len M=0;rotate_left
 ·refine gg ?_;refine dR fm ?_;refine gg ?_;refine gg ?_;refine aL ag F rfl d ((CV.zero f).ev true (Bd.zero 1)) ?_;intro f d f l k;clear m;replace c:=f.aK c λb B=>aq;clear f l k;obtain⟨u,v,A,z⟩:=d;refine gg ?_;refine mY (v:=.int _ _) F aQ F A F ⟨c,u,v,F,?_⟩;rw[aa t];exact z.2 F
 refine gg ?_;obtain⟨E,o,_⟩:=dF.1 t;obtain⟨D,o,s⟩:=dj.1 E;refine gg ?_;refine aJ (xW (m.sq s) i j D o) ?_;rintro _ D ⟨a,x,y,rfl,o⟩;replace m:=m.Y a;replace d:=d.Y a;replace c:=c.trans a;clear a;have E:Bd (Nb N r) (gj r M):=ie i λi j j i=>(m.sq s).bd j i;refine gg ?_;refine aS (.inl F) a_ ?_;intro i p a k;have i:=Bx.zero (N:=1) true p;obtain⟨j,q⟩ : ∃g,g=D.heap.size:=⟨_,F⟩;rw[<-q]at i⊢;have g:w.heap.size<=j:=by have:=c.size;omega
 have g:C<j:=by have:=d.lt;omega
 replace m:=m.Y a;replace d:=d.Y a;replace o:=o.Y a;replace c:=c.trans a;clear p k q a;refine gg ?_;refine aL ag F rfl i (o.ev true E) ?_;intro a i f l k;clear m;replace d:=d.kp l f ah;replace o:=o.kp l;replace c:=f.aK c λb B=>aq;clear f l k;refine gg ?_;obtain⟨a,a,g,a⟩:=id i;obtain⟨j,j⟩:=bh g;refine gg ?_;refine aL ag F rfl d (a) ?_;intro a d f l k;replace o:=o.kp l;replace i:=i.kp l f ah;replace c:=f.aK c λb B=>aq;clear f l k;obtain⟨u,v,A,z⟩:=d;refine gg ?_;refine mY (v:=.int _ _) F aQ F A F ⟨c,u,v,by rw[t],?_⟩;rw[ab t,<-eJ];exact z.2 F
open Classical in
noncomputable def DD (r:Nat) (len:Nat->Nat) (M:Nat->Nat->Int) (b:Nat) (len2:Nat->Nat) (T:Nat->Nat->Int):Nat:=
 if dQ r len M=0 then
  if kF b len2=true/\b=r/\len2 0<=b then
   if ∃k,k<len2 0/\Go.aW.Rk b (len2 0) T k then 8 else 0
  else 3
 else dQ r len M
def Pw(w:World)(e r c:Nat)(M T:Nat->Nat->Int)(v:Value)(w':World):Prop:=
 Ext w w'/\((e≠0/\v=.tuple #[.slice none 0 0,.int .i64 (e:Int)])\/(e=0/\∃a b,v=.tuple #[.slice (some ⟨a,0,none⟩) c c,.int .i64 ((0:Nat):Int)]/\iF w' a b c c (mulM r (λi j=>T j i) (mulM r M T))))
theorem j6(C x:Value)(r g N:Nat)(len len2:Nat->Nat)(M T:Nat->Nat->Int)(w:World)(j:cB (EI N) w C r len M)(i:cB (EI N) w x g len2 T)(B:1<=N)(E:N<1048576):
 aT Tryz.prog 10 #[C,x] w (Pw w (DD r len M g len2 T) r (len2 0) M T):=by
 refine bo (n:=66) Tryz.func10 F rfl az aA ?_;obtain⟨H,H,m,_⟩:=id j;have b:Ext w w:=Ext.refl w;refine gg ?_;refine aN ?_;refine gg ?_;refine gg ?_;refine aJ (jb C r N len M w j B E) ?_;rintro _ z ⟨a,rfl⟩;replace j:=j.Y a;replace i:=i.Y a;replace b:=b.trans a;clear a;have C:=mf r len M;by_cases s:dQ r len M=0;rotate_left
 ·have d:DD r len M g len2 T=dQ r len M:=by unfold DD;rw[aa s]
  refine gg ?_;exact cU (v:=.slice _ _ _) (v':=.int _ _) F rfl rfl ⟨b,.inl ⟨by rw[d];exact s,by rw[d]⟩⟩
 refine gg ?_;obtain⟨C,H,_⟩:=dF.1 s;obtain⟨p,o,D⟩:=dj.1 C;refine aJ (kh _ x g len2 T z i) ?_;rintro _ _ ⟨rfl,rfl⟩;obtain⟨f,C,C,C,G⟩:=df g len2;rw[C];clear C;have u:¬(kF g len2=true/\g=r/\len2 0<=g)->DD r len M g len2 T=3:=λh=>by unfold DD;rw[ab s,aa h]
 rcases G with⟨e,rfl,rfl,rfl⟩|⟨e,rfl,rfl,rfl⟩;rotate_left
 ·have d:=u (λh=>by rw[e]at h;cases h.1);refine gg ?_;refine aN ?_;refine gg ?_;exact cU (v:=.slice _ _ _) (v':=.int _ _) F rfl rfl ⟨b,.inl ⟨by rw[d];decide,by rw[d]⟩⟩
 by_cases A:f=r;rotate_left
 ·have d:=u λh=>A h.2.1;rw[m];refine gg ?_;refine aN ?_;refine gg ?_;exact cU (v:=.slice _ _ _) (v':=.int _ _) F rfl rfl ⟨b,.inl ⟨by rw[d];decide,by rw[d]⟩⟩
 by_cases g:len2 0<=f;rotate_left
 ·have d:=u λh=>g h.2.2;rw[m];refine gg ?_;refine aN ?_;refine gg ?_;exact cU (v:=.slice _ _ _) (v':=.int _ _) F rfl rfl ⟨b,.inl ⟨by rw[d];decide,by rw[d]⟩⟩
 obtain⟨⟨h,g,u,r⟩,y⟩:=cD.1 e;subst A;obtain⟨c,t⟩ : ∃c,c=len2 0:=⟨_,F⟩;rw[<-t];have g:c<=f:=aq;rw[m];refine gg ?_;refine aN ?_;refine gg ?_;rw[<-m];refine aN ?_;refine gg ?_;refine aJ (JD x f N len2 T z i B E) ?_;rintro _ g ⟨l,⟨g,_⟩|⟨_,k,rfl,q⟩⟩
 ·rw[e]at g;cases g
 rw[<-t]at q;have b:=b.trans l;have j:=j.Y l;have i:=i.Y l;by_cases g:k<c
 ·have d:DD f len M f len2 T=8:=by
   unfold DD;rw[ab s,ab ⟨e,F,aq⟩,ab ⟨k,aq,by rw[<-t];exact q⟩]
  refine gg ?_;exact cU (v:=.slice _ _ _) (v':=.int _ _) F rfl rfl ⟨b,.inl ⟨by rw[d];decide,by rw[d]⟩⟩
 have d:DD f len M f len2 T=0:=by
  unfold DD;rw[ab s,ab ⟨e,F,aq⟩,aa];rintro⟨e,G,e⟩;rw[<-t]at e;have:=e.unique q;omega
 refine gg ?_;have e:=i.sq (c:=c) (λi h=>by rw[y i h,t]);have g:=j.sq D;refine gg ?_;refine aJ (ur e aq p o aq aq) ?_;rintro _ j ⟨a,gT,j,rfl,l⟩;replace e:=e.Y a;replace g:=g.Y a;replace b:=b.trans a;clear a;refine gg ?_;refine gg ?_;refine aJ (DW g e aq p o p o aq aq) ?_;rintro _ j ⟨a,j,j,rfl,r⟩;replace e:=e.Y a;replace g:=g.Y a;replace l:=l.Y a;replace b:=b.trans a;clear a;refine gg ?_;have t:∀i j,i<c->j<f->Bd N (T j i):=λi j h m=>e.bd m h;have s:∀i j,i<f->j<c->Bd (N+N+1) (mulM f M T i j):=λi j h m=>im (N:=N+N) aq λk q=>(g.bd h q).mul (e.bd q m);refine gg ?_;refine aJ (DW (l.rd t (show N<=N+N+1 by omega) aq aq) (r.rd s aD aq aq) aq aq aq p o aq aq) ?_;rintro _ f ⟨a,h,f,rfl,hV⟩;replace e:=e.Y a;replace g:=g.Y a;replace l:=l.Y a;replace r:=r.Y a;replace b:=b.trans a;clear a;refine gg ?_;exact cU (v:=.slice _ _ _) (v':=.int _ _) F rfl rfl ⟨b,.inr ⟨d,h,f,F,hV⟩⟩
end
section
open Go Go.cW Go.c7 Go.Proofs
open Go.aW (aO)
theorem KQ(v:Value)(r N:Nat)(M:Nat->Nat->Int)(w:World)(h:cB (EI N) w v r (λ_=>r) M)(d:1<=N)(e:N<1048576)(h1:1<=r)(g:r<=16):
 aT Tryz.prog 182 #[v] w λv c=>Ext w c/\∃a b,v=.tuple #[.slice (some ⟨a,0,none⟩) r r,.bool true]/\w.heap.size<=a/\(∀i,i<r->w.heap.size<=b i)/\iF c a b r r (ni r M):=
 (x6 v r N _ M w h d e).mono λ_ _ h=>by
  obtain⟨u,rfl,f,a,b,rfl,d,c,e⟩:=h.get (qS h1 g);exact⟨f,a,b,F,d,c,e⟩
end
section
open Go Go.cW Go.c7 Go.uN Go.Proofs
theorem Ks(k n:Nat):oc k (n%10^k)=oc k n:=by
 induction k generalizing n with
 |zero=>rfl
 |succ k a=>
  simp only[oc];have c:n%10^(k+1)%10=n%10:=by rw[Nat.pow_succ,Nat.mul_comm];exact Nat.mod_mul_right_mod n 10 _
  have b:n%10^(k+1)/10=n/10%10^k:=by rw[Nat.pow_succ,Nat.mul_comm];exact Nat.mod_mul_right_div_self n 10 _
  rw[c,b,a]
theorem FA{k X N:Nat}(h1:10^k<=X)(a:X<B^N):k<32*N:=by
 have b:2^k<=10^k:=Nat.pow_le_pow_left aw k;have e:B^N=2^(32*N):=by rw[Nat.pow_mul];rfl
 rw[e]at a;exact(Nat.pow_lt_pow_iff_right (by decide:1<2)).1 aq
theorem Lb.take{w:World}{g:Nat}{L:List Nat}(h:Lb w g L)(m:Nat):Lb w g (L.take m):=by
 obtain⟨a,b⟩:=h;refine⟨((cells (L.drop m))++a),?_⟩;have e:cells (L.take m)++(cells (L.drop m)++a)=cells L++a:=by
  apply Array.toList_inj.1;simp only[cells,Array.toList_append,<-List.append_assoc,<-List.map_append,List.take_append_drop]
 rw[e];exact b
theorem zS{l:List Nat}(h:fH l)(m:Nat):fH (l.take m):=λx a=>h x (List.mem_of_mem_take a)
theorem Fs(x y:Value)(z:Int)(N:Nat)(w:World)(h:IV w N x y z)(hN:N<100000000):
 aT Tryz.prog 68 #[.agg #[x,y]] w λv a=>Ext w a/\v=Tx (zt z):=by
 obtain⟨H,A,l,c,rfl,rfl,hc,bD,hM,hl,rfl⟩:=h;refine bo (n:=53) Tryz.func68 F rfl az aA ?_;refine gb ?_;refine bO (v:=.agg _) (.inl F) F ?_;intro w1 ai ax bI;have k1:=fG ai;obtain⟨O,bI⟩ : ∃b,b=w.heap.size:=⟨_,F⟩;rw[<-bI]at ai k1⊢;refine gb ?_;refine aJ (dA _ _ _ _ w1 (hM.Y ax) F hc bD) ?_;rintro _ _ ⟨rfl,m,hm,rfl,J,I⟩;have b0:val l<B^N:=Nat.lt_of_lt_of_le (g_ _ hM.fD) (Nat.pow_le_pow_right aw hl);refine gb ?_;refine aJ (l8 _ _ _ (l.take m) w1 ((hM.Y ax).take m) (List.length_take_of_le hm) aq (λe=>by have:=hM.lS e;omega)) ?_;rintro v w2 ⟨a7,V⟩;have ae:=ai.Y a7;have Q:=ax.trans a7;obtain⟨X,hX⟩ : ∃X,X=val l:=⟨_,F⟩;rw[<-hX]at b0 I⊢;have aj:∀M,M=Tx [48]->X=0->M=Tx (zt (sg H X)):=by
  rintro M rfl rfl;cases H<;>rfl
 rcases V with⟨rfl,b6⟩|⟨g,c',rfl,hg,ax,ax,a6⟩
 ·refine gb ?_;refine aN ?_;refine gb ?_;refine bF (v:=Tx [48]) F rfl ⟨Q,aj _ F ?_⟩;rw[<-I,b6];rfl
 by_cases bl:m=0
 ·subst bl;refine gb ?_;refine aN ?_;refine gb ?_;refine bF (v:=Tx [48]) F rfl ⟨Q,aj _ F ?_⟩;rw[<-I];rfl
 have aj:(l.take m).length=m:=List.length_take_of_le hm;have bK:0<X:=by rw[<-I];exact qJ J aq
 have p:=zS hM.fD m;have ax:=a6.lt;refine gb ?_;refine aN ?_;refine gb ?_;obtain⟨u,ax⟩ : ∃b,b=w2.heap.size:=⟨_,F⟩;have b:=ae.lt;refine aY (λf a=>∃v t,f 1=.pointer (some ⟨O,0,none⟩)/\f 4=v/\Ext w a/\bg a O 44 #[.bool H,.slice A l.length c]/\nj a u v t/\u<=a.heap.size/\∃k,t=(oc k X).map ch/\X<10^k/\k<=32*N+9) ?_ ?_
 ·refine gb ?_;refine aU (λq f a=>∃n L v t j,q=val L/\f 1=.pointer (some ⟨O,0,none⟩)/\f 3=.slice (some ⟨g,0,none⟩) n c'/\f 4=v/\Ext w a/\bg a O 44 #[.bool H,.slice A l.length c]/\Lb a g L/\L.length=n/\fH L/\dz L/\n<=m/\nj a u v t/\u<=a.heap.size/\t=(oc (9*j) X).map ch/\val L=X/10^(9*j)/\9*j<=32*N+9)
   X ⟨m,l.take m,_,[],0,I.symm,F,F,F,Q,ae,a6,aj,p,J,aD,nj.nil _ _,aq,F,by rw[I];simp,aq⟩ ?_
  clear a6 J p ae Q a7;rintro q f w3 ⟨n,L,v,t,j,rfl,s,P,o,K,S,bc,hn,p,J,b,hO,bG,ht,V,bW⟩;rw[ui s,ui P,ui o];clear s P o;refine aN ?_;by_cases b:n=0
  ·have b:L=[]:=List.eq_nil_of_length_eq_zero aq;have h9:X<10^(9*j):=by
    rw[b]at V;have e:X/10^(9*j)=0:=V.symm;rcases Nat.lt_or_ge X (10^(9*j))with C|C
    ·exact C
    ·have:=Nat.div_pos C (Nat.pow_pos aw);omega
   refine gb ?_;exact⟨v,t,F,F,K,S,hO,bG,9*j,ht,h9,bW⟩
  have Y:=qJ J aq;have b:9*j<32*N:=FA (by
   rw[V]at Y;rcases Nat.lt_or_ge X (10^(9*j))with C|C
   ·rw[Nat.div_eq_of_lt C]at Y;omega
   ·exact C) b0
  refine gb ?_;refine aJ (m_ g n c' 1000000000 L w3 bc p hn aq aw aw) ?_;rintro _ w4 ⟨r,L',rfl,I,b,b,aj,ak,ax,b0⟩;have b6:=I.aK K λq e=>aq;have bl:=S.ch I aq;have E:=hO.ch I (λq e h=>by have:=(hO.mb e).1;omega);refine gb ?_;refine aJ (dA _ n c' L' w4 (b.J2 ak) aj aq aq) ?_;rintro _ _ ⟨rfl,T,I,rfl,bs,aH⟩;have bC:r=val L%10^9:=by
   rw[ax,show(10^9:Nat)=1000000000 by decide,Nat.add_comm,Nat.add_mul_mod_self_right,Nat.mod_eq_of_lt b0]
  have b4:val L'=val L/10^9:=by
   rw[ax,show(10^9:Nat)=1000000000 by decide,Nat.add_comm,Nat.add_mul_div_right _ _ aw,Nat.div_eq_of_lt b0,Nat.zero_add]
  refine gb ?_;have bt:(L'.take T).length=T:=List.length_take_of_le I;refine aU (λq f a=>∃M i,q=9-i/\i<=9/\f 1=.pointer (some ⟨O,0,none⟩)/\f 3=.slice (some ⟨g,0,none⟩) T c'/\f 4=M/\f 5=.int .u32 ((r/10^i:Nat):Int)/\f 20=.int .i64 ((i:Nat):Int)/\Ext w a/\bg a O 44 #[.bool H,.slice A l.length c]/\Lb a g L'/\nj a u M (t++(oc i r).map ch)/\u<=a.heap.size)
   9 ⟨v,0,F,aq,F,F,F,by simp;rfl,F,b6,bl,b,by simpa[oc]using E,aq⟩ ?_
  clear K S bc hO b6 bl b E;rintro q f w5 ⟨M,i,rfl,b,s,P,o,c,b,b5,a8,b8,b7,bu⟩;rw[ui s,ui P,ui o,ui c,ui b];clear s P o c b;by_cases b:i<9
  ·have a1:r/10^i%10<10:=Nat.mod_lt _ aw;have b:r/10^i<4294967296:=Nat.lt_of_le_of_lt (Nat.div_le_self _ _) aq;refine aN ?_;refine gb ?_;refine yt F aw ?_;refine gb ?_;refine yL F aq ?_;refine gb ?_;refine vX wF yX F ?_;refine gb ?_;refine dp sE F (.inl F) F rfl ?_;intro w6 A b c;have I:(48+r/10^i%10)%256=(ch (r/10^i%10)).toNat:=by rw[nQ a1];omega
   have c:bg w6 w5.heap.size 5 #[.int .u8 (((ch (r/10^i%10)).toNat:Nat):Int)]:=by rw[<-I];exact A
   have D:=b7.Y b;have A:(t++(oc i r).map ch).length=9*j+i:=by rw[ht];simp[kV]
   refine gb ?_;refine tP F rfl D F c aq aq ?_;intro v7 w7 I c _;have A:=c.aK (b5.trans b) (λq e=>by have:=(D.mb e).1;omega);have P:=(a8.Y b).ch c (λe=>by have:=(D.mb e).1;omega);have L:Lb w7 g L':=by
    obtain⟨sp,hb⟩:=b8.Y b;exact⟨sp,hb.ch c (λe=>by have:=(D.mb e).1;omega)⟩
   have b:=c.size;refine gb ?_;refine yu F aq aw ?_;refine gb ?_;refine⟨_,?_,v7,i+1,F,aq,F,F,F,by rw[Nat.pow_succ,<-Nat.div_div_eq_div_mul];rfl,F,A,P,L,?_,aq⟩
   ·omega
   ·rw[qh,List.map_append,<-List.append_assoc];exact I
  ·obtain rfl:i=9:=aq;refine aN ?_;refine gb ?_;refine⟨_,?_,T,L'.take T,M,_,j+1,F,F,F,F,b5,a8,b8.take T,bt,zS ak T,bs,aq,b7,bu,?_,?_,aq⟩
   ·rw[aH,b4];exact Nat.div_lt_self Y aw
   ·rw[ht,show 9*(j+1)=9*j+9 by omega,D9,List.map_append,<-V,bC,Ks]
   ·rw[aH,b4,V,Nat.div_div_eq_div_mul,<-Nat.pow_add,show 9*j+9=9*(j+1) by omega]
 clear a7 a6 J p ae Q ai k1;rintro f w3 ⟨v,t,s,o,K,S,av,b,k,rfl,an,b⟩;have al:∀q,X<10^q->0<q:=λq h=>by
  rcases Nat.eq_zero_or_pos q with C|C
  ·rw[C]at h;simp at h;omega
  ·exact C
 have d:∀q,((oc q X).map ch).length=q:=λq=>by simp[kV]
 have Z:∀q,X<10^q->(oc q X).map ch≠[]:=λq h e=>by have:=al q h;have:=d q;rw[e]at this;simp at this;omega
 obtain⟨W,G,rfl,b,b,c,_⟩:=av.bb (Z k an);rw[d]at o av b;rw[ui s,ui o];clear s o;refine aY (λf a=>f 1=.pointer (some ⟨O,0,none⟩)/\f 4=.slice (some ⟨W,0,none⟩) (j2 X) G/\w3=a/\nj a u (.slice (some ⟨W,0,none⟩) (j2 X) G) ((oc (j2 X) X).map ch)) ?_ ?_
 ·refine gb ?_;refine aU (λq f a=>q<=k/\f 1=.pointer (some ⟨O,0,none⟩)/\f 4=.slice (some ⟨W,0,none⟩) q G/\w3=a/\nj a u (.slice (some ⟨W,0,none⟩) q G) ((oc q X).map ch)/\X<10^q)
   k ⟨aD,F,F,F,av,an⟩ ?_
  rintro q f _ ⟨b,s,o,rfl,E,hq⟩;rw[ui s,ui o];clear s o;obtain⟨q,rfl⟩ : ∃p,q=p+1:=⟨q-1,by have:=al q hq;omega⟩;have a1:X/10^q%10<10:=Nat.mod_lt _ aw;have bA:X/10^q<10:=Nat.div_lt_of_lt_mul (by rw[Nat.pow_succ]at hq;omega);obtain⟨_,_,e,_,_,_,bj⟩:=E.bb (Z _ hq);rw[d]at e bj;cases e;have c:=bj.at (k:=q) aq;have b:((oc (q+1) X).map ch).getD q 0=ch (X/10^q%10):=by
   rw[qh,List.map_append,List.getD,List.getElem?_append_right (by simp[kV])];simp[kV]
  rw[b,nQ a1]at c;refine aN ?_;by_cases hz:X/10^q%10=0
  ·have bS:X<10^q:=by
    rw[Nat.mod_eq_of_lt bA]at hz;rcases Nat.lt_or_ge X (10^q)with C|C
    ·exact C
    ·have:=Nat.div_pos C (Nat.pow_pos aw);omega
   refine gb ?_;refine q9 sE F rfl aq ?_;refine gb ?_;refine⟨q,aq,aq,F,F,F,?_,bS⟩;have:=E.take q (by rw[d];omega);rw[qh,List.map_append,List.take_left' (d q)]at this;exact this
  ·have e:q+1=j2 X:=Fy hq (λ_=>by
    rw[Nat.add_sub_cancel];rcases Nat.lt_or_ge X (10^q)with C|C
    ·rw[Nat.div_eq_of_lt C]at hz;exact absurd rfl hz
    ·exact C)
   refine gb ?_;rw[<-e];exact⟨F,F,F,E⟩
 rintro f _ ⟨s,o,rfl,E⟩;rw[ui s,ui o];clear s o;have b:=AE bK;have b:=D7 an;have b:=iR S;cases H with
 |true=>
  refine gb ?_;refine aN ?_;refine gb ?_;refine dp sE F (.inl F) F rfl ?_;intro w5 a8 b c;have c:bg w5 w3.heap.size 5 #[.int .u8 (((45:UInt8).toNat:Nat):Int)]:=a8;refine gb ?_;refine tP F rfl (E.Y b) F c (by rw[d];omega) aq ?_;intro c w6 D c _;have bM:=c.aK (K.trans b) (λq e=>by have:=((E.Y b).mb e).1;omega);obtain⟨g7,bx,rfl,b,_⟩:=D.bb aA;refine gb ?_;refine aJ (sM g7 bx u _ w6 D aA (by simp[kV];omega)) ?_;rintro _ w8 ⟨rfl,R,ay,bB⟩;have au:=ay.aK bM λq e=>aq;have er:((oc (j2 X) X).map ch++[45]).reverse=45::nt X:=by simp[nt]
  rw[er]at R;have ar:=R.cells;refine gb ?_;refine tQ aw LL jo F (by simp[nt,kV]) (l:=45::nt X) (λa U=>?_) ?_
  ·rcases U with U|rfl
   ·exact U.elim
   ·exact ar
  refine gb ?_;refine bF (v:=Tx _) F rfl ⟨au,?_⟩;have e:sg true X=-(X:Int):=F;rw[e];unfold zt;rw[aa aq,ab aq,Int.natAbs_neg,Int.natAbs_natCast]
 |false=>
  refine gb ?_;refine aN ?_;refine gb ?_;have c:=Z _ (qg X);have D:=E;rw[show Value.slice (some ⟨W,0,none⟩) (j2 X) G=Value.slice (some ⟨W,0,none⟩) ((oc (j2 X) X).map ch).length G by rw[d]]at D;have b:=sM W G u _ w3 D c (by rw[d];omega);rw[d]at b;refine aJ b ?_;rintro _ w8 ⟨rfl,R,ay,bB⟩;have au:=ay.aK K λq e=>aq;have er:((oc (j2 X) X).map ch).reverse=nt X:=by simp[nt]
  rw[er]at R;have ar:=R.cells;refine gb ?_;refine tQ aw LL jo F (by simp[nt,kV]) (l:=nt X) (λa U=>?_) ?_
  ·rcases U with U|rfl
   ·exact U.elim
   ·exact ar
  refine gb ?_;refine bF (v:=Tx _) F rfl ⟨au,?_⟩;have e:sg false X=(X:Int):=F;rw[e];unfold zt;rw[aa aq,aa aq,Int.natAbs_natCast]
section
variable {P:Program}{n:Nat}{S:World->World->Prop}{k:Nat}{K:Fr->World->Prop}{f:Fr}{w:World}
 {d ty t t2:Nat} {x y:Operand} {pos:String} {aft:Array Edge} {g:Option (Nat×Bool)}
theorem kL{a b:Int}(e:ev n f x=.int .i32 a)(c:ev n f y=.int .i32 b)(h:K (cg f d (.bool (decide (a<b)))) w):R1 P n S k ⟨some d,.binOp .lss t x y t2,ty,pos,aft,g⟩ K f w:=by
 refine cw e c (λ_=>by simp[eqGuard,go_sem]) (λ_=>?_) h;simp only[binOp,Op.intCmp,ne_eq,not_true_eq_false,if_false];rfl
theorem mV{a b:Int}(e:ev n f x=.int .i32 a)(c:ev n f y=.int .i32 b)(h:K (cg f d (.bool (decide (b<a)))) w):R1 P n S k ⟨some d,.binOp .gtr t x y t2,ty,pos,aft,g⟩ K f w:=by
 refine cw e c (λ_=>by simp[eqGuard,go_sem]) (λ_=>?_) h;simp only[binOp,Op.intCmp,ne_eq,not_true_eq_false,if_false];rfl
end
theorem L1:jV Tryz.prog 21 (.int .i32):=by unfold jV;exact Tryz.underlying21
section
variable {P:Program}{n:Nat}{S:World->World->Prop}{k:Nat}{K:Fr->World->Prop}{f:Fr}{w:World}
 {d ty t t2:Nat} {x y:Operand} {pos:String} {aft:Array Edge} {g:Option (Nat×Bool)}
theorem EG{a:Nat}(h:a<2147483648):IntKind.i32.wrap (a:Int)=(a:Int):=by
 unfold IntKind.wrap;have b:((a:Int)%2^IntKind.i32.bits)=(a:Int):=by
  have:(2:Int)^IntKind.i32.bits=4294967296:=aw;rw[this];omega
 simp only[b];have b:decide ((a:Int)>=2^(IntKind.i32.bits-1))=false:=by
  have:(2:Int)^(IntKind.i32.bits-1)=2147483648:=aw;rw[this];simp;omega
 simp[b]
theorem CQ{a b:Nat}(e:ev n f x=.int .i32 (a:Int))(c:ev n f y=.int .i32 (b:Int))(h:a<2147483648)(i:b<=a)(h:K (cg f d (.int .i32 ((a-b:Nat):Int))) w):R1 P n S k ⟨some d,.binOp .sub t x y t2,ty,pos,aft,g⟩ K f w:=by
 refine cw e c (λ_=>by simp[eqGuard,go_sem]) (λ_=>?_) h;simp only[binOp,Op.intArith,ne_eq,not_true_eq_false,if_false];rw[<-Int.ofNat_sub i,EG aq];rfl
theorem Db{a:Nat}(e:jV P t (.int .i32))(c:jV P t2 (.int .u64))(b:ev n f x=.int .i32 (a:Int))(h:a<2147483648)(h:K (cg f d (.int .u64 (a:Int))) w):R1 P n S k ⟨some d,.convert t t2 x,ty,pos,aft,g⟩ K f w:=
 kb e c b (kf aq) h
end
theorem kq(c:UInt8):iH c=true↔48<=c.toNat/\c.toNat<=57:=by simp[iH]
theorem xD(d:List UInt8)(w:World)(m:d.length<4398046511104):
 aT Tryz.prog 133 #[Tx d] w λv q=>Ext w q/\∃b,v=.bool b/\(b=true↔DY d):=by
 refine bo (n:=28) Tryz.func133 F rfl az aA ?_;refine gb ?_;refine aY (λf q=>f 0=Tx d/\Ext w q/\(∀c∈d,iH c=true)/\¬(2<=d.length/\d.head?=some 48)) ?_ ?_
 ·refine gb ?_;refine v_ jo (.inl F) F ?_;intro m E N U;obtain⟨g,m⟩ : ∃g,g=w.heap.size:=⟨_,F⟩;rw[<-m]at E⊢;refine gb ?_;refine aU (λm f q=>∃p,m=d.length-p/\p<=d.length/\f 0=Tx d/\f 6=.pointer (some ⟨g,0,none⟩)/\Ext w q/\It q g d p/\(∀k (A:k<d.length),k<p->iH d[k]=true)/\¬(2<=p/\d.head?=some 48))
   d.length ⟨0,F,aE,F,F,N,E,λk _ h=>absurd h aq,λh=>absurd h.1 aw⟩ ?_
  clear E N U;rintro m f X ⟨p,rfl,m,s,m,I,T,a,u⟩;rw[ui s,ui m];clear s m;by_cases m:p<d.length
  ·have H:d[p]?=some d[p]:=List.getElem?_eq_getElem m;obtain⟨c,C⟩ : ∃c,c=d[p]:=⟨_,F⟩;rw[<-C]at H;have G:iH c=false->¬DY d:=λh q=>by
    have:=q.2.1 d[p] (List.getElem_mem m);rw[<-C,h]at this;cases this
   refine gb ?_;refine Be F rfl T H ?_;intro m q r M m q q q B L;have l:=m.aK I λb e=>aq;refine gb ?_;refine aN ?_;refine gb ?_;by_cases b:r<48
   ·have D:iH c=false:=by
     rcases Nat.lt_or_ge c.toNat 128 with h|h
     ·have e:=(B h).2;by_cases i:iH c=true
      ·have:=(kq c).1 i;omega
      ·simpa using i
     ·have:=L h;omega
    refine gb ?_;refine kL F rfl ?_;refine gb ?_;exact bF (v:=.bool false) F rfl ⟨l,false,F,(λh=>by cases h),λh=>absurd h (G D)⟩
   by_cases b:57<r
   ·have D:iH c=false:=by
     rcases Nat.lt_or_ge c.toNat 128 with h|h
     ·have e:=(B h).2;by_cases i:iH c=true
      ·have:=(kq c).1 i;omega
      ·simpa using i
     ·by_cases i:iH c=true
      ·have:=(kq c).1 i;omega
      ·simpa using i
    refine gb ?_;refine kL F rfl ?_;refine gb ?_;refine mV F rfl ?_;refine gb ?_;exact bF (v:=.bool false) F rfl ⟨l,false,F,(λh=>by cases h),λh=>absurd h (G D)⟩
   have J:c.toNat<128:=by
    rcases Nat.lt_or_ge c.toNat 128 with h|h
    ·exact h
    ·have:=L h;omega
   obtain⟨rfl,rfl⟩:=B J;have Q:iH c=true:=(kq c).2 aq;have z:∀k (A:k<d.length),k<p+1->iH d[k]=true:=λk A h=>by
    by_cases e:k=p
    ·subst e;rw[<-C];exact Q
    ·exact a k A aq
   by_cases V:p=1
   ·subst V;have O:d[0]?=some d[0]:=List.getElem?_eq_getElem aq;have R:d.head?=some d[0]:=by rw[List.head?_eq_getElem?];exact O
    by_cases o:d[0].toNat=48
    ·have W:d[0]=48:=UInt8.toNat_inj.1 o;refine gb ?_;refine kL F rfl ?_;refine gb ?_;refine mV F rfl ?_;refine gb ?_;refine kZ jo F (j:=0) F O ?_;refine gb ?_;exact bF (v:=.bool false) F rfl ⟨l,false,F,(λh=>by cases h),λh=>absurd ⟨aq,by rw[R,W]⟩ h.2.2⟩
    ·refine gb ?_;refine kL F rfl ?_;refine gb ?_;refine mV F rfl ?_;refine gb ?_;refine kZ jo F (j:=0) F O ?_;refine gb ?_;refine⟨_,?_,1+1,F,aq,F,F,l,M,z,λh=>?_⟩
     ·omega
     ·rw[R]at h;have:=Option.some.inj h.2;rw[this]at o;exact o F
   ·refine gb ?_;refine kL F rfl ?_;refine gb ?_;refine mV F rfl ?_;refine gb ?_;refine⟨_,?_,p+1,F,aq,F,F,l,M,z,λh=>u ⟨aq,h.2⟩⟩;omega
  ·refine gb ?_;refine Bf F rfl T aq ?_;refine gb ?_;refine aN ?_;refine gb ?_;refine⟨F,I,λc H=>?_,λh=>u ⟨aq,h.2⟩⟩;obtain⟨k,A,rfl⟩:=List.mem_iff_getElem.1 H;exact a k A aq
 rintro f X ⟨s,I,a,u⟩;rw[ui s];refine gb ?_;refine bF (v:=.bool (decide (¬d=[]))) F rfl ⟨I,_,F,?_⟩;rw[decide_eq_true_iff];exact⟨λh=>⟨h,a,u⟩,λh=>h.1⟩
