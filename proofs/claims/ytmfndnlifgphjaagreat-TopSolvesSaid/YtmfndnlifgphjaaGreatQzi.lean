import Derived.Test.YtmfndnlifgphjaaGreatQzh
set_option maxHeartbeats 64000000
open Go.Proofs.YtmfndnlifgphjaaGreat
namespace Go.Proofs.Qq
section
open Go Go.cU Go.cV Go.Proofs
theorem nh(w:World):iV w (.slice none 0 0) 0:=⟨none,[],0,F,Nat.le_refl _,by omega,eP.nil _ _,dw.nil,F⟩
theorem wz{l:List Nat}(h:dw l)(b:0<l.length):0<l.getD (l.length-1) 0:=by
 have a:l≠[]:=by rintro rfl;simp at b
 have:=h a;rw[List.getLast_eq_getElem]at this;have a:l.length-1<l.length:=aq;have e:l.getD (l.length-1) 0=l[l.length-1]:=by simp[List.getD,a]
 rw[e];omega
theorem iV.Y{w w':World}{v:Value}{m:Nat}(h:iV w v m)(a:Ext w w'):iV w' v m:=by
 obtain⟨A,l,c,e,i,g,f,d,b⟩:=h;exact⟨A,l,c,e,i,g,f.Y a,d,b⟩
theorem ky{w:World}{v:Value}{l:List Nat}{n base:Nat}(d:fm l)(b:dw l)(c:l.length=n)(h:(v=.slice none 0 0/\l=[])\/∃g a,v=.slice (some ⟨g,0,none⟩) n a/\base<=g/\n<=a/\a<=9223372036854775807/\Lb w g l):iV w v (val l):=by
 rcases h with⟨rfl,rfl⟩|⟨g,a,rfl,e,h1,h2,h3⟩
 ·exact nh w
 ·exact⟨_,l,a,by rw[c],aq,aq,h3.GB d,b,F⟩
theorem rE(A1 A2:Option Addr)(n1 n2 c1 c2:Nat)(i c:List Nat)(w:World)(h1:eP w A1 i)(U:eP w A2 c)(bg:i.length=n1)(b5:c.length=n2)(X:n1<17592186044416)(ax:n2<17592186044416)(t1:dw i)(t2:dw c)(N:0<val c):
 aT Tryz.prog 67 #[.slice A1 n1 c1,.slice A2 n2 c2] w λv I=>∃q r,v=.tuple #[q,r]/\Ext w I/\iV I q (val i/val c)/\iV I r (val i%val c):=by
 subst bg b5;refine bF (n:=104) Tryz.func67 F rfl aw aA ?_;have bt:0<c.length:=by
  rcases Nat.eq_zero_or_pos c.length with h|h
  ·rw[List.eq_nil_of_length_eq_zero h]at N;simp[val]at N
  ·exact h
 refine gg ?_;refine aJ (jR _ _ _ _ _ _ _ _ w h1 U F rfl X ax t1 t2) ?_;rintro _ D ⟨o,rfl⟩;by_cases W:val i<val c
 ·have ec:dX (val i) (val c)=-1:=by rw[dX,ae W]
  rw[ec];refine gg ?_;refine aJ (lz _ _ _ _ D (h1.Y o) F X h1.kZ) ?_;rintro v p ⟨u,hv⟩;refine gg ?_;refine fK (v:=.slice _ _ _) (v':=v) F rfl rfl ⟨_,_,F,o.trans u,?_,?_⟩
  ·rw[Nat.div_eq_of_lt W];exact nh _
  ·rw[Nat.mod_eq_of_lt W];exact ky h1.e_ t1 F hv
 have ec:¬dX (val i) (val c)<0:=by rw[dX,aa W];split<;>omega
 generalize dX (val i) (val c)=cz at*;have b5:c.length<=i.length:=by
  rcases Nat.lt_or_ge i.length c.length with h|h
  ·exact absurd (iw h1.e_ t2 h) W
  ·exact h
 by_cases au:i.length<=2
 ·refine gg ?_;refine aJ (lL _ _ _ _ D (h1.Y o) F aq) ?_;rintro _ _ ⟨rfl,rfl⟩;refine gg ?_;refine aJ (lL _ _ _ _ D (U.Y o) F aq) ?_;rintro _ _ ⟨rfl,rfl⟩;refine gg ?_;have h:val i<18446744073709551616:=by
   have:=fY i h1.e_;exact Nat.lt_of_lt_of_le this (Nat.le_trans (Nat.pow_le_pow_right ar au) ar)
  refine b7 [(0,3),(1,3),(2,3),(4,3),(5,3),(6,3),(3,1),(7,1),(8,3),(9,3)] mixed aw λp u _=>?_;refine gg ?_;refine kI F rfl h N ?_;refine gg ?_;refine jB F rfl N ?_;refine gg ?_;refine aM (fx _ p (Nat.lt_of_le_of_lt (Nat.div_le_self _ _) h)) ?_;rintro N t ⟨H,hq⟩;refine⟨H,?_⟩;refine gg ?_;refine aM (fx _ t (Nat.lt_of_le_of_lt (Nat.mod_le _ _) h)) ?_;rintro vr w4 ⟨z,hr⟩;refine⟨z,?_⟩;refine gg ?_;exact fK (v:=N) (v':=vr) F rfl rfl ⟨_,_,F,((o.trans u).trans H).trans z,hq.Y z,hr⟩
 by_cases b4:c.length=1
 ·refine gg ?_;refine aJ (lz _ _ _ _ D (h1.Y o) F X h1.kZ) ?_;rintro v p ⟨u,hv⟩;rcases hv with⟨_,rfl⟩|⟨g,h,rfl,h,bs,h,hL⟩
  ·simp at au
  refine gg ?_;obtain⟨ad,rfl,hc⟩:=(U.Y (o.trans u)).at (j:=0) aq;have hx:=hc 0 aq;have h:=U.e_.getD 0;have aH:val c=c.getD 0 0:=by
   match c,b4 with
   |[x],_=>simp[val]
  refine dY di (j:=0) F rfl aq ?_;refine gg ?_;refine aJ (oO _ _ _ _ _ p hL h1.e_ F X aq h) ?_;rintro _ t ⟨r,h,rfl,r,h,ay,h,a4,aj,av⟩;have H:Ext w t:=r.aK (o.trans u) (λb hb=>by have:=o.size;omega);refine gg ?_;refine aJ (dn _ _ _ _ t (ay.GB a4) h bs aq) ?_;rintro v w4 ⟨rfl,m,bj,rfl,a6,y⟩;refine gg ?_;refine aJ (fx _ t aq) ?_;rintro vr w5 ⟨h,hr⟩;refine gg ?_;rw[<-aH]at aj av;have r:=Cd aj av;refine fK (v:=.slice _ _ _) (v':=vr) F rfl rfl ⟨_,_,F,H.trans h,?_,?_⟩
  ·rw[<-r.1];exact(fE (ay.GB a4) bj aq aq a6 y F).Y h
  ·rw[<-r.2];exact hr
 ·obtain⟨k,hk⟩ : ∃k,c.length=k+2:=⟨c.length-2,aq⟩;have ai:=wz t2 bt;have bl:=U.e_.getD (c.length-1);refine gg ?_;obtain⟨ad,rfl,hc⟩:=(U.Y o).at (j:=c.length-1) aq;have hx:=hc (c.length-1) aq;refine gg ?_;refine aJ (oM _ D bl ai) ?_;rintro _ _ ⟨rfl,s,rfl,hs,aj,ai⟩;refine gg ?_;refine aJ (m5 _ _ _ _ _ D (U.Y o) F ax hs) ?_;rintro _ p ⟨r,rfl,u,a4,h,h,N,_⟩;refine gg ?_;refine aJ (m5 _ _ _ _ _ p (h1.Y (o.trans u)) F X hs) ?_;rintro _ t ⟨R0,rfl,H,a2,G,d,al,a3⟩;refine gg ?_;refine cF di (.inl F) F rfl aD aq aq ?_;intro w4 A z an;rw[fZ]at A;have W:=u.size;have W:=H.size;have W:D.heap.size<p.heap.size:=a4.lt;have W:p.heap.size<t.heap.size:=a2.lt;have W:=o.size;rw[show c.length-1=k+1 by omega]at aj ai;have W:=uo c k s U.e_ hk hs aj ai;have U:=pj (l:=r) (k:=k+2) aq (by rw[N];exact W.1);have J:(r.take (k+2)).length=k+2:=by rw[List.length_take];omega
  have a5:=h.take (k+2);have T:val (r.take (k+2))=val c*2^s:=U.1.trans N;have ak:2147483648<=(r.take (k+2)).getD (k+1) 0:=Gi a5 J (by rw[T];exact W.2);have S:eP w4 (some ⟨D.heap.size,0,none⟩) (r.take (k+2)):=((c7 a4 h).take (k+2)).Y (H.trans z);clear U W a4 h N;generalize r.take (k+2)=V at*;have L:val (R0.drop (i.length-c.length+1))<val V:=by
   refine zL R0 V _ k d aq J ?_;rw[show i.length-c.length+1+(k+1)=i.length by omega];have:2^s<=2147483648:=Nat.pow_le_pow_right (n:=2) ar (show s<=31 by omega);omega
  have ab:Ext w w4:=((o.trans u).trans H).trans z;have a7:Lb w4 p.heap.size R0:=(Lb.of a2).Y z;refine gg ?_;refine aX (λf I=>∃R Q,f 4=.slice (some ⟨t.heap.size,0,none⟩) (i.length-c.length+1) (i.length-c.length+1)/\f 9=.int .i64 (s:Int)/\f 11=.slice (some ⟨p.heap.size,0,none⟩) (i.length+1) (i.length+1)/\
   Ext w I/\Lb I p.heap.size R/\R.length=i.length+1/\fm R/\bh I t.heap.size 90 (cells Q)/\Q.length=i.length-c.length+1/\fm Q/\val R<val V/\val R0=val Q*val V+val R) ?_ ?_
  ·refine gg ?_;refine aU (λm f I=>∃R Q,m<=i.length-c.length+1/\f 1=.slice (some ad) c.length c2/\f 4=.slice (some ⟨t.heap.size,0,none⟩) (i.length-c.length+1) (i.length-c.length+1)/\f 9=.int .i64 (s:Int)/\f 10=.slice (some ⟨D.heap.size,0,none⟩) c.length (c.length+1)/\f 11=.slice (some ⟨p.heap.size,0,none⟩) (i.length+1) (i.length+1)/\f 12=.int .i64 ((m:Int)-1)/\
    Ext w I/\eP I (some ⟨D.heap.size,0,none⟩) V/\Lb I p.heap.size R/\R.length=i.length+1/\fm R/\bh I t.heap.size 90 (cells Q)/\Q.length=i.length-c.length+1/\fm Q/\val (R.drop m)<val V/\val R0=val (Q.drop m)*(B^m*val V)+val R)
    (i.length-c.length+1) ⟨R0,_,aD,F,F,F,F,F,?_,ab,S,a7,G,d,A,aA,d_ _,L,by simp[val]⟩ ?_
   ·show Value.int .i64 _=_;congr 1;omega
   clear hx hc A a7 ab S an z a2 G d al a3 L;rintro m f w5 ⟨R,Q,hm,h,Z,Y,c,K,O,hE,hM,hL,G,d,A,a0,C,E,y⟩;rw[ui h,ui Z,ui Y,ui c,ui K];clear h Z Y c K;rcases m with _|j
   ·rw[ui O];refine aP ?_;refine gg ?_;refine⟨R,Q,F,F,F,hE,hL,G,d,A,a0,C,by simpa using E,by simpa using y⟩
   ·have c:(((j+1:Nat):Int)-1)=(j:Int):=aq;rw[c]at O;rw[ui O];clear O;refine aP ?_;refine gg ?_;refine oJ di F rfl rfl aq aq aq ?_;refine gg ?_;refine aJ (qU p.heap.size j k _ _ _ _ _ R V w5 hL d hM ?_ J hk ?_ aq aq ak ?_) ?_
    ·show D.heap.size≠p.heap.size;omega
    ·omega
    ·have c:val (R.drop j)=R.getD j 0+B*val (R.drop (j+1)):=by rw[drop_cons R j aq,val]
     have h1:B*val (R.drop (j+1))+B<=B*val V:=by rw[<-Nat.mul_succ];exact Nat.mul_le_mul_left _ E
     have hb:R.getD j 0<B:=d.getD j;have c:val (jN R j (k+3))<=val (R.drop j):=by
      have:=ew (R.drop j) (k+3) (by rw[List.length_drop];omega);unfold jN;omega
     omega
    rintro _ w6 ⟨q,O,rfl,hq,M,b0,a1,I,i,h,r,o⟩;refine gg ?_;have P:bh w6 t.heap.size 90 (cells Q):=A.ch M (show¬t.heap.size=p.heap.size by omega);refine cg (aW F) (.inl F) F rfl P (by rw[cB];omega) ?_;intro N H c u;rw[dG]at H;refine gg ?_;have u:=Ei d aq I J a5 aq E y h r o;have h:Ext w N:=Ch.aK (M.aK hE λb hb=>aq) c λb hb=>aq;obtain⟨r,o⟩:=a1;refine⟨j,aq,O,Q.set j q,aq,F,F,F,F,F,F,h,?_,⟨r,o.ch c (show¬p.heap.size=t.heap.size by omega)⟩,aq,i,H,by simpa using a0,C.set hq,u.1,u.2⟩;refine(hM.ch M ?_).ch c ?_
    ·intro a e;injection e with e;subst e;show¬D.heap.size=p.heap.size;omega
    ·intro a e;injection e with e;subst e;show¬D.heap.size=t.heap.size;omega
  ·clear hx hc A a7 ab S an z a2 G d a3 L;rintro f w5 ⟨R,Q,Z,Y,K,hE,hL,G,d,A,a0,C,E,y⟩;rw[ui Z,ui Y,ui K];clear Z Y K;refine gg ?_;refine aJ (qL p.heap.size _ _ _ R w5 hL d G aq hs) ?_;rintro _ w6 ⟨M,b0,a1⟩;have h:Ext w w6:=M.aK hE λb hb=>aq;have P:bh w6 t.heap.size 90 (cells Q):=A.ch M (show¬t.heap.size=p.heap.size by omega);refine gg ?_;refine aJ (dn _ _ _ _ w6 (c7 P C) a0 aD aq) ?_;rintro _ _ ⟨rfl,m,hm,rfl,a6,e⟩;refine gg ?_;refine aJ (dn _ _ _ _ w6 (a1.GB (wF s R d)) (by rw[sa];exact G) aD aq) ?_;rintro _ _ ⟨rfl,a,f,rfl,c,b⟩;refine gg ?_;rw[al,T]at y;rw[T]at E;have a:=uL y E;refine fK (v:=.slice _ _ _) (v':=.slice _ _ _) F rfl rfl ⟨_,_,F,h,?_,?_⟩
   ·rw[<-a.1];exact fE (c7 P C) hm aq aq a6 e F
   ·rw[<-a.2,<-AR s hs R d];exact fE (a1.GB (wF s R d)) f (by rw[sa];omega) aq c b F
def sg(a:Bool)(m:Nat):Int:=if a then -(m:Int)else(m:Int)
def IV(w:World)(N:Nat)(x y:Value)(z:Int):Prop:=∃a A l c,x=.bool a/\y=.slice A l.length c/\l.length<=c/\c<9223372036854775808/\eP w A l/\l.length<=N/\z=sg a (val l)
def CV(w:World)(x y:Value)(z:Int):Prop:=∃a A l c,x=.bool a/\y=.slice A l.length c/\l.length<=c/\c<9223372036854775808/\eP w A l/\dw l/\(l=[]->a=false)/\z=sg a (val l)
def RI(w:World)(z:Int)(v:Value)(w':World):Prop:=Ext w w'/\∃x y,v=.agg #[x,y]/\CV w' x y z
theorem IV.Y{w w':World}{N:Nat}{x y:Value}{z:Int}(h:IV w N x y z)(b:Ext w w'):IV w' N x y z:=by
 obtain⟨a,A,l,c,k,j,i,g,f,e,d⟩:=h;exact⟨a,A,l,c,k,j,i,g,f.Y b,e,d⟩
theorem CV.Y{w w':World}{x y:Value}{z:Int}(h:CV w x y z)(b:Ext w w'):CV w' x y z:=by
 obtain⟨a,A,l,c,k,j,i,g,f,e,d⟩:=h;exact⟨a,A,l,c,k,j,i,g,f.Y b,e,d⟩
theorem jM(a:Bool)(m:Nat):(sg a m).natAbs=m:=by unfold sg;split<;>simp
theorem CV.iv{w:World}{N:Nat}{x y:Value}{z:Int}(h:CV w x y z)(e:z.natAbs<B^N):IV w N x y z:=by
 obtain⟨b,A,l,c,m,k,j,i,g,f,a,a⟩:=h;refine⟨b,A,l,c,m,k,j,i,g,?_,a⟩;rw[a,jM]at e;rcases Nat.lt_or_ge N l.length with h|h
 ·exfalso;have d:l≠[]:=by rintro rfl;simp at h
  have a:=mS d f;have b:B^N<=B^(l.length-1):=Nat.pow_le_pow_right ar aq;omega
 ·exact h
theorem IV.abs{w:World}{N:Nat}{x y:Value}{z:Int}(h:IV w N x y z):z.natAbs<B^N:=by
 obtain⟨a,A,l,c,a,a,a,a,c,b,a⟩:=h;rw[a,jM];exact Nat.lt_of_lt_of_le (fY l c.e_) (Nat.pow_le_pow_right ar b)
def jL(cs:Array Value):Prop:=∀(i:Nat) (k:IntKind) (z:Int),cs[i]?≠some (.int k z)
theorem qc{w:World}{g T:Nat}{cs:Array Value}{p:Addr}{v:Value}(a:bh w g T cs)(c:p.block=g)(h:w.cell? p=some v):∃i:Nat,cs[i]?=some v:=by
 obtain⟨b,o,d⟩:=p;obtain rfl:b=g:=c;unfold bh at a;simp only[World.cell?,a]at h;split at h
 ·cases h
 ·exact⟨o,h⟩
theorem eP.dj{w w':World}{g T:Nat}{cs:Array Value}{A:Option Addr}{l:List Nat}(h:eP w A l)(f:bh w g T cs)(c:jL cs)(d:Ch (λb=>b=g) w w'):eP w' A l:=
 ⟨h.e_,λj b=>by
  obtain⟨i,e,a⟩:=h.cell j b;refine⟨i,e,?_⟩;rw[<-a];refine jK d (World.block_lt_of_cell? w _ a) λd=>?_;obtain⟨i,b⟩:=qc f d a;exact c _ _ _ b⟩
theorem CV.dj{w w':World}{g T:Nat}{cs:Array Value}{x y:Value}{z:Int}(h:CV w x y z)(e:bh w g T cs)(d:jL cs)(f:Ch (λb=>b=g) w w'):CV w' x y z:=by
 obtain⟨a,A,l,c,o,n,m,k,j,i,b⟩:=h;exact⟨a,A,l,c,o,n,m,k,j.dj e d f,i,b⟩
theorem cN{b:Bool}{A:Option Addr}{m c:Nat}:jL #[.bool b,.slice A m c]:=by
 intro i k z
 match i with
 |0=>simp
 |1=>simp
 |i+2=>simp
theorem jy{w:World}{g T:Nat}{x y:Value}(h:bh w g T #[x,y]):w.cell? ⟨g,0+0,none⟩=some x:=by rw[h.cell];rfl
theorem fG{w:World}{g T:Nat}{x y:Value}(h:bh w g T #[x,y]):w.cell? ⟨g,0+1,none⟩=some y:=by rw[h.cell];rfl
theorem CV.db{w:World}{x y:Value}{z:Int}(h:CV w x y z):x.oneCell'=true:=by obtain⟨a,A,l,c,rfl,_⟩:=h;rfl
theorem CV.de{w:World}{x y:Value}{z:Int}(h:CV w x y z):y.oneCell'=true:=by obtain⟨a,A,l,c,_,rfl,_⟩:=h;rfl
theorem dQ(a:Bool)(v:Value)(m:Nat)(w:World)(h:iV w v m):
 aT Tryz.prog 49 #[.bool a,v] w (RI w (sg a m)):=by
 obtain⟨A,l,c,rfl,r,k,t,p,rfl⟩:=h;refine bF (n:=12) Tryz.func49 F rfl aw aA ?_;refine gg ?_;refine aR (.inl F) a_ ?_;intro u f g u;refine gg ?_;by_cases i:l.length=0
 ·have q:=List.eq_nil_of_length_eq_zero i;refine aP ?_;refine gg ?_;refine fp ij ?_;refine gg ?_;refine aV aN (.inl F) F rfl rfl rfl f ar ?_;intro o e d j;refine gg ?_;refine dO F aN F e ⟨d.aK g λb s=>aq,_,_,F,false,none,[],0,F,F,aD,aq,eP.nil _ _,dw.nil,λ_=>rfl,?_⟩;subst q;simp[sg,val]
 ·refine aP ?_;refine gg ?_;refine pd (v0:=.bool _) (v1:=.slice _ _ _) s_ F rfl rfl rfl ?_;refine gg ?_;refine aV aN (.inl F) F rfl rfl rfl f ar ?_;intro o e d j;refine gg ?_;have f:=d.aK g λb s=>aq;exact dO F aN F e ⟨f,_,_,F,a,A,l,c,F,F,r,k,t.Y f,p,λh=>absurd (by rw[h];rfl) i,F⟩
theorem fc(m:Nat):sg false m=m:=F
theorem e9(m:Nat):sg true m=-(m:Int):=F
theorem wH(b:Bool)(m:Nat):sg (!b) m=- sg b m:=by cases b<;>simp[sg]
theorem mq(x y:Value)(z:Int)(N:Nat)(w:World)(h:IV w N x y z)(a:N<17592186044416):
 aT Tryz.prog 75 #[.agg #[x,y]] w (RI w z):=by
 obtain⟨j,A,l,c,rfl,rfl,o,e,g,a,rfl⟩:=h;refine bF (n:=10) Tryz.func75 F rfl aw aA ?_;refine gg ?_;refine aZ (v:=.agg _) (.inl F) F ?_;intro a f i a;refine gg ?_;refine aR (.inl F) a_ ?_;intro a k c a;refine gg ?_;refine b7 [(0,3),(1,0),(2,3),(3,0),(4,1),(5,1),(6,1),(7,2)] mixed aw λd a _=>?_;have b:=f.Y (c.trans a);have f:=k.Y a;have k:=jy b;have k:=fG b;have b:=(i.trans c).trans a;refine gg ?_;refine aM (dn _ _ _ _ d (g.Y b) F o e) ?_;rintro _ _ ⟨rfl,m,hm,rfl,a,k⟩;refine⟨Ext.refl _,?_⟩;refine gg ?_;refine aM (lz _ _ _ (l.take m) d ((g.Y b).take m) (List.length_take_of_le hm) aq (λe=>by have:=g.kZ e;omega)) ?_;rintro v c ⟨d,e⟩;refine⟨d,?_⟩;refine gg ?_;refine aM (dQ j v _ c (ky (g.e_.take m) a (List.length_take_of_le hm) e)) ?_;rintro _ a ⟨c,a,a,rfl,a⟩;refine⟨c,?_⟩;refine gg ?_;refine aV aN (.inl F) F rfl a.db a.de (f.Y (d.trans c)) ar ?_;intro l j e g;refine gg ?_;have g:Ext w l:=e.aK ((b.trans d).trans c) (λb b=>by have:=i.size;omega);rw[k]at a;exact dO F aN F j ⟨g,_,_,F,a.dj (f.Y (d.trans c)) cN e⟩
theorem kx(x y:Value)(z:Int)(N:Nat)(w:World)(h:IV w N x y z)(a:N<1099511627776):
 aT Tryz.prog 75 #[.agg #[x,y]] w (RI w z):=mq x y z N w h aq
theorem iZ(x y:Value)(z:Int)(N:Nat)(w:World)(h:IV w N x y z)(a:N<17592186044416):
 aT Tryz.prog 74 #[.agg #[x,y]] w (RI w (-z)):=by
 obtain⟨j,A,l,c,rfl,rfl,o,e,g,a,rfl⟩:=h;refine bF (n:=11) Tryz.func74 F rfl aw aA ?_;refine gg ?_;refine aZ (v:=.agg _) (.inl F) F ?_;intro a f i a;refine gg ?_;refine aR (.inl F) a_ ?_;intro a k c a;refine gg ?_;refine b7 [(0,3),(1,0),(2,3),(3,3),(4,0),(5,1),(6,1),(7,1),(8,2)] mixed aw λd a _=>?_;have b:=f.Y (c.trans a);have f:=k.Y a;have k:=jy b;have k:=fG b;have b:=(i.trans c).trans a;refine gg ?_;refine aM (dn _ _ _ _ d (g.Y b) F o e) ?_;rintro _ _ ⟨rfl,m,hm,rfl,a,k⟩;refine⟨Ext.refl _,?_⟩;refine gg ?_;refine aM (lz _ _ _ (l.take m) d ((g.Y b).take m) (List.length_take_of_le hm) aq (λe=>by have:=g.kZ e;omega)) ?_;rintro v c ⟨d,e⟩;refine⟨d,?_⟩;refine gg ?_;refine aM (dQ (!j) v _ c (ky (g.e_.take m) a (List.length_take_of_le hm) e)) ?_;rintro _ a ⟨c,a,a,rfl,a⟩;refine⟨c,?_⟩;refine gg ?_;refine aV aN (.inl F) F rfl a.db a.de (f.Y (d.trans c)) ar ?_;intro l j e g;refine gg ?_;have g:Ext w l:=e.aK ((b.trans d).trans c) (λb b=>by have:=i.size;omega);rw[k,wH]at a;exact dO F aN F j ⟨g,_,_,F,a.dj (f.Y (d.trans c)) cN e⟩
theorem wY(x y:Value)(z:Int)(N:Nat)(w:World)(h:IV w N x y z)(a:N<1099511627776):
 aT Tryz.prog 74 #[.agg #[x,y]] w (RI w (-z)):=iZ x y z N w h aq
theorem fb(z:Int)(w:World)(h1:-9223372036854775808<=z)(a:z<9223372036854775808):
 aT Tryz.prog 21 #[.int .i64 z] w (RI w z):=by
 refine bF (n:=14) Tryz.func21 F rfl aw aA ?_;refine gg ?_;refine aR (.inl F) a_ ?_;intro o g j a;refine gg ?_;by_cases a:z<0
 ·refine aP ?_;refine gg ?_;refine kL pf nT F ?_;refine gg ?_;refine qq F aq ?_;refine gg ?_;refine aJ (fx _ o (Nat.mod_lt _ ar)) ?_;rintro v l ⟨d,m⟩;refine gg ?_;refine aJ (dQ true v _ l m) ?_;rintro _ s ⟨c,r,q,rfl,a⟩;refine gg ?_;refine aV aN (.inl F) F rfl a.db a.de (g.Y (d.trans c)) ar ?_;intro k i f p;refine gg ?_;have h:Ext w k:=f.aK ((j.trans d).trans c) λb t=>aq;have e:sg true ((18446744073709551616-(z%18446744073709551616).toNat)%18446744073709551616)=z:=by rw[e9];omega
  rw[e]at a;exact dO F aN F i ⟨h,_,_,F,a.dj (g.Y (d.trans c)) cN f⟩
 ·refine aP ?_;refine gg ?_;refine kL pf nT F ?_;refine gg ?_;refine aJ (fx _ o aq) ?_;rintro v l ⟨d,m⟩;refine gg ?_;refine aJ (dQ false v _ l m) ?_;rintro _ s ⟨c,r,q,rfl,a⟩;refine gg ?_;refine aV aN (.inl F) F rfl a.db a.de (g.Y (d.trans c)) ar ?_;intro k i f p;refine gg ?_;have h:Ext w k:=f.aK ((j.trans d).trans c) λb t=>aq;have e:sg false ((z%18446744073709551616).toNat)=z:=by rw[fc];omega
  rw[e]at a;exact dO F aN F i ⟨h,_,_,F,a.dj (g.Y (d.trans c)) cN f⟩
theorem val_zero{l:List Nat}(h:dw l)(b:val l=0):l=[]:=by
 rcases l with _|⟨a,r⟩
 ·rfl
 ·have:=mS (List.cons_ne_nil a r) h;have:=Nat.pow_pos (n:=(a::r).length-1) (show 0<B by decide);omega
theorem cE(x y:Value)(z:Int)(N:Nat)(w:World)(h:IV w N x y z)(_hN:N<17592186044416):
 aT Tryz.prog 26 #[.agg #[x,y]] w λv c=>Ext w c/\v=.int .i64 z.sign:=by
 obtain⟨b,A,l,c,rfl,rfl,j,g,k,c,rfl⟩:=h;refine bF (n:=12) Tryz.func26 F rfl aw aA ?_;refine gg ?_;refine aZ (v:=.agg _) (.inl F) F ?_;intro i c a o;have o:=jy c;have o:=fG c;refine gg ?_;refine aJ (dn _ _ _ _ i (k.Y a) F j g) ?_;rintro _ _ ⟨rfl,m,hm,rfl,f,d⟩;by_cases e:m=0
 ·refine gg ?_;refine cI (v:=.int _ _) F rfl ⟨a,?_⟩;subst e;have:val l=0:=by rw[<-d];simp[val]
  rw[this];cases b<;>rfl
 ·have c:0<val l:=by
   rcases Nat.eq_zero_or_pos (val l)with h|h
   ·have:=val_zero f (d.trans h);have:=congrArg List.length this;rw[List.length_take_of_le hm]at this;exact absurd this e
   ·exact h
  cases b
  ·refine gg ?_;refine cI (v:=.int _ _) F rfl ⟨a,?_⟩;rw[fc,Int.sign_eq_one_of_pos aq];rfl
  ·refine gg ?_;refine cI (v:=.int _ _) F rfl ⟨a,?_⟩;rw[e9,Int.sign_eq_neg_one_of_neg aq]
theorem mZ(x y:Value)(z:Int)(N:Nat)(w:World)(h:IV w N x y z)(_hN:N<1099511627776):
 aT Tryz.prog 26 #[.agg #[x,y]] w λv a=>Ext w a/\v=.int .i64 z.sign:=cE x y z N w h aq
theorem fw{b a:List Nat}(f:fm a)(e:dw b)(h:val b<=val a):b.length<=a.length:=by
 rcases Nat.lt_or_ge a.length b.length with c|d
 ·have:=iw f e c;omega
 ·exact d
theorem xv(a:Bool)(o m:Option Addr)(l k A z:Nat)(f d:List Nat)(w:World)(h1:eP w o f)(x:eP w m d)(q:f.length=l)(p:d.length=k)(s:l<17592186044416)(r:k<17592186044416):
 aT Tryz.prog 70 #[.bool a,.slice o l A,.bool a,.slice m k z] w (RI w (sg a (val f)+sg a (val d))):=by
 subst q p;refine bF (n:=33) Tryz.func70 F rfl aw aA ?_;refine gg ?_;refine aR (.inl F) a_ ?_;intro v j b k;have e:(a == a)=true:=by cases a<;>rfl
 refine gg ?_;refine te (by show Value.bool (a == a)=_;rw[e]) ?_;refine gg ?_;refine aJ (rL _ _ _ _ _ _ v (h1.Y b) (x.Y b) s r) ?_;rintro v e ⟨h,k⟩;refine gg ?_;refine aJ (dQ a v _ e k) ?_;rintro _ e ⟨g,e,e,rfl,c⟩;refine gg ?_;refine aV aN (.inl F) F rfl c.db c.de (j.Y (h.trans g)) ar ?_;intro e u i k;refine gg ?_;have t:Ext w e:=i.aK ((b.trans h).trans g) λb b=>aq;have y:sg a (val f+val d)=sg a (val f)+sg a (val d):=by cases a<;>simp[sg];omega
 rw[y]at c;exact dO F aN F u ⟨t,_,_,F,c.dj (j.Y (h.trans g)) cN i⟩
theorem xw(a:Bool)(I H:Option Addr)(A z T S:Nat)(f d:List Nat)(w:World)(h1:eP w I f)(s:eP w H d)(L:f.length=A)(K:d.length=z)(u:A<17592186044416)(t:z<17592186044416)(G:dw f)(E:dw d):
 aT Tryz.prog 70 #[.bool a,.slice I A T,.bool (!a),.slice H z S] w (RI w (sg a (val f)+sg (!a) (val d))):=by
 subst L K;refine bF (n:=33) Tryz.func70 F rfl aw aA ?_;refine gg ?_;refine aR (.inl F) a_ ?_;intro P o q z;have e:(a == !a)=false:=by cases a<;>rfl
 refine gg ?_;refine o9 (by show Value.bool (a == !a)=_;rw[e]) ?_;refine gg ?_;refine aJ (jR _ _ _ _ _ _ _ _ P (h1.Y q) (s.Y q) F rfl u t G E) ?_;rintro _ D ⟨k,rfl⟩;have g:=q.trans k;by_cases j:val f<val d
 ·have R:¬0<=dX (val f) (val d):=by rw[dX,ae j];decide
  have m:=fw s.e_ G (Nat.le_of_lt j);generalize dX (val f) (val d)=cz at*;refine gg ?_;refine aJ (nY _ _ _ _ _ _ _ _ D (s.Y g) (h1.Y g) F rfl t m (Nat.le_of_lt j)) ?_;rintro v y ⟨i,B⟩;refine gg ?_;refine aJ (dQ (!a) v _ y B) ?_;rintro _ O ⟨h,N,M,rfl,c⟩;refine gg ?_;refine aV aN (.inl F) F rfl c.db c.de (o.Y ((k.trans i).trans h)) ar ?_;intro x r l J;refine gg ?_;have p:Ext w x:=l.aK ((g.trans i).trans h) λb Q=>aq;have C:sg (!a) (val d-val f)=sg a (val f)+sg (!a) (val d):=by cases a<;>simp[sg]<;>omega
  rw[C]at c;exact dO F aN F r ⟨p,_,_,F,c.dj (o.Y ((k.trans i).trans h)) cN l⟩
 ·have R:0<=dX (val f) (val d):=by rw[dX,aa j];split<;>decide
  have m:=fw h1.e_ E (Nat.le_of_not_lt j);generalize dX (val f) (val d)=cz at*;refine gg ?_;refine aJ (nY _ _ _ _ _ _ _ _ D (h1.Y g) (s.Y g) F rfl u m (Nat.le_of_not_lt j)) ?_;rintro v y ⟨i,B⟩;refine gg ?_;refine aJ (dQ a v _ y B) ?_;rintro _ O ⟨h,N,M,rfl,c⟩;refine gg ?_;refine aV aN (.inl F) F rfl c.db c.de (o.Y ((k.trans i).trans h)) ar ?_;intro x r l J;refine gg ?_;have p:Ext w x:=l.aK ((g.trans i).trans h) λb Q=>aq;have C:sg a (val f-val d)=sg a (val f)+sg (!a) (val d):=by cases a<;>simp[sg]<;>omega
  rw[C]at c;exact dO F aN F r ⟨p,_,_,F,c.dj (o.Y ((k.trans i).trans h)) cN l⟩
theorem nJ(d c:Bool)(i h:Option Addr)(g f o n:Nat)(b a:List Nat)(w:World)(h1:eP w i b)(p:eP w h a)(k:b.length=g)(j:a.length=f)(m:g<17592186044416)(l:f<17592186044416)(r:dw b)(q:dw a):
 aT Tryz.prog 70 #[.bool d,.slice i g o,.bool c,.slice h f n] w (RI w (sg d (val b)+sg c (val a))):=by
 by_cases e:c=d
 ·subst e;exact xv c i h g f o n b a w h1 p k j m l
 ·obtain rfl:c=!d:=by cases d<;>cases c<;>simp_all
  exact xw d i h g f o n b a w h1 p k j m l r q
theorem nG(f d e c:Value)(b a:Int)(N:Nat)(w:World)(h1:IV w N f d b)(i:IV w N e c a)(j:N<17592186044416):
 aT Tryz.prog 114 #[.agg #[f,d],.agg #[e,c]] w (RI w (b+a)):=by
 obtain⟨a,a,a,a,rfl,rfl,m,l,h,a,rfl⟩:=h1;obtain⟨a,a,a,a,rfl,rfl,o,k,g,a,rfl⟩:=i;refine bF (n:=16) Tryz.func114 F rfl aw aA ?_;refine gg ?_;refine aZ (v:=.agg _) (.inl F) F ?_;intro a b i a;refine gg ?_;refine aZ (v:=.agg _) (.inl F) F ?_;intro a e d a;refine gg ?_;refine aR (.inl F) a_ ?_;intro a p c a;refine gg ?_;refine b7 [(0,3),(1,0),(2,3),(3,0),(5,3),(6,0),(7,3),(8,0),(4,1),(9,1),(10,1),(11,2)] mixed aw λj a _=>?_;have f:=b.Y ((d.trans c).trans a);have b:=e.Y (c.trans a);have e:=p.Y a;have p:=jy f;have p:=fG f;have f:=jy b;have f:=fG b;have b:=((i.trans d).trans c).trans a;refine gg ?_;refine aM (dn _ _ _ _ j (h.Y b) F m l) ?_;rintro _ _ ⟨rfl,m1,m,rfl,c,l⟩;refine⟨Ext.refl _,?_⟩;refine gg ?_;refine aM (dn _ _ _ _ j (g.Y b) F o k) ?_;rintro _ _ ⟨rfl,m2,f,rfl,a,k⟩;refine⟨Ext.refl _,?_⟩;refine gg ?_;refine aM (nJ _ _ _ _ _ _ _ _ _ _ j ((h.Y b).take m1) ((g.Y b).take m2) (List.length_take_of_le m) (List.length_take_of_le f) aq aq c a) ?_;rintro _ a ⟨c,a,a,rfl,a⟩;refine⟨c,?_⟩;refine gg ?_;refine aV aN (.inl F) F rfl a.db a.de (e.Y c) ar ?_;intro j h f g;refine gg ?_;have g:Ext w j:=f.aK (b.trans c) (λb b=>by have:=i.size;have:=d.size;omega);rw[l,k]at a;exact dO F aN F h ⟨g,_,_,F,a.dj (e.Y c) cN f⟩
theorem xu(f d e c:Value)(b a:Int)(N:Nat)(w:World)(h1:IV w N f d b)(g:IV w N e c a)(h:N<1099511627776):
 aT Tryz.prog 114 #[.agg #[f,d],.agg #[e,c]] w (RI w (b+a)):=nG f d e c b a N w h1 g aq
theorem oR(f d e c:Value)(b a:Int)(N:Nat)(w:World)(h1:IV w N f d b)(i:IV w N e c a)(j:N<17592186044416):
 aT Tryz.prog 42 #[.agg #[f,d],.agg #[e,c]] w (RI w (b-a)):=by
 obtain⟨a,a,a,a,rfl,rfl,m,l,h,a,rfl⟩:=h1;obtain⟨a,a,a,a,rfl,rfl,o,k,g,a,rfl⟩:=i;refine bF (n:=17) Tryz.func42 F rfl aw aA ?_;refine gg ?_;refine aZ (v:=.agg _) (.inl F) F ?_;intro a b i a;refine gg ?_;refine aZ (v:=.agg _) (.inl F) F ?_;intro a e d a;refine gg ?_;refine aR (.inl F) a_ ?_;intro a p c a;refine gg ?_;refine b7 [(0,3),(1,0),(2,3),(3,0),(5,3),(6,0),(7,3),(8,3),(9,0),(4,1),(10,1),(11,1),(12,2)] mixed aw λj a _=>?_;have f:=b.Y ((d.trans c).trans a);have b:=e.Y (c.trans a);have e:=p.Y a;have p:=jy f;have p:=fG f;have f:=jy b;have f:=fG b;have b:=((i.trans d).trans c).trans a;refine gg ?_;refine aM (dn _ _ _ _ j (h.Y b) F m l) ?_;rintro _ _ ⟨rfl,m1,m,rfl,c,l⟩;refine⟨Ext.refl _,?_⟩;refine gg ?_;refine aM (dn _ _ _ _ j (g.Y b) F o k) ?_;rintro _ _ ⟨rfl,m2,f,rfl,a,k⟩;refine⟨Ext.refl _,?_⟩;refine gg ?_;refine aM (nJ _ _ _ _ _ _ _ _ _ _ j ((h.Y b).take m1) ((g.Y b).take m2) (List.length_take_of_le m) (List.length_take_of_le f) aq aq c a) ?_;rintro _ a ⟨c,a,a,rfl,a⟩;refine⟨c,?_⟩;refine gg ?_;refine aV aN (.inl F) F rfl a.db a.de (e.Y c) ar ?_;intro j h f g;refine gg ?_;have g:Ext w j:=f.aK (b.trans c) (λb b=>by have:=i.size;have:=d.size;omega);rw[l,k,wH,<-Int.sub_eq_add_neg]at a;exact dO F aN F h ⟨g,_,_,F,a.dj (e.Y c) cN f⟩
theorem AO(f d e c:Value)(b a:Int)(N:Nat)(w:World)(h1:IV w N f d b)(g:IV w N e c a)(h:N<1099511627776):
 aT Tryz.prog 42 #[.agg #[f,d],.agg #[e,c]] w (RI w (b-a)):=oR f d e c b a N w h1 g aq
theorem AV(a b:Bool)(m n:Nat):sg (a != b) (m*n)=sg a m*sg b n:=by
 cases a<;>cases b<;>simp[sg,Int.neg_mul,Int.mul_neg]
theorem i_(f d e c:Value)(b a:Int)(N:Nat)(w:World)(h1:IV w N f d b)(i:IV w N e c a)(j:N<17592186044416):
 aT Tryz.prog 43 #[.agg #[f,d],.agg #[e,c]] w (RI w (b*a)):=by
 obtain⟨r,a,a,a,rfl,rfl,o,l,h,a,rfl⟩:=h1;obtain⟨q,a,a,a,rfl,rfl,m,k,g,a,rfl⟩:=i;refine bF (n:=18) Tryz.func43 F rfl aw aA ?_;refine gg ?_;refine aZ (v:=.agg _) (.inl F) F ?_;intro a b i a;refine gg ?_;refine aZ (v:=.agg _) (.inl F) F ?_;intro a f e a;refine gg ?_;refine aR (.inl F) a_ ?_;intro a p c a;refine gg ?_;refine b7 [(0,3),(1,0),(2,3),(3,0),(4,3),(5,3),(6,0),(8,3),(9,0),(7,1),(10,1),(11,1),(12,1),(13,2)] mixed aw λj a _=>?_;have d:=b.Y ((e.trans c).trans a);have b:=f.Y (c.trans a);have f:=p.Y a;have p:=jy d;have p:=fG d;have d:=jy b;have d:=fG b;have b:=((i.trans e).trans c).trans a;refine gg ?_;refine aM (dn _ _ _ _ j (h.Y b) F o l) ?_;rintro _ _ ⟨rfl,m1,c,rfl,a,l⟩;refine⟨Ext.refl _,?_⟩;refine gg ?_;refine aM (dn _ _ _ _ j (g.Y b) F m k) ?_;rintro _ _ ⟨rfl,m2,a,rfl,d,k⟩;refine⟨Ext.refl _,?_⟩;refine gg ?_;refine aM (zE _ _ _ _ _ _ _ _ j ((h.Y b).take m1) ((g.Y b).take m2) (List.length_take_of_le c) (List.length_take_of_le a) aq aq) ?_;rintro v a ⟨d,c⟩;refine⟨d,?_⟩;refine gg ?_;refine aM (dQ (r != q) v _ a c) ?_;rintro _ a ⟨a,c,c,rfl,c⟩;refine⟨a,?_⟩;refine gg ?_;refine aV aN (.inl F) F rfl c.db c.de (f.Y (d.trans a)) ar ?_;intro m j g h;refine gg ?_;have h:Ext w m:=g.aK ((b.trans d).trans a) (λb b=>by have:=i.size;have:=e.size;omega);rw[l,k,AV]at c;exact dO F aN F j ⟨h,_,_,F,c.dj (f.Y (d.trans a)) cN g⟩
theorem pK(f d e c:Value)(b a:Int)(N:Nat)(w:World)(h1:IV w N f d b)(g:IV w N e c a)(h:N<1099511627776):
 aT Tryz.prog 43 #[.agg #[f,d],.agg #[e,c]] w (RI w (b*a)):=i_ f d e c b a N w h1 g aq
theorem mD{P:Program}{n:Nat}{f:Fr}{w:World}{e:Func}{t u s:Tmp}{T G H:Nat}{a:Value->World->Prop}{x y c b v:Value}(p:e.results=#[.cell t T,.cell u T,.tmp s])(i:dL P T 2=true)
 (m:ev n f (.tmp t)=.pointer (some ⟨G,0,none⟩)) (l:ev n f (.tmp u)=.pointer (some ⟨H,0,none⟩)) (o:ev n f (.tmp s)=v) (g:bh w G T #[x,y]) (d:bh w H T #[c,b]) (h:a (.tuple #[.agg #[x,y],.agg #[c,b],v]) w):
 bodyPost P e (xB a) .ret (act n f) w:=by
 refine bodyPost_ret (v:=.tuple #[.agg #[x,y],.agg #[c,b],v]) ?_ F ⟨_,F,h⟩;have e:=congrFun (b9 n f) (.tmp t);have k:=congrFun (b9 n f) (.tmp u);have j:=congrFun (b9 n f) (.tmp s);simp only[Act.eval]at e k j;have q:w.cell? ⟨G,0,none⟩=some x:=by rw[g.cell];rfl
 have a:w.cell? ((⟨G,0,none⟩ : Addr).add 1)=some y:=by rw[add_lit,g.cell];rfl
 have g:w.cell? ⟨H,0,none⟩=some c:=by rw[d.cell];rfl
 have c:w.cell? ((⟨H,0,none⟩ : Addr).add 1)=some b:=by rw[add_lit,d.cell];rfl
 have b:=cW (P:=P) i q a;have a:=cW (P:=P) i g c;simp only[Instr.loadAt,Instr.sureAddr,Sem.run_bind,Sem.run_pure,Result.andThen_ok]at b a;have g:(act n f).tmps[t]?.getD undef=.pointer (some ⟨G,0,none⟩):=by rw[<-m,<-e];simp
 have d:(act n f).tmps[u]?.getD undef=.pointer (some ⟨H,0,none⟩):=by rw[<-l,<-k];simp
 have c:(act n f).tmps[s]?.getD undef=v:=by rw[<-o,<-j];simp
 simp[results,p,g,d,c,asAddr,b,a]
def RD(w:World)(b a:Int)(v:Value)(w':World):Prop:=Ext w w'/\∃x y d c,v=.tuple #[.agg #[x,y],.agg #[d,c],.bool true]/\CV w' x y (b/a)/\CV w' d c (b%a)
theorem Cc(c:Bool)(a b:Nat)(_hb:0<b):(a:Int)/sg c b=sg c (a/b)/\(a:Int)%sg c b=((a%b:Nat):Int):=by
 cases c
 ·simp[sg]
 ·simp[sg,Int.ediv_neg]
theorem sX(d:Bool)(a b q r:Nat)(e:0<b)(e:r<b)(h:a+r=q*b):(-(a:Int))/sg d b=sg (!d) q/\(-(a:Int))%sg d b=(r:Int):=by
 have c:(-(a:Int))/(b:Int)=-(q:Int)/\(-(a:Int))%(b:Int)=(r:Int):=by
  rw[Int.ediv_emod_unique aq];refine⟨?_,aq,aq⟩;have:(a:Int)+r=q*b:=by exact_mod_cast h
  rw[Int.mul_neg,Int.mul_comm];omega
 cases d
 ·simpa[sg]using c
 ·simp only[sg,if_true,Int.ediv_neg,Int.emod_neg];rw[c.1,c.2];simp
theorem dp(x1 y1 x2 Z:Value)(L a:Int)(N:Nat)(w:World)(h1:IV w N x1 y1 L)(h2:IV w N x2 Z a)(hN:N<17592186044416)(hz:a≠0):
 aT Tryz.prog 41 #[.agg #[x1,y1],.agg #[x2,Z]] w (RD w L a):=by
 obtain⟨g1,a,q,a,rfl,rfl,av,an,Y,a,rfl⟩:=h1;obtain⟨I,a,l,a,rfl,rfl,au,al,K,a,rfl⟩:=h2;have fg:0<val l:=by
  rcases Nat.eq_zero_or_pos (val l)with h|h
  ·exfalso;apply hz;rw[h];cases I<;>rfl
  ·exact h
 refine bF (n:=53) Tryz.func41 F rfl aw aA ?_;refine gg ?_;refine aZ (v:=.agg _) (.inl F) F ?_;intro a a2 ad a;refine gg ?_;refine aZ (v:=.agg _) (.inl F) F ?_;intro B ay Z a;refine gg ?_;refine aR (.inl F) a_ ?_;intro A ax L a;refine gg ?_;refine aR (.inl F) a_ ?_;intro M y a a3;have a3:=a2.Y ((Z.trans L).trans a);have a2:=ay.Y (L.trans a);have g:=ax.Y a;have f0:=jy a3;have f1:=fG a3;have k0:=jy a2;have k1:=fG a2;have C:=((ad.trans Z).trans L).trans a;have a:=ad.size;have a:=Z.size;have a:=L.size;refine gg ?_;refine aJ (dn _ _ _ _ M (K.Y C) F au al) ?_;rintro _ _ ⟨rfl,m2,V,rfl,ai,t⟩;have a:0<m2:=by
  rcases Nat.eq_zero_or_pos m2 with h|h
  ·subst h;simp[val]at t;omega
  ·exact h
 refine gg ?_;refine aP ?_;refine gg ?_;refine aJ (dn _ _ _ _ M (Y.Y C) F av an) ?_;rintro _ _ ⟨rfl,m1,a7,rfl,a,a0⟩;refine gg ?_;refine aJ (rE _ _ _ _ _ _ _ _ M ((Y.Y C).take m1) ((K.Y C).take m2) (List.length_take_of_le a7) (List.length_take_of_le V) aq aq a ai aq) ?_;rintro _ w5 ⟨vq,vr,rfl,m,P,hr⟩;rw[a0,t]at P hr;have f0:=aS m f0;have f1:=aS m f1;have k0:=aS m k0;have k1:=aS m k1;have aj:=(((K.Y C).take m2).Y m);obtain⟨Ar,O,cr,rfl,ab,a1,X,J,r⟩:=hr;have a:=C.trans m;have ak:=Nat.div_add_mod (val q) (val l);have a:=Nat.mod_lt (val q) fg;cases g1
 ·refine gg ?_;refine aP ?_;refine aP ?_;refine gg ?_;refine aJ (dQ I vq _ w5 P) ?_;rintro _ T ⟨p,xq,yq,rfl,x⟩;refine gg ?_;refine aJ (dQ false _ _ T (iV.Y ⟨Ar,O,cr,F,ab,a1,X,J,r⟩ p)) ?_;rintro _ S ⟨o,xr,yr,rfl,i⟩;have j:=x.Y o;have f:Ext M S:=(m.trans p).trans o;refine gg ?_;refine aV aN (.inl F) F rfl j.db j.de (g.Y f) ar ?_;intro R H c a5;refine gg ?_;refine aV aN (.inl F) F rfl i.db i.de ((y.Y f).ch c (show¬A.heap.size=B.heap.size by omega)) ar ?_;intro Q G d a4;refine gg ?_;have u:=H.ch d (show¬B.heap.size=A.heap.size by omega);have k:=(y.Y f).ch c (show¬A.heap.size=B.heap.size by omega);have E:Ext w R:=c.aK (C.trans f) λb U=>aq;have D:Ext w Q:=d.aK E λb U=>aq;have z:=(j.dj (g.Y f) cN c).dj k cN d;have s:=(i.dj (g.Y f) cN c).dj k cN d;have e:=Cc I (val q) (val l) fg;refine mD F aN F rfl (v:=.bool _) F u G ⟨D,_,_,_,_,F,?_,?_⟩
  ·rw[fc,e.1];exact z
  ·rw[fc,e.2];exact s
 ·by_cases a6:O.length=0
  ·have W:=List.eq_nil_of_length_eq_zero a6;have a:val q%val l=0:=by rw[<-r,W];rfl
   refine gg ?_;refine aP ?_;refine aP ?_;refine gg ?_;refine aJ (dQ (!I) vq _ w5 P) ?_;rintro _ T ⟨p,xq,yq,rfl,x⟩;refine gg ?_;refine aJ (dQ false _ _ T (iV.Y ⟨Ar,O,cr,F,ab,a1,X,J,r⟩ p)) ?_;rintro _ S ⟨o,xr,yr,rfl,i⟩;have j:=x.Y o;have f:Ext M S:=(m.trans p).trans o;refine gg ?_;refine aV aN (.inl F) F rfl j.db j.de (g.Y f) ar ?_;intro R H c a5;refine gg ?_;refine aV aN (.inl F) F rfl i.db i.de ((y.Y f).ch c (show¬A.heap.size=B.heap.size by omega)) ar ?_;intro Q G d a4;refine gg ?_;have u:=H.ch d (show¬B.heap.size=A.heap.size by omega);have k:=(y.Y f).ch c (show¬A.heap.size=B.heap.size by omega);have E:Ext w R:=c.aK (C.trans f) λb U=>aq;have D:Ext w Q:=d.aK E λb U=>aq;have z:=(j.dj (g.Y f) cN c).dj k cN d;have s:=(i.dj (g.Y f) cN c).dj k cN d;have e:=sX I (val q) (val l) (val q/val l) 0 fg fg (by rw[a]at ak;rw[Nat.mul_comm];omega);rw[a]at s;refine mD F aN F rfl (v:=.bool _) F u G ⟨D,_,_,_,_,F,?_,?_⟩
   ·rw[e9,e.1];exact z
   ·rw[e9,e.2];exact s
  ·have a:0<val q%val l:=by
    rcases Nat.eq_zero_or_pos (val q%val l)with h|h
    ·exact absurd (by rw[val_zero J (r.trans h)];rfl) a6
    ·exact h
   obtain⟨a,lq,a,rfl,a,a,a1,a,L⟩:=P;have Z:lq.length<17592186044416:=by
    have:val lq<=val (q.take m1):=by rw[L,a0];exact Nat.div_le_self _ _
    have:=fw ((Y.e_).take m1) a this;rw[List.length_take_of_le a7]at this;omega
   have W:O.length<=m2:=by
    have:val O<=val (l.take m2):=by rw[r,t];omega
    have:=fw ((K.e_).take m2) J this;rw[List.length_take_of_le V]at this;exact this
   refine gg ?_;refine aP ?_;refine aP ?_;refine gg ?_;refine eM (v0:=.int _ _) di F (.inl F) F rfl ?_;intro J K h a;have a:bh J w5.heap.size 90 (cells [1]):=K;refine gg ?_;refine aJ (rL _ _ _ _ lq [1] J (a1.Y h) (c7 a (by intro a a;simp at a;omega)) Z ar) ?_;rintro vq J ⟨a,P⟩;refine gg ?_;refine aJ (nY _ _ _ _ _ _ (l.take m2) O J (aj.Y (h.trans a)) (X.Y (h.trans a)) (List.length_take_of_le V) F aq W (by rw[t,r];omega)) ?_;rintro vr K ⟨J,hr⟩;refine gg ?_;refine aJ (dQ (!I) vq _ K (P.Y J)) ?_;rintro _ T ⟨p,xq,yq,rfl,x⟩;refine gg ?_;refine aJ (dQ false _ _ T (hr.Y p)) ?_;rintro _ S ⟨o,xr,yr,rfl,i⟩;have j:=x.Y o;have f:Ext M S:=((((m.trans h).trans a).trans J).trans p).trans o;refine gg ?_;refine aV aN (.inl F) F rfl j.db j.de (g.Y f) ar ?_;intro R H c a5;refine gg ?_;refine aV aN (.inl F) F rfl i.db i.de ((y.Y f).ch c (show¬A.heap.size=B.heap.size by omega)) ar ?_;intro Q G d a4;refine gg ?_;have u:=H.ch d (show¬B.heap.size=A.heap.size by omega);have k:=(y.Y f).ch c (show¬A.heap.size=B.heap.size by omega);have E:Ext w R:=c.aK (C.trans f) λb U=>aq;have D:Ext w Q:=d.aK E λb U=>aq;have z:=(j.dj (g.Y f) cN c).dj k cN d;have s:=(i.dj (g.Y f) cN c).dj k cN d;rw[L,show val [1]=1 from F]at z;rw[t,r]at s;have e:=sX I (val q) (val l) (val q/val l+1) (val l-val q%val l) fg aq (by rw[Nat.add_mul,Nat.mul_comm];omega);refine mD F aN F rfl (v:=.bool _) F u G ⟨D,_,_,_,_,F,?_,?_⟩
   ·rw[e9,e.1];exact z
   ·rw[e9,e.2];exact s
theorem kb(f d e c:Value)(b a:Int)(N:Nat)(w:World)(h1:IV w N f d b)(h:IV w N e c a)(g:N<1099511627776)(g:a≠0):
 aT Tryz.prog 41 #[.agg #[f,d],.agg #[e,c]] w (RD w b a):=dp f d e c b a N w h1 h aq g
