import Derived.Test.YtmfndnlifgphjaaGreatQzr
set_option maxHeartbeats 64000000
open Go.Proofs.YtmfndnlifgphjaaGreat




namespace Go.Proofs.Qq
section
open Go Go.cU Go.cV Go.Proofs
open Classical in
noncomputable def Dv (r:Nat) (b:Nat->Nat) (M:Nat->Nat->Int):Nat:=
 if n9 r b=true/\r<=8 then
  if ∀i j,i<r->j<i->M i j=M j i then
   if ∀q,q<r->0<Go.bc.aQ (q+1) M then 0 else 5
  else 4
 else 3
theorem qX{r:Nat}{b:Nat->Nat}{M:Nat->Nat->Int}:Dv r b M=0↔n9 r b=true/\r<=8/\(∀i j,i<r->j<i->M i j=M j i)/\∀q,q<r->0<Go.bc.aQ (q+1) M:=by
 unfold Dv;constructor
 ·intro h;by_cases a:n9 r b=true/\r<=8
  ·rw[ae a]at h;by_cases b:∀i j,i<r->j<i->M i j=M j i
   ·rw[ae b]at h;by_cases c:∀q,q<r->0<Go.bc.aQ (q+1) M
    ·exact⟨a.1,a.2,b,c⟩
    ·rw[aa c]at h;omega
   ·rw[aa b]at h;omega
  ·rw[aa a]at h;omega
 ·rintro⟨a,b,c,d⟩;rw[ae ⟨a,b⟩,ae c,ae d]
theorem qY{l:List Nat}{k:Nat}(d:dw l)(h:val l<B^k):l.length<=k:=by
 rcases Nat.lt_or_ge k l.length with c|c
 ·exfalso;have b:l≠[]:=by rintro rfl;simp at c
  have a:=mS b d;have b:B^k<=B^(l.length-1):=Nat.pow_le_pow_right ar aq;omega
 ·exact c
theorem zc{l:List Nat}(c:dw l)(h:0<l.length):0<val l:=by
 have b:l≠[]:=by rintro rfl;simp at h
 have a:=mS b c;have b:0<B^(l.length-1):=Nat.pow_pos ar;omega
theorem zK(v1 T:Value)(M L N:Nat)(w:World)(h1:iV w v1 M)(R:iV w T L)(od:M<B^N)(mP:L<B^N)(U:N<1099511627776):
 aT Tryz.prog 98 #[v1,T] w λv d=>Ext w d/\iV d v (Nat.gcd M L):=by
 obtain⟨o,b,l,rfl,J,I,c,s,rfl⟩:=h1;obtain⟨h,a,g,rfl,C,A,e,p,rfl⟩:=R;refine bF (n:=42) Tryz.func98 F rfl aw aA ?_;obtain⟨G,k⟩ : ∃G,G=Nat.gcd (val b) (val a):=⟨_,F⟩;rw[<-k];refine gg ?_;refine aX (λf d=>∃o b l h a g,f 0=.slice o b.length l/\f 1=.slice h a.length g/\Ext w d/\eP d o b/\eP d h a/\b.length<=2/\a.length<=2/\G=Nat.gcd (val b) (val a)) ?_ ?_
 ·refine gg ?_;refine aU (λm f d=>∃o b l h a g,m=val a/\f 0=.slice o b.length l/\f 1=.slice h a.length g/\Ext w d/\eP d o b/\eP d h a/\dw b/\dw a/\val b<B^N/\val a<B^N/\b.length<=l/\a.length<=g/\l<9223372036854775808/\g<9223372036854775808/\G=Nat.gcd (val b) (val a))
   (val a) ⟨o,b,l,h,a,g,F,F,F,Ext.refl _,c,e,s,p,od,mP,J,C,I,A,k⟩ ?_
  clear k c e s p od mP J C I A o b l h a g;rintro m f y ⟨o,b,l,h,a,g,rfl,j,i,u,c,e,s,p,od,mP,J,C,I,A,k⟩;rw[ui j,ui i];clear j i;have E:=qY s od;have D:=qY p mP;refine aX (λf d=>f 0=.slice o b.length l/\f 1=.slice h a.length g/\d=y/\(2<b.length\/2<a.length)) ?_ ?_
  ·refine aP ?_;by_cases h1:2<b.length
   ·refine gg ?_;exact⟨F,F,F,.inl h1⟩
   ·by_cases R:2<a.length
    ·refine gg ?_;exact⟨F,F,F,.inr R⟩
    ·refine gg ?_;exact⟨o,b,l,h,a,g,F,F,u,c,e,aq,aq,k⟩
  rintro f y ⟨j,i,rfl,I⟩;rw[ui j,ui i];clear j i;by_cases S:a.length=0
  ·refine gg ?_;refine aP ?_;refine aP ?_;refine gg ?_;refine aJ (lz _ _ _ _ y c F aq c.kZ) ?_;rintro v K ⟨t,Q⟩;refine gg ?_;refine cI (v:=v) F rfl ⟨u.trans t,?_⟩;rw[k,List.eq_nil_of_length_eq_zero S];simp only[val,Nat.gcd_zero_right];exact ky c.e_ s F Q
  ·have I:=zc p aq;refine gg ?_;refine aP ?_;refine aP ?_;refine gg ?_;refine aJ (rE _ _ _ _ _ _ b a y c e F rfl aq aq s p I) ?_;rintro _ K ⟨q,r,rfl,t,hq,V,J,U,rfl,R,M,T,L,s⟩;have H:=Nat.mod_lt (val b) I;refine gg ?_;refine⟨val J,by rw[s];exact H,h,a,g,V,J,U,F,F,F,u.trans t,e.Y t,T,p,L,mP,aq,C,R,A,M,?_⟩;rw[k,s,Nat.gcd_comm (val b),Nat.gcd_rec,Nat.gcd_comm]
 rintro f y ⟨o,b,l,h,a,g,j,i,u,c,e,E,D,k⟩;rw[ui j,ui i];clear j i;refine gg ?_;refine aJ (lL _ _ _ b y c F E) ?_;rintro _ _ ⟨rfl,rfl⟩;refine gg ?_;refine aJ (lL _ _ _ a y e F D) ?_;rintro _ _ ⟨rfl,rfl⟩;have P:=oQ c.e_ E;have O:=oQ e.e_ D;refine gg ?_;refine aX (λf d=>Ext w d/\f 7=.int .u64 (G:Int)/\G<18446744073709551616) ?_ ?_
 ·refine gg ?_;refine aU (λm f d=>∃x y,m=y/\f 7=.int .u64 ((x:Nat):Int)/\f 8=.int .u64 ((y:Nat):Int)/\Ext w d/\x<18446744073709551616/\y<18446744073709551616/\G=Nat.gcd x y)
   (val a) ⟨val b,val a,F,F,F,u,P,O,k⟩ ?_
  clear u;rintro m f K ⟨x,y,rfl,z,a,u,P,O,k⟩;rw[ui z,ui a];clear z a;refine aP ?_;by_cases S:m=0
  ·obtain rfl:G=x:=by rw[k,S,Nat.gcd_zero_right]
   refine gg ?_;exact⟨u,F,P⟩
  ·refine gg ?_;refine c8 [(0,3),(1,3),(2,3),(3,3),(4,3),(5,3)] mixed aw λc a _=>?_;refine gg ?_;refine jB F rfl aq ?_;have H:=Nat.mod_lt x (show 0<m by omega);refine gg ?_;refine⟨x%m,H,m,x%m,F,F,F,u.trans a,O,aq,?_⟩;rw[k,Nat.gcd_comm x,Nat.gcd_rec,Nat.gcd_comm]
 rintro f K ⟨t,z,b⟩;rw[ui z];refine gg ?_;refine aJ (fx G K b) ?_;rintro v c ⟨a,Q⟩;refine gg ?_;exact cI (v:=v) F rfl ⟨t.trans a,Q⟩
theorem GL(D B C A:Value)(c a:Int)(N:Nat)(w:World)(h1:IV w N D B c)(E:IV w N C A a)(I:N<1099511627776):
 aT Tryz.prog 73 #[.agg #[D,B],.agg #[C,A]] w (RI w ((Int.gcd c a:Nat):Int)):=by
 have z:=h1.bd;have y:=E.bd;obtain⟨r,a,g,a,rfl,rfl,k,i,m,a,rfl⟩:=h1;obtain⟨q,a,f,a,rfl,rfl,j,d,l,a,rfl⟩:=E;refine bF (n:=13) Tryz.func73 F rfl aw aA ?_;refine gg ?_;refine aZ (v:=.agg _) (.inl F) F ?_;intro a C o a;refine gg ?_;refine aZ (v:=.agg _) (.inl F) F ?_;intro a B e a;refine gg ?_;refine aR (.inl F) a_ ?_;intro a A c a;refine gg ?_;refine b7 [(0,3),(1,0),(3,3),(4,0),(2,1),(5,1),(6,1),(7,1),(8,2)] mixed aw λp a _=>?_;have h:=A.Y a;have A:=fG (C.Y ((e.trans c).trans a));have A:=fG (B.Y (c.trans a));have b:=((o.trans e).trans c).trans a;refine gg ?_;refine aM (dn _ _ _ _ p (m.Y b) F k i) ?_;rintro _ _ ⟨rfl,m1,H,rfl,x,t⟩;refine⟨Ext.refl _,?_⟩;refine gg ?_;refine aM (dn _ _ _ _ p (l.Y b) F j d) ?_;rintro _ _ ⟨rfl,m2,G,rfl,u,s⟩;refine⟨Ext.refl _,?_⟩;have K:(sg r (val g)).natAbs=val g:=by cases r<;>simp[sg]
 have J:(sg q (val f)).natAbs=val f:=by cases q<;>simp[sg]
 refine gg ?_;refine aM (zK _ _ (val g) (val f) N p (fE (m.Y b) H k i x t F) (fE (l.Y b) G j d u s F) (by unfold Bd at z;omega) (by unfold Bd at y;omega) I) ?_;rintro v a ⟨d,c⟩;refine⟨d,?_⟩;refine gg ?_;refine aM (dQ false v _ a c) ?_;rintro _ a ⟨a,c,c,rfl,c⟩;refine⟨a,?_⟩;refine gg ?_;refine aV aN (.inl F) F rfl c.db c.de (h.Y (d.trans a)) ar ?_;intro l k i j;refine gg ?_;have j:Ext w l:=i.aK ((b.trans d).trans a) (λb b=>by have:=o.size;have:=e.size;omega);have e:sg false (Nat.gcd (val g) (val f))=((Int.gcd (sg r (val g)) (sg q (val f)):Nat):Int):=by
  unfold Int.gcd;rw[K,J];rfl
 rw[e]at c;exact dO F aN F k ⟨j,_,_,F,c.dj (h.Y (d.trans a)) cN i⟩
section
variable {P:Program}{n:Nat}{S:World->World->Prop}{k:Nat}{K:Fr->World->Prop}{f:Fr}{w:World}{d ty t t2:Nat}{x y:Operand}{pos:String}{aft:Array Edge}{gd:Option (Nat×Bool)}
theorem iF(b:dL P t 4=true){p:Addr}{v0 v1 a v3:Value}(g:w.cell? p=some v0)(h1:w.cell? (p.add 1)=some v1)(e:w.cell? (p.add 2)=some a)(c:w.cell? (p.add 3)=some v3):(Instr.loadAt t (.pointer (some p))).run P w=.ok (.agg #[v0,v1,a,v3]) w:=by
 simp[Instr.loadAt,Instr.sureAddr,loadVar,iG b,fP b,loadCells,loadCellsFrom,load,Sem.run,g,h1,e,c,add_zero]
theorem kg(i:k≠3)(e:dL P t 4=true){p:Addr}{v0 v1 a v3:Value}(b:ev n f x=.pointer (some p))(l:w.cell? p=some v0)(h1:w.cell? (p.add 1)=some v1)(j:w.cell? (p.add 2)=some a)(g:w.cell? (p.add 3)=some v3)(h:K (bS f d (.agg #[v0,v1,a,v3])) w):
 R1 P n (λ_ _=>False) k ⟨some d,.load t x,ty,pos,aft,gd⟩ K f w:=by
 refine fX i (v:=.agg #[v0,v1,a,v3]) (λa c=>?_) h;obtain rfl:=c.resolve_left id;simp only[execOp,b,Sem.run_bind,iF e l h1 j g,Result.andThen_ok,Sem.run_pure]
theorem l5(b:k≠3)(m:dL P t 4=true){p:Addr}{v0 v1 c v3:Value}(l:ev n f x=.pointer (some p))(j:w.cell? p=some v0)(h1:w.cell? (p.add 1)=some v1)(i:w.cell? (p.add 2)=some c)(g:w.cell? (p.add 3)=some v3)(h:K (bS f d (.agg #[v0,v1,c,v3])) w):
 R1 P n Ext k ⟨some d,.load t x,ty,pos,aft,gd⟩ K f w:=by
 refine fX b (v:=.agg #[v0,v1,c,v3]) (λb a=>?_) h;have e:b.cell? p=some v0/\b.cell? (p.add 1)=some v1/\b.cell? (p.add 2)=some c/\b.cell? (p.add 3)=some v3:=by
  rcases a with a|rfl
  ·exact⟨aS a j,aS a h1,aS a i,aS a g⟩
  ·exact⟨j,h1,i,g⟩
 simp only[execOp,l,Sem.run_bind,iF m e.1 e.2.1 e.2.2.1 e.2.2.2,Result.andThen_ok,Sem.run_pure]
theorem pD(q:dL P t 4=true){g i:Nat}{T:TypeId}{cs:Array Value}{v0 v1 a v3:Value}(p:v0.oneCell'=true)(o:v1.oneCell'=true)(m:a.oneCell'=true)(l:v3.oneCell'=true)(c:bh w g T cs)(b:i+3<cs.size):
 (Instr.storeAt t (.pointer (some ⟨g,i,none⟩)) (.agg #[v0,v1,a,v3])).run P w=.ok () ((((w.setCell ⟨g,i,none⟩ v0).setCell ⟨g,i+1,none⟩ v1).setCell ⟨g,i+2,none⟩ a).setCell ⟨g,i+3,none⟩ v3):=by
 have r:w.cell? ⟨g,i,none⟩=some cs[i]:=by rw[c.cell];simp
 have od:=c.set i v0;have j:(w.setCell ⟨g,i,none⟩ v0).cell? ⟨g,i+1,none⟩=some cs[i+1]:=by rw[od.cell];simp[show i+1<cs.size by omega]
 have mP:=od.set (i+1) v1;have h:((w.setCell ⟨g,i,none⟩ v0).setCell ⟨g,i+1,none⟩ v1).cell? ⟨g,i+2,none⟩=some cs[i+2]:=by rw[mP.cell];simp[show i+2<cs.size by omega]
 have b:=mP.set (i+2) a;have e:(((w.setCell ⟨g,i,none⟩ v0).setCell ⟨g,i+1,none⟩ v1).setCell ⟨g,i+2,none⟩ a).cell? ⟨g,i+3,none⟩=some cs[i+3]:=by rw[b.cell];simp[show i+3<cs.size by omega]
 simp[Instr.storeAt,Instr.sureAddr,storeVar,fP q,Value.cells,storeCells,ft p r (c.frozen i),add_zero,add_lit,ft o j (od.frozen (i+1)),ft m h (mP.frozen (i+2)),ft l e (b.frozen (i+3))]
theorem kf(r:dL P t 4=true){g i:Nat}{T:TypeId}{cs:Array Value}{v0 v1 a v3:Value}(u:k=2\/k=1/\∀w',Ch (λb=>b=g) w w'->S w w')(q:ev n f x=.pointer (some ⟨g,i,none⟩))(p:ev n f y=.agg #[v0,v1,a,v3])(o:v0.oneCell'=true)(m:v1.oneCell'=true)(l:a.oneCell'=true)(j:v3.oneCell'=true)(e:bh w g T cs)(s:i+3<cs.size)
 (h:∀w',bh w' g T ((((cs.setIfInBounds i v0).setIfInBounds (i+1) v1).setIfInBounds (i+2) a).setIfInBounds (i+3) v3)->Ch (λb=>b=g) w w'->w'.heap.size=w.heap.size->K f w'):
 R1 P n S k ⟨none,.store t x y,ty,pos,aft,gd⟩ K f w:=by
 have c:Ch (λb=>b=g) w ((((w.setCell ⟨g,i,none⟩ v0).setCell ⟨g,i+1,none⟩ v1).setCell ⟨g,i+2,none⟩ a).setCell ⟨g,i+3,none⟩ v3):=(((eh w ⟨g,i,none⟩ v0).trans (eh _ ⟨g,i+1,none⟩ v1)).trans (eh _ ⟨g,i+2,none⟩ a)).trans (eh _ ⟨g,i+3,none⟩ v3);refine nM (w':=(((w.setCell ⟨g,i,none⟩ v0).setCell ⟨g,i+1,none⟩ v1).setCell ⟨g,i+2,none⟩ a).setCell ⟨g,i+3,none⟩ v3) (u.imp id λh=>⟨h.1,h.2 _ c⟩) rfl ?_ (h _ ((((e.set i v0).set (i+1) v1).set (i+2) a).set (i+3) v3) c (by simp only[size_setCell]));simp only[execOp,q,p,Sem.run_bind,pD r o m l j e s,Result.andThen_ok,Sem.run_pure]
theorem FR{l:Func}{i:Tmp}{T G:Nat}{g:Value->World->Prop}{a b c e:Value}(o:l.results=#[.cell i T])(p:dL P T 4=true)(m:ev n f (.tmp i)=.pointer (some ⟨G,0,none⟩))(j:bh w G T #[a,b,c,e])(h:g (.agg #[a,b,c,e]) w):bodyPost P l (xB g) .ret (act n f) w:=by
 refine bodyPost_ret (v:=.agg #[a,b,c,e]) ?_ F ⟨_,F,h⟩;have l:=congrFun (b9 n f) (.tmp i);simp only[Act.eval]at l;have u:w.cell? ⟨G,0,none⟩=some a:=by rw[j.cell];rfl
 have s:w.cell? ((⟨G,0,none⟩ : Addr).add 1)=some b:=by rw[add_lit,j.cell];rfl
 have r:w.cell? ((⟨G,0,none⟩ : Addr).add 2)=some c:=by rw[add_lit,j.cell];rfl
 have q:w.cell? ((⟨G,0,none⟩ : Addr).add 3)=some e:=by rw[add_lit,j.cell];rfl
 have g:=iF (P:=P) p u s r q;simp only[Instr.loadAt,Instr.sureAddr,Sem.run_bind,Sem.run_pure,Result.andThen_ok]at g;have j:(act n f).tmps[i]?.getD undef=.pointer (some ⟨G,0,none⟩):=by rw[<-m,<-l];simp
 simp[results,o,j,asAddr,g]
theorem A7{l:Func}{i u:Tmp}{T G:Nat}{g:Value->World->Prop}{a b c e v:Value}(q:l.results=#[.cell i T,.tmp u])(r:dL P T 4=true)(o:ev n f (.tmp i)=.pointer (some ⟨G,0,none⟩))(j:bh w G T #[a,b,c,e])(p:ev n f (.tmp u)=v)(h:g (.tuple #[.agg #[a,b,c,e],v]) w):bodyPost P l (xB g) .ret (act n f) w:=by
 refine bodyPost_ret (v:=.tuple #[.agg #[a,b,c,e],v]) ?_ F ⟨_,F,h⟩;have m:=congrFun (b9 n f) (.tmp i);have l:=congrFun (b9 n f) (.tmp u);simp only[Act.eval]at m l;have B:w.cell? ⟨G,0,none⟩=some a:=by rw[j.cell];rfl
 have A:w.cell? ((⟨G,0,none⟩ : Addr).add 1)=some b:=by rw[add_lit,j.cell];rfl
 have z:w.cell? ((⟨G,0,none⟩ : Addr).add 2)=some c:=by rw[add_lit,j.cell];rfl
 have s:w.cell? ((⟨G,0,none⟩ : Addr).add 3)=some e:=by rw[add_lit,j.cell];rfl
 have g:=iF (P:=P) r B A z s;simp only[Instr.loadAt,Instr.sureAddr,Sem.run_bind,Sem.run_pure,Result.andThen_ok]at g;have j:(act n f).tmps[i]?.getD undef=.pointer (some ⟨G,0,none⟩):=by rw[<-o,<-m];simp
 have i:(act n f).tmps[u]?.getD undef=v:=by rw[<-p,<-l];simp
 simp[results,q,j,i,asAddr,g]
end
theorem dU:dL Tryz.prog 42 4=true:=by kernel_rfl
theorem kV:im Tryz.prog 42 (.agg #[.bool false,.slice none 0 0,.bool false,.slice none 0 0]):=by unfold im;kernel_rfl
theorem pr:cP Tryz.prog 29 42 4 64 (.agg #[.bool false,.slice none 0 0,.bool false,.slice none 0 0]):=⟨Tryz.underlying29,by kernel_rfl⟩
section
variable {n:Nat}{S:World->World->Prop}{k:Nat}{K:Fr->World->Prop}{f:Fr}{w:World}{d ty t t2:Nat}{x y:Operand}{pos:String}{aft:Array Edge}{gd:Option (Nat×Bool)}
theorem om{a b c e:Value}(j:ev n f x=.agg #[a,b])(g:ev n f y=.agg #[c,e])(h:K (bS f d (.agg #[a,b,c,e])) w):
 R1 Tryz.prog n S k ⟨some d,.build 42 #[(0,x),(1,y)],ty,pos,aft,gd⟩ K f w:=by
 refine cD (v:=.agg #[a,b,c,e]) (λw=>?_) h;have l:(#[(0,x),(1,y)]:Array (Nat×Operand)).map (λ(i,x)=>(i,ev n f x))=#[(0,.agg #[a,b]),(1,.agg #[c,e])]:=by simp[j,g]
 simp[execOp,l,Instr.build,run_underlying Tryz.underlying42,Instr.fill,Value.cells,fP aN]
theorem qk{g N N':Nat}{cn e:Bool}{z z':Int}{a b:Value}(q:k=2\/k=1/\∀c,Ch (λb=>b=g) w c->S w c)(m:ev n f x=.pointer (some ⟨g,0,none⟩))(j:ev n f y=.agg #[a,b])(p:Bx w g N cn z)(i:EV w N' e a b z')
 (h:∀c,Bx c g N' e z'->Ch (λb=>b=g) w c->Kp w c->c.heap.size=w.heap.size->K f c):
 R1 Tryz.prog n S k ⟨none,.store 35 x y,ty,pos,aft,gd⟩ K f w:=by
 obtain⟨u,v,l,o⟩:=p;refine aV aN q m j i.1.db i.1.de l aA ?_;intro c m j p;have e:=cK l o.1.jn j;exact h c ⟨a,b,m,i.kp e⟩ j e p
end
def fF(n d:Int):Int:=if d<0 then -((Int.gcd n d:Nat):Int)else((Int.gcd n d:Nat):Int)
def ic(n d:Int):Int:=n/fF n d
def fL(n d:Int):Int:=d/fF n d
theorem Eg{n d:Int}(h:d≠0):fF n d≠0:=by
 have:Int.gcd n d≠0:=λe=>h (Int.gcd_eq_zero_iff.1 e).2;unfold fF;split<;>omega
theorem BK{n d:Int}{N:Nat}(h:d≠0)(a:Bd N d):Bd N ((Int.gcd n d:Nat):Int):=by
 unfold Bd at*;have a:Int.gcd n d<=d.natAbs:=Nat.le_of_dvd aq (Nat.gcd_dvd_right _ _);have:(((Int.gcd n d:Nat):Int)).natAbs=Int.gcd n d:=Int.natAbs_natCast _;omega
theorem Bd.Gy{N:Nat}{z:Int}(h:Bd N z):Bd N (-z):=by unfold Bd at *;rw[Int.natAbs_neg];exact h
def CX(w:World)(a b:Int)(v:Value)(w':World):Prop:=Ext w w'/\∃x y d c,v=.agg #[x,y,d,c]/\CV w' x y a/\CV w' d c b
theorem ob{a b c e:Value}(h:∃q,a=.bool q)(g:∃A m c,b=.slice A m c)(f:∃q,c=.bool q)(d:∃A m c,e=.slice A m c):jL #[a,b,c,e]:=by
 obtain⟨_,rfl⟩:=h;obtain⟨_,_,_,rfl⟩:=g;obtain⟨_,rfl⟩:=f;obtain⟨_,_,_,rfl⟩:=d;intro i k z d
 match i with
 |0=>simp at d
 |1=>simp at d
 |2=>simp at d
 |3=>simp at d
 |i+4=>simp at d
theorem zH(k b i a:Value)(o j:Int)(N:Nat)(w:World)(h1:IV w N k b o)(r:IV w N i a j)(G:N<1099511627776)(R:j≠0):
 aT Tryz.prog 51 #[.agg #[k,b],.agg #[i,a]] w (CX w (ic o j) (fL o j)):=by
 refine bF (n:=31) Tryz.func51 F rfl aw aA ?_;refine gg ?_;refine aZ (v:=.agg _) (.inl F) F ?_;intro p d h s;have m:Bx p w.heap.size N false o:=⟨k,b,d,(h1.Y h),λe=>by cases e⟩;obtain⟨T,b⟩ : ∃g,g=w.heap.size:=⟨_,F⟩;rw[<-b]at m⊢;refine gg ?_;refine aZ (v:=.agg _) (.inl F) F ?_;intro l c f b;have q:Bx l p.heap.size N false j:=⟨i,a,c,(r.Y (h.trans f)),λe=>by cases e⟩;obtain⟨S,a⟩ : ∃g,g=p.heap.size:=⟨_,F⟩;rw[<-a]at q⊢;refine gg ?_;refine aR (.inl F) kV ?_;intro i a b e;have s:bh i l.heap.size 42 #[.bool false,.slice none 0 0,.bool false,.slice none 0 0]:=a;obtain⟨Q,e⟩ : ∃g,g=l.heap.size:=⟨_,F⟩;rw[<-e]at s⊢;clear d c a;have k:=m.Y (f.trans b);have e:=q.Y b;have l:=h.trans (f.trans b);obtain⟨P,M,d,a⟩:=id k;obtain⟨D,p⟩:=a9 d;obtain⟨W,V,z,r⟩:=id e;obtain⟨I,C⟩:=a9 z;refine gg ?_;refine aJ (GL _ _ _ _ _ _ N i a.1 r.1 G) ?_;rintro _ x ⟨c,i,i,rfl,E⟩;have y:=BK (n:=o) R r.bd;have i:=h.size;have h:=f.size;have f:=b.size;have b:=c.size;refine gg ?_;refine aR (.inl F) a_ ?_;intro b t i K;have h:Bx b x.heap.size 1 true 0:=Bx.zero true t;obtain⟨H,A⟩ : ∃g,g=x.heap.size:=⟨_,F⟩;rw[<-A]at h⊢;refine gg ?_;refine aL (.inl F) F rfl h ((E.Y i).ev true y) ?_;intro O u g L B;have f:Ext x O:=g.aK i λb J=>aq;have U:x.heap.size<=H:=aq;clear h t i K B g L A;replace k:=k.Y (c.trans f);replace e:=e.Y (c.trans f);replace s:=s.Y (c.trans f);have B:=l.trans (c.trans f);clear D p I C d z a r E m q l c f;obtain⟨W,V,z,r⟩:=id e;obtain⟨I,C⟩:=a9 z;refine gg ?_;refine aX (λf c=>f 2=.pointer (some ⟨T,0,none⟩)/\f 3=.pointer (some ⟨S,0,none⟩)/\f 4=.pointer (some ⟨Q,0,none⟩)/\f 5=.pointer (some ⟨H,0,none⟩)/\Ext w c/\Bx c T N false o/\Bx c S N false j/\bh c Q 42 #[.bool false,.slice none 0 0,.bool false,.slice none 0 0]/\Bx c H N true (fF o j)) ?_ ?_
 ·refine gg ?_;refine aJ (mZ _ _ _ _ O r.1 G) ?_;rintro _ K ⟨l,rfl⟩;clear I C;by_cases A:j<0
  ·have U:j.sign<0:=by rw[Int.sign_eq_neg_one_of_neg A];decide
   obtain⟨O,L,g,c⟩:=u.Y l;obtain⟨E,x⟩:=a9 g;refine gg ?_;refine aJ (wY _ _ _ N K c.1 G) ?_;rintro _ T ⟨h,i,b2,rfl,i⟩;refine gg ?_;refine aL (N':=N) (.inl F) F rfl (u.Y (l.trans h)) (i.ev true y.Gy) ?_;intro Q H i y S;have t:=l.trans h;refine gg ?_;refine⟨F,F,F,F,i.aK (B.trans t) λb J=>aq,(k.Y t).kp y i aq,(e.Y t).kp y i aq,(s.Y t).ch i aq,?_⟩;unfold fF;rw[ae A];exact H
  ·have U:¬j.sign<0:=by rw[Int.sign_eq_one_of_pos (show 0<j by omega)];decide
   refine gg ?_;refine⟨F,F,F,F,B.trans l,k.Y l,e.Y l,s.Y l,?_⟩;unfold fF;rw[aa A];exact u.Y l
 clear k e s u B I C z r;rintro f K ⟨l,k,f,e,s,m,q,r,u⟩;rw[ui l,ui k,ui f,ui e];clear l k f e;have f:=Eg (n:=o) R;obtain⟨P,M,d,a⟩:=id m;obtain⟨D,p⟩:=a9 d;obtain⟨O,L,g,c⟩:=id u;obtain⟨E,x⟩:=a9 g;refine gg ?_;refine aJ (kb _ _ _ _ _ _ N K a.1 c.1 G f) ?_;rintro _ T ⟨h,e,e,rx,e,rfl,hq,z⟩;have od:Bd N (ic o j):=a.bd.ediv;refine gg ?_;refine qk (.inl F) F rfl (m.Y h) (hq.ev true od) ?_;intro Q k i y S;have e:=(q.Y h).kp y i aq;have H:=(u.Y h).kp y i aq;have l:=(r.Y h).ch i aq;have t:=i.aK (s.trans h) λb J=>aq;clear D p E x d g a c m q u r s hq z h;obtain⟨P,M,d,a⟩:=id e;obtain⟨D,p⟩:=a9 d;obtain⟨O,L,g,c⟩:=id H;obtain⟨E,x⟩:=a9 g;refine gg ?_;refine aJ (kb _ _ _ _ _ _ N Q a.1 c.1 G f) ?_;rintro _ f ⟨f,h,h,h,h,rfl,h,i⟩;have mP:Bd N (fL o j):=a.bd.ediv;refine gg ?_;refine qk (.inl F) F rfl (e.Y f) (h.ev true mP) ?_;intro e i e h j;have j:=(k.Y f).kp h e aq;have h:=(l.Y f).ch e aq;have k:=e.aK (t.trans f) λb J=>aq;clear D p E x d g a c;obtain⟨P,M,d,a⟩:=id j;obtain⟨D,p⟩:=a9 d;obtain⟨O,L,g,c⟩:=id i;obtain⟨E,x⟩:=a9 g;refine gg ?_;refine om F rfl ?_;refine gg ?_;refine kf dU (.inl F) F rfl a.1.db a.1.de c.1.db c.1.de h ar ?_;intro d f e d;have d:=cK h (ob ⟨_,F⟩ ⟨_,_,_,F⟩ ⟨_,F⟩ ⟨_,_,_,F⟩).jn e;refine gg ?_;exact FR F dU F f ⟨e.aK k λb J=>aq,_,_,_,_,F,(a.2 F).kp d,(c.2 F).kp d⟩
theorem zx(f d e b:Value)(a c:Int)(N:Nat)(w:World)(h1:IV w N f d a)(o:IV w N e b c)(m:N<1099511627776)(l:c≠0):
 aT Tryz.prog 24 #[.agg #[f,d],.agg #[e,b]] w λv b=>∃u,v=.tuple #[u,.bool true]/\CX w (ic a c) (fL a c) u b:=by
 refine bF (n:=13) Tryz.func24 F rfl aw aA ?_;refine gg ?_;refine aZ (v:=.agg _) (.inl F) F ?_;intro a d i a;refine gg ?_;refine aZ (v:=.agg _) (.inl F) F ?_;intro g p f a;refine gg ?_;refine aR (.inl F) kV ?_;intro e b a h;have h:bh e g.heap.size 42 #[.bool false,.slice none 0 0,.bool false,.slice none 0 0]:=b;obtain⟨k,g⟩:=a9 (d.Y (f.trans a));obtain⟨j,d⟩:=a9 (p.Y a);have b:=i.trans (f.trans a);refine gg ?_;refine aP ?_;refine gg ?_;refine aJ (mZ _ _ _ _ e (o.Y b) m) ?_;rintro _ p ⟨a,rfl⟩;have e:¬c.sign=0:=λe=>l (Int.sign_eq_zero_iff_zero.1 e);have k:=aS a k;have g:=aS a g;have j:=aS a j;have d:=aS a d;refine gg ?_;refine aJ (zH _ _ _ _ _ _ N p (h1.Y (b.trans a)) (o.Y (b.trans a)) m l) ?_;rintro _ c ⟨e,x,y,c,c,rfl,d,c⟩;refine gg ?_;refine kf dU (.inl F) F rfl d.db d.de c.db c.de (h.Y (a.trans e)) ar ?_;intro g k j g;have g:=cK (h.Y (a.trans e)) (ob ⟨_,F⟩ ⟨_,_,_,F⟩ ⟨_,F⟩ ⟨_,_,_,F⟩).jn j;have h:=(i.trans f).size;refine gg ?_;exact A7 F dU F k F ⟨_,F,j.aK (b.trans (a.trans e)) λb a=>aq,_,_,_,_,F,d.kp g,c.kp g⟩
end
section
open Go Go.cU Go.cV Go.Proofs
open Go.bc (sw jE ep qZ kO)
section
variable {w w':World}{gO gE r c N:Nat}{ps:Nat->Nat}{cn:Bool}{M:Nat->Nat->Int}
theorem fl.swap{k p:Nat}(h:fl w gO gE ps r c cn N M)(g:k<r)(f:p<r)(o:Ch (λb=>b=gO) w w')(n:Kp w w')
 (b:bh w' gO 27 (arr r (bS (bS (λi=>.slice (some ⟨gE,0+ps i*c*2,none⟩) c c) k (.slice (some ⟨gE,0+ps p*c*2,none⟩) c c)) p (.slice (some ⟨gE,0+ps k*c*2,none⟩) c c)))):
 fl w' gO gE (λi=>ps (sw k p i)) r c cn N (jE k p M):=by
 refine⟨?_,?_,h.ne,λi d=>h.lt _ (kO g f d),λi j d l e=>?_⟩
 ·rw[du (h':=λi=>.slice (some ⟨gE,0+ps (sw k p i)*c*2,none⟩) c c)]at b
  ·exact b
  ·intro i _;unfold sw;by_cases m:i=p
   ·subst m;rw[bG];by_cases a:i=k
    ·rw[ae a,a]
    ·rw[aa a,ae F]
   ·rw[bw _ _ m];by_cases a:i=k
    ·subst a;rw[bG,ae F]
    ·rw[bw _ _ a,aa a,aa m]
 ·obtain⟨aI,b,a⟩:=h.flat;refine⟨aI,b.kp n o h.ne,λi j d l=>?_⟩;rw[ep];exact a _ j (kO g f d) l
 ·have:=h.inj _ _ (kO g f d) (kO g f l) e;rw[<-qZ k p i,this,qZ]
end
def Jb(w:World)(gO gE:Nat)(ps:Nat->Nat)(n c:Nat)(cn:Bool)(N k:Nat)(A:Nat->Nat->Int)(v:Value)(w':World):Prop:=
 (v=.bool false/\Ext w w'/\∀i,k<=i->i<n->A i k=0)\/(v=.bool true/\∃p,k<=p/\p<n/\A p k≠0/\Ch (λb=>b=gO) w w'/\Kp w w'/\fl w' gO gE (λi=>ps (sw k p i)) n c cn N (jE k p A))
theorem uT(gO gE n c N k:Nat)(ps:Nat->Nat)(cn:Bool)(A:Nat->Nat->Int)(w:World)(x:fl w gO gE ps n c cn N A)(H:k<n)(L:k<c)(m:n<1048576)(O:N<1099511627776):
 aT Tryz.prog 22 #[.slice (some ⟨gO,0,none⟩) n n,.int .i64 (k:Int)] w (Jb w gO gE ps n c cn N k A):=by
 refine bF (n:=36) Tryz.func22 F rfl aw aA ?_;refine gg ?_;refine aX (λf w'=>Ext w w'/\∀a,k<=a->a<n->A a k=0) ?_ ?_
 ·refine gg ?_;refine aU (λm f w'=>∃i,m=n-i/\k<=i/\i<=n/\f 0=.slice (some ⟨gO,0,none⟩) n n/\f 1=.int .i64 (k:Int)/\f 5=.int .i64 ((i:Nat):Int)/\Ext w w'/\∀a,k<=a->a<i->A a k=0)
   (n-k) ⟨k,F,aD,aq,F,F,F,Ext.refl _,λa l I=>absurd l aq⟩ ?_
  rintro m f G ⟨i,rfl,J,m,u,t,m,j,b⟩;rw[ui u,ui t,ui m];clear u t m;refine aP ?_;by_cases d:i<n
  ·have h:=x.Y j;have E:=h.at d;obtain⟨x,y,t,m,u⟩:=h.entry d L;refine gg ?_;refine aJ (mZ _ _ _ _ G u.1 O) ?_;rintro _ u ⟨o,rfl⟩;clear E t m;by_cases p:A i k=0
   ·have K:(A i k).sign=0:=by rw[p];rfl
    refine gg ?_;refine⟨_,?_,i+1,F,aq,aq,F,F,F,j.trans o,λa l I=>?_⟩
    ·omega
    ·by_cases e:a=i
     ·subst e;exact p
     ·exact b a l aq
   ·have K:¬(A i k).sign=0:=λe=>p (Int.sign_eq_zero_iff_zero.1 e);refine gg ?_;refine b7 [(0,3),(1,3),(2,3),(3,3),(4,3),(5,3),(6,3),(7,0),(8,3),(9,3),(10,3),(11,0),(12,3),(13,2),(14,3),(15,2)] mixed aw λm z _=>?_;have g:=h.Y (o.trans z);have E:=g.at d;have m:=g.at H;refine gg ?_;refine cH (aW F) (.inl F) F rfl g.outer (by rw[bk];omega) ?_;intro h h C t;rw[cC,show 0+k*1=k by omega]at h;have s:=cK g.outer (dJ λ_ _=>⟨_,_,_,rfl⟩).jn C;clear E m;refine gg ?_;refine cH (aW F) (.inl F) F rfl h (by rw[bk];omega) ?_;intro m D B m;rw[cC,show 0+i*1=i by omega]at D;have q:=cK h (dJ λa _=>by
     by_cases e:a=k
     ·subst e;exact⟨_,_,_,bG _ _ _⟩
     ·exact⟨_,_,_,bw _ _ e⟩).jn B
    have e:=j.trans (o.trans z);have m:=C.trans B;refine gg ?_;exact cI (v:=.bool _) F rfl (.inr ⟨F,i,J,d,p,(e.mono λ_ _ h=>h.elim).trans m,(bN e).trans (s.trans q),g.swap H d m (s.trans q) D⟩)
  ·refine gg ?_;exact⟨j,λa l I=>b a l aq⟩
 rintro f G ⟨j,b⟩;refine gg ?_;exact cI (v:=.bool _) F rfl (.inl ⟨F,j,b⟩)
def mb(n:Nat)(M:Nat->Nat->Int)(b:Nat->Int):Nat->Nat->Int:=λi j=>if j=n then b i else M i j
theorem zm(i j s t u n N:Nat)(p o:Value)(M:Nat->Nat->Int)(b:Nat->Int)(w:World)(B:bh w s 3 #[.int .i64 (n:Int)])(d:bh w t 27 #[o])(E:bh w u 25 #[p])
 (D:cO (EI N) w p n (λ_=>n) M) (m:iN (EI N) w o n b) (q:i<n) (o:j<n+1) (_hn:n<=16):
 aT Tryz.prog 20 #[.int .i64 (i:Int),.int .i64 (j:Int),.pointer (some ⟨s,0,none⟩),.pointer (some ⟨t,0,none⟩),.pointer (some ⟨u,0,none⟩)] w (Jd w N false (mb n M b i j)):=by
 refine bF (n:=22) Tryz.func20 F rfl aw aA ?_;refine gg ?_;refine aR (.inl F) a_ ?_;intro p o a s;have k:Bx p w.heap.size 1 false 0:=Bx.zero false o;have o:=ir (B.Y a);have o:=ir (d.Y a);have o:=ir (E.Y a);refine gg ?_;refine aP ?_;by_cases h:j=n
 ·obtain⟨o,o,o,o,rfl,o,o,o⟩:=(m.Y a).at q;refine gg ?_;refine aL (N':=N) (.inl F) F rfl k ⟨o,λe=>by cases e⟩ ?_;intro C f g A v;refine gg ?_;obtain⟨x,y,d,l⟩:=f;refine dO F aN F d ⟨g.aK a λb m=>aq,x,y,F,?_⟩;unfold mb;rw[ae h];exact l
 ·obtain⟨o,o,o,rfl,o,z⟩:=(D.Y a).at q;obtain⟨o,o,o,o,rfl,o,o,o⟩:=z.at (show j<n by omega);refine gg ?_;refine aL (N':=N) (.inl F) F rfl k ⟨o,λe=>by cases e⟩ ?_;intro C f g A v;refine gg ?_;obtain⟨x,y,d,l⟩:=f;refine dO F aN F d ⟨g.aK a λb m=>aq,x,y,F,?_⟩;unfold mb;rw[aa h];exact l
