import Derived.Test.YtmfndnlifgphjaaGreatDoorQzv
set_option maxHeartbeats 64000000
open Go.Proofs.YtmfndnlifgphjaaGreatDoor
namespace Go.Proofs.Qq
section
open Go Go.cW Go.c7 Go.uN Go.Proofs
theorem p9(s:List UInt8):Lib.hasPrefix s [45]=decide (s.head?=some 45):=by
 unfold Lib.hasPrefix;rcases s with _|⟨a,r⟩
 ·rfl
 ·by_cases h:a=45
  ·subst h;rfl
  ·have:List.isPrefixOf [45] (a::r)=false:=by simp[List.isPrefixOf,Ne.symm h]
   rw[this];simp[h]
theorem uq(s:List UInt8):Lib.trimPrefix s [45]=kN s:=by
 unfold Lib.trimPrefix kN;rw[p9];by_cases h:s.head?=some 45
 ·rw[ab h,decide_eq_true h,ab F];rcases s with _|⟨a,r⟩<;>rfl
 ·rw[aa h,decide_eq_false h];rfl
theorem Jd(s:List UInt8):(kN s).length<=s.length:=by
 unfold kN;split<;>simp
theorem FM(L:List Nat)(a:Array Value)(i x:Nat)(b:i<L.length):(cells L++a).setIfInBounds (0+i*1) (.int .u32 (x:Int))=cells (L.set i x)++a:=by
 rw[<-dV];apply Array.toList_inj.1;simp[cells,b]
theorem oQ.ex{w:World}{base:Nat}{v:Value}{l:List Nat}(h:oQ w base v l)(d:l≠[]):∃g a b,v=.slice (some ⟨g,0,none⟩) l.length a/\base<=g/\l.length+b.size=a/\a<=9223372036854775807/\bg w g 153 (cells l++b):=by
 rcases h.2.2 with⟨_,h0⟩|⟨g,a,cur,h1,h2,h3,b,f,e,c⟩
 ·exact absurd (List.eq_nil_of_length_eq_zero h0) d
 ·rw[Nat.mul_one]at e c;refine⟨g,a,(cur.toList.drop l.length).toArray,h1,h2,by simp;omega,f,?_⟩;unfold bg;rw[h3];congr 2;apply Array.toList_inj.1;simp only[cells,Array.toList_append];rw[<-c];simp
theorem oQ.of{w:World}{base g cap:Nat}{l:List Nat}{b:Array Value}(a:fH l)(h1:base<=g)(c:l.length+b.size=cap)(d:cap<=9223372036854775807)(c:bg w g 153 (cells l++b)):oQ w base (.slice (some ⟨g,0,none⟩) l.length cap) l:=by
 refine⟨a,aA,.inr ⟨g,cap,_,F,h1,c,aq,d,?_,?_⟩⟩
 ·rw[Array.size_append,cN];omega
 ·simp[cells]
theorem oQ.ch{M:Nat->Prop}{w w':World}{base:Nat}{v:Value}{l:List Nat}(h:oQ w base v l)(e:Ch M w w')(d:∀b,some b=v.ownBlock->¬M b):oQ w' base v l:=by
 refine⟨h.1,h.2.1,?_⟩;rcases h.2.2 with i|⟨g,c,a,rfl,h2,h3,f⟩
 ·exact .inl i
 ·have b:bg w g 153 a:=h3;exact .inr ⟨g,c,a,F,h2,b.ch e (d g F),f⟩
theorem oQ.JZ{w:World}{base:Nat}{v:Value}{l:List Nat}(h:oQ w base v l)(a:dz l):jX w v (val l):=by
 rcases sU h.2 with⟨rfl,rfl⟩|⟨g,c,rfl,_,h1,h2,h3⟩
 ·exact⟨none,[],0,F,aD,aq,fM.nil _ _,(λh=>absurd rfl h),rfl⟩
 ·exact⟨_,l,c,F,h1,aq,h3.J2 h.1,a,F⟩
theorem Gs{l:List Nat}(c:fH l)(h:l≠[]->B^(l.length-1)<=val l):dz l:=by
 intro b d;have a:0<l.length:=List.length_pos_iff.2 b;have a:=h b;have e:l=l.dropLast++[0]:=by
  have:=List.dropLast_concat_getLast b;rw[d]at this;exact this.symm
 have a:val l=val l.dropLast:=by
  conv=>lhs;rw[e]
  rw[jJ];simp[val]
 have b:=g_ l.dropLast λx a=>c x (List.dropLast_subset l a);rw[List.length_dropLast]at b;omega
theorem GS{d:List UInt8}{p:Nat}{c:UInt8}(a:d[p]?=some c):zu (d.take (p+1))=10*zu (d.take p)+(c.toNat-48):=by
 rw[List.take_add_one,a];exact sO _ _
theorem lQ{x y u v:Value}:((#[x,y]:Array Value).setIfInBounds 0 u).setIfInBounds (0+1) v=#[u,v]:=by simp
theorem L6(b t a x s d:Nat)(h:t+a*b=10*s+d):t+b*((a+10*x)%4294967296)+(a+10*x)/2^32*(b*B)=10*(s+b*x)+d:=by
 have e:=Nat.div_add_mod (a+10*x) 4294967296;have d:(2:Nat)^32=4294967296:=aw;rw[d];have d:B=4294967296:=F;rw[d];generalize (a+10*x)/4294967296=c at*;generalize (a+10*x)%4294967296=rr at*;have d:b*rr+c*(b*4294967296)=b*(a+10*x):=by
  rw[<-e,Nat.mul_add,Nat.add_comm,Nat.mul_left_comm,Nat.mul_comm c 4294967296]
 have c:b*(a+10*x)=a*b+10*(b*x):=by rw[Nat.mul_add,Nat.mul_comm b a,Nat.mul_left_comm]
 have a:10*(s+b*x)=10*s+10*(b*x):=Nat.mul_add _ _ _;omega
theorem Fk(s:List UInt8)(w:World)(x:s.length<4398046511104):
 aT Tryz.prog 72 #[Tx s] w λv a=>Ext w a/\∃x y e,v=.tuple #[.agg #[x,y],.int .i64 ((e:Nat):Int)]/\((lR s/\e=0/\CV a x y (rS s))\/(¬lR s/\e≠0/\x=.bool false/\y=.slice none 0 0)):=by
 refine bo (n:=70) Tryz.func72 F rfl az aA ?_;refine gb ?_;refine aS (.inl F) a_ ?_;intro x ae bl y;rw[show(Value.agg #[Value.bool false,Value.slice none 0 0]).cells=#[Value.bool false,Value.slice none 0 0]from by simp[Value.cells]]at ae;obtain⟨K,y⟩ : ∃b,b=w.heap.size:=⟨_,F⟩;rw[<-y]at ae⊢;have y:w.heap.size<=K:=aq;refine gb ?_;refine aJ (mG s [45] x) ?_;rintro _ _ ⟨rfl,rfl⟩;rw[uq,p9];obtain⟨d,hd⟩ : ∃d,d=kN s:=⟨_,F⟩;obtain⟨O,T⟩ : ∃b,b=decide (s.head?=some 45):=⟨_,F⟩;have y:=Jd s;rw[<-hd]at y⊢;rw[<-T];have r:=Fj s;rw[<-hd]at r;have ai:lR s↔isNum s/\d.length<=2000:=by unfold lR;rw[<-hd]
 refine gb ?_;refine aY (λf a=>∃t,f 2=.pointer (some ⟨K,0,none⟩)/\f 4=Tx d/\f 5=.bool O/\f 17=.bool t/\Ext w a/\bg a K 44 #[.bool false,.slice none 0 0]/\(t=false↔isNum s)) ?_ ?_
 ·refine gb ?_;refine aJ (xD d x aq) ?_;rintro _ X ⟨x,b,rfl,hb⟩;have J:=bl.trans x;have q:=ae.Y x;cases b with
  |false=>
   refine gb ?_;refine⟨true,F,F,F,F,J,q,(λh=>by cases h),λh=>?_⟩;have:=hb.2 (r.1 h).1;cases this
  |true=>
   have aH:=hb.1 F;cases O with
   |false=>
    refine gb ?_;refine⟨false,F,F,F,F,J,q,(λ_=>?_),λ_=>rfl⟩;refine r.2 ⟨aH,λh=>?_⟩;have:=decide_eq_true h.1;rw[<-T]at this;cases this
   |true=>
    have bC:s.head?=some 45:=of_decide_eq_true T.symm;by_cases he:d=[48]
    ·refine gb ?_;exact⟨true,F,F,F,by show Value.bool _=_;rw[decide_eq_true he],J,q,(λh=>by cases h),λh=>absurd ⟨bC,he⟩ (r.1 h).2⟩
    ·refine gb ?_;exact⟨false,F,F,F,by show Value.bool _=_;rw[decide_eq_false he],J,q,(λ_=>r.2 ⟨aH,λh=>he h.2⟩),λ_=>rfl⟩
 rintro f X ⟨t,o,C,j,x,J,q,ht⟩;rw[ui o,ui C,ui j,ui x];clear o C j x ae bl;cases t with
 |true=>
  have aj:¬lR s:=λh=>by have:=ht.2 (ai.1 h).1;cases this
  refine gb ?_;refine dR fm ?_;refine gb ?_;refine aZ aQ (.inl F) F rfl rfl rfl q aA ?_;intro w3 H ax _;rw[lQ]at H;refine gb ?_;exact mY (v:=.int .i64 ((2:Nat):Int)) F aQ F H F ⟨ax.aK J λb e=>aq,_,_,2,F,.inr ⟨aj,aw,F,F⟩⟩
 |false=>
 have t:=ht.1 F;obtain⟨⟨x,bs,_⟩,_⟩:=r.1 t;by_cases r:d.length<=2000;rotate_left
 ·have aj:¬lR s:=λh=>r (ai.1 h).2;refine gb ?_;refine dR fm ?_;refine gb ?_;refine aZ aQ (.inl F) F rfl rfl rfl q aA ?_;intro w3 H ax _;rw[lQ]at H;refine gb ?_;exact mY (v:=.int .i64 ((7:Nat):Int)) F aQ F H F ⟨ax.aK J λb e=>aq,_,_,7,F,.inr ⟨aj,aw,F,F⟩⟩
 have hk:lR s:=ai.2 ⟨t,r⟩;refine gb ?_;refine aY (λf a=>∃v l,f 2=.pointer (some ⟨K,0,none⟩)/\f 5=.bool O/\f 6=v/\Ext w a/\bg a K 44 #[.bool false,.slice none 0 0]/\oQ a (X.heap.size+1) v l/\dz l/\val l=zu d) ?_ ?_
 ·refine gb ?_;refine v_ jo (.inl F) F ?_;intro w3 N r b4;obtain⟨P,b7⟩ : ∃g,g=X.heap.size:=⟨_,F⟩;rw[<-b7]at N⊢;have t:=q.lt;refine gb ?_;refine aU (λm f a=>∃p v l,m=d.length-p/\p<=d.length/\f 2=.pointer (some ⟨K,0,none⟩)/\f 4=Tx d/\f 5=.bool O/\f 6=v/\f 33=.pointer (some ⟨P,0,none⟩)/\Ext w a/\It a P d p/\bg a K 44 #[.bool false,.slice none 0 0]/\X.heap.size<a.heap.size/\oQ a (X.heap.size+1) v l/\dz l/\l.length<=p/\val l=zu (d.take p))
   d.length ⟨0,_,[],F,aE,F,F,F,F,F,J.trans r,N,q.Y r,aq,oQ.nil _ _,(λh=>absurd rfl h),aA,F⟩ ?_
  clear N r b4;rintro m f w3 ⟨p,v,l,rfl,q,o,C,j,z,u,a7,N,H,b4,U,a1,q,Z⟩;rw[ui o,ui C,ui j,ui z,ui u];clear o C j z u;by_cases q:p<d.length
  ·have hc:d[p]?=some d[p]:=List.getElem?_eq_getElem q;obtain⟨c,r⟩ : ∃c,c=d[p]:=⟨_,F⟩;rw[<-r]at hc;have t:=(kq c).1 (bs c (by rw[r];exact List.getElem_mem q));refine gb ?_;refine Be F rfl N hc ?_;intro w4 q r au av q _ _ bx _;obtain⟨rfl,rfl⟩:=bx aq;have bj:=av.aK a7 λb e=>aq;have W:=H.ch av aq;have a8:=U.ch av (λb e h=>by have:=U.mb e;omega);refine gb ?_;refine aN ?_;refine gb ?_;refine CQ (b:=48) F rfl aq aq ?_;refine gb ?_;refine Db L1 mg F aq ?_;refine gb ?_;obtain⟨Y,b8⟩ : ∃k,k=c.toNat-48:=⟨_,F⟩;rw[<-b8];refine aY (λf a=>∃D E,f 2=.pointer (some ⟨K,0,none⟩)/\f 4=Tx d/\f 5=.bool O/\f 6=v/\f 33=.pointer (some ⟨P,0,none⟩)/\f 9=.int .u64 ((E:Nat):Int)/\Ext w a/\It a P d (p+1)/\bg a K 44 #[.bool false,.slice none 0 0]/\X.heap.size<a.heap.size/\oQ a (X.heap.size+1) v D/\D.length=l.length/\E<=10/\val D+E*B^l.length=10*val l+Y) ?_ ?_
   ·by_cases b6:l=[]
    ·subst b6;have bt:v=.slice none 0 0\/∃A c,v=.slice A 0 c:=by
      rcases a8.2.2 with⟨e,_⟩|⟨g,ay,cur,e,_⟩
      ·exact .inl e
      ·exact .inr ⟨_,_,e⟩
     obtain⟨A0,c0,rfl⟩ : ∃A c,v=.slice A 0 c:=by
      rcases bt with rfl|h
      ·exact⟨_,_,F⟩
      ·exact h
     refine gb ?_;refine aU (λm f a=>m=0/\f 2=.pointer (some ⟨K,0,none⟩)/\f 4=Tx d/\f 5=.bool O/\f 33=.pointer (some ⟨P,0,none⟩)/\f 6=.slice A0 0 c0/\f 9=.int .u64 (Y:Int)/\f 41=.int .i64 ((0:Nat):Int)/\f 42=.int .i64 ((0:Nat):Int)/\w4=a) 0 ⟨rfl,rfl,rfl,rfl,rfl,rfl,rfl,rfl,rfl,rfl⟩ ?_;rintro m f _ ⟨_,o,C,j,u,z,L,R,Q,rfl⟩;rw[ui L,ui R,ui Q];rw[ui o,ui C,ui j,ui u,ui z];clear o C j u z;refine gb ?_;exact⟨[],Y,F,F,F,F,F,F,bj,au,W,aq,a8,F,aq,by simp[val]⟩
    ·obtain⟨g,ay,sp,rfl,bB,c,b0,q⟩:=a8.ex b6;have c:=a8.1;refine gb ?_;refine aU (λm f a=>∃i D E,m=l.length-i/\i<=l.length/\f 2=.pointer (some ⟨K,0,none⟩)/\f 4=Tx d/\f 5=.bool O/\f 33=.pointer (some ⟨P,0,none⟩)/\f 6=.slice (some ⟨g,0,none⟩) l.length ay/\f 9=.int .u64 ((E:Nat):Int)/\f 40=.slice (some ⟨g,0,none⟩) l.length ay/\f 41=.int .i64 (l.length:Int)/\f 42=.int .i64 ((i:Nat):Int)/\Ch (λb=>b=g) w4 a/\a.heap.size=w4.heap.size/\bg a g 153 (cells D++sp)/\D.length=l.length/\fH D/\(∀k,i<=k->D.getD k 0=l.getD k 0)/\E<=10/\val (D.take i)+E*B^i=10*val (l.take i)+Y)
      l.length ⟨0,l,Y,F,aE,F,F,F,F,F,F,F,F,F,Ch.refl _ _,F,q,F,c,λ_ _=>rfl,aq,by simp[val]⟩ ?_
     rintro m f w5 ⟨i,D,E,rfl,a,o,C,j,u,z,L,c,R,Q,M,b1,al,G,S,a,bc,I⟩;rw[ui L,ui c,ui R,ui Q];rw[ui o,ui C,ui j,ui u,ui z];clear o C j u z;clear L c R Q;by_cases m:i<l.length
     ·have c:w5.cell? ⟨g,0+i*1,none⟩=some (.int .u32 ((D.getD i 0:Nat):Int)):=Lb.at ⟨sp,al⟩ aq;have c:=S.getD i;have g:=a i aD;refine gb ?_;refine yx F aq ?_;refine gb ?_;refine bZ (aX F) (.inl F) F rfl al (by rw[Array.size_append,cN];omega) ?_;intro w6 c q bu;rw[FM _ _ _ _ aq]at c;refine gb ?_;refine⟨_,?_,i+1,D.set i ((E+10*D.getD i 0)%4294967296),(E+10*D.getD i 0)/2^32,F,aq,F,F,F,F,F,F,F,F,F,M.trans q,aq,c,by simpa using G,S.set (Nat.mod_lt _ aw),λk hk=>by rw[c7.getD_set_ne aq];exact a k aq,?_,?_⟩
      ·omega
      ·omega
      ·rw[ft _ _ _ aq,bN l i m,<-g];exact L6 (B^i) _ E _ _ _ I
     ·obtain rfl:i=l.length:=aq;refine gb ?_;have a6:=M.aK bj λb e=>aq;refine⟨D,E,F,F,F,F,F,F,a6,(M.block P au.lt aq).trans au,W.ch M aq,aq,G ▸ oQ.of S bB aq b0 al,G,bc,?_⟩;rw[List.take_of_length_le aq,List.take_of_length_le aD]at I;exact I
   rintro f w5 ⟨D,E,o,C,j,z,u,L,a6,ar,V,b1,an,G,bc,I⟩;rw[ui L];rw[ui o,ui C,ui j,ui z,ui u];clear o C j z u;clear L;have a:zu (d.take (p+1))=10*val l+Y:=by rw[GS hc,<-Z,b8]
   by_cases ak:E=0
   ·refine gb ?_;refine⟨_,?_,p+1,v,D,F,aq,F,F,F,F,F,a6,ar,V,b1,an,?_,aq,?_⟩
    ·omega
    ·refine Gs an.1 λb5=>?_;have bA:l≠[]:=by rintro rfl;exact b5 (List.eq_nil_of_length_eq_zero G)
     have:=kQ bA a1;rw[G];rw[ak]at I;omega
    ·rw[ak]at I;omega
   ·have a:=G;refine gb ?_;refine dp dM F (.inl F) F rfl ?_;intro w6 g a bu;rw[Nat.mod_eq_of_lt (show E<4294967296 by omega)]at g;have c:=an.Y a;refine gb ?_;refine mS F rfl c F g aq aq aq ?_;intro t r m g;have k:=g.aK (a6.trans a) (λb e=>by have:=c.mb e;omega);have q:It r P d (p+1):=(g.block P (ar.Y a).lt (λe=>by have:=c.mb e;omega)).trans (ar.Y a);have r:=(V.Y a).ch g (λe=>by have:=c.mb e;omega);have a:=g.size;have a:val (D++[E])=10*val l+Y:=by
     rw[jJ,G];simp only[val];rw[Nat.mul_zero,Nat.add_zero,Nat.mul_comm];exact I
    refine gb ?_;refine⟨_,?_,p+1,t,D++[E],F,aq,F,F,F,F,F,k,q,r,aq,m,?_,by simp;omega,aq⟩
    ·omega
    ·intro b5 a;simp at a;exact ak a
  ·obtain rfl:p=d.length:=aq;refine gb ?_;refine Bf F rfl N aD ?_;refine gb ?_;refine aN ?_;refine gb ?_;exact⟨v,l,F,F,F,a7,H,by rw[b7];exact U,a1,by rw[Z,List.take_length]⟩
 rintro f w3 ⟨v,l,o,j,z,a7,H,U,a1,Z⟩;rw[ui o,ui j,ui z];clear o j z;refine gb ?_;refine aJ (fa O v (val l) w3 (U.JZ a1)) ?_;rintro _ w4 ⟨c,a,a,rfl,a⟩;have W:=H.Y c;refine gb ?_;refine aZ aQ (.inl F) F rfl a.ep a.eN W aA ?_;intro w5 V M _;rw[lQ]at V;have d:=a.kp (c8 W (λi z=>by
  match i with
  |0=>simp
  |1=>simp
  |i+2=>simp) M)
 refine gb ?_;refine mY (v:=.int .i64 ((0:Nat):Int)) F aQ F V F ⟨M.aK (a7.trans c) λb e=>aq,_,_,0,F,.inl ⟨hk,F,?_⟩⟩;have e:sg O (val l)=rS s:=by
  unfold rS;rw[Z,hd];by_cases h:s.head?=some 45
  ·rw[ab h,T,decide_eq_true h];rfl
  ·rw[aa h,T,decide_eq_false h];rfl
 rw[<-e];exact d
section
variable {P:Program}{n:Nat}{S:World->World->Prop}{K:Fr->World->Prop}{f:Fr}{w:World}
 {d ty t t2:Nat} {x:Operand} {pos:String} {aft:Array Edge} {gd:Option (Nat×Bool)}
theorem Bq{v v':Value}(a:ev n f x=v)(b:(convert t t2 v).run P w=.ok v' w)(h:K (cg f d v') w):R1 P n S 2 ⟨some d,.convert t t2 x,ty,pos,aft,gd⟩ K f w:=by
 refine iE (v:=v') (w':=w) (.inl F) ?_ h;simp only[execOp,a,Sem.run_bind,b,Result.andThen_ok,Sem.run_pure]
theorem Lh{g:FuncId}{v v':Value}{a:Array TypeId}(b:ev n f x=v)(c:(callFunc g #[v]).run P w=.ok (.value v') w)(h:K (cg f d v') w):
 R1 P n S 2 ⟨some d,.call { callee:=.value (.func g),args:=#[x],argTypes:=a },ty,pos,aft,gd⟩ K f w:=by
 refine iE (v:=v') (w':=w) (.inl F) ?_ h;have e:ev n f (.func g)=.func (.func g) #[] #[]:=F;simp only[execOp,resolve,e,Deferred.ofValue,invoke,Sem.run_bind,Sem.run_pure,Result.andThen_ok,List.map_toArray,List.map_cons,List.map_nil,b,Array.append_empty,Array.empty_append,c]
end
theorem Cd:gz Tryz.prog 60=true:=by kernel_rfl
theorem xt:gz Tryz.prog 61=true:=by kernel_rfl
theorem Cy:cI Tryz.prog 63 0 0:=by
 unfold cI;intro a w;simp[Instr.fieldAt,run_underlying Tryz.underlying63,Instr.sureAddr,fieldPlace]
theorem xM:cI Tryz.prog 63 1 1:=by
 unfold cI;intro a w;simp[Instr.fieldAt,run_underlying Tryz.underlying63,Instr.sureAddr,fieldPlace]
def yc(w:World)(base b:Nat)(l:List UInt8):Prop:=
 base<=b/\∃p v,(p=.pointer none\/p=.pointer (some ⟨b,0,none⟩))/\bg w b 63 #[p,v]/\nj w base v l/\v.ownBlock≠some b
theorem yc.Y{w w':World}{base b:Nat}{l:List UInt8}(h:yc w base b l)(a:Ext w w'):yc w' base b l:=by
 obtain⟨j,p,v,i,g,c,e⟩:=h;exact⟨j,p,v,i,g.Y a,c.Y a,e⟩
theorem yc.new{w:World}{b:Nat}(a:bg w b 63 #[.pointer none,.slice none 0 0])(base:Nat)(h:base<=b):yc w base b []:=
 ⟨h,_,_,.inl F,a,nj.nil _ _,by simp[Value.ownBlock]⟩
theorem NH:fo Tryz.prog 63 (.agg #[.pointer none,.slice none 0 0]):=by unfold fo;kernel_rfl
theorem zk(w:World):(binOp .eql 60 (.pointer none) (.pointer none)).run Tryz.prog w=.ok (.bool true) w:=by
 have h:∀d:Nat,(Op.equalIn (d+1) 60 (.pointer none) (.pointer none)).run Tryz.prog w=.ok true w:=λd=>by
  simp[Op.equalIn,run_underlying Tryz.underlying60]
 simp only[binOp];simp[Op.equal,Op.maxDepth,h 9999]
theorem zh(w:World)(a:Addr):(binOp .eql 60 (.pointer (some a)) (.pointer none)).run Tryz.prog w=.ok (.bool false) w:=by
 have h:∀d:Nat,(Op.equalIn (d+1) 60 (.pointer (some a)) (.pointer none)).run Tryz.prog w=.ok false w:=λd=>by
  simp[Op.equalIn,run_underlying Tryz.underlying60]
 simp only[binOp];simp[Op.equal,Op.maxDepth,h 9999]
theorem zf(w:World)(a:Addr):(binOp .neq 60 (.pointer (some a)) (.pointer (some a))).run Tryz.prog w=.ok (.bool false) w:=by
 have c:(Tryz.prog.info? 63).isSome=true:=az;obtain⟨j,b⟩:=Option.isSome_iff_exists.1 c;exact Lib.run_neq_ptr_same w a Tryz.underlying60 b
theorem qk(base b:Nat)(l:List UInt8)(w:World)(h:yc w base b l):
 aT Tryz.prog 65 #[.pointer (some ⟨b,0,none⟩)] w λv c=>v=.tuple #[]/\yc c base b l/\Ch (λq=>q=b) w c/\c.heap.size=w.heap.size:=by
 obtain⟨k,p,v,c,a,i,g⟩:=h;refine bo (n:=20) Tryz.func65 F rfl az aA ?_;have m:w.cell? ⟨b,0+0,none⟩=some p:=by rw[a.cell];rfl
 refine gb ?_;refine aV Cy F ?_;refine gb ?_;refine ji aw Cd F m ?_;refine gb ?_;rcases c with rfl|rfl
 ·refine cw (vx:=.pointer none) (vy:=.pointer none) F rfl (λ_=>by simp[eqGuard,go_sem]) (λw=>zk w) ?_;refine gb ?_;have c:((Tryz.prog.info? 63).map λj=>j.size)=some 2:=az;obtain⟨j,h,j⟩:=Option.map_eq_some_iff.1 c;have c:w.shape? b=some (63,2):=by
   unfold bg at a;simp[World.shape?,a]
  refine Bq F (Lib.run_to_unsafe w ⟨b,0,none⟩ Tryz.underlying60 Tryz.underlying162 h (by rw[j];decide) c (show 0<2 by decide)) ?_;refine gb ?_;refine Lh (v':=.pointer (some ⟨b,0,none⟩)) F ?_ ?_
  ·rw[run_callFunc_extern Tryz.func125 az az az (e:=Extern.AbiNoEscape.same) az,show ev 20 _ (Operand.tmp 9)=Value.pointer (some ⟨b,0,none⟩)from F,Lib.run_noEscape];rfl
  refine gb ?_;refine Bq F (Lib.run_from_unsafe w ⟨b,0,none⟩ Tryz.underlying162 Tryz.underlying60 h c az) ?_;refine gb ?_;refine aV Cy F ?_;refine gb ?_;refine Go.cW.ot Cd (.inl F) F rfl a aA ?_;intro c j c h;refine gb ?_;refine lP F ⟨F,⟨k,_,_,.inr F,j,i.ch c (λq j e=>g (by rw[<-e];exact j.symm)),g⟩,c,h⟩
 ·refine cw (vx:=.pointer (some ⟨b,0,none⟩)) (vy:=.pointer none) F rfl (λ_=>by simp[eqGuard,go_sem]) (λw=>zh w _) ?_;refine gb ?_;refine aV Cy F ?_;refine gb ?_;refine ji aw Cd F m ?_;refine gb ?_;refine cw (vx:=.pointer (some ⟨b,0,none⟩)) (vy:=.pointer (some ⟨b,0,none⟩)) F rfl (λ_=>by simp[eqGuard,go_sem]) (λw=>zf w _) ?_;refine gb ?_;exact lP F ⟨F,⟨k,_,_,.inr F,a,i,g⟩,Ch.refl _ _,F⟩
theorem FP(l:List UInt8):Lib.strCells ⟨l.toArray⟩=xY l:=by simp[Lib.strCells,xY]
theorem Lj{n:Nat}{S:World->World->Prop}{K:Fr->World->Prop}{f:Fr}{w:World}{d ty:Nat}{x y:Operand}{pos:String}{aft:Array Edge}{gd:Option (Nat×Bool)}{base:Nat}{v:Value}{l s:List UInt8}
 (m:ev n f x=v) (g:nj w base v l) (k:ev n f y=Tx s) (a:l.length+s.length<4398046511104) (c:base<=w.heap.size)
 (h:∀a w',nj w' base a (l++s)->Ch (λb=>some b=v.ownBlock) w w'->K (cg f d a) w'):
 R1 Tryz.prog n S 2 ⟨some d,.call { callee:=.builtin .append,args:=#[x,y],argTypes:=#[61,9] },ty,pos,aft,gd⟩ K f w:=by
 have e:(Tryz.prog.info? 5).map (λi=>(i.zero,i.size,i.bytes))=some (some (.int .u8 0),1,1):=az;obtain⟨i,e,b⟩:=Option.map_eq_some_iff.1 e;simp only[Prod.mk.injEq]at b;obtain⟨a,w',o,j,p,_⟩:=Lib.run_append_own_string (P:=Tryz.prog) w base 61 9 ty 5 i Tryz.underlying61 Tryz.underlying9 e b.1 b.2.1 b.2.2 v l.length (xY l) g ⟨s.toArray⟩
  (by rw[fJ];simp only[maxLen];omega) (by rw[fJ];omega) c
 refine iE (v:=a) (w':=w') (.inl F) ?_ (h a w' ?_ (AQ p))
 ·simp only[execOp,resolve,invoke,builtin,Sem.run_bind,Sem.run_pure,Result.andThen_ok,List.map_toArray,List.map_cons,List.map_nil,m,k,o]
 ·unfold nj;rw[List.length_append,show xY (l++s)=xY l++xY s by simp[xY]];rw[fJ,FP]at j;exact j
theorem nj.other{w:World}{base b:Nat}{v:Value}{l:List UInt8}{cs:Array Value}(h:nj w base v l)(c:bg w b 63 cs):v.ownBlock≠some b:=by
 intro e;obtain⟨_,a,a⟩:=h.mb e.symm;unfold bg at c a;rw[c]at a;simp at a
theorem nk(base b:Nat)(l s:List UInt8)(k w:World)(A:Ext k w)(c:k.heap.size<=base)(h:yc w base b l)(z:l.length+s.length<4398046511104):
 aT Tryz.prog 24 #[.pointer (some ⟨b,0,none⟩),Tx s] w λ_v c=>yc c base b (l++s)/\Ext k c/\base<=c.heap.size/\b<c.heap.size:=by
 refine bo (n:=19) Tryz.func24 F rfl az aA ?_;refine gb ?_;refine aJ (qk base b l w h) ?_;rintro _ u ⟨rfl,⟨h1,p,v,h2,h,k,y⟩,c,r⟩;have r:=c.aK A λq e=>aq;have c:u.cell? ⟨b,0+1,none⟩=some v:=by rw[h.cell];rfl
 have u:=h.lt;refine gb ?_;refine aV xM F ?_;refine gb ?_;refine ji aw xt F c ?_;refine gb ?_;refine Lj F k F z aq ?_;intro m c a c;have j:=h.ch c λe=>y e.symm;have o:=c.aK r (λq e=>by have:=(k.mb e).1;omega);have i:=a.other j;refine gb ?_;refine aV xM F ?_;refine gb ?_;have fc:m.oneCell'=true:=by
  rcases a.2 with⟨rfl,_⟩|⟨g,cap,cur,rfl,_⟩<;>rfl
 refine jg xt (.inl F) F rfl fc j aA ?_;intro c c h j;have k:=h.aK o λq e=>aq;have j:=c.lt;refine gb ?_;exact cU F rfl rfl ⟨⟨h1,p,m,h2,c,a.ch h (λq a e=>i (by rw[<-e];exact a.symm)),i⟩,k,aq,j⟩
theorem pt(base b:Nat)(l:List UInt8)(c:UInt8)(j w:World)(A:Ext j w)(a:j.heap.size<=base)(h:yc w base b l)(z:l.length<4398046511104):
 aT Tryz.prog 27 #[.pointer (some ⟨b,0,none⟩),.int .u8 (c.toNat:Int)] w λ_v a=>yc a base b (l++[c])/\Ext j a/\base<=a.heap.size/\b<a.heap.size:=by
 refine bo (n:=17) Tryz.func27 F rfl az aA ?_;refine gb ?_;refine aJ (qk base b l w h) ?_;rintro _ u ⟨rfl,⟨h1,p,v,h2,a,k,y⟩,h,j⟩;have j:=h.aK A λq e=>aq;have h:u.cell? ⟨b,0+1,none⟩=some v:=by rw[a.cell];rfl
 have u:=a.lt;refine gb ?_;refine aV xM F ?_;refine gb ?_;refine ji aw xt F h ?_;refine gb ?_;refine dp sE F (.inl F) F rfl ?_;intro h u h A;replace k:=k.Y h;replace a:=a.Y h;replace j:=j.trans h;refine gb ?_;refine tP F rfl k F u z aq ?_;intro r h i h _;have o:=a.ch h λe=>y e.symm;have s:=h.aK j (λq e=>by have:=(k.mb e).1;omega);have m:=i.other o;refine gb ?_;refine aV xM F ?_;refine gb ?_;have fc:r.oneCell'=true:=by
  rcases i.2 with⟨rfl,_⟩|⟨g,cap,cur,rfl,_⟩<;>rfl
 refine jg xt (.inl F) F rfl fc o aA ?_;intro a a h j;have k:=h.aK s λq e=>aq;have j:=a.lt;refine gb ?_;exact bF (v:=.nilIface) F rfl ⟨⟨h1,p,r,h2,a,i.ch h (λq a e=>m (by rw[<-e];exact a.symm)),m⟩,k,aq,j⟩
theorem uL(l:List UInt8):Lib.byteCells l=xY l:=by simp[Lib.byteCells,xY]
theorem ES(base b:Nat)(l:List UInt8)(c w:World)(m:Ext c w)(a:c.heap.size<=base)(h:yc w base b l):
 aT Tryz.prog 28 #[.pointer (some ⟨b,0,none⟩)] w λv g=>Ext c g/\v=Tx l:=by
 obtain⟨q,p,v,o,c,i,j⟩:=h;have h:=c.lt;have e:Lib.BuilderAt 63 5 base b p (Lib.byteCells l) w:=⟨q,v,c,by rw[uL,sb];exact i,j⟩;have k:Lib.IsBuilder 63 5 base b (Lib.byteCells l) w:=by
  rcases o with rfl|rfl
  ·exact .inl e
  ·exact .inr e
 refine⟨enters_of Tryz.func28 F rfl,(Tryz.Builder_String_any base b l w k aq).mono ?_⟩;rintro e g ⟨rfl,c⟩;exact⟨_,F,xN m a c,F⟩
theorem EN(s:List UInt8):Lib.trimPrefix s [45]=kN s:=by
 unfold Lib.trimPrefix kN Lib.hasPrefix;rcases s with _|⟨a,r⟩
 ·rfl
 ·by_cases h:a=45
  ·subst h;rfl
  ·have:List.isPrefixOf [45] (a::r)=false:=by simp[List.isPrefixOf,Ne.symm h]
   rw[this];simp[h]
theorem LQ:10^2000<=B^209:=Nat.le_of_ble_eq_true (by decide +kernel)
theorem zF{z:Int}(h:fu z):z.natAbs<B^209:=
 Nat.lt_of_lt_of_le (qg _) (Nat.le_trans (Nat.pow_le_pow_right aw h) LQ)
theorem zC{x y u v:Value}:((#[x,y]:Array Value).setIfInBounds 0 u).setIfInBounds (0+1) v=#[u,v]:=by simp
theorem tc(x y:Value)(z:Int)(N:Nat)(w:World)(h:IV w N x y z)(e:N<100000000):
 aT Tryz.prog 26 #[.agg #[x,y]] w λv e=>Ext w e/\((fu z/\v=.tuple #[Tx (zt z),.bool true])\/(¬fu z/\∃s,v=.tuple #[Tx s,.bool false])):=by
 refine bo (n:=18) Tryz.func26 F rfl az aA ?_;have e:x.oneCell'=true:=by obtain⟨a,A,l,c,rfl,_⟩:=h;rfl
 have e:y.oneCell'=true:=by obtain⟨a,A,l,c,_,rfl,_⟩:=h;rfl
 refine gb ?_;refine bO (v:=.agg _) (.inl F) F ?_;intro e a i l;rw[show(Value.agg #[x,y]).cells=#[x,y]from by simp[Value.cells]]at a;have l:=iR a;have l:=fG a;refine gb ?_;refine aJ (iz x y z N e (h.Y i) aq) ?_;rintro _ e ⟨e,l,l,rfl,fc⟩;have m:=a.Y e;refine gb ?_;refine aZ aQ (.inl F) F rfl fc.ep fc.eN m aA ?_;intro o a l q;rw[zC]at a;have k:=l.aK (i.trans e) λq e=>aq;have t:=fc.kp (c8 m (λi z=>by
  obtain⟨_,_,_,_,rfl,rfl,_⟩:=h
  match i with
  |0=>simp
  |1=>simp
  |i+2=>simp) l)
 clear fc;have e:=iR a;have e:=fG a;obtain⟨g,r,d,p,rfl,rfl,E,G,H,u,_,j⟩:=id t;have a:z.natAbs=val d:=by rw[j,iq]
 by_cases b:209<d.length
 ·have C:¬fu z:=λf=>by
   have a:=zF f;have D:d≠[]:=by rintro rfl;simp at b
   have b:=kQ D u;have c:B^209<=B^(d.length-1):=Nat.pow_le_pow_right aw aq;omega
  refine gb ?_;refine aN ?_;refine gb ?_;exact cU (v:=Tx []) (v':=.bool false) F rfl rfl ⟨k,.inr ⟨C,[],F⟩⟩
 ·have a:IV o 209 (.bool g) (.slice r d.length p) z:=⟨g,r,d,p,F,F,E,G,H,aq,j⟩;refine gb ?_;refine aN ?_;refine gb ?_;refine aJ (Fs _ _ z 209 o a aw) ?_;rintro _ b ⟨a,rfl⟩;refine gb ?_;refine aJ (uo (zt z) [45] b) ?_;rintro _ _ ⟨rfl,rfl⟩;rw[EN];refine gb ?_;refine cU (v:=Tx (zt z)) (v':=.bool (decide ((kN (zt z)).length<=2000))) F rfl rfl ⟨k.trans a,?_⟩;by_cases f:fu z
  ·refine .inl ⟨f,?_⟩;have:=(sk z).2 f;rw[decide_eq_true this]
  ·refine .inr ⟨f,zt z,?_⟩;have:¬(kN (zt z)).length<=2000:=λh=>f ((sk z).1 h);rw[decide_eq_false this]
theorem Ct(va:Value)(r N:Nat)(len:Nat->Nat)(M:Nat->Nat->Int)(w:World)(X:cB (EI N) w va r len M)(a8:1<=N)(hN:N<1048576):
 aT Tryz.prog 5 #[va] w λv p=>Ext w p/\
  ((dQ r len M≠0/\v=.tuple #[Tx [],.int .i64 ((dQ r len M:Nat):Int)])\/(dQ r len M=0/\((Mp r M/\v=.tuple #[Tx (j5 r M),.int .i64 ((0:Nat):Int)])\/(¬Mp r M/\v=.tuple #[Tx [],.int .i64 ((7:Nat):Int)])))):=by
 refine bo (n:=56) Tryz.func5 F rfl az aA ?_;refine gb ?_;refine aN ?_;refine gb ?_;refine aJ (jb va r N len M w X a8 hN) ?_;rintro _ w1 ⟨T,rfl⟩;by_cases q:dQ r len M=0;rotate_left
 ·refine gb ?_;exact cU (v:=Tx []) F rfl rfl ⟨T,.inl ⟨q,F⟩⟩
 obtain⟨a8,h8,aj,_⟩:=dF.1 q;obtain⟨aj,aj,a7⟩:=dj.1 a8;obtain⟨n,rfl⟩ : ∃n,n=r:=⟨_,F⟩;have hM:=X.sq a7;obtain⟨r,P,rfl,_,_,U⟩:=id hM;obtain⟨Y,_,rfl,_⟩:=U 0 aq;rw[q];refine gb ?_;refine aS (.inl F) NH ?_;intro q r aj av;rw[show(Value.agg #[Value.pointer none,Value.slice none 0 0]).cells=#[Value.pointer none,Value.slice none 0 0]from by simp[Value.cells]]at r;have a7:=T.trans aj;obtain⟨b,hb⟩ : ∃b,b=w1.heap.size:=⟨_,F⟩;rw[<-hb]at r⊢;have G:w.heap.size<=b:=by have:=T.size;omega
 have a8:=yc.new r b aD;have T:=r.lt;refine gb ?_;refine aJ (Ka n q aq) ?_;rintro _ _ ⟨rfl,rfl⟩;refine gb ?_;refine Ex F rfl aA ?_;refine gb ?_;refine Ex F rfl aA ?_;refine gb ?_;refine aJ (nk b b [] _ w q a7 G a8 aA) ?_;rintro _ w3 ⟨q,T,au,aH⟩;rw[List.nil_append]at q;have q:yc w3 b b (oO n):=q;clear a7 aj r a8 av;refine gb ?_;refine aY (λf p=>f 5=.pointer (some ⟨b,0,none⟩)/\Ext w p/\yc p b b (j5 n M)/\b<p.heap.size/\Mp n M) ?_ ?_
 ·refine gb ?_;refine aU (λm f p=>∃i,m=n-i/\i<=n/\f 5=.pointer (some ⟨b,0,none⟩)/\f 23=.slice (some Y) n P/\f 24=.int .i64 (n:Int)/\f 25=.int .i64 ((i:Nat):Int)/\Ext w p/\yc p b b (oO n++iu M i)/\b<p.heap.size/\∀a k,a<i->k<=a->fu (M a k))
   n ⟨0,F,aE,F,F,F,F,T,by simpa[iu]using q,aq,λa k h=>absurd h aq⟩ ?_
  clear q T au aH;rintro m f w4 ⟨i,rfl,q,t,o,g,d,D,J,R,C⟩;rw[ui t,ui o,ui g,ui d];clear t o g d;by_cases Z:i<n
  ·obtain⟨q,u1,e1,pn,K⟩:=U i Z;obtain rfl:=Option.some.inj e1;have K:gY (EI N) w u1 n (M i):=K;obtain⟨q,c1,rfl,q,_,a6⟩:=K;obtain⟨ae,_,_,rfl,_⟩:=a6 0 aq;have q:=sX (M:=M) (i:=i) aq C;have q:=aP D pn;refine aN ?_;refine gb ?_;refine aY (λf p=>f 5=.pointer (some ⟨b,0,none⟩)/\f 23=.slice (some Y) n P/\f 24=.int .i64 (n:Int)/\f 25=.int .i64 (i:Int)/\Ext w p/\yc p b b (oO n++iu M i++jm M i (i+1))/\b<p.heap.size/\∀k,k<i+1->fu (M i k)) ?_ ?_
   ·refine gb ?_;refine q9 dJ F rfl aq ?_;refine gb ?_;refine aU (λm f p=>∃j,m=i+1-j/\j<=i+1/\f 5=.pointer (some ⟨b,0,none⟩)/\f 23=.slice (some Y) n P/\f 24=.int .i64 (n:Int)/\f 25=.int .i64 (i:Int)/\f 33=.slice (some ae) (i+1) c1/\f 34=.int .i64 (((i+1):Nat):Int)/\f 35=.int .i64 ((j:Nat):Int)/\Ext w p/\yc p b b (oO n++iu M i++jm M i j)/\b<p.heap.size/\∀k,k<j->fu (M i k))
     (i+1) ⟨0,F,aE,F,F,F,F,F,F,F,D,by simpa[jm]using J,aq,λk h=>absurd h aq⟩ ?_
    clear J D R q;rintro m f W ⟨j,rfl,m,t,o,g,d,B,z,y,u,O,a1,x⟩;rw[ui t,ui o,ui g,ui d,ui B,ui z,ui y];clear t o g d B z y;by_cases m:j<i+1
    ·obtain⟨m,x1,y1,e2,ar,an,cQ⟩:=a6 j aq;obtain rfl:=Option.some.inj e2;have m:=aP u ar;have m:=aP u an;have ax:=sL (M:=M) (i:=i) (j:=j) x;refine gb ?_;refine aS (.inl F) a_ ?_;intro m ak ai m;rw[show(Value.agg #[Value.bool false,Value.slice none 0 0]).cells=#[Value.bool false,Value.slice none 0 0]from by simp[Value.cells]]at ak;have ay:x1.oneCell'=true:=by obtain⟨al,A,l,c,rfl,_⟩:=cQ;rfl
     have m:y1.oneCell'=true:=by obtain⟨al,A,l,c,_,rfl,_⟩:=cQ;rfl
     refine gb ?_;refine aZ aQ (.inl F) F rfl ay m ak aA ?_;intro w7 c l m;rw[zC]at c;have S:=l.aK (u.trans ai) (λq e=>by have:=u.size;omega);have V:Ext W w7:=l.aK ai λq e=>aq;have l:=iR c;have l:=fG c;have b1:=O.Y V;have c:∀a k,a=i->k<=a->k<j->fu (M a k):=λa k X _ E=>by subst X;exact x k E
     refine gb ?_;refine aJ (tc _ _ (M i j) N w7 (IV.Y cQ S) aq) ?_;rintro _ m ⟨c,⟨E,rfl⟩|⟨E,s,rfl⟩⟩;rotate_left
     ·refine gb ?_;refine aN ?_;refine gb ?_;exact cU (v:=Tx []) F rfl rfl ⟨S.trans c,.inr ⟨F,.inr ⟨λh=>E (h i j Z aq),F⟩⟩⟩
     have h:=S.trans c;have l:=b1.Y c;have q:=Ge (M i j);have q:j2 (M i j).natAbs<=2000:=E;have q:b<m.heap.size:=by have:=V.size;have:=c.size;omega
     have b0:(oO n).length=7:=F;refine gb ?_;refine aN ?_;refine gb ?_;refine aY (λf p=>f 5=.pointer (some ⟨b,0,none⟩)/\f 23=.slice (some Y) n P/\f 24=.int .i64 (n:Int)/\f 25=.int .i64 (i:Int)/\f 33=.slice (some ae) (i+1) c1/\f 34=.int .i64 (((i+1):Nat):Int)/\f 35=.int .i64 (j:Int)/\f 10=Tx (zt (M i j))/\Ext w p/\yc p b b (oO n++iu M i++jm M i j++(if j=0 then[]else[32]))/\b<p.heap.size) ?_ ?_
     ·by_cases c:j=0
      ·refine gb ?_;refine⟨F,F,F,F,F,F,F,F,h,?_,q⟩;rw[ab c,List.append_nil];exact l
      ·refine gb ?_;refine aJ (pt b b _ 32 w m h G l (by simp only[List.length_append];omega)) ?_;rintro _ w9 ⟨I,H,_,L⟩;refine gb ?_;refine⟨F,F,F,F,F,F,F,F,H,?_,L⟩;rw[aa c];exact I
     rintro f w9 ⟨t,o,g,d,B,z,y,c,H,I,L⟩;rw[ui c];rw[ui t,ui o,ui g,ui d,ui B,ui z,ui y];clear t o g d B z y;have c:(if j=0 then([]:List UInt8)else[32]).length<=1:=by split<;>simp
     refine gb ?_;refine aJ (nk b b _ (zt (M i j)) w w9 H G I (by simp only[List.length_append];omega)) ?_;rintro _ c ⟨l,h,_,c⟩;refine gb ?_;refine⟨_,?_,j+1,F,aq,F,F,F,F,F,F,F,h,?_,c,λk c=>?_⟩
     ·omega
     ·simp only[jm,<-List.append_assoc];exact l
     ·by_cases e:k=j
      ·subst e;exact E
      ·exact x k aq
    ·obtain rfl:j=i+1:=aq;refine gb ?_;exact⟨F,F,F,F,u,O,a1,x⟩
   rintro f W ⟨t,o,g,d,u,O,a1,Q⟩;rw[ui t,ui o,ui g,ui d];clear t o g d;have ax:=sL (M:=M) (i:=i) (j:=i+1) Q;have b0:(oO n).length=7:=F;refine gb ?_;refine aJ (pt b b _ 10 w W u G O (by simp only[List.length_append];omega)) ?_;rintro _ w9 ⟨I,H,_,L⟩;refine gb ?_;refine⟨_,?_,i+1,F,aq,F,F,F,F,H,?_,L,λa k c E=>?_⟩
   ·omega
   ·simp only[iu,<-List.append_assoc];exact I
   ·by_cases e:a=i
    ·subst e;exact Q k aq
    ·exact C a k aq E
  ·obtain rfl:i=n:=aq;refine gb ?_;exact⟨F,D,J,R,C⟩
 rintro f w4 ⟨t,D,J,R,C⟩;rw[ui t];refine gb ?_;refine aJ (ES b b _ w w4 D G J) ?_;rintro _ W ⟨u,rfl⟩;refine gb ?_;exact cU F rfl rfl ⟨u,.inr ⟨F,.inl ⟨C,F⟩⟩⟩
theorem Mj{l:List UInt8}(h:∀c∈l,iH c=true):zu l<10^l.length:=by
 suffices e:∀(l:List UInt8),(∀c∈l,iH c=true)->zu l.reverse<10^l.length by
  have:=e l.reverse λc b=>h c (List.mem_reverse.1 b);simpa using this
 intro l;induction l with
 |nil=>intro _;simp[zu]
 |cons a l d=>
  intro h;have e:=d λc b=>h c (by simp[b]);have b:=(kq a).1 (h a aA);rw[List.reverse_cons,sO,List.length_cons,Nat.pow_succ];omega
theorem JH{s:List UInt8}(h:lR s):Bd 209 (rS s):=by
 have a:=Mj h.1.2.1;have b:zu (kN s)<B^209:=Nat.lt_of_lt_of_le a (Nat.le_trans (Nat.pow_le_pow_right aw h.2) LQ);unfold Bd rS;split<;>omega
def yR(w:World)(b:Nat)(e:List (List UInt8))(d L:Nat):Prop:=
 ∃c,bg w b 74 #[Tx c,.int .i64 (d:Int)]/\wd 10 c=e/\c.length<=L
theorem yR.lt{w:World}{b:Nat}{c:List (List UInt8)}{a L:Nat}(h:yR w b c a L):b<w.heap.size:=by
 obtain⟨r,a,_⟩:=h;exact a.lt
theorem yR.Y{w w':World}{b:Nat}{c:List (List UInt8)}{a L:Nat}(h:yR w b c a L)(d:Ext w w'):yR w' b c a L:=by
 obtain⟨r,a,c⟩:=h;exact⟨r,a.Y d,c⟩
theorem yR.ch{M:Nat->Prop}{w w':World}{b:Nat}{c:List (List UInt8)}{a L:Nat}(h:yR w b c a L)(e:Ch M w w')(d:¬M b):yR w' b c a L:=by
 obtain⟨r,a,c⟩:=h;exact⟨r,a.ch e d,c⟩
def NC(a:List (List UInt8)):Value:=if 1<a.length then .tuple #[Tx (a.getD 0 []),.bool true]else .tuple #[Tx [],.bool false]
theorem zJ(b a L:Nat)(d:List (List UInt8))(w:World)(j:ML w)(h:yR w b d a L)(e:L<4294967281)(e:a<1000):
 aT Tryz.prog 30 #[.pointer (some ⟨b,0,none⟩)] w λv e=>v=NC d/\yR e b (if 1<d.length then d.tail else d) (a+1) L/\Ch (λq=>q=b) w e/\Kp w e/\(1<d.length->(d.getD 0 []).length<=L):=by
 obtain⟨c,s,f,A⟩:=h;refine bo (n:=30) Tryz.func30 F rfl az aA ?_;have e:w.cell? ⟨b,0+1,none⟩=some (.int .i64 (a:Int)):=by rw[s.cell];rfl
 refine gb ?_;refine bZ (aX F) (.inl F) F rfl s aA ?_;intro r o p e;rw[show(#[Tx c,.int .i64 (a:Int)]:Array Value).setIfInBounds (0+1) (.int .i64 ((a+1:Nat):Int))=#[Tx c,.int .i64 ((a+1:Nat):Int)] by simp]at o;have e:r.cell? ⟨b,0+0,none⟩=some (Tx c):=by rw[o.cell];rfl
 have B:ML r:=by
  obtain⟨m,j⟩:=j;by_cases e:1=b
  ·exfalso;have y:=s.cell 0;rw[<-e]at y;rw[j]at y;simp at y
  ·exact⟨m,by rw[jz p (World.block_lt_of_cell? w _ j) e];exact j⟩
 have j:Kp w r:=c8 s (λi z=>by
  match i with
  |0=>simp
  |1=>simp
  |i+2=>simp) p
 refine gb ?_;refine aJ (MX c 10 r B aq) ?_;rintro _ r ⟨e,rfl⟩;have k:=o.Y e;have x:Ch (λq=>q=b) w r:=p.trans e.ch;have u:=j.trans (bJ e);unfold NC;rcases g:d with _|⟨l,_|⟨m,t⟩⟩
 ·exact absurd (f.trans g) (yU _ _)
 ·rw[H3 (f.trans g)];refine gb ?_;refine aN ?_;refine gb ?_;exact cU (v:=Tx []) (v':=.bool false) F rfl rfl ⟨by rw[aa aA],⟨c,k,by rw[aa aA];exact f.trans g,A⟩,x,u,λh=>absurd h aA⟩
 ·obtain⟨r,c,e,d,d⟩:=H2 (f.trans g);rw[c];refine gb ?_;refine aN ?_;refine gb ?_;refine jg (v:=Tx r) pV (.inl F) F rfl rfl k aA ?_;intro g f c d;have d:bg g b 74 #[Tx r,.int .i64 ((a+1:Nat):Int)]:=by simpa using f
  refine gb ?_;refine cU (v:=Tx l) (v':=.bool true) F rfl rfl ⟨by rw[ab aA];rfl,⟨r,d,by rw[ab aA];exact e,aq⟩,x.trans c,u.trans (c8 k (λi z=>by
   match i with
   |0=>simp
   |1=>simp
   |i+2=>simp) c),λ_=>?_⟩
  show l.length<=L;omega
theorem zH(l:List UInt8):Lib.hasPrefix l [102,111,114,109,32]=decide (l.take 5=[102,111,114,109,32]):=by
 unfold Lib.hasPrefix;by_cases h:l.take 5=[102,111,114,109,32]
 ·rw[decide_eq_true h,List.isPrefixOf_iff_prefix,List.prefix_iff_eq_take];exact h.symm
 ·rw[decide_eq_false h];rw[Bool.eq_false_iff];intro a;rw[List.isPrefixOf_iff_prefix,List.prefix_iff_eq_take]at a;exact h a.symm
def yQ(a:List (List UInt8)):Nat:=if 1<a.length/\xw (a.getD 0 [])then oX a (tj (a.getD 0 [])) 0 else 1
