import Derived.Test.YtmfndnlifgphjaaGreatQzi
set_option maxHeartbeats 64000000
open Go.Proofs.YtmfndnlifgphjaaGreat
namespace Go.Proofs.Qq
section
open Go Go.cU Go.cV Go.Proofs
theorem Bo{w:World}{base:Nat}{v:Value}{l:List Nat}(b:fm l)(a:dw l)(h:w.ownsRow base 90 1 v l.length (l.map λx=>Value.int .u32 ((x:Nat):Int))):iV w v (val l):=by
 rcases sJ h with⟨rfl,rfl⟩|⟨g,c,rfl,_,h1,h2,h3⟩
 ·exact nh w
 ·exact⟨_,l,c,F,h1,aq,h3.GB b,a,F⟩
theorem q9(A:Option Addr)(n c:Nat)(l:List Nat)(w:World)(h:eP w A l)(k:l.length=n)(d:n<=c)(q:n<1099511627776):
 aT Tryz.prog 28 #[.slice A n c] w λv a=>Ext w a/\iV a v (val l)/\∀b,v.ownBlock=some b->w.heap.size<=b:=by
 subst k;refine bF (n:=22) Tryz.func28 F rfl aw aA ?_;refine gg ?_;refine aX (λf a=>w=a/\∃m,m<=l.length/\f 0=.slice A l.length c/\f 3=.int .i64 ((m:Nat):Int)/\dw (l.take m)/\val (l.take m)=val l) ?_ ?_
 ·refine kF ?_;refine aU (λm f a=>w=a/\m<=l.length/\f 0=.slice A l.length c/\f 3=.int .i64 ((m:Nat):Int)/\val (l.take m)=val l) l.length ⟨rfl,aD,rfl,rfl,aA⟩ ?_;rintro m f a ⟨rfl,o,p,k,e⟩;rw[ui p,ui k];refine aP ?_;rcases m with _|m
  ·refine gg ?_;exact⟨F,0,aq,F,F,by simp[dw.nil],e⟩
  ·obtain⟨k,rfl,k⟩:=h.at (j:=m) aq;have q:=k m aq;refine gg ?_;refine qh F (λd=>?_) λd=>?_
   ·refine gg ?_;refine⟨m,aq,F,aq,F,F,?_⟩;have p:l.getD m 0=0:=by simpa using d
    rw[<-e,a8 l m aq,p,Nat.mul_zero,Nat.add_zero]
   ·refine gg ?_;exact⟨F,m+1,aq,F,F,pg aq (by simpa using d),e⟩
 ·rintro f a ⟨rfl,m,o,f,d,p,e⟩;rw[ui f,ui d];refine gg ?_;refine oq (base:=w.heap.size) (m0:=0) (xs:=[]) (news:=(l.take m).map λx=>Value.int .u32 ((x:Nat):Int)) (v:=.slice _ _ _) di F ar (.inl F) F (World.ownsRow_nil _ _ _ _) F (by rw[List.length_map,List.length_take_of_le o,Nat.mul_one]) (yz (h.take m)) (rz _) aq aq aD ?_;intro k a f q _;refine gg ?_;rw[Nat.zero_add,List.nil_append]at f;have d:a.ownsRow w.heap.size 90 1 k (l.take m).length ((l.take m).map λx=>Value.int .u32 ((x:Nat):Int)):=by rw[List.length_take_of_le o];exact f
  refine cI (v:=k) F rfl ⟨q.aK (Ext.refl _) (λb i=>by simp[Value.ownBlock]at i),?_,?_⟩
  ·rw[<-e];exact Bo (h.e_.take m) p d
  ·intro b i;rcases sJ d with⟨rfl,_⟩|⟨g,a,rfl,h1,_⟩
   ·simp[Value.ownBlock]at i
   ·simp[Value.ownBlock]at i;omega
theorem fS(A:Option Addr)(n c:Nat)(l:List Nat)(w:World)(h:eP w A l)(b:l.length=n)(e:n<=c)(d:n<1099511627776):
 aT Tryz.prog 28 #[.slice A n c] w λv a=>Ext w a/\iV a v (val l):=
 (q9 A n c l w h b e d).mono λ_ _ a=>⟨a.1,a.2.1⟩
theorem ib(f:Bool)(A:Option Addr)(n c:Nat)(l:List Nat)(w:World)(h:eP w A l)(e:l.length=n)(v:n<=c)(s:n<1099511627776):
 aT Tryz.prog 58 #[.bool f,.slice A n c] w (RI w (sg f (val l))):=by
 subst e;refine bF (n:=16) Tryz.func58 F rfl aw aA ?_;refine gg ?_;refine aR (.inl F) a_ ?_;intro e k t D;refine gg ?_;refine aJ (fS _ _ _ _ e (h.Y t) F v s) ?_;rintro v e ⟨a,z,j,y,rfl,q,p,r,o,m⟩;by_cases C:f=true/\0<j.length
 ·obtain⟨rfl,s⟩:=C;refine gg ?_;refine pd (v0:=.bool (decide _)) (v1:=.slice _ _ _) s_ F rfl rfl rfl ?_;rw[decide_eq_true s];refine gg ?_;refine aV aN (.inl F) F rfl rfl rfl (k.Y a) ar ?_;intro B i d u;refine gg ?_;have g:=d.aK (t.trans a) λb x=>aq;refine dO F aN F i ⟨g,_,_,F,true,z,j,y,F,F,q,p,r.dj (k.Y a) cN d,o,λe=>absurd s (by rw[e];simp),by rw[m]⟩
 ·have x:(f&&decide (0<j.length))=false:=by cases f<;>simp_all
  cases f
  ·refine gg ?_;refine pd (v0:=.bool _) (v1:=.slice _ _ _) s_ F rfl rfl rfl ?_;refine gg ?_;refine aV aN (.inl F) F rfl rfl rfl (k.Y a) ar ?_;intro B i d u;refine gg ?_;have g:=d.aK (t.trans a) λb x=>aq;refine dO F aN F i ⟨g,_,_,F,false,z,j,y,F,F,q,p,r.dj (k.Y a) cN d,o,λ_=>rfl,by rw[m]⟩
  ·have f:¬0<j.length:=λh=>C ⟨rfl,h⟩;have e:j=[]:=List.eq_nil_of_length_eq_zero aq;refine gg ?_;refine pd (v0:=.bool (decide _)) (v1:=.slice _ _ _) s_ F rfl rfl rfl ?_;rw[decide_eq_false f];refine gg ?_;refine aV aN (.inl F) F rfl rfl rfl (k.Y a) ar ?_;intro B i d u;refine gg ?_;have g:=d.aK (t.trans a) λb x=>aq;refine dO F aN F i ⟨g,_,_,F,false,z,j,y,F,F,q,p,r.dj (k.Y a) cN d,o,λ_=>rfl,?_⟩;rw[<-m,e];rfl
theorem mo(x y:Value)(z:Int)(N:Nat)(w:World)(h:IV w N x y z)(a:N<1099511627776):
 aT Tryz.prog 38 #[.agg #[x,y]] w (RI w z):=by
 obtain⟨e,A,l,c,rfl,rfl,j,a,k,a,rfl⟩:=h;refine bF (n:=8) Tryz.func38 F rfl aw aA ?_;refine gg ?_;refine aZ (v:=.agg _) (.inl F) F ?_;intro a c d a;refine gg ?_;refine aR (.inl F) a_ ?_;intro i f b a;have a:=c.Y b;have c:=jy a;have c:=fG a;have g:=d.trans b;refine gg ?_;refine aJ (ib e _ _ _ l i (k.Y g) F j aq) ?_;rintro _ a ⟨c,a,a,rfl,a⟩;refine gg ?_;refine aV aN (.inl F) F rfl a.db a.de (f.Y c) ar ?_;intro b j e i;refine gg ?_;have i:Ext w b:=e.aK (g.trans c) (λb b=>by have:=d.size;omega);exact dO F aN F j ⟨i,_,_,F,a.dj (f.Y c) cN e⟩
theorem oV(x y:Value)(z:Int)(N:Nat)(w:World)(h:IV w N x y z)(a:N<1099511627776):
 aT Tryz.prog 33 #[.agg #[x,y]] w (RI w (-z)):=by
 obtain⟨e,A,l,c,rfl,rfl,j,a,k,a,rfl⟩:=h;refine bF (n:=9) Tryz.func33 F rfl aw aA ?_;refine gg ?_;refine aZ (v:=.agg _) (.inl F) F ?_;intro a c d a;refine gg ?_;refine aR (.inl F) a_ ?_;intro i f b a;have a:=c.Y b;have c:=jy a;have c:=fG a;have g:=d.trans b;refine gg ?_;refine aJ (ib (!e) _ _ _ l i (k.Y g) F j aq) ?_;rintro _ a ⟨c,a,a,rfl,a⟩;refine gg ?_;refine aV aN (.inl F) F rfl a.db a.de (f.Y c) ar ?_;intro b j e i;refine gg ?_;have i:Ext w b:=e.aK (g.trans c) (λb b=>by have:=d.size;omega);rw[wH]at a;exact dO F aN F j ⟨i,_,_,F,a.dj (f.Y c) cN e⟩
theorem na(a:Bool)(x:Nat)(w:World)(b:x<18446744073709551616):
 aT Tryz.prog 47 #[.bool a,.int .u64 (x:Int)] w (RI w (sg a x)):=by
 refine bF (n:=13) Tryz.func47 F rfl aw aA ?_;refine gg ?_;refine aR (.inl F) a_ ?_;intro f g e b;refine gg ?_;refine rZ (v0:=.int _ _) (v1:=.int _ _) di F (.inl F) F rfl rfl rfl ?_;intro b h d c;have c:bh b f.heap.size 90 (cells [x%4294967296,x/2^32%4294967296]):=h;have h:fm [x%4294967296,x/2^32%4294967296]:=by
  intro y f;simp at f;omega
 refine gg ?_;refine aJ (ib a _ _ _ _ b (c7 c h) F aD ar) ?_;rintro _ a ⟨c,a,a,rfl,a⟩;refine gg ?_;refine aV aN (.inl F) F rfl a.db a.de (g.Y (d.trans c)) ar ?_;intro b i f h;refine gg ?_;have h:Ext w b:=f.aK ((e.trans d).trans c) λb b=>aq;have e:val [x%4294967296,x/2^32%4294967296]=x:=by simp only[val,B];omega
 rw[e]at a;exact dO F aN F i ⟨h,_,_,F,a.dj (g.Y (d.trans c)) cN f⟩
theorem iy(z:Int)(w:World)(h1:-9223372036854775808<=z)(a:z<9223372036854775808):
 aT Tryz.prog 17 #[.int .i64 z] w (RI w z):=by
 refine bF (n:=12) Tryz.func17 F rfl aw aA ?_;refine gg ?_;refine aR (.inl F) a_ ?_;intro k f i a;refine gg ?_;by_cases a:z<0
 ·refine aP ?_;refine gg ?_;refine kL pf nT F ?_;refine gg ?_;refine qq F aq ?_;refine gg ?_;refine aJ (na true _ k (Nat.mod_lt _ ar)) ?_;rintro _ p ⟨c,o,m,rfl,a⟩;refine gg ?_;refine aV aN (.inl F) F rfl a.db a.de (f.Y c) ar ?_;intro j h d l;refine gg ?_;have g:Ext w j:=d.aK (i.trans c) λb q=>aq;have e:sg true ((18446744073709551616-(z%18446744073709551616).toNat)%18446744073709551616)=z:=by rw[e9];omega
  rw[e]at a;exact dO F aN F h ⟨g,_,_,F,a.dj (f.Y c) cN d⟩
 ·refine aP ?_;refine gg ?_;refine kL pf nT F ?_;refine gg ?_;refine aJ (na false _ k aq) ?_;rintro _ p ⟨c,o,m,rfl,a⟩;refine gg ?_;refine aV aN (.inl F) F rfl a.db a.de (f.Y c) ar ?_;intro j h d l;refine gg ?_;have g:Ext w j:=d.aK (i.trans c) λb q=>aq;have e:sg false ((z%18446744073709551616).toNat)=z:=by rw[fc];omega
  rw[e]at a;exact dO F aN F h ⟨g,_,_,F,a.dj (f.Y c) cN d⟩
theorem sD(p o:Option Addr)(i f s r:Nat)(a b:List Nat)(w:World)(h1:eP w p a)(l:eP w o b)(t:a.length=i)(k:b.length=f)(z:i<1099511627776)(z:f<1099511627776)(y:dw a)(x:dw b):
 aT Tryz.prog 60 #[.slice p i s,.slice o f r] w λv h=>Ext w h/\v=.int .i64 (dX (val a) (val b)):=by
 subst t k;refine bF (n:=41) Tryz.func60 F rfl aw aA ?_;refine gg ?_;by_cases f:a.length=b.length
 case neg=>
  refine aP ?_;refine gg ?_;refine aP ?_;by_cases i:a.length<b.length
  ·refine gg ?_;refine cI (v:=.int _ _) F rfl ⟨Ext.refl _,?_⟩;rw[dX,ae (iw h1.e_ x i)]
  ·refine gg ?_;refine cI (v:=.int _ _) F rfl ⟨Ext.refl _,?_⟩;have:=iw l.e_ y aq;rw[dX,aa aq,ae this];rfl
 refine aP ?_;refine gg ?_;refine aP ?_;refine gg ?_;have d:=f;refine aU (λm f h=>∃k,m=k/\k<=a.length/\f 0=.slice p a.length s/\f 1=.slice o b.length r/\f 5=.int .i64 ((k:Int)-1)/\Ext w h/\a.drop k=b.drop k) a.length ⟨_,rfl,aD,rfl,rfl,rfl,Ext.refl _,by rw[d];simp[<-d]⟩ ?_;rintro m f f ⟨k,rfl,f,h,f,e,q,g⟩;rw[ui h,ui f];rcases m with _|j
 ·rw[ui e];refine aP ?_;refine gg ?_;refine cI (v:=.int _ _) F rfl ⟨q,?_⟩;have:val a=val b:=by simp at g;rw[g]
  rw[dX,aa aq,aa aq];rfl
 ·have f:(((j+1:Nat):Int)-1)=(j:Int):=aq;rw[f]at e;rw[ui e];refine aP ?_;refine gg ?_;refine b7 [(0,3),(1,3),(2,3),(3,0),(4,3),(5,3),(6,3),(7,0),(8,3)] mixed aw λe e _=>?_;have c:=q.trans e;obtain⟨e,rfl,u⟩:=(h1.Y c).at (j:=j) aq;obtain⟨e,rfl,e⟩:=(l.Y c).at (j:=j) aq;have h:=u j aq;have f:=e j aq;by_cases e:a.getD j 0=b.getD j 0
  ·refine gg ?_;refine⟨j,aq,j,F,aq,F,F,F,c,?_⟩;rw[drop_cons a j aq,drop_cons b j aq,g,e]
  ·refine gg ?_;refine aP ?_;refine b7 [(0,3),(1,3),(2,3),(3,0),(4,3),(5,3),(6,3),(7,0),(8,3)] mixed aw λe e _=>?_;have h:=aS e h;have f:=aS e f;by_cases f:a.getD j 0<b.getD j 0
   ·refine gg ?_;refine cI (v:=.int _ _) F rfl ⟨c.trans e,?_⟩;rw[dX,ae (lM h1.e_ d aq g f)]
   ·refine gg ?_;refine cI (v:=.int _ _) F rfl ⟨c.trans e,?_⟩;have:=lM l.e_ d.symm aq g.symm (show b.getD j 0<a.getD j 0 by omega);rw[dX,aa aq,ae this];rfl
end
end Go.Proofs.Qq

namespace Go.cU
section
open Go
def fo(ops:Array Oper)(H:List Nat):List (Nat×Nat)->Array Bool->Option (Array Bool)
 |[],x=>some x
 |(i,0)::rest,x=>if(Region.ready .any ops x).contains i&&Region.free .any ops x i&&H.contains i then fo ops H rest (x.setIfInBounds i true)else none
 |(i,1)::rest,x=>if Region.ready .any ops x == [i]then fo ops H rest (x.setIfInBounds i true)else none
 |(i,2)::rest,x=>if Region.ready .any ops x == [i]&&F5 ops H x i then fo ops H rest (x.setIfInBounds i true)else none
 |(i,3)::rest,x=>if(Region.ready .any ops x).contains i&&Region.free .any ops x i then fo ops H rest (x.setIfInBounds i true)else none
 |(_,_+4)::_,_=>none
abbrev nP:=Nat×List (Nat×Nat)×List Nat
def uN(ops:Array Oper)(H:List Nat)(G:List nP)(a:List (Nat×Nat)):Nat->Array Bool->List Nat->Nat->Bool
 |0,x,L,fuel=>G.all (λg=>L.contains g.1)&&a.length == fuel&&iu ops H a x
 |k+1,x,L,fuel=>!(Region.ready .any ops x).isEmpty&&(Region.ready .any ops x).all λr=>
  match G.find? (λg=>g.1 == r)with
  |none=>false
  |some (i,b,nd)=>i == r&&!L.contains i&&nd.all (λd=>L.contains d)&&Nat.ble (b.length+1) fuel &&
   match fo ops H b (x.setIfInBounds i true)with
   |none=>false
   |some c=>uN ops H G a k c (i::L) (fuel-1-b.length)
section
variable {P:Program}{ops:Array Oper}{H:List Nat}{S:World->World->Prop}{n:Nat}
theorem pF:∀(a:List (Nat×Nat)) (x b:Array Bool),fo ops H a x=some b->b.size=x.size:=by
 intro a;induction a with
 |nil=>intro x b h;cases h;rfl
 |cons d rest c=>
  obtain⟨i,k⟩:=d;intro x b h
  match k,h with
  |0,h=>simp only[fo]at h;split at h<;>first|exact(c _ _ h).trans aA|cases h
  |1,h=>simp only[fo]at h;split at h<;>first|exact(c _ _ h).trans aA|cases h
  |2,h=>simp only[fo]at h;split at h<;>first|exact(c _ _ h).trans aA|cases h
  |3,h=>simp only[fo]at h;split at h<;>first|exact(c _ _ h).trans aA|cases h
  |_+4,h=>simp[fo]at h
theorem nf:∀(c:List (Nat×Nat)) (x d:Array Bool),jS ops x->fo ops H c x=some d->jS ops d:=by
 intro c;induction c with
 |nil=>intro x d b h;cases h;exact b
 |cons f rest e=>
  obtain⟨i,k⟩:=f;intro x d b h
  match k,h with
  |0,h=>
   simp only[fo]at h;split at h
   ·rename_i a;simp only[Bool.and_eq_true]at a;exact e _ _ (cm b (by simpa using a.1.1)) h
   ·cases h
  |1,h=>
   simp only[fo]at h;split at h
   ·rename_i a;have a:Region.ready .any ops x=[i]:=by simpa using a
    exact e _ _ (cm b (by rw[a];exact List.mem_singleton.2 F)) h
   ·cases h
  |2,h=>
   simp only[fo]at h;split at h
   ·rename_i a;simp only[Bool.and_eq_true,beq_iff_eq]at a;exact e _ _ (cm b (by rw[a.1];exact List.mem_singleton.2 F)) h
   ·cases h
  |3,h=>
   simp only[fo]at h;split at h
   ·rename_i a;simp only[Bool.and_eq_true]at a;exact e _ _ (cm b (by simpa using a.1)) h
   ·cases h
  |_+4,h=>simp[fo]at h
theorem CO{K K0:Fr->World->Prop}(O:∀a b c,S a b->S b c->S a c)(t:Region.noSelect ops=true){u:Nat}{N:Array Bool}
 (R:∀f w,K f w->Ds P ops H (QK n K0) S u N (act n f) w):
 ∀(z:List (Nat×Nat)) (x:Array Bool) (f:Fr) (w:World),x.size=ops.size->jS ops x->fo ops H z x=some N->Ro P n ops S K z f w->
  Ds P ops H (QK n K0) S (z.length+u) x (act n f) w:=by
 intro z;induction z with
 |nil=>
  intro x f w _ _ d h;unfold Ro at h;cases d;rw[List.length_nil,Nat.zero_add];exact R f w h
 |cons Q rest y=>
  obtain⟨i,k⟩:=Q;intro x f w e g d h;unfold Ro at h;obtain⟨o,s,h⟩:=h;have r:∀v,(act n f).put o.dst v=act n (fh f o.dst v):=fH n f o.dst;have U:(List.length ((i,k)::rest))+u=(rest.length+u)+1:=by simp only[List.length_cons];omega
  rw[U]
  match k,d with
  |0,d=>
   simp only[fo]at d;split at d
   case isFalse=>cases d
   rename_i l;simp only[Bool.and_eq_true]at l;obtain⟨⟨J,q⟩,G⟩:=l;have p:i∈Region.ready .any ops x:=by simpa using J
   by_cases m:want n ops f o=true
   ·rw[ae m]at h;unfold R1 at h;rw[ae F]at h;obtain⟨v,I,B⟩:=h;refine gn O (λ_ _ h=>h) (.inl G) s (Region.noSelect_spec t) (λ_ _ _ h=>h) _ x (act n f) w e g (Region.free_spec s q) p (v:=v) (.inl ⟨m,λD E=>?_⟩) ?_
    ·rw[b9];exact I D E
    ·rw[r];exact y _ _ _ (by simp[e]) (cm g p) d B
   ·rw[aa m]at h;refine gn O (λ_ _ h=>h) (.inl G) s (Region.noSelect_spec t) (λ_ _ _ h=>h) _ x (act n f) w e g (Region.free_spec s q) p (v:=undef) (.inr ⟨by simpa[want]using m,F⟩) ?_;rw[r];exact y _ _ _ (by simp[e]) (cm g p) d h
  |1,d=>
   simp only[fo]at d;split at d
   case isFalse=>cases d
   rename_i l;have l:Region.ready .any ops x=[i]:=by simpa using l
   refine⟨λL=>by simp[L]at l,λj C=>?_⟩;have A:=C;rw[l]at C;obtain rfl:j=i:=by simpa using C
   unfold Go.wpOp;simp only[s];change (if want n ops f o=true then _ else _);by_cases m:want n ops f o=true
   ·rw[ae m]at h⊢;refine .inl (Oper.wp_mono (λV D M=>?_) (jV ot (h.wp aq)));obtain⟨T,rfl,E,B⟩:=M;exact⟨.inr (E.resolve_left aq),y _ _ _ (by simp[e]) (cm g A) d B⟩
   ·rw[aa m]at h⊢;exact⟨aA,by rw[r];exact y _ _ _ (by simp[e]) (cm g A) d h⟩
  |2,d=>
   simp only[fo]at d;split at d
   case isFalse=>cases d
   rename_i l;simp only[Bool.and_eq_true,beq_iff_eq]at l;refine⟨λL=>by simp[L]at l,λj C=>?_⟩;have A:=C;rw[l.1]at C;obtain rfl:j=i:=by simpa using C
   unfold Go.wpOp;simp only[s];change (if want n ops f o=true then _ else _);by_cases m:want n ops f o=true
   ·rw[ae m]at h⊢;refine .inl (Oper.wp_mono (λV D M=>?_) (jV ot (h.wp aq)));obtain⟨T,rfl,E,B⟩:=M;exact⟨.inl l.2,y _ _ _ (by simp[e]) (cm g A) d B⟩
   ·rw[aa m]at h⊢;exact⟨.inl l.2,by rw[r];exact y _ _ _ (by simp[e]) (cm g A) d h⟩
  |3,d=>
   simp only[fo]at d;split at d
   case isFalse=>cases d
   rename_i l;simp only[Bool.and_eq_true]at l;obtain⟨J,q⟩:=l;have p:i∈Region.ready .any ops x:=by simpa using J
   by_cases m:want n ops f o=true
   ·rw[ae m]at h;unfold R1 at h;rw[aa ar,ae F]at h;obtain⟨v,I,B⟩:=h;refine gn lN (λ_ _ _=>trivial) (.inr λ_ _=>trivial) s (Region.noSelect_spec t) (λ_ _ _ h=>h) _ x (act n f) w e g (Region.free_spec s q) p (v:=v) (.inl ⟨m,λD E=>?_⟩) ?_
    ·rw[b9];exact I D
    ·rw[r];exact y _ _ _ (by simp[e]) (cm g p) d B
   ·rw[aa m]at h;refine gn lN (λ_ _ _=>trivial) (.inr λ_ _=>trivial) s (Region.noSelect_spec t) (λ_ _ _ h=>h) _ x (act n f) w e g (Region.free_spec s q) p (v:=undef) (.inr ⟨by simpa[want]using m,F⟩) ?_;rw[r];exact y _ _ _ (by simp[e]) (cm g p) d h
  |_+4,d=>simp[fo]at d
def Rg(P:Program)(n:Nat)(ops:Array Oper)(S:World->World->Prop)(G:List nP)(e:List (Nat×Nat))(K:Fr->World->Prop)(f:Fr)(w:World):Prop:=
 ∃a:List Nat->Fr->World->Prop,a [] f w/\
  (∀i b c,(i,b,c)∈G->∀L f w,(c.all λd=>L.contains d)=true->L.contains i=false->a L f w->Ro P n ops S (a (i::L)) ((i,1)::b) f w)/\
  (∀L f w,(G.all λg=>L.contains g.1)=true->a L f w->Ro P n ops S K e f w)
theorem CW{K:Fr->World->Prop}{G:List nP}{C:List (Nat×Nat)}(X:∀a b c,S a b->S b c->S a c)(E:Region.noSelect ops=true){q:List Nat->Fr->World->Prop}
 (hG:∀i m J,(i,m,J)∈G->∀L f w,(J.all λd=>L.contains d)=true->L.contains i=false->q L f w->Ro P n ops S (q (i::L)) ((i,1)::m) f w)
 (hS:∀L f w,(G.all λg=>L.contains g.1)=true->q L f w->Ro P n ops S K C f w):
 ∀(k:Nat) (x:Array Bool) (L:List Nat) (e:Nat) (f:Fr) (w:World),x.size=ops.size->jS ops x->uN ops H G C k x L e=true->q L f w->Ds P ops H (QK n K) S e x (act n f) w:=by
 intro k;induction k with
 |zero=>
  intro x L e f w u y p Q;simp only[uN,Bool.and_eq_true,beq_iff_eq]at p;obtain⟨⟨h1,rfl⟩,h3⟩:=p;exact vG X E C x f w u y h3 (hS L f w h1 Q)
 |succ k ih=>
  intro x L e f w u y p Q;simp only[uN,Bool.and_eq_true,List.all_eq_true]at p;obtain⟨D,I⟩:=p;rcases e with _|e
  ·exfalso;rcases W:Region.ready .any ops x with _|⟨r,t⟩
   ·rw[W]at D;cases D
   ·have h:=I r (by rw[W];exact aG);split at h
    ·cases h
    ·simp[Nat.ble_eq]at h
  refine⟨λh0=>absurd D (by rw[h0];simp),λj O=>?_⟩;have h:=I j O;split at h
  ·cases h
  rename_i i m J M;simp only[Bool.and_eq_true,beq_iff_eq,Nat.ble_eq,Bool.not_eq_true']at h;obtain⟨⟨⟨⟨rfl,a1⟩,a0⟩,a3⟩,h⟩:=h;split at h
  ·cases h
  rename_i x' s;have T:=List.mem_of_find?_eq_some M;have l:=hG i m J T L f w a0 a1 Q;have Z:=pF _ _ _ s;have z:∀B A,Ro P n ops S (q (i::L)) m B A->Ds P ops H (QK n K) S e (x.setIfInBounds i true) (act n B) A:=λB A N=>by
   have:=CO (K0:=K) X E (λa2 Y U=>ih x' (i::L) (e+1-1-m.length) a2 Y (by rw[Z];simp[u]) (nf _ _ _ (cm y O) s) h U) m (x.setIfInBounds i true) B A (by simp[u]) (cm y O) s N;rw[show m.length+(e+1-1-m.length)=e by omega]at this;exact this
  unfold Ro at l;obtain⟨o,ho,l⟩:=l;have R:∀v,(act n f).put o.dst v=act n (fh f o.dst v):=fH n f o.dst;unfold Go.wpOp;simp only[ho];change (if want n ops f o=true then _ else _);by_cases V:want n ops f o=true
  ·rw[ae V]at l⊢;refine .inl (Oper.wp_mono (λa' A h'=>?_) (jV ot (l.wp aq)));obtain⟨B,rfl,hs,N⟩:=h';exact⟨.inr (hs.resolve_left aq),z _ _ N⟩
  ·rw[aa V]at l⊢;exact⟨aA,by rw[R];exact z _ _ l⟩
def ys(ops:Array Oper)(a:List (Nat×Nat))(G:List nP)(b:List (Nat×Nat)):Bool:=
 Region.noSelect ops&&Nat.ble a.length ops.size &&
  match fo ops (qF a++(G.map λg=>qF g.2.1).flatten++qF b) a (Array.replicate ops.size false)with
  |none=>false
  |some x=>uN ops (qF a++(G.map λg=>qF g.2.1).flatten++qF b) G b G.length x [] (ops.size-a.length)
theorem yR{Q:Exit->Fr->World->Prop}{q:Nat}{f:Fr}{w:World}(m:∀a b c,S a b->S b c->S a c)(g:List (Nat×Nat))(G:List nP)(k:List (Nat×Nat))(s:P.follows .mixedOrders=true)
 (d:ys ops g G k=true)
 (h:Ro P n ops S (Rg P n ops S G k λf w=>Q .normal f w) g f { w with drawn:=w.drawn+1 }):W P n (.region q ops true) Q f w:=by
 simp only[ys,Bool.and_eq_true,Nat.ble_eq]at d;obtain⟨⟨j,z⟩,d⟩:=d;split at d
 ·cases d
 rename_i x i;have r:=pF _ _ _ i;have o:=CO (K0:=λf w=>Q .normal f w) m j (λy p ⟨A,u,v,t⟩=>CW m j v t _ x [] _ y p (by rw[r];simp) (nf _ _ _ (lu ops) i) d u) g _ f _ aA (lu ops) i h;rw[show g.length+(ops.size-g.length)=ops.size by omega]at o;unfold W;refine Code.wp_mono (λe a w l=>?_) (wp_region_any s (x7 _ _ _ _ o));cases e<;>first|exact l|exact l.elim
theorem iq{Q:Exit->Fr->World->Prop}{g:Nat}{ops:Array Oper}{c:Code}{f:Fr}{w:World}(b:List (Nat×Nat))(G:List nP)(a:List (Nat×Nat))(i:P.follows .mixedOrders=true)
 (e:ys ops b G a=true)
 (h:∀d,Ext w d->d.heap=w.heap->Ro P n ops Ext (Rg P n ops Ext G a (W P n c Q)) b f d):W P n (.seq (.region g ops true) c) Q f w:=
 aP (yR ov b G a i e (by rw[ji];exact h _ (kC w) F))
end
attribute [irreducible] Rg
theorem vH{P:Program}{n:Nat}{ops:Array Oper}{S:World->World->Prop}{G:List nP}{b:List (Nat×Nat)}{K:Fr->World->Prop}{f:Fr}{w:World}
 (a:List Nat->Fr->World->Prop) (h:a [] f w)
 (e:∀i c d,(i,c,d)∈G->∀L f w,(d.all λd=>L.contains d)=true->L.contains i=false->a L f w->Ro P n ops S (a (i::L)) ((i,1)::c) f w)
 (c:∀L f w,(G.all λg=>L.contains g.1)=true->a L f w->Ro P n ops S K b f w):Rg P n ops S G b K f w:=by
 unfold Rg;exact⟨a,h,e,c⟩
end
end Go.cU
namespace Go.Proofs.Qq
section
open Go Go.cU Go.cV Go.Proofs
theorem kl{P:Program}{n:Nat}{S:World->World->Prop}{k:Nat}{K:Fr->World->Prop}{f:Fr}{w:World}{d ty:Nat}{a:String}{b:Array Edge}{c:Option (Nat×Bool)}{g:Fn}{l:List Operand}
 (h:K (bS f d (.func g #[] (l.map (ev n f)).toArray)) w):R1 P n S k ⟨some d,.makeFunc g #[] l.toArray,ty,a,b,c⟩ K f w:=
 Fz (by simpa using h)
theorem rY{P:Program}{n:Nat}{S:World->World->Prop}{k:Nat}{K:Fr->World->Prop}{f:Fr}{w:World}{d ty:Nat}{j:String}{m:Array Edge}{r:Option (Nat×Bool)}{g:FuncId}{x i e:Operand}{l:Array TypeId}{cap:List Value}{v0 v1:Value}{b:Value->World->Prop}
 (q:k=2\/k=1) (o:ev n f x=.func (.func g) #[] cap.toArray) (s:ev n f i=v0) (e1:ev n f e=v1) (p:aT P g (v0::v1::cap).toArray w b)
 (h:∀v c,b v c->(k=1->S w c)/\K (bS f d v) c):R1 P n S k ⟨some d,.call { callee:=.value x,args:=#[i,e],argTypes:=l },ty,j,m,r⟩ K f w:=
 Dc q o (by simp[s,e1]) p h
def arr(n:Nat)(h:Nat->Value):Array Value:=(Array.range n).map h
theorem bk(n:Nat)(h:Nat->Value):(arr n h).size=n:=by simp[arr]
theorem b8{n i:Nat}{h:Nat->Value}(a:i<n):(arr n h)[i]?=some (h i):=by simp[arr,a]
theorem il(z:Array Value)(n:Nat):madeCells z n=arr n (λk=>z[k%z.size]!):=F
theorem bG(h:Nat->Value)(i:Nat)(v:Value):bS h i v i=v:=by simp[bS]
theorem bw(h:Nat->Value){i j:Nat}(v:Value)(a:j≠i):bS h i v j=h j:=by
 have:Nat.beq j i=false:=by
  cases b:Nat.beq j i
  ·rfl
  ·exact absurd (Nat.eq_of_beq_eq_true b) a
 simp[bS,this]
theorem cC(n i:Nat)(h:Nat->Value)(v:Value):(arr n h).setIfInBounds i v=arr n (bS h i v):=by
 apply Array.ext_getElem?;intro j;rw[Array.getElem?_setIfInBounds];by_cases a:j<n
 ·rw[b8 a];by_cases b:i=j
  ·subst b;rw[ae F,ae (by rw[bk];exact a),b8 a,bG]
  ·rw[aa b,b8 a,bw h v (Ne.symm b)]
 ·have c:(arr n h)[j]?=none:=by simp[arr,a]
  have b:(arr n (bS h i v))[j]?=none:=by simp[arr,a]
  rw[c,b];split
  ·rw[aa (by rw[bk];omega)]
  ·rfl
def fR(M:Nat->Int)(j:Nat)(z:Int):Nat->Int:=λk=>if k=j then z else M k
def iU(w:World)(g c:Nat)(M:Nat->Int):Prop:=∃h,bh w g 35 (arr (c*2) h)/\∀j,j<c->CV w (h (j*2)) (h (j*2+1)) (M j)
theorem CV.zero(w:World):CV w (.bool false) (.slice none 0 0) 0:=⟨false,none,[],0,F,F,Nat.le_refl _,by omega,eP.nil _ _,dw.nil,λ_=>rfl,rfl⟩
theorem rq{w:World}{g c:Nat}(h:bh w g 35 (madeCells (Value.agg #[.bool false,.slice none 0 0]).cells (c*2))):iU w g c (λ_=>0):=by
 refine⟨_,by rw[il]at h;exact h,λj a=>?_⟩;have b:j*2%2=0:=aq;have a:(j*2+1)%2=1:=aq;have:(Value.agg #[.bool false,.slice none 0 0]).cells=#[.bool false,.slice none 0 0]:=F;simp only[this];show CV w (#[Value.bool false,.slice none 0 0][j*2%2]!) (#[Value.bool false,.slice none 0 0][(j*2+1)%2]!) 0;rw[b,a];exact CV.zero w
theorem iU.Y{w w':World}{g c:Nat}{M:Nat->Int}(h:iU w g c M)(a:Ext w w'):iU w' g c M:=by
 obtain⟨h,b,d⟩:=h;exact⟨h,b.Y a,λj b=>(d j b).Y a⟩
theorem iU.j7{w:World}{c:Nat}{h:Nat->Value}{M:Nat->Int}(f:∀j,j<c->CV w (h (j*2)) (h (j*2+1)) (M j)):jL (arr (c*2) h):=by
 intro i k z a;by_cases b:i<c*2
 ·rw[b8 b]at a;have a:=Option.some.inj a;obtain⟨g,A,l,g,e,d,_⟩:=f (i/2) aq;rcases Nat.mod_two_eq_zero_or_one i with f|f
  ·rw[show i/2*2=i by omega]at e;rw[e]at a;cases a
  ·rw[show i/2*2+1=i by omega]at d;rw[d]at a;cases a
 ·simp[arr,b]at a
theorem iU.congr{w:World}{g c:Nat}{M M':Nat->Int}(h:iU w g c M)(e:∀j,j<c->M j=M' j):iU w g c M':=by
 obtain⟨h,a,b⟩:=h;exact⟨h,a,λj a=>by rw[<-e j a];exact b j a⟩
theorem iU.lt{w:World}{g c:Nat}{M:Nat->Int}(h:iU w g c M):g<w.heap.size:=by
 obtain⟨h,a,b⟩:=h;exact a.lt
theorem du{n:Nat}{h h':Nat->Value}(e:∀k,k<n->h k=h' k):arr n h=arr n h':=by
 apply Array.ext_getElem?;intro j;by_cases a:j<n
 ·rw[b8 a,b8 a,e j a]
 ·simp[arr,a]
theorem iU.dj{w w':World}{g c G T:Nat}{cs:Array Value}{M:Nat->Int}(h:iU w g c M)(i:bh w G T cs)(e:jL cs)(a:Ch (λb=>b=G) w w')(b:g≠G):iU w' g c M:=by
 obtain⟨h,d,f⟩:=h;exact⟨h,d.ch a b,λj b=>(f j b).dj i e a⟩
theorem iU.set{w w':World}{g c j:Nat}{h:Nat->Value}{M:Nat->Int}{x y:Value}{z:Int}(f:bh w g 35 (arr (c*2) h))(e:∀j,j<c->CV w (h (j*2)) (h (j*2+1)) (M j))
 (l:CV w x y z) (i:Ch (λb=>b=g) w w') (b:bh w' g 35 (((arr (c*2) h).setIfInBounds (0+j*2) x).setIfInBounds (0+j*2+1) y)):iU w' g c (fR M j z):=by
 refine⟨_,by rw[cC,cC]at b;exact b,λk m=>?_⟩;have d:=iU.j7 e;by_cases a:k=j
 ·subst a;rw[Nat.zero_add,bw _ _ (show k*2≠k*2+1 by omega),bG,bG];simp only[fR,if_true];exact l.dj f d i
 ·rw[Nat.zero_add,bw _ _ aq,bw _ _ aq,bw _ _ aq,bw _ _ aq];simp only[fR,aa a];exact(e k m).dj f d i
theorem dJ{r:Nat}{h:Nat->Value}(d:∀i,i<r->∃A m c,h i=.slice A m c):jL (arr r h):=by
 intro i k z a;by_cases b:i<r
 ·rw[b8 b]at a;obtain⟨A,m,c,e⟩:=d i b;rw[e]at a;cases a
 ·simp[arr,b]at a
structure jF(w:World)(gO:Nat)(gs:Nat->Nat)(r c:Nat)(M:Nat->Nat->Int):Prop where
 outer:bh w gO 27 (arr r λi=>.slice (some ⟨gs i,0,none⟩) c c)
 row:∀i,i<r->iU w (gs i) c (M i)
 ne:∀i,i<r->gs i≠gO
 inj:∀i j,i<r->j<r->gs i=gs j->i=j
theorem jF.Y{w w':World}{d:Nat}{b:Nat->Nat}{r c:Nat}{M:Nat->Nat->Int}(h:jF w d b r c M)(a:Ext w w'):jF w' d b r c M:=
 ⟨h.outer.Y a,λi b=>(h.row i b).Y a,h.ne,h.inj⟩
def RM(w:World)(r c:Nat)(M:Nat->Nat->Int)(v:Value)(w':World):Prop:=
 Ext w w'/\∃b d,v=.slice (some ⟨b,0,none⟩) r r/\w.heap.size<=b/\(∀i,i<r->w.heap.size<=d i)/\jF w' b d r c M
def iN(E:World->Value->Value->Int->Prop)(w:World)(v:Value)(c:Nat)(g:Nat->Int):Prop:=
 ∃A b,v=.slice A c b/\c<=b/\b<9223372036854775808/\∀j,j<c->∃b x y,A=some b/\w.cell? (b.add (j*2))=some x/\w.cell? ((b.add (j*2)).add 1)=some y/\E w x y (g j)
def cO(E:World->Value->Value->Int->Prop)(w:World)(v:Value)(r:Nat)(c:Nat->Nat)(M:Nat->Nat->Int):Prop:=
 ∃A b,v=.slice A r b/\r<=b/\b<9223372036854775808/\∀i,i<r->∃b u,A=some b/\w.cell? (b.add (i*1))=some u/\iN E w u (c i) (M i)
def EI(N:Nat):World->Value->Value->Int->Prop:=λw x y z=>IV w N x y z
theorem iN.Y{w w':World}{N c:Nat}{v:Value}{g:Nat->Int}(h:iN (EI N) w v c g)(a:Ext w w'):iN (EI N) w' v c g:=by
 obtain⟨A,b,rfl,e,d,k⟩:=h;refine⟨A,b,F,e,d,λj f=>?_⟩;obtain⟨l,x,y,e,d,b,i⟩:=k j f;exact⟨l,x,y,e,aS a d,aS a b,IV.Y i a⟩
theorem cO.Y{w w':World}{N r:Nat}{a:Nat->Nat}{v:Value}{M:Nat->Nat->Int}(h:cO (EI N) w v r a M)(b:Ext w w'):cO (EI N) w' v r a M:=by
 obtain⟨A,c,rfl,d,a,f⟩:=h;refine⟨A,c,F,d,a,λj d=>?_⟩;obtain⟨g,u,e,a,c⟩:=f j d;exact⟨g,u,e,aS b a,c.Y b⟩
theorem iU.read{w:World}{g c N:Nat}{M:Nat->Int}(h:iU w g c M)(e:∀j,j<c->(M j).natAbs<B^N)(a:c<9223372036854775808):iN (EI N) w (.slice (some ⟨g,0,none⟩) c c) c M:=by
 obtain⟨h,b,d⟩:=h;refine⟨_,_,F,aD,a,λj a=>⟨_,h (j*2),h (j*2+1),rfl,?_,?_,(d j a).iv (e j a)⟩⟩
 ·rw[add_lit,b.cell,b8 aq,Nat.zero_add]
 ·rw[add_lit,add_lit,b.cell,b8 aq,Nat.zero_add]
theorem jF.read{w:World}{a:Nat}{b:Nat->Nat}{r c N:Nat}{M:Nat->Nat->Int}(h:jF w a b r c M)(e:∀i j,i<r->j<c->(M i j).natAbs<B^N)(b:r<9223372036854775808)(d:c<9223372036854775808):
 cO (EI N) w (.slice (some ⟨a,0,none⟩) r r) r (λ_=>c) M:=
 ⟨_,_,F,aD,b,λi a=>⟨_,_,rfl,by rw[add_lit,h.outer.cell,b8 aq,Nat.zero_add,Nat.mul_one],(h.row i a).read (λj b=>e i j a b) d⟩⟩
theorem lT(r c g:Nat)(cap:List Value)(M:Nat->Nat->Int)(w:World)(hr:r<1073741824)(hc:c<1073741824)
 (hf:∀i j,i<r->j<c->∀l,Ext w l->aT Tryz.prog g (.int .i64 ((i:Nat):Int)::.int .i64 ((j:Nat):Int)::cap).toArray l (RI l (M i j))):
 aT Tryz.prog 99 #[.int .i64 (r:Int),.int .i64 (c:Int),.func (.func g) #[] cap.toArray] w (RM w r c M):=by
 refine bF (n:=43) Tryz.func99 F rfl aw aA ?_;refine gg ?_;refine cF fU (.inl F) F rfl aD aq aq ?_;intro s B S a7;rw[il,Nat.mul_one]at B;refine gg ?_;refine aX (λf l=>∃d,f 7=.slice (some ⟨w.heap.size,0,none⟩) r r/\Ext w l/\(∀i,i<r->w.heap.size<d i)/\jF l w.heap.size d r c M) ?_ ?_
 ·refine gg ?_;refine aU (λm f l=>∃i d h,m=r-i/\i<=r/\f 1=.int .i64 (c:Int)/\f 2=.func (.func g) #[] cap.toArray/\f 7=.slice (some ⟨w.heap.size,0,none⟩) r r/\f 13=.int .i64 (r:Int)/\f 14=.int .i64 ((i:Nat):Int)/\
   Ext w l/\bh l w.heap.size 27 (arr r h)/\(∀k,k<r->∃A m c,h k=.slice A m c)/\(∀k,k<i->h k=.slice (some ⟨d k,0,none⟩) c c/\iU l (d k) c (M k)/\w.heap.size<d k)/\(∀k O,k<i->O<i->d k=d O->k=O))
   r ⟨0,λ_=>0,_,rfl,aE,rfl,rfl,rfl,rfl,rfl,S,B,λk _=>⟨none,0,0,by simp[Value.cells,Nat.mod_one]⟩,λk a=>absurd a aq,λk O a=>absurd a aq⟩ ?_
  clear B S a7 s;rintro m f s ⟨i,d,h,rfl,hi,K,J,C,E,D,S,B,T,t,X⟩;rw[ui K,ui J,ui C,ui E,ui D];clear K J C E D;by_cases U:i<r
  ·refine gg ?_;refine cF eE (.inl F) F rfl aD aq aq ?_;intro w2 a4 u ad;have hO:=rq a4;refine gg ?_;refine cH (aW F) (.inl F) F rfl (B.Y u) (by rw[bk];omega) ?_;intro R o Q ab;have hg:w.heap.size≠s.heap.size:=by have:=B.lt;omega
   have L:=hO.dj (B.Y u) (dJ T) Q hg.symm;rw[cC,Nat.zero_add,Nat.mul_one]at o;have I:Ext w R:=Q.aK (S.trans u) λb hb=>aq;have a6:s.heap.size<R.heap.size:=aq;have hx:R.cell? ⟨w.heap.size,0+i*1,none⟩=some (.slice (some ⟨s.heap.size,0,none⟩) c c):=by
    rw[o.cell,b8 aq,Nat.zero_add,Nat.mul_one,bG]
   have z:∀k,k<i->h k=.slice (some ⟨d k,0,none⟩) c c/\iU R (d k) c (M k)/\w.heap.size<d k/\d k<s.heap.size:=λk a=>by
    obtain⟨e,ho,hl⟩:=t k a;refine⟨e,(ho.Y u).dj (B.Y u) (dJ T) Q aq,hl,?_⟩;obtain⟨_,hb,_⟩:=ho;exact hb.lt
   clear t Q hO a4 B u;refine gg ?_;refine aU (λm f l=>∃j Z,m=c-j/\j<=c/\f 1=.int .i64 (c:Int)/\f 2=.func (.func g) #[] cap.toArray/\f 7=.slice (some ⟨w.heap.size,0,none⟩) r r/\f 8=.int .i64 (i:Int)/\f 13=.int .i64 (r:Int)/\f 14=.int .i64 (i:Int)/\
    f 26=.int .i64 (c:Int)/\f 27=.int .i64 (j:Int)/\Ext w l/\bh l w.heap.size 27 (arr r (bS h i (.slice (some ⟨s.heap.size,0,none⟩) c c)))/\(∀k,k<i->iU l (d k) c (M k))/\iU l s.heap.size c Z/\∀q,q<j->Z q=M i q)
    c ⟨0,λ_=>0,rfl,aE,rfl,rfl,rfl,rfl,rfl,rfl,rfl,rfl,I,o,λk a=>(z k a).2.1,L,λq hq=>absurd hq aq⟩ ?_
   have p:∀k,k<i->h k=.slice (some ⟨d k,0,none⟩) c c/\w.heap.size<d k/\d k<s.heap.size:=λk a=>⟨(z k a).1,(z k a).2.2⟩;have an:=S.size;have a5:∀k,k<r->∃A m cc,bS h i (.slice (some ⟨s.heap.size,0,none⟩) c c) k=.slice A m cc:=λk a=>by
    by_cases G:k=i
    ·subst G;exact⟨_,_,_,bG _ _ _⟩
    ·rw[bw _ _ G];exact T k a
   clear z L o I hx ab a6 R ad w2 f;rintro m f R ⟨j,Z,rfl,hj,K,J,C,a1,E,D,a0,Y,I,o,a3,L,hZ⟩;rw[ui K,ui J,ui C,ui a1,ui E,ui D,ui a0,ui Y];clear K J C a1 E D a0 Y;by_cases ai:j<c
   ·refine gg ?_;refine c8 [(0,3),(1,3),(2,3),(3,0),(4,3),(5,3),(6,3),(7,3),(8,1),(9,3),(10,2)] mixed aw λw4 H _=>?_;have hx:w4.cell? ⟨w.heap.size,0+i*1,none⟩=some (.slice (some ⟨s.heap.size,0,none⟩) c c):=by
     rw[(o.Y H).cell,b8 aq,Nat.zero_add,Nat.mul_one,bG]
    refine gg ?_;refine rY (.inr F) F rfl rfl (hf i j U ai w4 (I.trans H)) ?_;rintro _ w5 ⟨N,x,y,rfl,V⟩;refine⟨λ_=>N,?_⟩;obtain⟨hh,W,a2⟩:=L.Y (H.trans N);refine gg ?_;refine aV aN (.inl F) F rfl V.db V.de W (by rw[bk];omega) ?_;intro w6 al P au;have aj:=iU.set W a2 V P al;have ak:Ext w w6:=P.aK ((I.trans H).trans N) λb hb=>aq;have hg:w.heap.size≠s.heap.size:=by have:=o.lt;omega
    refine gg ?_;refine⟨_,?_,j+1,_,F,aq,F,F,F,F,F,F,F,F,ak,(o.Y (H.trans N)).ch P hg,λk a=>((a3 k a).Y (H.trans N)).dj W (iU.j7 a2) P (by have:=(p k a).2.2;omega),aj,λq hq=>?_⟩
    ·omega
    ·unfold fR;split
     ·rename_i e;rw[e]
     ·exact hZ q aq
   ·refine gg ?_;have:j=c:=aq;subst this;refine⟨_,?_,i+1,λk=>if k=i then s.heap.size else d k,_,rfl,aq,F,F,F,F,F,I,o,a5,λk a=>?_,λk O a av e=>?_⟩
    ·omega
    ·by_cases G:k=i
     ·subst G;rw[bG];simp only[if_true];exact⟨trivial,L.congr hZ,aq⟩
     ·rw[bw _ _ G];simp only[aa G];exact⟨(p k aq).1,a3 k aq,(p k aq).2.1⟩
    ·simp only at e;split at e<;>split at e
     ·omega
     ·have:=(p O aq).2.2;omega
     ·have:=(p k aq).2.2;omega
     ·exact X k O aq aq e
  ·refine gg ?_;have:i=r:=aq;subst this;refine⟨d,F,S,λk a=>(t k a).2.2,⟨?_,λk a=>(t k a).2.1,λk a=>by have:=(t k a).2.2;omega,X⟩⟩;rw[du λk a=>(t k a).1]at B;exact B
 ·rintro f w2 ⟨d,C,u,U,hO⟩;rw[ui C];refine gg ?_;exact cI (v:=.slice _ _ _) F rfl ⟨u,_,d,F,aD,λi hi=>Nat.le_of_lt (U i hi),hO⟩
theorem su{P:Program}{n:Nat}{f:Fr}{w:World}{b:Func}{t u s:Tmp}{a:Value->World->Prop}{v v' v'':Value}(k:b.results=#[.tmp t,.tmp u,.tmp s])(i:ev n f (.tmp t)=v)(g:ev n f (.tmp u)=v')(j:ev n f (.tmp s)=v'')(h:a (.tuple #[v,v',v'']) w):
 bodyPost P b (xB a) .ret (act n f) w:=by
 refine bodyPost_ret (v:=.tuple #[v,v',v'']) ?_ F ⟨_,F,h⟩;have e:=congrFun (b9 n f) (.tmp t);have c:=congrFun (b9 n f) (.tmp u);have d:=congrFun (b9 n f) (.tmp s);simp only[Act.eval]at e c d;have a:(act n f).tmps[t]?.getD undef=v:=by rw[<-i,<-e];simp
 have b:(act n f).tmps[u]?.getD undef=v':=by rw[<-g,<-c];simp
 have c:(act n f).tmps[s]?.getD undef=v'':=by rw[<-j,<-d];simp
 simp[results,k,a,b,c]
def l_(r:Nat)(b:Nat->Nat):Bool:=decide (1<=r/\r<=16/\1<=b 0/\b 0<=16)&&(List.range r).all λi=>b i == b 0
theorem cX{r:Nat}{a:Nat->Nat}:l_ r a=true↔(1<=r/\r<=16/\1<=a 0/\a 0<=16)/\∀i,i<r->a i=a 0:=by
 simp[l_,List.all_eq_true]
def ku(r:Nat)(a:Nat->Nat):Value:=
 bif l_ r a then .tuple #[.int .i64 (r:Int),.int .i64 ((a 0:Nat):Int),.bool true]else .tuple #[.int .i64 ((0:Nat):Int),.int .i64 ((0:Nat):Int),.bool false]
theorem iJ{r:Nat}{a:Nat->Nat}(h:l_ r a=true):ku r a=.tuple #[.int .i64 (r:Int),.int .i64 ((a 0:Nat):Int),.bool true]:=by rw[ku,h];rfl
theorem fQ{r:Nat}{a:Nat->Nat}(h:¬l_ r a=true):ku r a=.tuple #[.int .i64 ((0:Nat):Int),.int .i64 ((0:Nat):Int),.bool false]:=by
 rw[ku];simp at h;rw[h];rfl
theorem j3(E:World->Value->Value->Int->Prop)(v:Value)(r:Nat)(a:Nat->Nat)(M:Nat->Nat->Int)(w:World)(h:cO E w v r a M):
 aT Tryz.prog 52 #[v] w λv' c=>w=c/\v'=ku r a:=by
 obtain⟨A,d,rfl,t,t,b⟩:=h;refine bF (n:=40) Tryz.func52 F rfl aw aA ?_;refine gg ?_;refine aP ?_;by_cases t:r<1
 ·refine gg ?_;refine su (v:=.int _ _) (v':=.int _ _) (v'':=.bool _) F rfl rfl rfl ⟨F,?_⟩;rw[fQ (λe=>by have:=cX.1 e;omega)]
 by_cases t:16<r
 ·refine gg ?_;refine su (v:=.int _ _) (v':=.int _ _) (v'':=.bool _) F rfl rfl rfl ⟨F,?_⟩;rw[fQ (λe=>by have:=cX.1 e;omega)]
 obtain⟨j,u,rfl,m,q,f,rfl,t⟩:=b 0 aq;have t:w.cell? (j.add (((0:Nat):Nat)*1))=some (.slice q (a 0) f):=m;refine gg ?_;refine aP ?_;by_cases f:a 0<1
 ·refine gg ?_;refine su (v:=.int _ _) (v':=.int _ _) (v'':=.bool _) F rfl rfl rfl ⟨F,?_⟩;rw[fQ (λe=>by have:=cX.1 e;omega)]
 by_cases f:16<a 0
 ·refine gg ?_;refine su (v:=.int _ _) (v':=.int _ _) (v'':=.bool _) F rfl rfl rfl ⟨F,?_⟩;rw[fQ (λe=>by have:=cX.1 e;omega)]
 refine gg ?_;refine aP ?_;refine gg ?_;refine aU (λm f c=>w=c/\∃i,m=r-i/\i<=r/\f 0=.slice (some j) r d/\f 5=.int .i64 ((a 0:Nat):Int)/\f 26=.slice (some j) r d/\f 27=.int .i64 (r:Int)/\f 28=.int .i64 ((i:Nat):Int)/\∀k,k<i->a k=a 0)
  r ⟨F,0,F,aE,F,F,F,F,F,λk g=>absurd g aq⟩ ?_
 rintro m f c ⟨rfl,i,rfl,c,q,m,f,d,c,g⟩;rw[ui q,ui m,ui f,ui d,ui c];clear q m f d c;by_cases o:i<r
 ·obtain⟨s,u,e,c,c,c,rfl,c⟩:=b i o;obtain rfl:j=s:=Option.some.inj e;by_cases l:a i=a 0
  ·refine gg ?_;refine⟨_,?_,F,i+1,F,aq,F,F,F,F,F,λk p=>?_⟩
   ·omega
   ·rcases Nat.lt_succ_iff_lt_or_eq.1 p with h|h
    ·exact g k h
    ·rw[h];exact l
  ·refine gg ?_;refine su (v:=.int _ _) (v':=.int _ _) (v'':=.bool _) F rfl rfl rfl ⟨F,?_⟩;rw[fQ λe=>l ((cX.1 e).2 i o)]
 ·refine gg ?_;refine su (v:=.int _ _) (v':=.int _ _) (v'':=.bool _) F rfl rfl rfl ⟨F,?_⟩;rw[iJ (cX.2 ⟨⟨aq,aq,aq,aq⟩,λk p=>g k aq⟩)]
