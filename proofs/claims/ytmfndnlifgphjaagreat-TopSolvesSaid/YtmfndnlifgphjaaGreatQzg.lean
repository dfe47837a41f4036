import Derived.Test.YtmfndnlifgphjaaGreatQzf
set_option maxHeartbeats 64000000
open Go.Proofs.YtmfndnlifgphjaaGreat
namespace Go.cV
def B:Nat:=4294967296
def val:List Nat->Nat
 |[]=>0
 |x::l=>x+B*val l
def fm(l:List Nat):Prop:=∀x∈l,x<4294967296
def dw(l:List Nat):Prop:=∀h:l≠[],l.getLast h≠0
theorem kt(l m:List Nat):val (l++m)=val l+B^l.length*val m:=by
 induction l with
 |nil=>simp[val]
 |cons x l a=>simp only[List.cons_append,val,a,List.length_cons,Nat.pow_succ];rw[Nat.mul_add,<-Nat.mul_assoc,Nat.mul_comm B (B^l.length)];omega
theorem a8(l:List Nat)(k:Nat)(h:k<l.length):val (l.take (k+1))=val (l.take k)+B^k*l.getD k 0:=by
 rw[List.take_succ_eq_append_getElem h,kt];simp[val,List.length_take,Nat.min_eq_left (Nat.le_of_lt h),List.getD,h]
theorem fY(l:List Nat)(h:fm l):val l<B^l.length:=by
 induction l with
 |nil=>simp[val]
 |cons x l a=>
  have b:=a λy a=>h y (List.mem_cons_of_mem _ a);have a:x<B:=h x aG;simp only[val,List.length_cons,Nat.pow_succ];have:B*val l+B<=B^l.length*B:=by
   have:=Nat.mul_le_mul_left B (Nat.succ_le_of_lt b);rw[Nat.mul_succ]at this;rw[Nat.mul_comm (B^l.length) B];exact this
  omega
theorem fm.take{l:List Nat}(h:fm l)(k:Nat):fm (l.take k):=λx a=>h x (List.mem_of_mem_take a)
theorem fm.getD{l:List Nat}(h:fm l)(k:Nat):l.getD k 0<4294967296:=by
 by_cases a:k<l.length
 ·simp[List.getD,a];exact h _ (List.getElem_mem _)
 ·simp[List.getD,a]
theorem dw.nil:dw []:=λh=>absurd rfl h
theorem pg{l:List Nat}{k:Nat}(a:k<l.length)(h:l.getD k 0≠0):dw (l.take (k+1)):=by
 have b:∀m:List Nat,m=l.take k++[l[k]]->dw m:=by
  rintro m rfl c;rw[List.getLast_append_of_ne_nil _ aA];simpa[List.getD,a]using h
 exact b _ (List.take_succ_eq_append_getElem a)
theorem qJ(L:List Nat)(i x:Nat)(h:i<L.length):(L.set i x).take (i+1)=L.take i++[x]:=by
 rw[List.take_succ_eq_append_getElem (by simpa using h),List.take_set_of_le (Nat.le_refl i)];simp
theorem eZ(L:List Nat)(i x:Nat)(h:i<L.length):val ((L.set i x).take (i+1))=val (L.take i)+B^i*x:=by
 rw[qJ L i x h,kt];simp[val,Nat.min_eq_left (Nat.le_of_lt h)]
theorem fm.set{L:List Nat}(h:fm L){i x:Nat}(c:x<4294967296):fm (L.set i x):=by
 intro y b;rcases List.mem_or_eq_of_mem_set b with a|a
 ·exact h y a
 ·rw[a];exact c
theorem d_(n:Nat):fm (List.replicate n 0):=by
 intro x a;rw[List.eq_of_mem_replicate a];decide
theorem dc(l:List Nat):val (l.take l.length)=val l:=by rw[List.take_length]
theorem lE(p v1 c s x y:Nat)(h:v1+c*p=s):v1+p*((c+(x+y))%B)+(c+(x+y))/B*(p*B)=s+p*x+p*y:=by
 have e:=Nat.div_add_mod (c+(x+y)) B;generalize (c+(x+y))/B=q at*;generalize (c+(x+y))%B=r at*;subst h;have:p*(c+(x+y))=p*(B*q+r):=by rw[e]
 rw[Nat.mul_add,Nat.mul_add,Nat.mul_add]at this;have a:q*(p*B)=p*(B*q):=by rw[Nat.mul_comm q,Nat.mul_assoc]
 rw[a,Nat.mul_comm c p];omega
theorem lY(p v1 c s x:Nat)(h:v1+c*p=s):v1+p*((c+x)%B)+(c+x)/B*(p*B)=s+p*x:=by
 have:=lE p v1 c s x 0 h;simpa using this
theorem ew(l:List Nat)(k:Nat)(h:k<=l.length):val l=val (l.take k)+B^k*val (l.drop k):=by
 conv=>lhs;rw[<-List.take_append_drop k l]
 rw[kt,List.length_take_of_le h]
theorem eT{l:List Nat}(h:fm l)(k:Nat):val (l.take k)<B^k:=by
 have a:=fY _ (h.take k);refine Nat.lt_of_lt_of_le a (Nat.pow_le_pow_right ar ?_);exact List.length_take_le _ _
theorem drop_cons(l:List Nat)(k:Nat)(h:k<l.length):l.drop k=l.getD k 0::l.drop (k+1):=by
 rw[List.drop_eq_getElem_cons h];simp[List.getD,h]
theorem mS{l:List Nat}(a:l≠[])(b:dw l):B^(l.length-1)<=val l:=by
 have c:0<l.length:=List.length_pos_iff.2 a;rw[ew l (l.length-1) aq,drop_cons l _ aq];have e:l.drop (l.length-1+1)=[]:=by rw[List.drop_eq_nil_iff];omega
 rw[e];have c:l.getD (l.length-1) 0≠0:=by
  have:=b a;rw[List.getLast_eq_getElem]at this;have a:l.length-1<l.length:=aq;simpa[List.getD,a]using this
 have:B^(l.length-1)*1<=B^(l.length-1)*val [l.getD (l.length-1) 0]:=Nat.mul_le_mul_left _ (by simp only[val];omega);omega
theorem iw{e d:List Nat}(h1:fm e)(f:dw d)(h:e.length<d.length):val e<val d:=by
 have c:d≠[]:=by rintro rfl;simp at h
 have a:=fY e h1;have b:=mS c f;have c:B^e.length<=B^(d.length-1):=Nat.pow_le_pow_right ar aq;omega
theorem lM{b c:List Nat}(h1:fm b)(a:b.length=c.length){j:Nat}(a:j<b.length)(e:b.drop (j+1)=c.drop (j+1))(f:b.getD j 0<c.getD j 0):val b<val c:=by
 rw[ew b j aq,ew c j aq,drop_cons b j a,drop_cons c j aq,e];simp only[val];have a:=eT h1 j;generalize c.drop (j+1)=d at*;generalize b.getD j 0=x at*;generalize c.getD j 0=y at*;have:B^j*(x+B*val d)+B^j<=B^j*(y+B*val d):=by
  rw[<-Nat.mul_succ];exact Nat.mul_le_mul_left _ aq
 omega
def dX(a b:Nat):Int:=if a<b then -1 else if b<a then 1 else 0
theorem AP(a b c:Nat)(d:a<4294967296)(d:b<4294967296)(d:c<=1):
 ((a+(18446744073709551616-c))%18446744073709551616+(18446744073709551616-b))%18446744073709551616%4294967296+b+c
  = a+4294967296*(((a+(18446744073709551616-c))%18446744073709551616+(18446744073709551616-b))%18446744073709551616/9223372036854775808)/\
 ((a+(18446744073709551616-c))%18446744073709551616+(18446744073709551616-b))%18446744073709551616/9223372036854775808<=1:=aq
theorem zf(a b:Nat)(c:a<4294967296)(c:b<=1):
 (a+(18446744073709551616-b))%18446744073709551616%4294967296+b
  = a+4294967296*((a+(18446744073709551616-b))%18446744073709551616/9223372036854775808)/\
 (a+(18446744073709551616-b))%18446744073709551616/9223372036854775808<=1:=aq
theorem pk(p d e v1 a b f x c:Nat)(h:d+e=v1+f*p)(g:x+b+f=a+B*c):d+p*x+(e+p*b)=v1+p*a+c*(p*B):=by
 have e:p*(x+b+f)=p*(a+B*c):=by rw[g]
 simp only[Nat.mul_add]at e;have e:c*(p*B)=p*(B*c):=by rw[Nat.mul_comm c,Nat.mul_assoc]
 have c:f*p=p*f:=Nat.mul_comm _ _;omega
theorem ze(p d b v1 a e x c:Nat)(h:d+b=v1+e*p)(f:x+e=a+B*c):d+p*x+b=v1+p*a+c*(p*B):=by
 have:=pk p d b v1 a 0 e x c h aq;rw[Nat.mul_zero,Nat.add_zero]at this;exact this
theorem cM(l:List Nat)(k:Nat)(h:l.length<=k):val (l.take k)=val l:=by rw[List.take_of_length_le h]
theorem mT(L:List Nat)(k x:Nat)(h:k<L.length):val (L.set k x)+B^k*L.getD k 0=val L+B^k*x:=by
 rw[ew L k aq,ew (L.set k x) k (by simp;omega),drop_cons L k h,drop_cons (L.set k x) k (by simpa using h)];rw[List.take_set_of_le (Nat.le_refl k),List.drop_set_of_lt aq];simp[val,List.getD,h,Nat.mul_add];omega
theorem uI(P c p x y r Q:Nat)(b:P+c*p=Q):∀a,a+p*r=P+p*((c+(x*y+r))%B)->a+(c+(x*y+r))/B*(p*B)=Q+p*(x*y):=by
 intro a h;have e:=Nat.div_add_mod (c+(x*y+r)) B;generalize (c+(x*y+r))/B=q at*;generalize (c+(x*y+r))%B=s at*;subst b;have:p*(c+(x*y+r))=p*(B*q+s):=by rw[e]
 simp only[Nat.mul_add]at this;have a:q*(p*B)=p*(B*q):=by rw[Nat.mul_comm q,Nat.mul_assoc]
 rw[a,Nat.mul_comm c p];omega
theorem j8(x y:Nat)(a:x<4294967296)(a:y<4294967296):x*y<=18446744065119617025:=by
 have:x*y<=4294967295*4294967295:=Nat.mul_le_mul aq aq;omega
theorem val_one(l:List Nat)(h:fm l)(b:l.length<=1):val l<4294967296:=by
 have:=fY l h;have a:B^l.length<=B^1:=Nat.pow_le_pow_right ar b;rw[Nat.pow_one]at a;exact Nat.lt_of_lt_of_le this a
theorem getD_set_ne{L:List Nat}{i j x:Nat}(h:i≠j):(L.set i x).getD j 0=L.getD j 0:=by
 simp[List.getD,List.getElem?_set_ne h]
theorem nQ(n:Nat):val (List.replicate n 0)=0:=by
 induction n with
 |zero=>rfl
 |succ n a=>simp[List.replicate_succ,val,a]
theorem lj(n j:Nat):(List.replicate n 0).getD j 0=0:=by
 by_cases h:j<n<;>simp[List.getD,h]
theorem sc(r x:Nat)(a:r<4294967296)(a:x<4294967296):r*2^32%18446744073709551616 ||| x=r*4294967296+x/\r*4294967296+x<18446744073709551616:=by
 have e:r*2^32%18446744073709551616=2^32*r:=aq;rw[e,<-Nat.two_pow_add_eq_or_of_lt (i:=32) (b:=x) aq r];omega
theorem pW(b r x V W:Nat)(c:0<b)(d:r<b)(e:x<B)(h:V=W*b+r):
 (r*B+x)/b<B/\(r*B+x)%b<b/\x+B*V=((r*B+x)/b+B*W)*b+(r*B+x)%b:=by
 refine⟨?_,Nat.mod_lt _ c,?_⟩
 ·rw[Nat.div_lt_iff_lt_mul c];have:(r+1)*B<=b*B:=Nat.mul_le_mul_right _ d;rw[Nat.add_mul]at this;rw[Nat.mul_comm B b];omega
 ·have e:=Nat.div_add_mod (r*B+x) b;generalize (r*B+x)/b=q at*;generalize (r*B+x)%b=s at*;subst h;rw[Nat.add_mul,Nat.mul_add,Nat.mul_comm q b,Nat.mul_assoc,Nat.mul_comm B r];omega
theorem drop_set(L:List Nat)(j x:Nat)(h:j<L.length):(L.set j x).drop j=x::L.drop (j+1):=by
 rw[drop_cons _ j (by simpa using h),List.drop_set_of_lt aq];simp[List.getD,h]
theorem DH(s c x:Nat)(a:s<32)(b:c<2^s)(a:x<4294967296):c ||| x*2^s%18446744073709551616=c+x*2^s/\c+x*2^s<18446744073709551616/\(c+x*2^s)/4294967296<2^s:=by
 have d:2^s<=2^31:=Nat.pow_le_pow_right ar aq;have d:x*2^s+2^s<=4294967296*2^s:=by rw[<-Nat.succ_mul];exact Nat.mul_le_mul_right _ a
 have a:0<2^s:=Nat.two_pow_pos s;have a:x*2^s%18446744073709551616=2^s*x:=by rw[Nat.mul_comm];apply Nat.mod_eq_of_lt;rw[Nat.mul_comm];omega
 refine⟨?_,aq,?_⟩
 ·rw[a,Nat.or_comm,<-Nat.two_pow_add_eq_or_of_lt b x,Nat.mul_comm];omega
 ·rw[Nat.div_lt_iff_lt_mul ar];rw[Nat.mul_comm (2^s) 4294967296];omega
theorem AU(p V c x s W:Nat)(h:V+c*p=W*2^s):V+p*((c+x*2^s)%B)+(c+x*2^s)/B*(p*B)=(W+p*x)*2^s:=by
 have e:=lY p V c (W*2^s) (x*2^s) h;rw[e,Nat.add_mul,Nat.mul_assoc]
def sr(s:Nat):List Nat->List Nat
 |[]=>[]
 |[x]=>[x/2^s]
 |x::y::l=>(x+B*y)/2^s%B::sr s (y::l)
theorem sa(s:Nat):∀l,(sr s l).length=l.length
 |[]=>rfl
 |[_]=>rfl
 |_::y::l=>by simp[sr,sa s (y::l)]
theorem AR(s:Nat)(g:s<32):∀l,fm l->val (sr s l)=val l/2^s
 |[],_=>by simp[sr,val]
 |[x],_=>by simp[sr,val]
 |x::y::l,h=>by
  have e:=AR s g (y::l) λz g=>h z (List.mem_cons_of_mem _ g);have i:x<B:=h x aG;simp only[sr,val]at e⊢;rw[e];generalize val l=W;have a:B=2^s*2^(32-s):=by rw[<-Nat.pow_add,show s+(32-s)=32 by omega];rfl
  have b:0<2^s:=Nat.two_pow_pos s;generalize 2^s=p at*;generalize 2^(32-s)=r at*;have k:(x+B*y)/p=x/p+r*y:=by rw[a,Nat.mul_assoc,Nat.add_mul_div_left _ _ b]
  have g:(x+B*(y+B*W))/p=x/p+r*(y+B*W):=by rw[a,Nat.mul_assoc,Nat.add_mul_div_left _ _ b]
  have e:(y+B*W)/p=y/p+r*W:=by rw[a,Nat.mul_assoc,Nat.add_mul_div_left _ _ b]
  rw[k,g,e];have f:=Nat.div_add_mod y p;have j:=Nat.mod_lt y b;have e:x/p<r:=by rw[Nat.div_lt_iff_lt_mul b,Nat.mul_comm r p,<-a];exact i
  generalize b:y/p=d at*;generalize b:y%p=c at*;have e:x/p+r*y=(x/p+r*c)+B*d:=by rw[<-f,a,Nat.mul_add,<-Nat.mul_assoc,Nat.mul_comm r p];omega
  have b:x/p+r*c<B:=by
   have:r*c+r<=r*p:=by rw[<-Nat.mul_succ];exact Nat.mul_le_mul_left _ j
   rw[a,Nat.mul_comm p r];omega
  rw[e,Nat.add_mul_mod_self_left,Nat.mod_eq_of_lt b];have b:r*(y+B*W)=r*c+B*d+B*(r*W):=by
   rw[Nat.mul_add,<-f,Nat.mul_add,<-Nat.mul_assoc r p,Nat.mul_comm r p,<-a,Nat.mul_left_comm];omega
  rw[b,Nat.mul_add];omega
theorem wF(s:Nat):∀l,fm l->fm (sr s l)
 |[],h=>h
 |[x],h=>by
  intro z a;simp[sr]at a;subst a;exact Nat.lt_of_le_of_lt (Nat.div_le_self _ _) (h x aG)
 |x::y::l,h=>by
  intro z a;rw[sr]at a;rcases List.mem_cons.1 a with rfl|a
  ·exact Nat.mod_lt _ ar
  ·exact wF s (y::l) (λz a=>h z (List.mem_cons_of_mem _ a)) z a
theorem wG(s:Nat):∀(l:List Nat) (i:Nat),i<l.length->(sr s l).getD i 0=if i+1<l.length then(l.getD i 0+B*l.getD (i+1) 0)/2^s%B else l.getD i 0/2^s
 |[],i,h=>by simp at h
 |[x],i,h=>by
  have:i=0:=by simpa using h
  subst this;simp[sr,List.getD]
 |x::y::l,i,h=>by
  rcases i with _|i
  ·simp[sr,List.getD]
  ·have:=wG s (y::l) i (by simpa using h);simp only[sr,List.getD_cons_succ,List.length_cons,Nat.add_lt_add_iff_right]at this⊢;rw[this]
theorem nt{a b:List Nat}(c:a.length=b.length)(h:∀j,j<a.length->a.getD j 0=b.getD j 0):a=b:=by
 apply List.ext_getElem c;intro i c d;have:=h i c;simpa[List.getD,c,d]using this
theorem ee{L:List Nat}{j x:Nat}(h:j<L.length):(L.set j x).getD j 0=x:=by simp[List.getD,h]
theorem Dz(s:Nat)(l:List Nat)(i:Nat)(h:i+1<l.length):(sr s l).getD i 0=(l.getD (i+1) 0*4294967296+l.getD i 0)/2^s%4294967296:=by
 rw[wG s l i aq,ae h,Nat.add_comm,Nat.mul_comm B];unfold B;rfl
theorem DA(s:Nat)(l:List Nat)(i:Nat)(h:i<l.length)(h':¬i+1<l.length):(sr s l).getD i 0=l.getD i 0/2^s:=by
 rw[wG s l i h,aa h']
def oC(j b:Nat):Bool:=if j=0 then b == 0 else decide (0<b/\2^(b-1)<=j/\j<2^b)
theorem uG(x n b:Nat)(c:2^n<=x)(h:oC (x/2^n) b=true):oC x (n+b)=true:=by
 have a:0<2^n:=Nat.two_pow_pos n;have d:0<x/2^n:=Nat.div_pos c a;unfold oC at h⊢;rw[aa aq]at h;rw[aa aq];simp only[decide_eq_true_eq]at h⊢;obtain⟨c,d,c⟩:=h;refine⟨aq,?_,?_⟩
 ·have:=(Nat.le_div_iff_mul_le a).1 d;rw[show n+b-1=(b-1)+n by omega,Nat.pow_add];exact this
 ·have:=(Nat.div_lt_iff_lt_mul a).1 c;rw[Nat.pow_add,Nat.mul_comm];exact this
def FM(s:ByteArray):Bool:=(List.range 256).all λj=>match s[j]? with|some b=>oC j b.toNat&&decide (b.toNat<=8)|none=>false
theorem Gj{s:ByteArray}(h:FM s=true){j:Nat}(a:j<256):∃b,s[j]?=some b/\oC j b.toNat=true/\b.toNat<=8:=by
 have:=List.all_eq_true.1 h j (List.mem_range.2 a);cases e:s[j]? with
 |none=>rw[e]at this;cases this
 |some b=>
  rw[e]at this;simp only[Bool.and_eq_true,decide_eq_true_eq]at this;exact⟨b,F,this.1,this.2⟩
end Go.cV
namespace Go.Proofs.Qq
section
open Go Go.cU Go.cV Go.Proofs
structure eP(w:World)(A:Option Addr)(l:List Nat):Prop where
 e_:fm l
 cell:∀j,j<l.length->∃ad,A=some ad/\w.cell? (ad.add (j*1))=some (.int .u32 ((l.getD j 0:Nat):Int))
theorem eP.at{w:World}{A:Option Addr}{l:List Nat}(h:eP w A l){j:Nat}(b:j<l.length):∃a,A=some a/\∀i,i<l.length->w.cell? (a.add (i*1))=some (.int .u32 ((l.getD i 0:Nat):Int)):=by
 obtain⟨a,rfl,_⟩:=h.cell j b;refine⟨a,F,λi a=>?_⟩;obtain⟨b,e,c⟩:=h.cell i a;injection e with e;subst e;exact c
theorem eP.Y{w w':World}{A:Option Addr}{l:List Nat}(h:eP w A l)(c:Ext w w'):eP w' A l:=
 ⟨h.e_,λj a=>by obtain⟨d,e,b⟩:=h.cell j a;exact⟨d,e,aS c b⟩⟩
theorem eP.ch{w w':World}{M:Nat->Prop}{A:Option Addr}{l:List Nat}(h:eP w A l)(f:Ch M w w')(c:∀a,A=some a->¬M a.block):eP w' A l:=
 ⟨h.e_,λj d=>by
  obtain⟨a,e,b⟩:=h.cell j d;refine⟨a,e,?_⟩;rw[<-b];refine jK f ?_ ?_
  ·exact World.block_lt_of_cell? w _ b
  ·rw[block_add];exact c a e⟩
theorem eP.kZ{w:World}{A:Option Addr}{l:List Nat}(h:eP w A l)(e:A=none):l.length=0:=by
 rcases Nat.eq_zero_or_pos l.length with a|a
 ·exact a
 ·obtain⟨b,b,_⟩:=h.cell 0 a;rw[e]at b;cases b
theorem eP.nil(w:World)(A:Option Addr):eP w A []:=⟨(λ_ h=>by cases h),(λj h=>by simp at h)⟩
theorem eP.take{w:World}{A:Option Addr}{l:List Nat}(h:eP w A l)(k:Nat):eP w A (l.take k):=
 ⟨h.e_.take k,λj a=>by
  rw[List.length_take]at a;obtain⟨c,e,b⟩:=h.cell j aq;have a:j<k:=aq;exact⟨c,e,by rw[b];simp[List.getD,a]⟩⟩
def cells(L:List Nat):Array Value:=(L.map λx=>Value.int .u32 ((x:Nat):Int)).toArray
theorem cB(L:List Nat):(cells L).size=L.length:=by simp[cells]
theorem dG(L:List Nat)(i x:Nat):(cells L).setIfInBounds (0+i*1) (.int .u32 (x:Int))=cells (L.set i x):=by
 simp[cells,List.map_set]
theorem fZ(m:Nat):madeCells (Value.int .u32 0).cells (m*1)=cells (List.replicate m 0):=by
 apply Array.toList_inj.1;simp only[Value.cells,Nat.mul_one,toList_madeCells_one,cells,List.map_replicate];rfl
theorem nE{w:World}{g:Nat}{T:TypeId}{L:List Nat}(b:bh w g T (cells L)){j:Nat}(a:j<L.length):w.cell? ⟨g,0+j*1,none⟩=some (.int .u32 ((L.getD j 0:Nat):Int)):=by
 rw[b.cell];simp[cells,a,List.getD]
theorem c7{w:World}{g:Nat}{T:TypeId}{L:List Nat}(b:bh w g T (cells L))(a:fm L):eP w (some ⟨g,0,none⟩) L:=
 ⟨a,λj a=>⟨_,rfl,by rw[add_lit];exact nE b a⟩⟩
theorem dn(A:Option Addr)(n c:Nat)(l:List Nat)(w:World)(h:eP w A l)(f:l.length=n)(b:n<=c)(g:c<9223372036854775808):
 aT Tryz.prog 54 #[.slice A n c] w λv a=>w=a/\∃m,m<=l.length/\v=.slice A m c/\dw (l.take m)/\val (l.take m)=val l:=by
 subst f;refine bF (n:=21) Tryz.func54 F rfl aw aA ?_;refine gg ?_;refine aP ?_;refine kF ?_;refine aU (λm f a=>a=w/\m<=l.length/\f 0=.slice A m c/\val (l.take m)=val l) l.length ⟨rfl,aD,rfl,aA⟩ ?_;rintro m f a ⟨rfl,a,e,d⟩;rw[ui e];refine aP ?_;rcases m with _|m
 ·refine gg ?_;refine cI F rfl ⟨F,0,aq,F,by simp[dw.nil],d⟩
 ·obtain⟨a,rfl,a⟩:=h.at (j:=m) aq;have f:=a m aq;refine gg ?_;refine qh F (λb=>?_) λb=>?_
  ·refine gg ?_;refine⟨m,aq,F,aq,F,?_⟩;have e:l.getD m 0=0:=by simpa using b
   rw[<-d,a8 l m aq,e];simp
  ·refine gg ?_;refine cI F rfl ⟨F,m+1,aq,F,pg aq (by simpa using b),d⟩
def iV(w:World)(v:Value)(m:Nat):Prop:=∃A l c,v=.slice A l.length c/\l.length<=c/\c<9223372036854775808/\eP w A l/\dw l/\val l=m
theorem fE{w:World}{A:Option Addr}{c m N:Nat}{l:List Nat}(h:eP w A l)(a:m<=l.length)(b:l.length<=c)(b:c<9223372036854775808)(e:dw (l.take m))(d:val (l.take m)=val l)(f:val l=N):iV w (.slice A m c) N:=
 ⟨A,l.take m,c,by rw[List.length_take_of_le a],by rw[List.length_take_of_le a];omega,b,h.take m,e,d.trans f⟩
theorem rL(O N:Option Addr)(V U:Nat)(C z:List Nat)(w:World)(h1:eP w O C)(Y:eP w N z)(I:C.length<17592186044416)(I:z.length<17592186044416):
 aT Tryz.prog 68 #[.slice O C.length V,.slice N z.length U] w λv o=>Ext w o/\iV o v (val C+val z):=by
 refine bF (n:=83) Tryz.func68 F rfl aw aA ?_;refine gg ?_;refine aX (λf o=>w=o/\∃(A H:Option Addr) (c J:Nat) (l a:List Nat),f 0=.slice A l.length c/\f 1=.slice H a.length J/\eP w A l/\eP w H a/\a.length<=l.length/\l.length<17592186044416/\val l+val a=val C+val z) ?_ ?_
 ·refine gg ?_;refine qh F (λI=>?_) λI=>?_
  ·have I:C.length<z.length:=by simpa using I
   refine gg ?_;exact⟨F,N,O,U,V,z,C,F,F,Y,h1,aq,aq,Nat.add_comm _ _⟩
  ·have I:¬C.length<z.length:=by simpa using I
   refine gg ?_;exact⟨F,O,N,V,U,C,z,F,F,h1,Y,aq,aq,F⟩
 ·rintro f z ⟨rfl,A,H,c,J,l,a,k,s,M,R,z,S,W⟩;rw[ui k,ui s];refine gg ?_;refine cF di (.inl F) F rfl aD aq aq ?_;intro D p h P;rw[fZ]at p;refine gg ?_;refine aX (λf o=>∃d L,f 0=.slice A l.length c/\f 1=.slice H a.length J/\f 5=.slice (some ⟨w.heap.size,0,none⟩) (l.length+1) (l.length+1)/\f 6=.int .u64 ((d:Nat):Int)/\
   Ext w o/\bh o w.heap.size 90 (cells L)/\L.length=l.length+1/\fm L/\d<=1/\val (L.take a.length)+d*B^a.length=val (l.take a.length)+val (a.take a.length)) ?_ ?_
  ·refine gg ?_;refine aU (λm f o=>∃i d L,m=a.length-i/\i<=a.length/\f 0=.slice A l.length c/\f 1=.slice H a.length J/\f 5=.slice (some ⟨w.heap.size,0,none⟩) (l.length+1) (l.length+1)/\f 6=.int .u64 ((d:Nat):Int)/\
    f 21=.int .i64 (a.length:Int)/\f 22=.int .i64 (i:Int)/\Ext w o/\bh o w.heap.size 90 (cells L)/\L.length=l.length+1/\fm L/\d<=1/\val (L.take i)+d*B^i=val (l.take i)+val (a.take i))
    a.length ⟨0,0,_,F,aE,F,F,F,F,F,F,h,p,aA,d_ _,aq,by simp[val]⟩ ?_
   clear p h P D;rintro m f D ⟨i,d,L,rfl,hi,k,s,r,q,C,z,h,p,y,g,x,u⟩;rw[ui k,ui s,ui r,ui q,ui C,ui z];by_cases S:i<a.length
   ·refine gg ?_;refine b7 [(0,3),(1,3),(2,3),(3,3),(4,0),(5,3),(6,3),(7,3),(8,3),(9,0),(10,3),(11,3),(12,3),(13,3)] mixed aw λz G _=>?_;obtain⟨ad,rfl,K⟩:=(M.Y (h.trans G)).at (j:=i) aq;obtain⟨z,rfl,z⟩:=(R.Y (h.trans G)).at (j:=i) aq;have hx:=K i aq;have C:=z i aq;have bx:=M.e_.getD i;have z:=R.e_.getD i;refine gg ?_;refine cg (aW F) (.inl F) F rfl (p.Y G) (by rw[cB];omega) ?_;intro T t E Q;rw[dG]at t;refine gg ?_;refine⟨_,?_,i+1,_,_,F,aq,F,F,F,F,F,F,E.aK (h.trans G) (λb X=>aq),t,by simpa using y,g.set (Nat.mod_lt _ ar),?_,?_⟩
    ·omega
    ·omega
    ·rw[eZ _ _ _ aq,a8 _ _ aq,a8 _ _ aq,Nat.pow_succ];exact(lE _ _ _ _ _ _ u).trans aq
   ·refine gg ?_;have:i=a.length:=aq;subst this;exact⟨d,L,F,F,F,F,h,p,y,g,x,u⟩
  ·clear p h P D;rintro f D ⟨d,L,k,s,r,q,h,p,y,g,x,u⟩;rw[ui k,ui s,ui r,ui q];refine aX (λf o=>∃d L,f 0=.slice A l.length c/\f 5=.slice (some ⟨w.heap.size,0,none⟩) (l.length+1) (l.length+1)/\f 6=.int .u64 ((d:Nat):Int)/\
    Ext w o/\bh o w.heap.size 90 (cells L)/\L.length=l.length+1/\fm L/\d<=1/\val (L.take l.length)+d*B^l.length=val l+val a) ?_ ?_
   ·refine gg ?_;refine aU (λm f o=>∃i d L,m=l.length-a.length-i/\i<=l.length-a.length/\f 0=.slice A l.length c/\f 1=.slice H a.length J/\f 5=.slice (some ⟨w.heap.size,0,none⟩) (l.length+1) (l.length+1)/\f 6=.int .u64 ((d:Nat):Int)/\
     f 50=.int .i64 ((l.length-a.length:Nat):Int)/\f 51=.int .i64 (i:Int)/\Ext w o/\bh o w.heap.size 90 (cells L)/\L.length=l.length+1/\fm L/\d<=1/\val (L.take (a.length+i))+d*B^(a.length+i)=val (l.take (a.length+i))+val a)
     (l.length-a.length) ⟨0,_,_,F,aE,F,F,F,F,F,F,h,p,y,g,x,by rw[dc]at u;exact u⟩ ?_
    clear u p h y g x D k s r q f d L;rintro m f D ⟨i,d,L,rfl,hi,k,s,r,q,o,c,h,p,y,g,x,u⟩;rw[ui k,ui s,ui r,ui q,ui o,ui c];by_cases S:i<l.length-a.length
    ·obtain⟨ad,rfl,K⟩:=(M.Y h).at (j:=a.length+i) aq;have hx:=K (a.length+i) aq;have bx:=M.e_.getD (a.length+i);refine gg ?_;refine cg (aW F) (.inl F) F rfl p (by rw[cB];omega) ?_;intro T t E Q;rw[dG]at t;refine gg ?_;refine⟨_,?_,i+1,_,_,F,aq,F,F,F,F,F,F,E.aK h (λb X=>aq),t,by simpa using y,g.set (Nat.mod_lt _ ar),?_,?_⟩
     ·omega
     ·omega
     ·rw[<-Nat.add_assoc,eZ _ _ _ aq,a8 _ _ aq,Nat.pow_succ];exact(lY _ _ _ _ _ u).trans aq
    ·refine gg ?_;have e:a.length+i=l.length:=aq;rw[e,dc]at u;exact⟨d,L,F,F,F,h,p,y,g,x,u⟩
   ·clear u p h y g x D k s r q f d L;rintro f D ⟨d,L,k,r,q,h,p,y,g,x,u⟩;rw[ui k,ui r,ui q];refine gg ?_;refine cg (aW F) (.inl F) F rfl p (by rw[cB];omega) ?_;intro T t E Q;rw[dG]at t;refine gg ?_;have a0:=E.aK h λb X=>aq;refine aJ (dn _ _ _ _ T (c7 t (g.set (Nat.mod_lt _ ar))) (by simpa using y) aD aq) ?_;rintro v a ⟨rfl,m,Z,rfl,b,a⟩;refine gg ?_;refine cI (v:=.slice _ _ _) F rfl ⟨a0,fE (c7 t (g.set (Nat.mod_lt _ ar))) Z ?_ ?_ b a ?_⟩
    ·simp;omega
    ·omega
    ·have e:L.set l.length (d%4294967296)=(L.set l.length (d%4294967296)).take (l.length+1):=by rw[List.take_of_length_le];simp;omega
     rw[e,eZ _ _ _ aq,Nat.mod_eq_of_lt aq,<-W,<-u,Nat.mul_comm]
theorem jR(p o:Option Addr)(i f s r:Nat)(a b:List Nat)(w:World)(h1:eP w p a)(l:eP w o b)(t:a.length=i)(k:b.length=f)(z:i<17592186044416)(z:f<17592186044416)(y:dw a)(x:dw b):
 aT Tryz.prog 89 #[.slice p i s,.slice o f r] w λv h=>Ext w h/\v=.int .i64 (dX (val a) (val b)):=by
 subst t k;refine bF (n:=45) Tryz.func89 F rfl aw aA ?_;by_cases f:a.length<b.length
 ·refine gg ?_;refine cI (v:=.int _ _) F rfl ⟨Ext.refl _,?_⟩;rw[dX,ae (iw h1.e_ x f)]
 by_cases f:b.length<a.length
 ·refine gg ?_;refine cI (v:=.int _ _) F rfl ⟨Ext.refl _,?_⟩;have:=iw l.e_ y f;rw[dX,aa aq,ae this];rfl
 have d:a.length=b.length:=aq;refine gg ?_;refine aP ?_;refine gg ?_;refine aU (λm f h=>∃k,m=k/\k<=a.length/\f 0=.slice p a.length s/\f 1=.slice o b.length r/\f 5=.int .i64 ((k:Int)-1)/\Ext w h/\a.drop k=b.drop k) a.length ⟨_,rfl,aD,rfl,rfl,rfl,Ext.refl _,by rw[d];simp[<-d]⟩ ?_;rintro m f f ⟨k,rfl,f,h,f,e,q,g⟩;rw[ui h,ui f];rcases m with _|j
 ·rw[ui e];refine aP ?_;refine gg ?_;refine cI (v:=.int _ _) F rfl ⟨q,?_⟩;have:val a=val b:=by simp at g;rw[g]
  rw[dX,aa aq,aa aq];rfl
 ·have f:(((j+1:Nat):Int)-1)=(j:Int):=aq;rw[f]at e;rw[ui e];refine aP ?_;refine gg ?_;refine b7 [(0,3),(1,3),(2,3),(3,0),(4,3),(5,3),(6,3),(7,0),(8,3),(9,3)] mixed aw λe e _=>?_;have c:=q.trans e;obtain⟨e,rfl,u⟩:=(h1.Y c).at (j:=j) aq;obtain⟨e,rfl,e⟩:=(l.Y c).at (j:=j) aq;have h:=u j aq;have f:=e j aq;by_cases e:a.getD j 0<b.getD j 0
  ·refine gg ?_;refine cI (v:=.int _ _) F rfl ⟨c,?_⟩;rw[dX,ae (lM h1.e_ d aq g e)]
  ·refine gg ?_;refine b7 [(0,3),(1,3),(2,3),(3,0),(4,3),(5,3),(6,3),(7,0),(8,3),(9,3)] mixed aw λe e _=>?_;have h:=aS e h;have f:=aS e f;by_cases f:b.getD j 0<a.getD j 0
   ·refine gg ?_;refine cI (v:=.int _ _) F rfl ⟨c.trans e,?_⟩;have:=lM l.e_ d.symm aq g.symm f;rw[dX,aa aq,ae this];rfl
   ·refine gg ?_;refine⟨j,aq,j,F,aq,F,F,F,c.trans e,?_⟩;rw[drop_cons a j aq,drop_cons b j aq,g,show a.getD j 0=b.getD j 0 by omega]
theorem nY(y t:Option Addr)(l r C A:Nat)(a d:List Nat)(w:World)(h1:eP w y a)(z:eP w t d)(G:a.length=l)(E:d.length=r)(J:l<17592186044416)(J:r<=l)(J:val d<=val a):
 aT Tryz.prog 69 #[.slice y l C,.slice t r A] w λv b=>Ext w b/\iV b v (val a-val d):=by
 subst G E;refine bF (n:=45) Tryz.func69 F rfl aw aA ?_;refine gg ?_;refine cF di (.inl F) F rfl aD aq aq ?_;intro p g e u;rw[fZ]at g;refine gg ?_;refine aX (λf b=>∃L,f 5=.slice (some ⟨w.heap.size,0,none⟩) a.length a.length/\Ext w b/\bh b w.heap.size 90 (cells L)/\L.length=a.length/\fm L/\val L+val d=val a) ?_ ?_
 ·refine gg ?_;refine aU (λm f b=>∃i k L,m=a.length-i/\i<=a.length/\f 0=.slice y a.length C/\f 1=.slice t d.length A/\f 5=.slice (some ⟨w.heap.size,0,none⟩) a.length a.length/\f 6=.int .u64 ((k:Nat):Int)/\
   f 13=.int .i64 (a.length:Int)/\f 14=.int .i64 (i:Int)/\Ext w b/\bh b w.heap.size 90 (cells L)/\L.length=a.length/\fm L/\k<=1/\val (L.take i)+val (d.take i)=val (a.take i)+k*B^i)
   a.length ⟨0,0,_,F,aE,F,F,F,F,F,F,e,g,aA,d_ _,aq,by simp[val]⟩ ?_
  clear g e u p;rintro m f p ⟨i,k,L,rfl,b,y,t,s,r,l,b,e,g,o,c,x,q⟩;rw[ui y,ui t,ui s,ui r,ui l,ui b];by_cases b:i<a.length
  ·obtain⟨b,rfl,b⟩:=(h1.Y e).at (j:=i) aq;have l:=b i aq;have D:=h1.e_.getD i;refine gg ?_;refine fz F rfl aq ?_;refine gg ?_;by_cases b:i<d.length
   ·obtain⟨b,rfl,b⟩:=(z.Y e).at (j:=i) aq;have l:=b i aq;have b:=z.e_.getD i;refine aP ?_;refine gg ?_;refine fz F rfl aq ?_;refine gg ?_;refine cg (aW F) (.inl F) F rfl g (by rw[cB];omega) ?_;intro z l t y;rw[dG]at l;refine gg ?_;have r:=AP (a.getD i 0) (d.getD i 0) k D b x;refine⟨_,?_,i+1,_,_,F,aq,F,F,F,F,F,F,t.aK e (λb A=>aq),l,by simpa using o,c.set (Nat.mod_lt _ ar),r.2,?_⟩
    ·omega
    ·rw[eZ _ _ _ aq,a8 _ _ aq,a8 _ _ aq,Nat.pow_succ];exact pk _ _ _ _ _ _ _ _ _ q r.1
   ·refine aP ?_;refine gg ?_;refine cg (aW F) (.inl F) F rfl g (by rw[cB];omega) ?_;intro z l t y;rw[dG]at l;refine gg ?_;have r:=zf (a.getD i 0) k D x;refine⟨_,?_,i+1,_,_,F,aq,F,F,F,F,F,F,t.aK e (λb A=>aq),l,by simpa using o,c.set (Nat.mod_lt _ ar),r.2,?_⟩
    ·omega
    ·rw[eZ _ _ _ aq,a8 a _ aq,cM d (i+1) aq,Nat.pow_succ];rw[cM d i aq]at q;exact ze _ _ _ _ _ _ _ _ q r.1
  ·refine gg ?_;have:i=a.length:=aq;subst this;rw[cM _ _ aq,cM _ _ aq,cM _ _ aq]at q;have I:=fY L c;have:k=0:=by
    rcases Nat.lt_or_ge 0 k with h|h
    ·have:B^a.length<=k*B^a.length:=Nat.le_mul_of_pos_left _ h;rw[o]at I;omega
    ·omega
   subst this;exact⟨L,F,e,g,o,c,aq⟩
 ·clear g e u p;rintro f p ⟨L,s,e,g,o,c,q⟩;rw[ui s];refine gg ?_;refine aJ (dn _ _ _ _ p (c7 g c) o aD aq) ?_;rintro v a ⟨rfl,m,H,rfl,b,a⟩;refine gg ?_;exact cI (v:=.slice _ _ _) F rfl ⟨e,fE (c7 g c) H aq aq b a aq⟩
theorem yv(i a x:Nat)(e:i<=1)(c:a<B^i)(e:x<4294967296):a ||| (x*2^(32*i))%18446744073709551616=a+B^i*x/\a+B^i*x<18446744073709551616/\a<18446744073709551616:=by
 have d:B=4294967296:=F;rcases(by omega:i=0\/i=1)with rfl|rfl
 ·simp only[Nat.pow_zero]at c;have:a=0:=aq;subst this;simp;omega
 ·rw[d,Nat.pow_one]at*;have e:x*2^(32*1)%18446744073709551616=2^32*x:=aq;have c:=Nat.two_pow_add_eq_or_of_lt (i:=32) (b:=a) aq x;rw[e,Nat.or_comm,<-c];omega
theorem lL(A:Option Addr)(n c:Nat)(l:List Nat)(w:World)(h:eP w A l)(f:l.length=n)(k:n<=2):
 aT Tryz.prog 91 #[.slice A n c] w λv a=>w=a/\v=.int .u64 ((val l:Nat):Int):=by
 subst f;refine bF (n:=22) Tryz.func91 F rfl aw aA ?_;refine gg ?_;refine aP ?_;refine gg ?_;refine aU (λm f a=>∃i,m=l.length-i/\i<=l.length/\f 3=.int .u64 ((val (l.take i):Nat):Int)/\f 6=.slice A l.length c/\f 7=.int .i64 (l.length:Int)/\f 8=.int .i64 ((i:Nat):Int)/\w=a)
  l.length ⟨0,F,aE,F,F,F,F,F⟩ ?_
 rintro m f a ⟨i,rfl,a,g,e,d,b,rfl⟩;rw[ui g,ui e,ui d,ui b];by_cases a:i<l.length
 ·obtain⟨a,rfl,a⟩:=h.at (j:=i) aq;have b:=a i aq;have b:=h.e_.getD i;have a:=yv i (val (l.take i)) (l.getD i 0) aq (eT h.e_ i) b;refine gg ?_;refine kH F rfl aq ?_;refine gg ?_;refine iB F rfl a.2.2 (Nat.mod_lt _ ar) ?_;refine gg ?_;refine⟨_,?_,i+1,F,aq,?_,F,F,F,F⟩
  ·omega
  ·rw[a8 l i aq,<-a.1];rfl
 ·refine gg ?_;refine cI (v:=.int _ _) F rfl ⟨F,?_⟩;rw[List.take_of_length_le aq]
theorem fx(x:Nat)(w:World)(b:x<18446744073709551616):
 aT Tryz.prog 50 #[.int .u64 (x:Int)] w λv b=>Ext w b/\iV b v x:=by
 refine bF (n:=10) Tryz.func50 F rfl aw aA ?_;refine gg ?_;refine rZ (v0:=.int _ _) (v1:=.int _ _) di F (.inl F) F rfl rfl rfl ?_;intro b d f g;have a:bh b w.heap.size 90 (cells [x%4294967296,x/2^32%4294967296]):=d;have c:fm [x%4294967296,x/2^32%4294967296]:=by
  intro y d;simp at d;omega
 refine gg ?_;refine aJ (dn _ _ _ _ b (c7 a c) F aD aq) ?_;rintro v b ⟨rfl,m,e,rfl,d,b⟩;refine gg ?_;refine cI (v:=.slice _ _ _) F rfl ⟨f,fE (c7 a c) e aA aq d b ?_⟩;simp only[val,B];omega
def Lb(w:World)(g:Nat)(L:List Nat):Prop:=∃a,bh w g 90 (cells L++a)
theorem Lb.of{w:World}{g:Nat}{L:List Nat}(h:bh w g 90 (cells L)):Lb w g L:=⟨#[],by simpa using h⟩
theorem Lb.at{w:World}{g:Nat}{L:List Nat}(h:Lb w g L){j:Nat}(a:j<L.length):w.cell? ⟨g,0+j*1,none⟩=some (.int .u32 ((L.getD j 0:Nat):Int)):=by
 obtain⟨b,b⟩:=h;rw[b.cell,Array.getElem?_append_left (by rw[cB];omega)];simp[cells,a,List.getD]
theorem Lb.GB{w:World}{g:Nat}{L:List Nat}(h:Lb w g L)(a:fm L):eP w (some ⟨g,0,none⟩) L:=
 ⟨a,λj a=>⟨_,rfl,by rw[add_lit];exact h.at a⟩⟩
theorem Lb.Y{w w':World}{g:Nat}{L:List Nat}(h:Lb w g L)(c:Ext w w'):Lb w' g L:=by
 obtain⟨a,b⟩:=h;exact⟨a,b.Y c⟩
theorem Lb.set{w:World}{g:Nat}{L:List Nat}{a:Array Value}{i x:Nat}(b:i<L.length)(h:bh w g 90 ((cells L++a).setIfInBounds (0+i*1) (.int .u32 (x:Int)))):Lb w g (L.set i x):=by
 refine⟨a,?_⟩;have e:(cells L++a).setIfInBounds (0+i*1) (.int .u32 (x:Int))=cells (L.set i x)++a:=by
  rw[<-dG];apply Array.toList_inj.1;simp[cells,b]
 rw[<-e];exact h
theorem sJ{w:World}{base:Nat}{v:Value}{l:List Nat}(h:w.ownsRow base 90 1 v l.length (l.map λx=>Value.int .u32 ((x:Nat):Int))):
 (v=.slice none 0 0/\l=[])\/∃g c,v=.slice (some ⟨g,0,none⟩) l.length c/\base<=g/\l.length<=c/\c<=9223372036854775807/\Lb w g l:=by
 rcases h.2 with⟨rfl,h0⟩|⟨g,cap,cur,rfl,f,e,b,d,c,a⟩
 ·exact .inl ⟨F,List.eq_nil_of_length_eq_zero h0⟩
 ·refine .inr ⟨g,cap,F,f,b,d,⟨(cur.toList.drop l.length).toArray,?_⟩⟩;unfold bh;rw[e];congr 2;apply Array.toList_inj.1;rw[Nat.mul_one]at a;simp only[cells,Array.toList_append];rw[<-a];simp
theorem yz{w:World}{A:Option Addr}{l:List Nat}(h:eP w A l):∀j u,(l.map λx=>Value.int .u32 ((x:Nat):Int))[j]?=some u->∃c,A=some c/\w.cell? (c.add j)=some u:=by
 intro j u a;rw[List.getElem?_map]at a;rcases b:l[j]? with _|x
 ·rw[b]at a;cases a
 ·rw[b]at a;have f:j<l.length:=by
   rcases Nat.lt_or_ge j l.length with d|d
   ·exact d
   ·rw[List.getElem?_eq_none d]at b;cases b
  obtain⟨c,e,d⟩:=h.cell j f;refine⟨c,e,?_⟩;rw[Nat.mul_one]at d;rw[d,<-a];simp[List.getD,b]
theorem rz(l:List Nat):∀u∈(l.map λx=>Value.int .u32 ((x:Nat):Int)),u.oneCell'=true:=by
 intro u a;obtain⟨x,_,rfl⟩:=List.mem_map.1 a;rfl
theorem lz(A:Option Addr)(n c:Nat)(l:List Nat)(w:World)(h:eP w A l)(f:l.length=n)(k:n<17592186044416)(d:A=none->n=0):
 aT Tryz.prog 90 #[.slice A n c] w λv b=>Ext w b/\((v=.slice none 0 0/\l=[])\/∃g a,v=.slice (some ⟨g,0,none⟩) n a/\w.heap.size<=g/\n<=a/\a<=9223372036854775807/\Lb b g l):=by
 subst f;refine bF (n:=8) Tryz.func90 F rfl aw aA ?_;refine gg ?_;refine aP ?_;refine gg ?_;refine C_ di F ?_;refine gg ?_;rcases A with _|f
 ·refine te F ?_;refine gg ?_;exact cI (v:=.slice _ _ _) F rfl ⟨Ext.refl _,.inl ⟨F,List.eq_nil_of_length_eq_zero (d F)⟩⟩
 ·refine o9 F ?_;refine gg ?_;refine Aw di (.inl F) ?_;intro d d f k;refine gg ?_;refine oq (base:=w.heap.size) (m0:=0) (xs:=[]) (news:=l.map λx=>Value.int .u32 ((x:Nat):Int)) (v:=.slice _ _ _) di F ar (.inl F) F ⟨F,.inr ⟨_,_,_,F,aD,d,aD,ar,F,F⟩⟩ F aA (yz (h.Y f)) (rz l) aq aq aq ?_;intro k b d b _;refine gg ?_;refine cI (v:=k) F rfl ⟨b.aK f (λb e=>by simp[Value.ownBlock]at e;omega),?_⟩;rw[Nat.zero_add,List.nil_append]at d;rcases sJ d with⟨rfl,rfl⟩|⟨g,a,rfl,m,j,i,e⟩
  ·exact .inl ⟨F,F⟩
  ·exact .inr ⟨g,a,F,m,j,i,e⟩
theorem oc(i j:Nat):0+i*1+j*1=0+(i+j)*1:=by omega
theorem zE(R E:Option Addr)(V U N K:Nat)(c a:List Nat)(w:World)(h1:eP w R c)(Q:eP w E a)(a2:c.length=V)(a1:a.length=U)(a4:V<17592186044416)(a4:U<17592186044416):
 aT Tryz.prog 71 #[.slice R V N,.slice E U K] w λv k=>Ext w k/\iV k v (val c*val a):=by
 subst a2 a1;refine bF (n:=86) Tryz.func71 F rfl aw aA ?_;refine gg ?_;by_cases T:c.length<=1/\a.length<=1
 ·obtain⟨U,s2⟩:=T;have v1:=val_one c h1.e_ U;have V:=val_one a Q.e_ s2;have v3:=j8 _ _ v1 V;refine aP ?_;refine gg ?_;refine aJ (lL _ _ _ _ w h1 F aq) ?_;rintro _ u ⟨rfl,rfl⟩;refine gg ?_;refine aJ (lL _ _ _ _ w Q F aq) ?_;rintro _ u ⟨rfl,rfl⟩;refine gg ?_;refine jC F rfl aq ?_;refine gg ?_;refine aJ (fx _ w aq) ?_;rintro v u ⟨d,V⟩;refine gg ?_;exact cI (v:=v) F rfl ⟨d,V⟩
 ·refine aX (λf k=>w=k/\f 0=.slice R c.length N/\f 1=.slice E a.length K) ?_ ?_
  ·by_cases U:c.length<=1
   ·refine gg ?_;exact⟨F,F,F⟩
   ·refine gg ?_;exact⟨F,F,F⟩
  rintro f k ⟨rfl,U,l⟩;rw[ui U,ui l];clear U l T;refine gg ?_;refine cF di (.inl F) F rfl aD aq aq ?_;intro u g d S;rw[fZ]at g;refine gg ?_;refine aX (λf k=>∃L,f 5=.slice (some ⟨w.heap.size,0,none⟩) (c.length+a.length) (c.length+a.length)/\Ext w k/\bh k w.heap.size 90 (cells L)/\L.length=c.length+a.length/\fm L/\val L=val c*val a) ?_ ?_
  ·refine gg ?_;refine aU (λm f k=>∃i L,m=c.length-i/\i<=c.length/\f 1=.slice E a.length K/\f 5=.slice (some ⟨w.heap.size,0,none⟩) (c.length+a.length) (c.length+a.length)/\f 32=.slice R c.length N/\
    f 33=.int .i64 (c.length:Int)/\f 34=.int .i64 (i:Int)/\Ext w k/\bh k w.heap.size 90 (cells L)/\L.length=c.length+a.length/\fm L/\val L=val (c.take i)*val a/\∀j,i+a.length<=j->L.getD j 0=0)
    c.length ⟨0,_,F,aE,F,F,F,F,F,d,g,aA,d_ _,by simp[val,nQ],λj _=>lj _ _⟩ ?_
   clear g d S u f;rintro m f u ⟨i,L,rfl,R,l,s,r,p,o,d,g,M,x,J,X⟩;rw[ui l,ui s,ui r,ui p,ui o];clear l s r p o;by_cases R:i<c.length
   ·obtain⟨Z,rfl,W⟩:=(h1.Y d).at (j:=i) aq;have Y:=W i aq;have bx:=h1.e_.getD i;refine gg ?_;by_cases R:c.getD i 0=0
    ·refine aP ?_;refine gg ?_;refine⟨_,?_,i+1,L,F,aq,F,F,F,F,F,d,g,M,x,?_,λj hj=>X j aq⟩
     ·omega
     ·rw[a8 c i aq,R,J];simp
    ·refine aP ?_;refine gg ?_;refine oJ di F rfl rfl aq aq aq ?_;refine gg ?_;refine aX (λf k=>∃y h,f 1=.slice E a.length K/\f 5=.slice (some ⟨w.heap.size,0,none⟩) (c.length+a.length) (c.length+a.length)/\f 8=.slice (some ⟨w.heap.size,0+i*1,none⟩) (i+a.length+1-i) (c.length+a.length-i)/\f 9=.int .u64 ((y:Nat):Int)/\
      f 32=.slice (some Z) c.length N/\f 33=.int .i64 (c.length:Int)/\f 34=.int .i64 (i:Int)/\Ext w k/\bh k w.heap.size 90 (cells h)/\h.length=c.length+a.length/\fm h/\y<4294967296/\
      val h+y*B^(i+a.length)=val L+B^i*(c.getD i 0*val a)/\∀j,i+a.length<=j->h.getD j 0=0) ?_ ?_
     ·refine gg ?_;refine aU (λm f k=>∃j y h,m=a.length-j/\j<=a.length/\f 1=.slice E a.length K/\f 5=.slice (some ⟨w.heap.size,0,none⟩) (c.length+a.length) (c.length+a.length)/\f 7=.int .u32 ((c.getD i 0:Nat):Int)/\f 8=.slice (some ⟨w.heap.size,0+i*1,none⟩) (i+a.length+1-i) (c.length+a.length-i)/\f 9=.int .u64 ((y:Nat):Int)/\
       f 32=.slice (some Z) c.length N/\f 33=.int .i64 (c.length:Int)/\f 34=.int .i64 (i:Int)/\f 49=.slice E a.length K/\f 50=.int .i64 (a.length:Int)/\f 51=.int .i64 (j:Int)/\
       Ext w k/\bh k w.heap.size 90 (cells h)/\h.length=c.length+a.length/\fm h/\y<4294967296/\
       val h+y*B^(i+j)=val L+B^i*(c.getD i 0*val (a.take j))/\(∀q,i+j<=q->h.getD q 0=L.getD q 0))
       a.length ⟨0,0,L,F,aE,F,F,F,F,F,F,F,F,F,F,F,d,g,M,x,aq,by simp[val],λ_ _=>rfl⟩ ?_
      clear g d u f Y W;rintro m f u ⟨j,y,h,rfl,hj,l,s,N,C,A,r,p,o,K,E,k,d,g,H,t,G,z,I⟩;rw[ui l,ui s,ui N,ui C,ui A,ui r,ui p,ui o,ui K,ui E,ui k];clear l s N C A r p o K E k;by_cases k:j<a.length
      ·obtain⟨k,rfl,k⟩:=(Q.Y d).at (j:=j) aq;have E:=k j aq;have k:=Q.e_.getD j;have E:u.cell? ⟨w.heap.size,0+i*1+j*1,none⟩=some (.int .u32 ((h.getD (i+j) 0:Nat):Int)):=by rw[oc];exact nE g aq
       have E:=t.getD (i+j);have E:=j8 _ _ bx k;refine gg ?_;refine jC F rfl aq ?_;refine gg ?_;refine cg (aW F) (.inl F) F rfl g (by rw[cB];omega) ?_;intro w3 D O a0;rw[oc,dG]at D;refine gg ?_;refine⟨_,?_,j+1,_,_,F,aq,F,F,F,F,F,F,F,F,F,F,F,O.aK d (λb hb=>aq),D,by simpa using H,t.set (Nat.mod_lt _ ar),?_,?_,λq P=>by rw[cV.getD_set_ne aq];exact I q aq⟩
       ·omega
       ·omega
       ·have e:=uI _ _ _ (c.getD i 0) (a.getD j 0) (h.getD (i+j) 0) _ z _ (mT h (i+j) _ aq);rw[a8 a j aq,Nat.mul_add,Nat.mul_add,<-Nat.add_assoc i j 1,Nat.pow_succ];refine e.trans ?_;rw[Nat.pow_add,Nat.add_assoc];congr 2;rw[Nat.mul_assoc,Nat.mul_left_comm (c.getD i 0)]
      ·refine gg ?_;have:j=a.length:=aq;subst this;rw[dc]at z;exact⟨y,h,F,F,F,F,F,F,F,d,g,H,t,G,z,λq P=>by rw[I q P];exact X q P⟩
     ·clear g d u f Y W;rintro f u ⟨y,h,l,s,C,A,r,p,o,d,g,H,t,G,z,k⟩;rw[ui l,ui s,ui C,ui A,ui r,ui p,ui o];clear l s C A r p o;refine gg ?_;refine cg (aW F) (.inl F) F rfl g (by rw[cB];omega) ?_;intro w3 D O a0;rw[oc,dG]at D;refine gg ?_;refine⟨_,?_,i+1,_,F,aq,F,F,F,F,F,O.aK d (λb hb=>aq),D,by simpa using H,t.set (Nat.mod_lt _ ar),?_,λq P=>by rw[cV.getD_set_ne aq];exact k q aq⟩
      ·omega
      ·have e:=mT h (i+a.length) (y%4294967296) aq;rw[k _ aD,Nat.mod_eq_of_lt G]at e;rw[Nat.mod_eq_of_lt G,a8 c i aq,Nat.add_mul,<-J,Nat.mul_assoc,<-z,Nat.mul_comm y];omega
   ·refine gg ?_;have:i=c.length:=aq;subst this;rw[dc]at J;exact⟨L,F,d,g,M,x,J⟩
  ·clear g d S u;rintro f u ⟨L,s,d,g,M,x,J⟩;rw[ui s];refine gg ?_;refine aJ (dn _ _ _ _ u (c7 g x) M aD aq) ?_;rintro v a ⟨rfl,m,a3,rfl,b,a⟩;refine gg ?_;exact cI (v:=.slice _ _ _) F rfl ⟨d,fE (c7 g x) a3 aq aq b a J⟩
