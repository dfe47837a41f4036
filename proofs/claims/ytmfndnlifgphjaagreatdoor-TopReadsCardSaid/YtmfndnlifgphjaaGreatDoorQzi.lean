import Derived.Test.YtmfndnlifgphjaaGreatDoorQzh
import Derived.Lib.SplitLaws
import Derived.Lib.CutLaws
import Derived.Test.YtmfndnlifgphjaaGreatDoorCards
import Derived.Test.YtmfndnlifgphjaaGreatDoorTie
import Derived.SevenTiedAt
import Derived.LaidMore
import Derived.Lay
import Derived.Stop.Joined
import Derived.Shelf.Vars
import Derived.Carry
set_option maxHeartbeats 64000000
open Go.Proofs.YtmfndnlifgphjaaGreatDoor
namespace Go.Proofs.Qq
section
open Go Go.cW Go.c7 Go.uN Go.Proofs
theorem sE:dh Tryz.prog 61 5 1 1 (.int .u8 0):=⟨Tryz.underlying61,by kernel_rfl⟩
theorem LL:∃e,jV Tryz.prog 61 (.slice e)/\jV Tryz.prog e (.int .u8):=⟨5,by unfold jV;exact Tryz.underlying61,yX⟩
theorem Iq(l:List UInt8)(c:UInt8):xY (l++[c])=xY l++[.int .u8 (c.toNat:Int)]:=by simp[xY]
def nj(w:World)(base:Nat)(v:Value)(l:List UInt8):Prop:=w.ownsRow base 5 1 v l.length (xY l)
theorem nj.nil(w:World)(base:Nat):nj w base (.slice none 0 0) []:=World.ownsRow_nil _ _ _ _
theorem nj.Y{w w':World}{base:Nat}{v:Value}{l:List UInt8}(h:nj w base v l)(e:Ext w w'):nj w' base v l:=by
 refine⟨h.1,?_⟩;rcases h.2 with c|⟨g,b,a,o,m,j,i⟩
 ·exact .inl c
 ·have c:bg w g 5 a:=j;exact .inr ⟨g,b,a,o,m,c.Y e,i⟩
theorem nj.ch{M:Nat->Prop}{w w':World}{base:Nat}{v:Value}{l:List UInt8}(h:nj w base v l)(i:Ch M w w')(e:∀b,some b=v.ownBlock->¬M b):nj w' base v l:=by
 refine⟨h.1,?_⟩;rcases h.2 with m|⟨g,c,a,rfl,h2,h3,j⟩
 ·exact .inl m
 ·have b:bg w g 5 a:=h3;exact .inr ⟨g,c,a,F,h2,b.ch i (e g F),j⟩
theorem nj.mb{w:World}{base:Nat}{v:Value}{l:List UInt8}(h:nj w base v l){b:Nat}(a:some b=v.ownBlock):base<=b/\∃c,bg w b 5 c:=by
 rcases h.2 with⟨rfl,_⟩|⟨g,cap,cur,rfl,h2,h3,_⟩
 ·simp[Value.ownBlock]at a
 ·simp[Value.ownBlock]at a;subst a;exact⟨h2,cur,h3⟩
def Bb(w:World)(g cap n:Nat)(aI:Nat->UInt8):Prop:=∃a,bg w g 5 a/\a.size=cap/\∀k,k<n->a[k]?=some (.int .u8 (((aI k).toNat:Nat):Int))
theorem Bb.at{w:World}{g cap n:Nat}{aI:Nat->UInt8}(h:Bb w g cap n aI){k:Nat}(a:k<n):w.cell? ⟨g,0+k*1,none⟩=some (.int .u8 (((aI k).toNat:Nat):Int)):=by
 obtain⟨b,b,_,hc⟩:=h;rw[b.cell,Nat.zero_add,Nat.mul_one];exact hc k a
theorem nj.bb{w:World}{base:Nat}{v:Value}{l:List UInt8}(h:nj w base v l)(c:l≠[]):∃g a,v=.slice (some ⟨g,0,none⟩) l.length a/\base<=g/\l.length<=a/\a<=9223372036854775807/\Bb w g a l.length (λk=>l.getD k 0):=by
 rcases h.2 with⟨_,h0⟩|⟨g,a,cur,h1,h2,h3,j,i,e,b⟩
 ·exact absurd (List.eq_nil_of_length_eq_zero h0) c
 ·refine⟨g,a,h1,h2,j,i,cur,h3,by rw[e,Nat.mul_one],λk a=>?_⟩;rw[Nat.mul_one]at b;have e:(xY l)[k]?=cur[k]?:=by
   rw[<-b,List.getElem?_take_of_lt a];simp
  rw[<-e];simp[xY,a,List.getD]
theorem Bb.ow{w:World}{base g cap:Nat}{l:List UInt8}(h:Bb w g cap l.length λk=>l.getD k 0)(h1:base<=g)(i:l.length<=cap)(e:cap<=9223372036854775807):nj w base (.slice (some ⟨g,0,none⟩) l.length cap) l:=by
 obtain⟨j,c,a,b⟩:=h;refine⟨by rw[sb,Nat.mul_one],.inr ⟨g,cap,j,F,h1,c,i,e,by rw[a,Nat.mul_one],?_⟩⟩;apply List.ext_getElem?;intro k;rw[Nat.mul_one];by_cases a:k<l.length
 ·rw[List.getElem?_take_of_lt a,Array.getElem?_toList,b k a];simp[xY,a,List.getD]
 ·rw[List.getElem?_take_eq_none aq,List.getElem?_eq_none (by rw[sb];omega)]
theorem nj.cells{w:World}{base g n cap:Nat}{l:List UInt8}(h:nj w base (.slice (some ⟨g,0,none⟩) n cap) l):∀j (a:j<l.length),w.cell? ((⟨g,0,none⟩ : Addr).add j)=some (.int .u8 (l[j].toNat:Int)):=by
 intro j a;obtain⟨b,b,e,_,_,_,hB⟩:=h.bb (by rintro rfl;simp at a);cases e;rw[add_lit];have:=hB.at a;rw[Nat.mul_one]at this;rw[this];simp[List.getD,a]
theorem Bb.set{w':World}{g cap n:Nat}{aI:Nat->UInt8}{cs:Array Value}(h:∀k,k<n->cs[k]?=some (.int .u8 (((aI k).toNat:Nat):Int)))(a:cs.size=cap){i:Nat}{c:UInt8}(j:i<cap)
 (j:bg w' g 5 (cs.setIfInBounds (0+i*1) (.int .u8 (c.toNat:Int)))):Bb w' g cap n (λk=>if k=i then c else aI k):=by
 refine⟨_,j,by simpa using a,λk b=>?_⟩;rw[Nat.zero_add,Nat.mul_one,Array.getElem?_setIfInBounds];by_cases e:k=i
 ·subst e;rw[ab F,ab aq];simp
 ·rw[aa λh=>e h.symm];simp only[aa e];exact h k b
theorem nj.take{w:World}{base g n cap:Nat}{l:List UInt8}(h:nj w base (.slice (some ⟨g,0,none⟩) n cap) l)(m:Nat)(a:m<=l.length):nj w base (.slice (some ⟨g,0,none⟩) m cap) (l.take m):=by
 rcases h.2 with⟨e,_⟩|⟨h,h,cur,h1,h2,h3,h,i,c,b⟩
 ·cases e
 ·cases h1;have e:(l.take m).length=m:=List.length_take_of_le a;refine⟨by rw[sb,Nat.mul_one],.inr ⟨_,_,cur,by rw[e],h2,h3,aq,i,c,?_⟩⟩;rw[e,Nat.mul_one];rw[Nat.mul_one]at b;have:cur.toList.take m=(cur.toList.take l.length).take m:=by rw[List.take_take,Nat.min_eq_left a]
  rw[this,b];simp[xY,List.map_take]
section
variable {n:Nat}{S:World->World->Prop}{k:Nat}{K:Fr->World->Prop}{f:Fr}{w:World}
 {d ty t t2:Nat} {x y:Operand} {pos:String} {aft:Array Edge} {gd:Option (Nat×Bool)}
theorem tP{base g:Nat}{a:UInt8}{v:Value}{l:List UInt8}(u:k=2)(s:ev n f x=v)(p:nj w base v l)(r:ev n f y=.slice (some ⟨g,0,none⟩) 1 1)(z:bg w g 5 #[.int .u8 (a.toNat:Int)])
 (b:l.length<4398046511104) (o:base<=w.heap.size)
 (h:∀c i,nj i base c (l++[a])->Ch (λb=>some b=v.ownBlock) w i->(c.ownBlock=v.ownBlock\/c.ownBlock=some w.heap.size)->K (cg f d c) i):
 R1 Tryz.prog n S k ⟨some d,.call { callee:=.builtin .append,args:=#[x,y],argTypes:=#[61,61] },ty,pos,aft,gd⟩ K f w:=by
 refine ou (base:=base) (m0:=l.length) (m:=1) (news:=[.int .u8 (a.toNat:Int)]) (v:=v) sE F aw (.inl u) s p r F (λj u e=>?_) (λu q=>by simp at q;subst q;rfl) aq aq o ?_
 ·match j,e with
  |0,e=>simp at e;subst e;exact⟨_,F,by rw[add_lit,z.cell];rfl⟩
  |j+1,e=>simp at e
 ·intro c i e j b;refine h c i ?_ j b;unfold nj;rw[List.length_append,Iq];exact e
end
theorem GF:dh Tryz.prog 121 9 1 16 (.string ByteArray.empty):=⟨Tryz.underlying121,by kernel_rfl⟩
theorem pV:gz Tryz.prog 9=true:=by kernel_rfl
theorem MQ:cI Tryz.prog 74 0 0:=by
 unfold cI;intro a w;simp[Instr.fieldAt,run_underlying Tryz.underlying74,Instr.sureAddr,fieldPlace,cK pV]
theorem MP:cI Tryz.prog 74 1 1:=by
 unfold cI;intro a w;simp[Instr.fieldAt,run_underlying Tryz.underlying74,Instr.sureAddr,fieldPlace]
theorem gb{G G':Prop}(h:G')(t:Gw G'->G:=by intro hgg;(repeat (first|(first|refine ta ?_|(refine mT ?_;(first|refine jC sE rfl ?_|refine jC GF rfl ?_|refine Le jo rfl ?_|refine Li rfl rfl ?_|refine K9 rfl rfl ?_|refine dP sE rfl rfl (by omega) ?_|refine dP GF rfl rfl (by omega) ?_|refine Bi rfl ?_|refine Bm rfl ?_|refine bw rfl ?_|refine LO rfl ?_|refine ji (by decide) pV F (by assumption) ?_|refine re (by decide) pV F (by assumption) ?_|refine aV MQ rfl ?_|refine aV MP rfl ?_)))|(refine N9 ?_;refine Ns F rfl rfl rfl ?_)));exact hgg.out):G:=t ⟨h⟩
def Ij(l:List UInt8)(i k:Nat):UInt8:=if k<i\/l.length<=k+i then l.getD (l.length-1-k) 0 else l.getD k 0
theorem Ii{l:List UInt8}{i j k:Nat}(c:j=l.length-1-i)(e:2*i+1<l.length)(e:k<l.length):
 (if k=j then Ij l i i else if k=i then Ij l i j else Ij l i k)=Ij l (i+1) k:=by
 unfold Ij;by_cases b:k=j
 ·subst b;rw[ab F,aa aq,ab aq];congr 1;omega
 ·rw[aa b];by_cases a:k=i
  ·subst a;rw[ab F,aa aq,ab aq,c]
  ·rw[aa a];by_cases a:k<i\/l.length<=k+i
   ·rw[ab a,ab aq]
   ·rw[aa a,aa aq]
theorem KI(l:List UInt8){i k:Nat}(a:l.length<=2*i+1)(a:k<l.length):Ij l i k=l.reverse.getD k 0:=by
 unfold Ij;have e:l.reverse.getD k 0=l.getD (l.length-1-k) 0:=by
  simp[List.getD,List.getElem?_reverse a]
 rw[e];by_cases h:k<i\/l.length<=k+i
 ·rw[ab h]
 ·rw[aa h,show l.length-1-k=k by omega]
theorem sM(g cap base:Nat)(l:List UInt8)(w:World)(h:nj w base (.slice (some ⟨g,0,none⟩) l.length cap) l)(j:l≠[])(m:l.length<1099511627776):
 aT Tryz.prog 129 #[.slice (some ⟨g,0,none⟩) l.length cap] w λv e=>v=.tuple #[]/\nj e base (.slice (some ⟨g,0,none⟩) l.length cap) l.reverse/\Ch (λb=>b=g) w e/\e.heap.size=w.heap.size:=by
 obtain⟨m,m,m,G,B,A,u⟩:=h.bb j;cases m;have h:0<l.length:=List.length_pos_iff.2 j;refine bo (n:=28) Tryz.func129 F rfl az aA ?_;refine gb ?_;refine aU (λm f e=>∃i,m=l.length-i/\2*i<=l.length+1/\f 0=.slice (some ⟨g,0,none⟩) l.length cap/\f 2=.int .i64 ((i:Nat):Int)/\f 3=.int .i64 (((l.length:Int)-1-(i:Int)))/\Ch (λb=>b=g) w e/\e.heap.size=w.heap.size/\Bb e g cap l.length (Ij l i))
  l.length ⟨0,F,aq,F,F,(by rw[show((l.length:Int)-1-((0:Nat):Int))=((l.length-1:Nat):Int) by omega];rfl),Ch.refl _ _,F,?_⟩ ?_
 ·obtain⟨p,o,r,q⟩:=u;refine⟨p,o,r,λk a=>?_⟩;rw[q k a];unfold Ij;rw[aa aq]
 rintro m f s ⟨i,rfl,b,j,h,b,u,D,e⟩;rw[ui j,ui h,ui b];clear j h b;by_cases v:2*i+1<l.length
 ·obtain⟨j,E⟩ : ∃j:Nat,j=l.length-1-i:=⟨_,F⟩;have b:((l.length:Int)-1-(i:Int))=(j:Int):=aq;rw[b];have m:=e.at (k:=i) aq;have h:=e.at (k:=j) aq;obtain⟨p,o,r,q⟩:=e;refine aN ?_;refine gb ?_;refine cP [(0,3),(1,3),(2,3),(3,3),(4,3),(5,3),(6,3),(7,0),(8,3),(9,3),(10,3),(11,0),(12,3),(13,2),(14,3),(15,2)] mixed az λC b z=>?_;replace m:=aP b m;replace h:=aP b h;replace o:=o.Y b;have h:C.heap.size=s.heap.size:=by rw[z]
  refine gb ?_;refine bZ (aX F) (.inl F) F rfl o aq ?_;intro h o m h;obtain⟨h,h,C,z⟩:=Bb.set q r (c:=Ij l i j) aq o;refine gb ?_;refine bZ (aX F) (.inl F) F rfl h aq ?_;intro h q h o;have o:=Bb.set z C (c:=Ij l i i) aq q;refine gb ?_;refine⟨_,?_,i+1,F,aq,F,F,by(rw[show((l.length:Int)-1-((i+1:Nat):Int))=((j-1:Nat):Int) by omega];rfl),((u.trans b.ch).trans m).trans h,aq,?_⟩
  ·omega
  ·obtain⟨j,i,h,b⟩:=o;refine⟨j,i,h,λk a=>?_⟩;rw[b k a];simp only[Ii E v a]
 ·refine aN ?_;refine gb ?_;refine lP F ⟨F,?_,u,D⟩;have:Bb s g cap l.reverse.length (λk=>l.reverse.getD k 0):=by
   obtain⟨p,i,h,b⟩:=e;refine⟨p,i,h,λk a=>?_⟩;rw[List.length_reverse]at a;rw[b k a,KI l aq a]
  have:=this.ow G (by rw[List.length_reverse];exact B) A;rwa[List.length_reverse]at this
end
end Go.Proofs.Qq
namespace Go.uN
section
open Go.Lib
def wd(c:UInt8):List UInt8->List (List UInt8)
 |[]=>[[]]
 |b::r=>if b=c then[]::wd c r else match wd c r with
  |[]=>[[b]]
  |w::ws=>(b::w)::ws
theorem Dx(c b:UInt8)(r:List UInt8):wd c (b::r)=if b=c then[]::wd c r else match wd c r with
 |[]=>[[b]]
 |w::ws=>(b::w)::ws:=F
theorem yU(c:UInt8)(s:List UInt8):wd c s≠[]:=by
 cases s with
 |nil=>simp[wd]
 |cons b r=>
  unfold wd;split
  ·simp
  ·split<;>simp
theorem pA{c:UInt8}{s:List UInt8}(h:c∉s):wd c s=[s]:=by
 induction s with
 |nil=>rfl
 |cons b r a=>
  simp only[List.mem_cons,not_or]at h;unfold wd;rw[aa λe=>h.1 e.symm,a h.2]
theorem oR{c:UInt8}{a r:List UInt8}(h:c∉a):wd c (a++c::r)=a::wd c r:=by
 induction a with
 |nil=>simp[wd]
 |cons b a d=>
  simp only[List.mem_cons,not_or]at h;rw[List.cons_append,Dx,aa λe=>h.1 e.symm,d h.2]
theorem Gl(c:UInt8)(s:List UInt8):(wd c s).length=s.count c+1:=by
 induction s with
 |nil=>rfl
 |cons b r a=>
  unfold wd;by_cases h:b=c
  ·subst h;rw[ab F,List.count_cons_self,List.length_cons,a]
  ·rw[aa h,List.count_cons_of_ne (by simpa using h),<-a];cases hw:wd c r with
   |nil=>exact absurd hw (yU c r)
   |cons w ws=>rfl
theorem LU{c:UInt8}{s:List UInt8}(h:wd c s=[[]]):s=[]:=by
 cases s with
 |nil=>rfl
 |cons b r=>
  unfold wd at h;split at h
  ·simp at h;exact absurd h (yU c r)
  ·split at h<;>simp at h
theorem kU(c:UInt8)(s:List UInt8):(index s [c]=-1/\c∉s)\/∃a r,s=a++c::r/\c∉a/\index s [c]=(a.length:Int):=by
 induction s with
 |nil=>exact .inl ⟨by simp[index],aA⟩
 |cons b s i=>
  by_cases h:b=c
  ·subst h;exact .inr ⟨[],s,F,aA,by rw[index];simp[List.isPrefixOf]⟩
  ·have d:index (b::s) [c]=if index s [c] == -1 then -1 else index s [c]+1:=by
    rw[index];simp[List.isPrefixOf,Ne.symm h]
   rcases i with⟨f,e⟩|⟨a,r,f,e,j⟩
   ·exact .inl ⟨by rw[d,f];rfl,by simp[e,Ne.symm h]⟩
   ·refine .inr ⟨b::a,r,by rw[f];rfl,by simp[e,Ne.symm h],?_⟩;rw[d,j,aa aA];simp
theorem sD(c:UInt8):∀(k:Nat) (s:List UInt8),(splitK [c] 0 k s).length=min (s.count c) k+1:=by
 intro k;induction k with
 |zero=>intro s;simp[splitK]
 |succ k f=>
  intro s;rcases kU c s with⟨b,d⟩|⟨a,r,b,d,e⟩
  ·rw[splitK,ab (by rw[b];rfl),List.count_eq_zero.2 d];simp
  ·rw[splitK,aa (by rw[e];simp),e];simp only[List.length_cons,f,Int.toNat_natCast,List.length_nil];rw[show s.drop (a.length+(0+1))=r by rw[b];simp];have:s.count c=r.count c+1:=by rw[b];simp[List.count_append,List.count_eq_zero.2 d]
   omega
theorem ET(c:UInt8):∀(k:Nat) (s:List UInt8),s.count c<=k->splitK [c] 0 k s=wd c s:=by
 intro k;induction k with
 |zero=>
  intro s h;rw[splitK,pA (List.count_eq_zero.1 aq)]
 |succ k f=>
  intro s h;rcases kU c s with⟨b,d⟩|⟨a,r,b,d,e⟩
  ·rw[splitK,ab (by rw[b];rfl),pA d]
  ·have g:s.count c=r.count c+1:=by rw[b];simp[List.count_append,List.count_eq_zero.2 d]
   rw[splitK,aa (by rw[e];simp),e];simp only[Int.toNat_natCast,List.length_cons,List.length_nil];rw[show s.drop (a.length+(0+1))=r by rw[b];simp,f r aq,show s.take (a.length+0)=a by rw[b];simp];conv=>rhs;rw[b]
   rw[oR d]
theorem H2{c:UInt8}{s l m:List UInt8}{e:List (List UInt8)}(h:wd c s=l::m::e):∃r,cut s [c]=(l,r,true)/\wd c r=m::e/\r.length<s.length/\l.length<=s.length:=by
 rcases kU c s with⟨b,d⟩|⟨a,r,b,d,f⟩
 ·rw[pA d]at h;simp at h
 ·rw[b,oR d]at h;simp only[List.cons.injEq]at h;refine⟨r,?_,h.2,by rw[b];simp;omega,by rw[b,<-h.1];simp⟩;unfold cut;rw[ab (by rw[f];omega),f,Int.toNat_natCast,<-h.1,show s.take a.length=a by rw[b];simp,show s.drop (a.length+[c].length)=r by rw[b];simp]
theorem H3{c:UInt8}{s l:List UInt8}(h:wd c s=[l]):cut s [c]=(s,[],false):=by
 rcases kU c s with⟨b,d⟩|⟨a,r,b,d,a⟩
 ·unfold cut;rw[aa (by rw[b];decide)]
 ·rw[b,oR d]at h;simp only[List.cons.injEq]at h;exact absurd h.2 (yU c r)
instance (s:List UInt8):Decidable (isNum s):=by unfold isNum;exact inferInstance
instance (s:List UInt8):Decidable (lR s):=by unfold lR;exact inferInstance
def pW(i:Nat)(l:List UInt8):Prop:=(wd 32 l).length=i+1/\∀w∈wd 32 l,lR w
instance (i:Nat) (l:List UInt8):Decidable (pW i l):=by unfold pW;exact inferInstance
def xw(l:List UInt8):Prop:=l.length=6/\l.take 5=[102,111,114,109,32]/\49<=(l.getD 5 0).toNat/\(l.getD 5 0).toNat<=56
instance (l:List UInt8):Decidable (xw l):=by unfold xw;exact inferInstance
def tj(l:List UInt8):Nat:=(l.getD 5 0).toNat-48
def oX(a:List (List UInt8)):Nat->Nat->Nat
 |0,_=>0
 |k+1,i=>if i+2<a.length/\pW i (a.getD (i+1) [])then oX a k (i+1)else i+2
def sT(b:List (List UInt8)):Nat:=
 if 1<b.length/\xw (b.getD 0 [])then
  if oX b (tj (b.getD 0 [])) 0≠0 then oX b (tj (b.getD 0 [])) 0
  else if b.drop (tj (b.getD 0 [])+1)=[[]]then 0 else tj (b.getD 0 [])+2
 else 1
def nN(a:List (List UInt8))(i j:Nat):Int:=rS ((wd 32 (a.getD (i+1) [])).getD j [])
def nf(a:List (List UInt8))(i j:Nat):Int:=nN a (max i j) (min i j)
end
end Go.uN
namespace Go.Proofs.Qq
section
open Go Go.cW Go.c7 Go.uN Go.Proofs
def ML(w:World):Prop:=∃m,w.cell? ⟨1,0,none⟩=some (.int .i64 m)
theorem ML.Y{w w':World}(h:ML w)(a:Ext w w'):ML w':=by
 obtain⟨m,h⟩:=h;exact⟨m,aP a h⟩
theorem Fw(w:World)(n:Nat):Ext w (w.drewN n):=⟨F,F,F,Nat.le_refl _,λ_ _ _=>rfl⟩
theorem OE(l:List UInt8):(ByteArray.mk l.toArray).data.toList=l:=by simp
theorem NK(b:ByteArray):Value.string b=Tx b.data.toList:=by
 show Value.string b=Value.string ⟨b.data.toList.toArray⟩;rw[Array.toArray_toList]
theorem MX(l:List UInt8)(c:UInt8)(w:World)(a:ML w)(d:l.length<4294967281):
 aT Tryz.prog 73 #[Tx l,Tx [c]] w λv b=>Ext w b/\v=.tuple #[Tx (Lib.cut l [c]).1,Tx (Lib.cut l [c]).2.1,.bool (Lib.cut l [c]).2.2]:=by
 obtain⟨m,a⟩:=a;refine⟨enters_of Tryz.func73 F rfl,(Tryz.strings_Cut ⟨l.toArray⟩ ⟨[c].toArray⟩ m w (by rw[fJ];exact d) a).mono ?_⟩;rintro e b ⟨rfl,n,rfl⟩;exact⟨_,F,Fw w n,by simp only⟩
theorem mG(l p:List UInt8)(w:World):
 aT Tryz.prog 70 #[Tx l,Tx p] w λv a=>w=a/\v=.tuple #[Tx (Lib.trimPrefix l p),.bool (Lib.hasPrefix l p)]:=by
 refine⟨enters_of Tryz.func70 F rfl,(Tryz.strings_CutPrefix ⟨l.toArray⟩ ⟨p.toArray⟩ w).mono ?_⟩;rintro e a ⟨rfl,rfl⟩;exact⟨_,F,F,by simp only⟩
theorem uo(l p:List UInt8)(w:World):
 aT Tryz.prog 69 #[Tx l,Tx p] w λv a=>w=a/\v=Tx (Lib.trimPrefix l p):=by
 refine⟨enters_of Tryz.func69 F rfl,(Tryz.strings_TrimPrefix ⟨l.toArray⟩ ⟨p.toArray⟩ w).mono ?_⟩;rintro e a ⟨rfl,rfl⟩;exact⟨_,F,F,by simp only⟩
theorem FF{i:Nat}(a:i<=9):Lib.decDigits i=[ch i]:=by
 rw[Lib.decDigits,dif_pos aq];rfl
theorem Ka(i:Nat)(w:World)(b:i<=9):
 aT Tryz.prog 25 #[.int .i64 (i:Int)] w λv a=>w=a/\v=Tx [ch i]:=by
 refine⟨enters_of Tryz.func25 F rfl,(Tryz.strconv_Itoa_small i aq w).mono ?_⟩;rintro e a ⟨rfl,rfl⟩;exact⟨_,F,F,by rw[FF b]⟩
def TL(w:World)(g:Nat)(b:List (List UInt8)):Prop:=∀j,j<b.length->w.cell? ⟨g,0+j*1,none⟩=some (Tx (b.getD j []))
theorem TL.Y{w w':World}{g:Nat}{a:List (List UInt8)}(h:TL w g a)(b:Ext w w'):TL w' g a:=λj a=>aP b (h j a)
theorem NL{w:World}{g N:Nat}{L:List ByteArray}(c:bg w g 9 (Lib.cellsOf L N)):TL w g (L.map λb=>b.data.toList):=by
 intro j a;rw[List.length_map]at a;rw[c.cell,Nat.zero_add,Nat.mul_one];unfold Lib.cellsOf;simp[List.getElem?_append_left,a,List.getD,NK]
theorem uY(l:List UInt8)(c:UInt8)(n:Nat)(w:World)(d:ML w)(g:l.length<4294967281)(f:1<=n)(a:n<=1000):
 aT Tryz.prog 71 #[Tx l,Tx [c],.int .i64 (n:Int)] w λv b=>Ext w b/\∃a e,a=Lib.splitK [c] 0 (min n (l.length+1)-1) l/\v=.slice (some ⟨w.heap.size,0,none⟩) a.length e/\TL b w.heap.size a:=by
 obtain⟨m,d⟩:=d;refine⟨enters_of Tryz.func71 F rfl,(Tryz.strings_SplitN ⟨l.toArray⟩ ⟨[c].toArray⟩ n m w (by rw[fJ];exact g) d (by rw[fJ];simp) f aq).mono ?_⟩;rintro e b ⟨rfl,rfl⟩;have a:=Lib.splitB_data ⟨[c].toArray⟩ 0 (min n ((ByteArray.mk l.toArray).size+1)-1) ⟨l.toArray⟩;simp only[fJ]at a;refine⟨_,F,nR w _,_,min n (l.length+1),F,?_,?_⟩
 ·rw[<-a,List.length_map,fJ]
 ·rw[<-a];rw[fJ];exact NL (bg.new w _ _)
end
section
open Go Go.cW Go.ChangeShapes Go.WideShapes Go.ChangeAt Go.RowKit
theorem kC{H:Type}{enc:TypeId×Value->H}{a:Assume}{C:Checked}{os:Os}{f:FuncId}{g:Func}{s:ChangeSpec}{n:List PathCond}{d m k o:Bool}{X:World->Array Value->Prop}
 (_hX:∀(w w':World) (b:Array Value),w.heap=w'.heap->X w b->X w' b)
 (B:ownKnob C.prog.godebug=none) (q:os.Started) (r:C.prog.inits.idxOf? f=none) (E:C.prog.funcs[f]?=some g)
 (p:∃(w:World) (c:Tape) (i:Input),w.os=os/\(w.forCall c i).Shaped C.prog/\i.vars=[]/\Input.okWide C.prog (w.forCall c i) .any w.heap.size f i/\
  ((s.pre enc C.prog g n d (w.forCall c i).memory i.args/\X (w.forCall c i).memory i.args)/\sizedMet enc C.prog g (OpenSpec.ofChange s) d (w.forCall c i).memory i.args)/\a.holds C.prog (lone (Frame.enter C.prog f i.args .normal) [] (w.forCall c i)))
 (l:∀(W:World) (base:Nat) (b:Array Value) (x u:List (DataW H)) (h:List MemPlace),
  (∀(j:Nat) t v,g.params[j]?=some t->b[j]?=some v->Value.okWide C.prog W .any base t v)->
  DataW.Whole enc C.prog g.params.toList s.vars d W b.toList x u h->
  (DataW.weightsEach C.prog (g.params.toList++s.plain.varTypes C.prog) (x++u)).all (·<=reachBytes)=true->W.ShapedOpen C.prog->
  Calls C.prog f b W λe A=>∃v,e=.returned v/\s.post enc C.prog g d m k o W b v A):
 ReturnsInHanded a C os f .any (λw b=>(s.pre enc C.prog g n d w b/\X w b)/\sizedMet enc C.prog g (OpenSpec.ofChange s) d w b) (s.post enc C.prog g d m k o):=by
 refine returnsInHanded_of_calls B q r p ?_;intro w c i _ D _ d z _;obtain⟨_,_,_,j,b,_,_,_,_,y⟩:=d;have e:j=g:=Option.some.inj (b.symm.trans E);subst e;obtain⟨⟨⟨x,u,h,b,j⟩,d⟩,g⟩:=z;have d:=DataW.Whole.of_heap (w':=w.forCall c i) (by rfl) b;refine(l (w.forCall c i) w.heap.size i.args x u h y d (g.weights b) D).mono λe A ⟨v,I,G⟩=>?_;subst I;exact ChangeSpec.post_blind G
theorem N6{w:World}(h:w.ShapedOpen Tryz.prog):ML w:=
 Go.Proofs.cell_of_shapedOpen_int (zero:=#[.int .i64 0]) (t:=3) h (of_decide_eq_true az) az F az az Tryz.underlying3
def sY : List (String × DataW Unit) := [("math/bits.deBruijn32tab", Rows.laid_math_bits_deBruijn32tab), ("math/bits.deBruijn64tab", Rows.laid_math_bits_deBruijn64tab), ("internal/strconv.uint64pow10", Rows.laid_internal_strconv_uint64pow10), ("unicode/utf8.acceptRanges", Rows.laid_unicode_utf8_acceptRanges), ("unicode/utf8.first", Rows.laid_unicode_utf8_first)]
theorem Fi(os:Os)(args:Array Value):laidMetH Tryz.prog sY ((World.laidAll Tryz.prog os sY).forCall (λ_ _=>0) ⟨#[],args,[]⟩).memory:=by
 rw[MakeChecks.laidMetH_plain _ _ _ az];exact laidMet_laidAll _ az az
theorem xB(os:Os)(args:Array Value):((World.laidAll Tryz.prog os sY).forCall (λ_ _=>0) ⟨#[],args,[]⟩).Shaped Tryz.prog:=
 World.shaped_of_ZipB az az
end
section
open Go Go.cW Go.c7 Go.Proofs
def fits(z:Int):Bool:=decide (-9223372036854775808<=z/\z<9223372036854775808)
def clip(z:Int):Int:=if fits z then z else 0
theorem Cu{z:Int}(h1:-9223372036854775808<=z)(a:z<9223372036854775808):fits z=true/\clip z=z:=by
 have:fits z=true:=decide_eq_true ⟨h1,a⟩;exact⟨this,ab this⟩
theorem Cv{z:Int}(h:¬(-9223372036854775808<=z/\z<9223372036854775808)):fits z=false/\clip z=0:=by
 have:fits z=false:=decide_eq_false h;exact⟨this,aa (by rw[this];simp)⟩
theorem wrap_small(a:Nat)(h:a<9223372036854775808):IntKind.i64.wrap (a:Int)=(a:Int):=by
 rw[IntKind.wrap_i64];omega
theorem Gh(a:Nat)(h:a<=9223372036854775808):IntKind.i64.wrap (((18446744073709551616-a)%18446744073709551616:Nat):Int)=-(a:Int):=by
 rw[IntKind.wrap_i64];omega
theorem z7(x y:Value)(z:Int)(N:Nat)(w:World)(h:IV w N x y z)(_hN:N<1099511627776):
 aT Tryz.prog 54 #[.agg #[x,y]] w λv c=>Ext w c/\v=.tuple #[.int .i64 (clip z),.bool (fits z)]:=by
 obtain⟨d,A,l,c,rfl,rfl,k,e,g,c,rfl⟩:=h;refine bo (n:=34) Tryz.func54 F rfl az aA ?_;refine gg ?_;refine bO (v:=.agg _) (.inl F) F ?_;intro i c b h;have h:=iR c;have h:=fG c;refine gg ?_;refine aJ (dA _ _ _ _ i (g.Y b) F k e) ?_;rintro _ _ ⟨rfl,m,hm,rfl,c,f⟩;refine gg ?_;by_cases e:2<m
 ·refine aN ?_;refine gg ?_;refine cU (v:=.int _ _) (v':=.bool _) F rfl rfl ⟨b,?_⟩;have h:l.take m≠[]:=by intro e;have:=congrArg List.length e;rw[List.length_take_of_le hm]at this;simp at this;omega
  have j:=kQ h c;rw[f,List.length_take_of_le hm]at j;have c:B^2<=B^(m-1):=Nat.pow_le_pow_right aw aq;have c:B^2=18446744073709551616:=aw;have a:fits (sg d (val l))=false/\clip (sg d (val l))=0:=by
   refine Cv ?_;cases d
   ·rw[eY];omega
   ·rw[fb];omega
  rw[a.1,a.2];rfl
 ·refine aN ?_;have j:val l<18446744073709551616:=by
   rw[<-f];refine Nat.lt_of_lt_of_le (g_ _ (g.fD.take m)) ?_;rw[List.length_take_of_le hm];exact Nat.le_trans (Nat.pow_le_pow_right (show 0<B by decide) (show m<=2 by omega)) aw
  refine gg ?_;refine aJ (mc _ _ _ (l.take m) i ((g.Y b).take m) (List.length_take_of_le hm) aq) ?_;rintro _ _ ⟨rfl,rfl⟩;rw[f];refine gg ?_;cases d
  ·by_cases c:val l<9223372036854775808
   ·refine gg ?_;refine tK mg nw F (wrap_small _ c) ?_;refine gg ?_;refine cU (v:=.int _ _) (v':=.bool _) F rfl rfl ⟨b,?_⟩;have a:=Cu (z:=sg false (val l)) (by rw[eY];omega) (by rw[eY];omega);rw[a.1,a.2];rfl
   ·refine gg ?_;refine cU (v:=.int _ _) (v':=.bool _) F rfl rfl ⟨b,?_⟩;have a:=Cv (z:=sg false (val l)) (by rw[eY];omega);rw[a.1,a.2];rfl
  ·by_cases c:val l<=9223372036854775808
   ·refine gg ?_;refine pj F aq ?_;refine gg ?_;refine tK mg nw F (Gh _ c) ?_;refine gg ?_;refine cU (v:=.int _ _) (v':=.bool _) F rfl rfl ⟨b,?_⟩;have a:=Cu (z:=sg true (val l)) (by rw[fb];omega) (by rw[fb];omega);rw[a.1,a.2];rfl
   ·refine gg ?_;refine cU (v:=.int _ _) (v':=.bool _) F rfl rfl ⟨b,?_⟩;have a:=Cv (z:=sg true (val l)) (by rw[fb];omega);rw[a.1,a.2];rfl
end
end Go.Proofs.Qq
namespace Go.cW
section
open Go
def ic(ops:Array Oper)(H:List Nat):List (Nat×Nat)->Array Bool->Option (Array Bool)
 |[],x=>some x
 |(i,0)::rest,x=>if(Region.ready .any ops x).contains i&&Region.free .any ops x i&&H.contains i then ic ops H rest (x.setIfInBounds i true)else none
 |(i,1)::rest,x=>if Region.ready .any ops x == [i]then ic ops H rest (x.setIfInBounds i true)else none
 |(i,2)::rest,x=>if Region.ready .any ops x == [i]&&LM ops H x i then ic ops H rest (x.setIfInBounds i true)else none
 |(i,3)::rest,x=>if(Region.ready .any ops x).contains i&&Region.free .any ops x i then ic ops H rest (x.setIfInBounds i true)else none
 |(_,_+4)::_,_=>none
abbrev qE:=Nat×List (Nat×Nat)×List Nat
def Ae(ops:Array Oper)(H:List Nat)(G:List qE)(a:List (Nat×Nat)):Nat->Array Bool->List Nat->Nat->Bool
 |0,x,L,fuel=>G.all (λg=>L.contains g.1)&&a.length == fuel&&jI ops H a x
 |k+1,x,L,fuel=>!(Region.ready .any ops x).isEmpty&&(Region.ready .any ops x).all λr=>
  match G.find? (λg=>g.1 == r)with
  |none=>false
  |some (i,b,nd)=>i == r&&!L.contains i&&nd.all (λd=>L.contains d)&&Nat.ble (b.length+1) fuel &&
   match ic ops H b (x.setIfInBounds i true)with
   |none=>false
   |some c=>Ae ops H G a k c (i::L) (fuel-1-b.length)
section
variable {P:Program}{ops:Array Oper}{H:List Nat}{S:World->World->Prop}{n:Nat}
theorem sI:∀(a:List (Nat×Nat)) (x b:Array Bool),ic ops H a x=some b->b.size=x.size:=by
 intro a;induction a with
 |nil=>intro x b h;cases h;rfl
 |cons d rest c=>
  obtain⟨i,k⟩:=d;intro x b h
  match k,h with
  |0,h=>simp only[ic]at h;split at h<;>first|exact(c _ _ h).trans aA|cases h
  |1,h=>simp only[ic]at h;split at h<;>first|exact(c _ _ h).trans aA|cases h
  |2,h=>simp only[ic]at h;split at h<;>first|exact(c _ _ h).trans aA|cases h
  |3,h=>simp only[ic]at h;split at h<;>first|exact(c _ _ h).trans aA|cases h
  |_+4,h=>simp[ic]at h
theorem pQ:∀(c:List (Nat×Nat)) (x d:Array Bool),lu ops x->ic ops H c x=some d->lu ops d:=by
 intro c;induction c with
 |nil=>intro x d b h;cases h;exact b
 |cons f rest e=>
  obtain⟨i,k⟩:=f;intro x d b h
  match k,h with
  |0,h=>
   simp only[ic]at h;split at h
   ·rename_i a;simp only[Bool.and_eq_true]at a;exact e _ _ (cM b (by simpa using a.1.1)) h
   ·cases h
  |1,h=>
   simp only[ic]at h;split at h
   ·rename_i a;have a:Region.ready .any ops x=[i]:=by simpa using a
    exact e _ _ (cM b (by rw[a];exact List.mem_singleton.2 F)) h
   ·cases h
  |2,h=>
   simp only[ic]at h;split at h
   ·rename_i a;simp only[Bool.and_eq_true,beq_iff_eq]at a;exact e _ _ (cM b (by rw[a.1];exact List.mem_singleton.2 F)) h
   ·cases h
  |3,h=>
   simp only[ic]at h;split at h
   ·rename_i a;simp only[Bool.and_eq_true]at a;exact e _ _ (cM b (by simpa using a.1)) h
   ·cases h
  |_+4,h=>simp[ic]at h
theorem IC{K K0:Fr->World->Prop}(O:∀a b c,S a b->S b c->S a c)(t:Region.noSelect ops=true){u:Nat}{N:Array Bool}
 (R:∀f w,K f w->I_ P ops H (QK n K0) S u N (act n f) w):
 ∀(z:List (Nat×Nat)) (x:Array Bool) (f:Fr) (w:World),x.size=ops.size->lu ops x->ic ops H z x=some N->Ro P n ops S K z f w->
  I_ P ops H (QK n K0) S (z.length+u) x (act n f) w:=by
 intro z;induction z with
 |nil=>
  intro x f w _ _ d h;unfold Ro at h;cases d;rw[List.length_nil,Nat.zero_add];exact R f w h
 |cons Q rest y=>
  obtain⟨i,k⟩:=Q;intro x f w e g d h;unfold Ro at h;obtain⟨o,s,h⟩:=h;have r:∀v,(act n f).put o.dst v=act n (fZ f o.dst v):=iC n f o.dst;have U:(List.length ((i,k)::rest))+u=(rest.length+u)+1:=by simp only[List.length_cons];omega
  rw[U]
  match k,d with
  |0,d=>
   simp only[ic]at d;split at d
   case isFalse=>cases d
   rename_i l;simp only[Bool.and_eq_true]at l;obtain⟨⟨J,q⟩,G⟩:=l;have p:i∈Region.ready .any ops x:=by simpa using J
   by_cases m:want n ops f o=true
   ·rw[ab m]at h;unfold R1 at h;rw[ab F]at h;obtain⟨v,I,B⟩:=h;refine ja O (λ_ _ h=>h) (.inl G) s (Region.noSelect_spec t) (λ_ _ _ h=>h) _ x (act n f) w e g (Region.free_spec s q) p (v:=v) (.inl ⟨m,λD E=>?_⟩) ?_
    ·rw[cO];exact I D E
    ·rw[r];exact y _ _ _ (by simp[e]) (cM g p) d B
   ·rw[aa m]at h;refine ja O (λ_ _ h=>h) (.inl G) s (Region.noSelect_spec t) (λ_ _ _ h=>h) _ x (act n f) w e g (Region.free_spec s q) p (v:=undef) (.inr ⟨by simpa[want]using m,F⟩) ?_;rw[r];exact y _ _ _ (by simp[e]) (cM g p) d h
  |1,d=>
   simp only[ic]at d;split at d
   case isFalse=>cases d
   rename_i l;have l:Region.ready .any ops x=[i]:=by simpa using l
   refine⟨λL=>by simp[L]at l,λj C=>?_⟩;have A:=C;rw[l]at C;obtain rfl:j=i:=by simpa using C
   unfold Go.wpOp;simp only[s];change (if want n ops f o=true then _ else _);by_cases m:want n ops f o=true
   ·rw[ab m]at h⊢;refine .inl (Oper.wp_mono (λV D M=>?_) (lA rh (h.wp aq)));obtain⟨T,rfl,E,B⟩:=M;exact⟨.inr (E.resolve_left aq),y _ _ _ (by simp[e]) (cM g A) d B⟩
   ·rw[aa m]at h⊢;exact⟨aA,by rw[r];exact y _ _ _ (by simp[e]) (cM g A) d h⟩
  |2,d=>
   simp only[ic]at d;split at d
   case isFalse=>cases d
   rename_i l;simp only[Bool.and_eq_true,beq_iff_eq]at l;refine⟨λL=>by simp[L]at l,λj C=>?_⟩;have A:=C;rw[l.1]at C;obtain rfl:j=i:=by simpa using C
   unfold Go.wpOp;simp only[s];change (if want n ops f o=true then _ else _);by_cases m:want n ops f o=true
   ·rw[ab m]at h⊢;refine .inl (Oper.wp_mono (λV D M=>?_) (lA rh (h.wp aq)));obtain⟨T,rfl,E,B⟩:=M;exact⟨.inl l.2,y _ _ _ (by simp[e]) (cM g A) d B⟩
   ·rw[aa m]at h⊢;exact⟨.inl l.2,by rw[r];exact y _ _ _ (by simp[e]) (cM g A) d h⟩
  |3,d=>
   simp only[ic]at d;split at d
   case isFalse=>cases d
   rename_i l;simp only[Bool.and_eq_true]at l;obtain⟨J,q⟩:=l;have p:i∈Region.ready .any ops x:=by simpa using J
   by_cases m:want n ops f o=true
   ·rw[ab m]at h;unfold R1 at h;rw[aa aw,ab F]at h;obtain⟨v,I,B⟩:=h;refine ja nZ (λ_ _ _=>trivial) (.inr λ_ _=>trivial) s (Region.noSelect_spec t) (λ_ _ _ h=>h) _ x (act n f) w e g (Region.free_spec s q) p (v:=v) (.inl ⟨m,λD E=>?_⟩) ?_
    ·rw[cO];exact I D
    ·rw[r];exact y _ _ _ (by simp[e]) (cM g p) d B
   ·rw[aa m]at h;refine ja nZ (λ_ _ _=>trivial) (.inr λ_ _=>trivial) s (Region.noSelect_spec t) (λ_ _ _ h=>h) _ x (act n f) w e g (Region.free_spec s q) p (v:=undef) (.inr ⟨by simpa[want]using m,F⟩) ?_;rw[r];exact y _ _ _ (by simp[e]) (cM g p) d h
  |_+4,d=>simp[ic]at d
def Rg(P:Program)(n:Nat)(ops:Array Oper)(S:World->World->Prop)(G:List qE)(e:List (Nat×Nat))(K:Fr->World->Prop)(f:Fr)(w:World):Prop:=
 ∃a:List Nat->Fr->World->Prop,a [] f w/\
  (∀i b c,(i,b,c)∈G->∀L f w,(c.all λd=>L.contains d)=true->L.contains i=false->a L f w->Ro P n ops S (a (i::L)) ((i,1)::b) f w)/\
  (∀L f w,(G.all λg=>L.contains g.1)=true->a L f w->Ro P n ops S K e f w)
theorem IG{K:Fr->World->Prop}{G:List qE}{C:List (Nat×Nat)}(X:∀a b c,S a b->S b c->S a c)(E:Region.noSelect ops=true){q:List Nat->Fr->World->Prop}
 (hG:∀i m J,(i,m,J)∈G->∀L f w,(J.all λd=>L.contains d)=true->L.contains i=false->q L f w->Ro P n ops S (q (i::L)) ((i,1)::m) f w)
 (hS:∀L f w,(G.all λg=>L.contains g.1)=true->q L f w->Ro P n ops S K C f w):
 ∀(k:Nat) (x:Array Bool) (L:List Nat) (e:Nat) (f:Fr) (w:World),x.size=ops.size->lu ops x->Ae ops H G C k x L e=true->q L f w->I_ P ops H (QK n K) S e x (act n f) w:=by
 intro k;induction k with
 |zero=>
  intro x L e f w u y p Q;simp only[Ae,Bool.and_eq_true,beq_iff_eq]at p;obtain⟨⟨h1,rfl⟩,h3⟩:=p;exact A7 X E C x f w u y h3 (hS L f w h1 Q)
 |succ k ih=>
  intro x L e f w u y p Q;simp only[Ae,Bool.and_eq_true,List.all_eq_true]at p;obtain⟨D,I⟩:=p;rcases e with _|e
  ·exfalso;rcases W:Region.ready .any ops x with _|⟨r,t⟩
   ·rw[W]at D;cases D
   ·have h:=I r (by rw[W];exact aG);split at h
    ·cases h
    ·simp[Nat.ble_eq]at h
  refine⟨λh0=>absurd D (by rw[h0];simp),λj O=>?_⟩;have h:=I j O;split at h
  ·cases h
  rename_i i m J M;simp only[Bool.and_eq_true,beq_iff_eq,Nat.ble_eq,Bool.not_eq_true']at h;obtain⟨⟨⟨⟨rfl,a6⟩,a1⟩,a8⟩,h⟩:=h;split at h
  ·cases h
  rename_i x' s;have T:=List.mem_of_find?_eq_some M;have l:=hG i m J T L f w a1 a6 Q;have Z:=sI _ _ _ s;have z:∀B A,Ro P n ops S (q (i::L)) m B A->I_ P ops H (QK n K) S e (x.setIfInBounds i true) (act n B) A:=λB A N=>by
   have:=IC (K0:=K) X E (λa7 Y U=>ih x' (i::L) (e+1-1-m.length) a7 Y (by rw[Z];simp[u]) (pQ _ _ _ (cM y O) s) h U) m (x.setIfInBounds i true) B A (by simp[u]) (cM y O) s N;rw[show m.length+(e+1-1-m.length)=e by omega]at this;exact this
  unfold Ro at l;obtain⟨o,ho,l⟩:=l;have R:∀v,(act n f).put o.dst v=act n (fZ f o.dst v):=iC n f o.dst;unfold Go.wpOp;simp only[ho];change (if want n ops f o=true then _ else _);by_cases V:want n ops f o=true
  ·rw[ab V]at l⊢;refine .inl (Oper.wp_mono (λa' A h'=>?_) (lA rh (l.wp aq)));obtain⟨B,rfl,hs,N⟩:=h';exact⟨.inr (hs.resolve_left aq),z _ _ N⟩
  ·rw[aa V]at l⊢;exact⟨aA,by rw[R];exact z _ _ l⟩
def DP(ops:Array Oper)(a:List (Nat×Nat))(G:List qE)(b:List (Nat×Nat)):Bool:=
 Region.noSelect ops&&Nat.ble a.length ops.size &&
  match ic ops (uh a++(G.map λg=>uh g.2.1).flatten++uh b) a (Array.replicate ops.size false)with
  |none=>false
  |some x=>Ae ops (uh a++(G.map λg=>uh g.2.1).flatten++uh b) G b G.length x [] (ops.size-a.length)
theorem Ep{Q:Exit->Fr->World->Prop}{q:Nat}{f:Fr}{w:World}(m:∀a b c,S a b->S b c->S a c)(g:List (Nat×Nat))(G:List qE)(k:List (Nat×Nat))(s:P.follows .mixedOrders=true)
 (d:DP ops g G k=true)
 (h:Ro P n ops S (Rg P n ops S G k λf w=>Q .normal f w) g f { w with drawn:=w.drawn+1 }):W P n (.region q ops true) Q f w:=by
 simp only[DP,Bool.and_eq_true,Nat.ble_eq]at d;obtain⟨⟨j,z⟩,d⟩:=d;split at d
 ·cases d
 rename_i x i;have r:=sI _ _ _ i;have o:=IC (K0:=λf w=>Q .normal f w) m j (λy p ⟨A,u,v,t⟩=>IG m j v t _ x [] _ y p (by rw[r];simp) (pQ _ _ _ (nP ops) i) d u) g _ f _ aA (nP ops) i h;rw[show g.length+(ops.size-g.length)=ops.size by omega]at o;unfold W;refine Code.wp_mono (λe a w l=>?_) (wp_region_any s (Dv _ _ _ _ o));cases e<;>first|exact l|exact l.elim
theorem ib{Q:Exit->Fr->World->Prop}{g:Nat}{ops:Array Oper}{c:Code}{f:Fr}{w:World}(b:List (Nat×Nat))(G:List qE)(a:List (Nat×Nat))(i:P.follows .mixedOrders=true)
 (e:DP ops b G a=true)
 (h:∀d,Ext w d->d.heap=w.heap->Ro P n ops Ext (Rg P n ops Ext G a (W P n c Q)) b f d):W P n (.seq (.region g ops true) c) Q f w:=
 aN (Ep ri b G a i e (by rw[kg];exact h _ (mI w) F))
end
attribute [irreducible] Rg
theorem A8{P:Program}{n:Nat}{ops:Array Oper}{S:World->World->Prop}{G:List qE}{b:List (Nat×Nat)}{K:Fr->World->Prop}{f:Fr}{w:World}
 (a:List Nat->Fr->World->Prop) (h:a [] f w)
 (e:∀i c d,(i,c,d)∈G->∀L f w,(d.all λd=>L.contains d)=true->L.contains i=false->a L f w->Ro P n ops S (a (i::L)) ((i,1)::c) f w)
 (c:∀L f w,(G.all λg=>L.contains g.1)=true->a L f w->Ro P n ops S K b f w):Rg P n ops S G b K f w:=by
 unfold Rg;exact⟨a,h,e,c⟩
