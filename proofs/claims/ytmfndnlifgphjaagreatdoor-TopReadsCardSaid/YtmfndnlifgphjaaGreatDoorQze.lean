import Derived.Test.YtmfndnlifgphjaaGreatDoorQzd
set_option maxHeartbeats 64000000
open Go.Proofs.YtmfndnlifgphjaaGreatDoor
namespace Go.uN
def oc:Nat->Nat->List Nat
 |0,_=>[]
 |k+1,n=>n%10::oc k (n/10)
theorem kV(k n:Nat):(oc k n).length=k:=by
 induction k generalizing n with
 |zero=>rfl
 |succ k a=>simp[oc,a]
theorem D9(a b n:Nat):oc (a+b) n=oc a n++oc b (n/10^a):=by
 induction a generalizing n with
 |zero=>simp[oc]
 |succ a c=>
  rw[show a+1+b=(a+b)+1 by omega];simp only[oc,c,List.cons_append];rw[Nat.div_div_eq_div_mul,Nat.pow_succ,Nat.mul_comm 10]
theorem qh(k n:Nat):oc (k+1) n=oc k n++[n/10^k%10]:=D9 k 1 n
theorem MS(k n:Nat):∀d∈oc k n,d<10:=by
 induction k generalizing n with
 |zero=>simp[oc]
 |succ k b=>
  intro d a;simp only[oc,List.mem_cons]at a;rcases a with rfl|h
  ·omega
  ·exact b _ d h
def oP:Nat->Nat->Nat
 |0,_=>0
 |k+1,n=>if n=0 then 0 else oP k (n/10)+1
def j2(n:Nat):Nat:=oP n n
theorem Cz:∀(k n L:Nat),n<=k->n<10^L->(0<L->10^(L-1)<=n)->L=oP k n:=by
 intro k;induction k with
 |zero=>
  intro n L e c a;obtain rfl:n=0:=aq;rcases Nat.eq_zero_or_pos L with h|h
  ·exact h
  ·have:=a h;have:=Nat.pow_pos (n:=L-1) (show 0<10 by decide);omega
 |succ k f=>
  intro n L e c a;unfold oP;by_cases d:n=0
  ·rw[ab d];rcases Nat.eq_zero_or_pos L with h|h
   ·exact h
   ·have:=a h;have:=Nat.pow_pos (n:=L-1) (show 0<10 by decide);omega
  ·rw[aa d];rcases L with _|L
   ·simp at c;omega
   ·have b:=a aq;rw[Nat.add_sub_cancel]at b;have e:=f (n/10) L aq ?_ ?_
    ·rw[<-e]
    ·rw[Nat.pow_succ]at c;exact Nat.div_lt_of_lt_mul aq
    ·intro a;rcases L with _|L
     ·omega
     ·rw[Nat.pow_succ]at b;rw[Nat.add_sub_cancel];exact(Nat.le_div_iff_mul_le aw).2 b
theorem Fy{n L:Nat}(h1:n<10^L)(a:0<L->10^(L-1)<=n):L=j2 n:=Cz n n L (Nat.le_refl _) h1 a
theorem tg:∀(k n:Nat),n<=k->n<10^oP k n/\(0<oP k n->10^(oP k n-1)<=n):=by
 intro k;induction k with
 |zero=>
  intro n h;obtain rfl:n=0:=aq;simp[oP]
 |succ k c=>
  intro n h;unfold oP;by_cases a:n=0
  ·rw[ab a];simp[a]
  ·rw[aa a];obtain⟨a,b⟩:=c (n/10) aq;generalize oP k (n/10)=L at a b;constructor
   ·rw[Nat.pow_succ];have:=Nat.div_add_mod n 10;have:=Nat.mod_lt n (show 10>0 by decide);omega
   ·intro _;rw[Nat.add_sub_cancel];rcases L with _|L
    ·simp;omega
    ·have:=b aq;rw[Nat.add_sub_cancel]at this;rw[Nat.pow_succ];exact(Nat.le_div_iff_mul_le aw).1 this
theorem qg(n:Nat):n<10^j2 n:=(tg n n (Nat.le_refl _)).1
theorem D8{n:Nat}(h:0<j2 n):10^(j2 n-1)<=n:=(tg n n (Nat.le_refl _)).2 h
theorem AE{n:Nat}(h:0<n):0<j2 n:=by
 rcases Nat.eq_zero_or_pos (j2 n)with a|a
 ·have:=qg n;rw[a]at this;simp at this;omega
 ·exact a
theorem D7{n k:Nat}(h:n<10^k):j2 n<=k:=by
 rcases Nat.lt_or_ge k (j2 n)with c|c
 ·exfalso;have a:=D8 (n:=n) aq;have b:10^k<=10^(j2 n-1):=Nat.pow_le_pow_right aw aq;omega
 ·exact c
def ch(d:Nat):UInt8:=UInt8.ofNat (48+d)
theorem nQ{d:Nat}(h:d<10):(ch d).toNat=48+d:=by
 unfold ch;rw[UInt8.toNat_ofNat'];omega
def nt(n:Nat):List UInt8:=((oc (j2 n) n).map ch).reverse
def zt(z:Int):List UInt8:=if z=0 then[48]else if z<0 then 45::nt z.natAbs else nt z.natAbs
theorem Ce(n:Nat):(nt n).length=j2 n:=by simp[nt,kV]
def zu(l:List UInt8):Nat:=l.foldl (λa c=>10*a+(c.toNat-48)) 0
theorem sO(l:List UInt8)(c:UInt8):zu (l++[c])=10*zu l+(c.toNat-48):=by simp[zu]
theorem JC(k n:Nat):zu (((oc k n).map ch).reverse)=n%10^k:=by
 induction k generalizing n with
 |zero=>simp[oc,zu,Nat.mod_one]
 |succ k a=>
  simp only[oc,List.map_cons,List.reverse_cons,sO,a];rw[nQ aq,Nat.pow_succ,Nat.mul_comm (10^k) 10,Nat.mod_mul];omega
theorem Mi(n:Nat):zu (nt n)=n:=by rw[nt,JC,Nat.mod_eq_of_lt (qg n)]
def iH(c:UInt8):Bool:=decide (48<=c.toNat)&&decide (c.toNat<=57)
theorem Hq{d:Nat}(h:d<10):iH (ch d)=true:=by
 unfold iH;rw[nQ h];simp;omega
theorem Cf(n:Nat):∀c∈nt n,iH c=true:=by
 intro c a;simp only[nt,List.mem_reverse,List.mem_map]at a;obtain⟨d,b,rfl⟩:=a;exact Hq (MS _ _ d b)
theorem JW{n:Nat}(h:0<n):∃d l,nt n=ch d::l/\0<d/\d<10:=by
 have d:=AE h;obtain⟨k,c⟩ : ∃k,j2 n=k+1:=⟨j2 n-1,aq⟩;refine⟨n/10^k%10,((oc k n).map ch).reverse,by rw[nt,c,qh];simp,?_,aq⟩;have a:=qg n;have b:=D8 d;rw[c]at a b;rw[Nat.add_sub_cancel]at b;have b:=Nat.pow_pos (n:=k) (show 0<10 by decide);have c:n/10^k<10:=Nat.div_lt_of_lt_mul (by rw[Nat.pow_succ]at a;omega);have a:1<=n/10^k:=(Nat.le_div_iff_mul_le b).2 aq;rw[Nat.mod_eq_of_lt c];omega
def kN(s:List UInt8):List UInt8:=if s.head?=some 45 then s.tail else s
def isNum(s:List UInt8):Prop:=kN s≠[]/\(∀c∈kN s,iH c=true)/\¬((kN s).head?=some 48/\s≠[48])
def rS(s:List UInt8):Int:=if s.head?=some 45 then-((zu (kN s):Nat):Int)else((zu (kN s):Nat):Int)
def lR(s:List UInt8):Prop:=isNum s/\(kN s).length<=2000
def DY(d:List UInt8):Prop:=d≠[]/\(∀c∈d,iH c=true)/\¬(2<=d.length/\d.head?=some 48)
theorem Fj(s:List UInt8):isNum s↔DY (kN s)/\¬(s.head?=some 45/\kN s=[48]):=by
 unfold isNum DY;constructor
 ·rintro⟨d,f,c⟩;refine⟨⟨d,f,λh=>c ⟨h.2,?_⟩⟩,λh=>c ⟨by rw[h.2];rfl,?_⟩⟩
  ·rintro rfl;exact absurd h.1 aw
  ·rintro rfl;exact absurd h.1 aw
 ·rintro⟨⟨d,f,c⟩,i⟩;refine⟨d,f,λh=>?_⟩;by_cases g:s.head?=some 45
  ·rcases e:kN s with _|⟨a,_|⟨b,r⟩⟩
   ·exact d e
   ·rw[e]at h;simp at h;exact i ⟨g,by rw[e,h.1]⟩
   ·rw[e]at h c;exact c ⟨aA,h.1⟩
  ·have e:kN s=s:=aa g;rw[e]at h c d;rcases s with _|⟨a,_|⟨b,r⟩⟩
   ·exact d F
   ·simp at h
   ·exact c ⟨aA,h.1⟩
theorem Co:iH 45=false:=by decide
theorem DV(n:Nat):(nt n).head?≠some 45:=by
 intro h;rcases b:nt n with _|⟨a,r⟩
 ·rw[b]at h;cases h
 ·rw[b]at h;have:=Cf n a (by rw[b];simp);simp at h;rw[h,Co]at this;cases this
theorem wz(z:Int)(a:z≠0):kN (zt z)=nt z.natAbs:=by
 unfold zt;rw[aa a];split
 ·rfl
 ·exact aa (DV _)
theorem Ds(z:Int):(zt z).head?=some 45↔z<0:=by
 unfold zt;by_cases a:z=0
 ·rw[ab a];subst a;decide
 ·rw[aa a];by_cases a:z<0
  ·rw[ab a];simp[a]
  ·rw[aa a];exact⟨λh=>absurd h (DV _),λh=>absurd h a⟩
theorem LR(z:Int):isNum (zt z):=by
 by_cases a:z=0
 ·subst a;exact⟨aw,aw,aw⟩
 ·unfold isNum;rw[wz z a];obtain⟨d,l,a,b,b⟩:=JW (n:=z.natAbs) aq;refine⟨by rw[a];simp,Cf _,?_⟩;rw[a];rintro⟨h,_⟩;simp at h;have:=nQ b;rw[h]at this;simp at this;omega
theorem JG(z:Int):rS (zt z)=z:=by
 by_cases a:z=0
 ·subst a;decide
 ·unfold rS;rw[wz z a,Mi];by_cases a:z<0
  ·rw[ab ((Ds z).2 a)];omega
  ·rw[aa λh=>a ((Ds z).1 h)];omega
def fu(z:Int):Prop:=j2 z.natAbs<=2000
instance (z:Int):Decidable (fu z):=by unfold fu;exact inferInstance
theorem sk(z:Int):(kN (zt z)).length<=2000↔fu z:=by
 by_cases a:z=0
 ·subst a;decide
 ·rw[wz z a,Ce];rfl
theorem G9{z:Int}(h:fu z):lR (zt z):=⟨LR z,(sk z).2 h⟩
theorem Ge(z:Int):(zt z).length<=j2 z.natAbs+1:=by
 unfold zt;split
 ·simp
 ·split
  ·simp[Ce]
  ·rw[Ce];omega
def jm(M:Nat->Nat->Int)(i:Nat):Nat->List UInt8
 |0=>[]
 |j+1=>jm M i j++(if j=0 then[]else[32])++zt (M i j)
def iu(M:Nat->Nat->Int):Nat->List UInt8
 |0=>[]
 |i+1=>iu M i++(jm M i (i+1)++[10])
def oO(n:Nat):List UInt8:=[102,111,114,109,32]++[ch n]++[10]
def j5(n:Nat)(M:Nat->Nat->Int):List UInt8:=oO n++iu M n
def Mp(n:Nat)(M:Nat->Nat->Int):Prop:=∀i j,i<n->j<=i->fu (M i j)
theorem sL{M:Nat->Nat->Int}{i j:Nat}(h:∀k,k<j->fu (M i k)):(jm M i j).length<=2002*j:=by
 induction j with
 |zero=>simp[jm]
 |succ j b=>
  have a:=b λk a=>h k aq;have b:=Ge (M i j);have c:=h j aq;unfold fu at c;simp only[jm,List.length_append];split
  ·simp;omega
  ·simp;omega
theorem sX{M:Nat->Nat->Int}{i:Nat}(c:i<=8)(h:∀a k,a<i->k<=a->fu (M a k)):(iu M i).length<=16017*i:=by
 induction i with
 |zero=>simp[iu]
 |succ i b=>
  have a:=b aq λa k b c=>h a k aq c;have b:=sL (M:=M) (i:=i) (j:=i+1) λk c=>h i k aq aq;simp only[iu,List.length_append,List.length_cons,List.length_nil];omega
end Go.uN
namespace Go.Proofs.Qq
section
open Go Go.cW Go.Proofs
theorem JT:([3,2,4,5,161,153,133,169,42,49,25,22,113,32,147,108]:List Nat).all (gz Tryz.prog)=true:=by kernel_rfl
theorem aX{t:Nat}(h:([3,2,4,5,161,153,133,169,42,49,25,22,113,32,147,108]:List Nat).contains t=true):gz Tryz.prog t=true:=
 List.all_eq_true.1 JT t (by simpa using h)
theorem aQ:eP Tryz.prog 44 2=true:=by kernel_rfl
theorem dM:dh Tryz.prog 42 153 1 4 (.int .u32 0):=⟨Tryz.underlying42,by kernel_rfl⟩
theorem iJ:dh Tryz.prog 147 3 1 8 (.int .i64 0):=⟨Tryz.underlying147,by kernel_rfl⟩
theorem fS:dh Tryz.prog 113 2 1 8 (.int .i64 0):=⟨Tryz.underlying113,by kernel_rfl⟩
theorem Lz:dh Tryz.prog 22 161 1 1 (.int .i8 0):=⟨Tryz.underlying22,by kernel_rfl⟩
theorem dJ:dh Tryz.prog 49 44 2 32 (.agg #[.bool false,.slice none 0 0]):=⟨Tryz.underlying49,by kernel_rfl⟩
theorem fL:dh Tryz.prog 25 49 1 24 (.slice none 0 0):=⟨Tryz.underlying25,by kernel_rfl⟩
theorem iS:dh Tryz.prog 32 113 1 24 (.slice none 0 0):=⟨Tryz.underlying32,by kernel_rfl⟩
theorem a_:fo Tryz.prog 44 (.agg #[.bool false,.slice none 0 0]):=by unfold fo;kernel_rfl
theorem NG:fo Tryz.prog 3 (.int .i64 0):=by unfold fo;kernel_rfl
theorem wF:jV Tryz.prog 153 (.int .u32):=by unfold jV;exact Tryz.underlying153
theorem mg:jV Tryz.prog 133 (.int .u64):=by unfold jV;exact Tryz.underlying133
theorem L0:jV Tryz.prog 3 (.int .i64):=by unfold jV;exact Tryz.underlying3
theorem nw:jV Tryz.prog 2 (.int .i64):=by unfold jV;exact Tryz.underlying2
theorem yX:jV Tryz.prog 5 (.int .u8):=by unfold jV;exact Tryz.underlying5
theorem NJ:jV Tryz.prog 161 (.int .i8):=by unfold jV;exact Tryz.underlying161
theorem jo:jV Tryz.prog 9 .string:=by unfold jV;exact Tryz.underlying9
theorem DC:ug Tryz.prog 4:=FO (by unfold jV;exact Tryz.underlying4)
theorem Bc{P:Program}{n:Nat}{S:World->World->Prop}{k:Nat}{K:Fr->World->Prop}{f:Fr}{w:World}{d ty:Nat}{x:Operand}{b:String}{c:Array Edge}{g:Option (Nat×Bool)}{a:Addr}(e:ev n f x=.pointer (some a))(h:K (cg f d (.pointer (some a))) w):
 R1 P n S k ⟨some d,.nilCheck x,ty,b,c,g⟩ K f w:=
 cH (v:=.pointer (some a)) (λ_=>by simp[execOp,e]) h
theorem HG:cI Tryz.prog 110 0 0:=by
 unfold cI;intro a w;simp[Instr.fieldAt,run_underlying Tryz.underlying110,Instr.sureAddr,fieldPlace,cK (aX (t:=22) F)]
theorem HF:cI Tryz.prog 110 1 1:=by
 unfold cI;intro a w;simp[Instr.fieldAt,run_underlying Tryz.underlying110,Instr.sureAddr,fieldPlace,cK (aX (t:=3) F)]
theorem uf{n:Nat}{S:World->World->Prop}{k:Nat}{K:Fr->World->Prop}{f:Fr}{w:World}{d ty:Nat}{x:Operand}{a:String}{b:Array Edge}{e:Option (Nat×Bool)}{A:Option Addr}{m c:Nat}(g:ev n f x=.slice A m c)(h:K (cg f d (.agg #[.slice A m c,.int .i64 ((0:Nat):Int)])) w):
 R1 Tryz.prog n S k ⟨some d,.build 110 #[(0,x)],ty,a,b,e⟩ K f w:=by
 refine cH (v:=.agg #[.slice A m c,.int .i64 ((0:Nat):Int)]) (λw=>?_) h;have e:(#[(0,x)]:Array (Nat×Operand)).map (λ(i,x)=>(i,ev n f x))=#[(0,.slice A m c)]:=by simp[g]
 have a:(Value.agg #[.slice none 0 0,.int .i64 0]).cells=#[.slice none 0 0,.int .i64 0]:=F;have b:(Value.slice A m c).cells=#[.slice A m c]:=F;simp[execOp,e,Instr.build,run_underlying Tryz.underlying110,Instr.fill,a,b,cK (aX (t:=22) F),cK (aX (t:=3) F)]
theorem Ew{n:Nat}{S:World->World->Prop}{k:Nat}{K:Fr->World->Prop}{f:Fr}{w:World}{d ty:Nat}{x:Operand}{a:String}{b:Array Edge}{e:Option (Nat×Bool)}{u v:Value}(c:ev n f x=.agg #[u,v])(h:K (cg f d v) w):
 R1 Tryz.prog n S k ⟨some d,.field 44 x 1,ty,a,b,e⟩ K f w:=by
 refine cH (v:=v) (λw=>?_) h;simp[execOp,c,Instr.field,run_underlying Tryz.underlying44,asAgg,part,oI (aX (t:=42) F)]
theorem Kn:cI Tryz.prog 44 0 0:=by
 unfold cI;intro a w;simp[Instr.fieldAt,run_underlying Tryz.underlying44,Instr.sureAddr,fieldPlace,cK (aX (t:=4) F)]
theorem Km:cI Tryz.prog 44 1 1:=by
 unfold cI;intro a w;simp[Instr.fieldAt,run_underlying Tryz.underlying44,Instr.sureAddr,fieldPlace,cK (aX (t:=42) F)]
theorem fm:yP Tryz.prog 44 (.agg #[.bool false,.slice none 0 0]):=by
 unfold yP;intro w;simp[Instr.build,run_underlying Tryz.underlying44,Instr.fill,Value.cells,cK (aX (t:=4) F),cK (aX (t:=42) F)]
theorem xZ:yO Tryz.prog 44:=by
 unfold yO;intro a a w b a;have c:(Value.agg #[.bool false,.slice none 0 0]).cells=#[.bool false,.slice none 0 0]:=F;simp[Instr.build,run_underlying Tryz.underlying44,Instr.fill,c,cK (aX (t:=4) F),cK (aX (t:=42) F),eh b,eh a]
structure Gw(p:Prop):Prop where
 out:p
theorem ta{G a:Prop}(h:a)(t:Gw a->G:=by intro b;(first|(refine mT ?_;(first|refine IK rfl ?_|refine Dj rfl ?_|refine FY ?_|refine Bt ?_|refine Oz ?_|refine Dk ?_|(refine IN ?_;(first|refine yA rfl ?_|refine tU rfl rfl ?_|refine yN rfl (by omega) ?_|refine pk rfl rfl (by omega) ?_|refine yj rfl (by omega) (by omega) ?_|refine o_ rfl rfl (by omega) (by omega) ?_|refine yE rfl ?_|refine tY rfl rfl ?_|refine yC rfl ?_|refine tW rfl rfl ?_|refine yF rfl ?_|refine tZ rfl rfl ?_|refine yI rfl ?_|refine ud rfl rfl ?_|refine yw rfl ?_|refine tS rfl rfl ?_|refine yy rfl (by omega) ?_|refine K_ rfl (by omega) ?_|refine Dp rfl rfl (by omega) ?_|refine yk rfl (by omega) ?_|refine yl rfl (by omega) ?_|refine yh rfl (by omega) (by omega) ?_|refine yi rfl (by omega) (by omega) ?_|refine yM rfl (by omega) ?_|refine IH rfl rfl (by omega) (by omega) ?_|refine I3 rfl rfl (by omega) (by omega) ?_|refine IQ rfl rfl ?_|refine IL rfl rfl ?_|refine IP rfl rfl ?_|refine IM rfl rfl ?_|refine IX rfl rfl ?_|refine IJ rfl rfl ?_|refine Bn DC rfl rfl ?_|refine Bg DC rfl rfl ?_|refine yH rfl ?_|refine uc rfl rfl ?_|refine K8 rfl ?_|refine C5 rfl rfl ?_|refine C6 rfl rfl ?_|refine Dc rfl rfl ?_|refine yG rfl ?_|refine t_ rfl rfl ?_|refine yv rfl ?_|refine tR rfl rfl ?_|refine yz rfl ?_|refine tT rfl rfl ?_|refine yD rfl ?_|refine tX rfl rfl ?_|refine yB rfl ?_|refine tV rfl rfl ?_))|(refine C7 ?_;(first|refine dX fL rfl (by omega) ?_|refine dY fL rfl (by omega) ?_|refine dX iS rfl (by omega) ?_|refine dY iS rfl (by omega) ?_|refine dP dM rfl rfl (by omega) ?_|refine dP dJ rfl rfl (by omega) ?_|refine dP fL rfl rfl (by omega) ?_|refine dP fS rfl rfl (by omega) ?_|refine dP iS rfl rfl (by omega) ?_|refine dP iJ rfl rfl (by omega) ?_|refine fh dM rfl rfl (by omega) ?_|refine fh dJ rfl rfl (by omega) ?_|refine fh fL rfl rfl (by omega) ?_|refine fh fS rfl rfl (by omega) ?_|refine fh iS rfl rfl (by omega) ?_|refine fh iJ rfl rfl (by omega) ?_|refine fh Lz rfl rfl (by omega) ?_))|(refine F0 ?_;(first|refine ji (by decide) (aX F) F (by assumption) ?_|refine re (by decide) (aX F) F (by assumption) ?_|refine wi (by decide) aQ F (by assumption) (by assumption) ?_|refine wk (by decide) aQ F (by assumption) (by assumption) ?_))|(refine F4 ?_;(first|refine jC dM rfl ?_|refine jC dJ rfl ?_|refine jC fL rfl ?_|refine jC fS rfl ?_|refine jC iS rfl ?_|refine jC iJ rfl ?_|refine jC Lz rfl ?_))|(refine Lf ?_;(first|refine aV Kn rfl ?_|refine aV Km rfl ?_|refine aV HG rfl ?_|refine aV HF rfl ?_|refine aV a rfl ?_|refine aV a rfl ?_|refine aV a rfl ?_))|refine Bc rfl ?_|(refine F1 ?_;(first|refine CO wF mg rfl (by omega) ?_|refine CN mg wF rfl ?_|refine FQ yX L0 rfl (by omega) ?_))|refine Dh rfl rfl ?_|refine A_ rfl rfl ?_|refine Ba rfl rfl ?_|refine we rfl ?_|refine wg rfl ?_|refine FW rfl (by omega) F ?_|refine FX rfl (by omega) F ?_|refine CZ rfl (by omega) ?_|refine C4 rfl (by omega) ?_|refine Nx rfl ?_|refine q9 dM rfl rfl (by omega) ?_))|(refine N9 ?_;(first|refine K5 rfl ?_|refine Nv ?_|refine CM rfl rfl rfl rfl ?_|refine IF rfl rfl rfl rfl rfl ?_|refine K3 rfl rfl rfl rfl (by omega) ?_|refine Nt rfl rfl rfl rfl (by omega) ?_|refine K4 rfl rfl rfl rfl (by omega) ?_|refine Nu rfl rfl rfl rfl (by omega) ?_))|(refine O5 ?_;(first|refine tJ rfl rfl ?_|refine qZ ?_|refine ye rfl rfl rfl rfl rfl ?_|refine CL rfl rfl rfl rfl rfl rfl ?_|refine K1 rfl rfl rfl rfl rfl (by omega) ?_|refine Nq rfl rfl rfl rfl rfl (by omega) ?_|refine K2 rfl rfl rfl rfl rfl (by omega) ?_|refine Nr rfl rfl rfl rfl rfl (by omega) ?_))|(refine Pr ?_;(first|refine Nj ?_|refine KY ?_|refine KX ?_|refine KW ?_|refine Ol ?_|refine mO ?_|refine CI ?_|refine Iy ?_|refine Ok ?_|refine KU rfl (by omega) ?_|refine KV rfl (by omega) ?_|refine Iz rfl (by omega) ?_|refine IA rfl (by omega) ?_|refine x8 rfl ?_|refine sc rfl ?_))|refine tG ?_|refine Nk ?_|refine Oq ?_|refine I5 ?_|refine OB ?_|refine Nz ?_|refine Lq rfl ?_);exact b.out):G:=t ⟨h⟩
theorem gg{G G':Prop}(h:G')(t:Gw G'->G:=by intro hgg;(repeat refine ta ?_);exact hgg.out):G:=t ⟨h⟩
theorem mixed:Tryz.prog.follows .mixedOrders=true:=by kernel_rfl
end
section
open Go Go.cW Go.c7 Go.Proofs
structure fM(w:World)(A:Option Addr)(l:List Nat):Prop where
 fD:fH l
 cell:∀j,j<l.length->∃ad,A=some ad/\w.cell? (ad.add (j*1))=some (.int .u32 ((l.getD j 0:Nat):Int))
theorem fM.at{w:World}{A:Option Addr}{l:List Nat}(h:fM w A l){j:Nat}(b:j<l.length):∃a,A=some a/\∀i,i<l.length->w.cell? (a.add (i*1))=some (.int .u32 ((l.getD i 0:Nat):Int)):=by
 obtain⟨a,rfl,_⟩:=h.cell j b;refine⟨a,F,λi a=>?_⟩;obtain⟨b,e,c⟩:=h.cell i a;injection e with e;subst e;exact c
theorem fM.Y{w w':World}{A:Option Addr}{l:List Nat}(h:fM w A l)(c:Ext w w'):fM w' A l:=
 ⟨h.fD,λj a=>by obtain⟨d,e,b⟩:=h.cell j a;exact⟨d,e,aP c b⟩⟩
theorem fM.ch{w w':World}{M:Nat->Prop}{A:Option Addr}{l:List Nat}(h:fM w A l)(f:Ch M w w')(c:∀a,A=some a->¬M a.block):fM w' A l:=
 ⟨h.fD,λj d=>by
  obtain⟨a,e,b⟩:=h.cell j d;refine⟨a,e,?_⟩;rw[<-b];refine jz f ?_ ?_
  ·exact World.block_lt_of_cell? w _ b
  ·rw[block_add];exact c a e⟩
theorem fM.lS{w:World}{A:Option Addr}{l:List Nat}(h:fM w A l)(e:A=none):l.length=0:=by
 rcases Nat.eq_zero_or_pos l.length with a|a
 ·exact a
 ·obtain⟨b,b,_⟩:=h.cell 0 a;rw[e]at b;cases b
theorem fM.nil(w:World)(A:Option Addr):fM w A []:=⟨(λ_ h=>by cases h),(λj h=>by simp at h)⟩
theorem fM.take{w:World}{A:Option Addr}{l:List Nat}(h:fM w A l)(k:Nat):fM w A (l.take k):=
 ⟨h.fD.take k,λj a=>by
  rw[List.length_take]at a;obtain⟨c,e,b⟩:=h.cell j aq;have a:j<k:=aq;exact⟨c,e,by rw[b];simp[List.getD,a]⟩⟩
def cells(L:List Nat):Array Value:=(L.map λx=>Value.int .u32 ((x:Nat):Int)).toArray
theorem cN(L:List Nat):(cells L).size=L.length:=by simp[cells]
theorem dV(L:List Nat)(i x:Nat):(cells L).setIfInBounds (0+i*1) (.int .u32 (x:Int))=cells (L.set i x):=by
 simp[cells,List.map_set]
theorem iW(m:Nat):madeCells (Value.int .u32 0).cells (m*1)=cells (List.replicate m 0):=by
 apply Array.toList_inj.1;simp only[Value.cells,Nat.mul_one,toList_madeCells_one,cells,List.map_replicate];rfl
theorem qo{w:World}{g:Nat}{T:TypeId}{L:List Nat}(b:bg w g T (cells L)){j:Nat}(a:j<L.length):w.cell? ⟨g,0+j*1,none⟩=some (.int .u32 ((L.getD j 0:Nat):Int)):=by
 rw[b.cell];simp[cells,a,List.getD]
theorem dE{w:World}{g:Nat}{T:TypeId}{L:List Nat}(b:bg w g T (cells L))(a:fH L):fM w (some ⟨g,0,none⟩) L:=
 ⟨a,λj a=>⟨_,rfl,by rw[add_lit];exact qo b a⟩⟩
theorem dA(A:Option Addr)(n c:Nat)(l:List Nat)(w:World)(h:fM w A l)(f:l.length=n)(b:n<=c)(g:c<9223372036854775808):
 aT Tryz.prog 77 #[.slice A n c] w λv a=>w=a/\∃m,m<=l.length/\v=.slice A m c/\dz (l.take m)/\val (l.take m)=val l:=by
 subst f;refine bo (n:=21) Tryz.func77 F rfl az aA ?_;refine gg ?_;refine aN ?_;refine mO ?_;refine aU (λm f a=>a=w/\m<=l.length/\f 0=.slice A m c/\val (l.take m)=val l) l.length ⟨rfl,aD,rfl,aA⟩ ?_;rintro m f a ⟨rfl,a,e,d⟩;rw[ui e];refine aN ?_;rcases m with _|m
 ·refine gg ?_;refine bF F rfl ⟨F,0,aq,F,by simp[dz.nil],d⟩
 ·obtain⟨a,rfl,a⟩:=h.at (j:=m) aq;have f:=a m aq;refine gg ?_;refine tF F (λb=>?_) λb=>?_
  ·refine gg ?_;refine⟨m,aq,F,aq,F,?_⟩;have e:l.getD m 0=0:=by simpa using b
   rw[<-d,bN l m aq,e];simp
  ·refine gg ?_;refine bF F rfl ⟨F,m+1,aq,F,sl aq (by simpa using b),d⟩
def jX(w:World)(v:Value)(m:Nat):Prop:=∃A l c,v=.slice A l.length c/\l.length<=c/\c<9223372036854775808/\fM w A l/\dz l/\val l=m
theorem iA{w:World}{A:Option Addr}{c m N:Nat}{l:List Nat}(h:fM w A l)(a:m<=l.length)(b:l.length<=c)(b:c<9223372036854775808)(e:dz (l.take m))(d:val (l.take m)=val l)(f:val l=N):jX w (.slice A m c) N:=
 ⟨A,l.take m,c,by rw[List.length_take_of_le a],by rw[List.length_take_of_le a];omega,b,h.take m,e,d.trans f⟩
theorem vW(O N:Option Addr)(V U:Nat)(C z:List Nat)(w:World)(h1:fM w O C)(Y:fM w N z)(I:C.length<17592186044416)(I:z.length<17592186044416):
 aT Tryz.prog 113 #[.slice O C.length V,.slice N z.length U] w λv o=>Ext w o/\jX o v (val C+val z):=by
 refine bo (n:=83) Tryz.func113 F rfl az aA ?_;refine gg ?_;refine aY (λf o=>w=o/\∃(A H:Option Addr) (c J:Nat) (l a:List Nat),f 0=.slice A l.length c/\f 1=.slice H a.length J/\fM w A l/\fM w H a/\a.length<=l.length/\l.length<17592186044416/\val l+val a=val C+val z) ?_ ?_
 ·refine gg ?_;refine tF F (λI=>?_) λI=>?_
  ·have I:C.length<z.length:=by simpa using I
   refine gg ?_;exact⟨F,N,O,U,V,z,C,F,F,Y,h1,aq,aq,Nat.add_comm _ _⟩
  ·have I:¬C.length<z.length:=by simpa using I
   refine gg ?_;exact⟨F,O,N,V,U,C,z,F,F,h1,Y,aq,aq,F⟩
 ·rintro f z ⟨rfl,A,H,c,J,l,a,k,s,M,R,z,S,W⟩;rw[ui k,ui s];refine gg ?_;refine cJ dM (.inl F) F rfl aD aq aq ?_;intro D p h P;rw[iW]at p;refine gg ?_;refine aY (λf o=>∃d L,f 0=.slice A l.length c/\f 1=.slice H a.length J/\f 5=.slice (some ⟨w.heap.size,0,none⟩) (l.length+1) (l.length+1)/\f 6=.int .u64 ((d:Nat):Int)/\
   Ext w o/\bg o w.heap.size 153 (cells L)/\L.length=l.length+1/\fH L/\d<=1/\val (L.take a.length)+d*B^a.length=val (l.take a.length)+val (a.take a.length)) ?_ ?_
  ·refine gg ?_;refine aU (λm f o=>∃i d L,m=a.length-i/\i<=a.length/\f 0=.slice A l.length c/\f 1=.slice H a.length J/\f 5=.slice (some ⟨w.heap.size,0,none⟩) (l.length+1) (l.length+1)/\f 6=.int .u64 ((d:Nat):Int)/\
    f 21=.int .i64 (a.length:Int)/\f 22=.int .i64 (i:Int)/\Ext w o/\bg o w.heap.size 153 (cells L)/\L.length=l.length+1/\fH L/\d<=1/\val (L.take i)+d*B^i=val (l.take i)+val (a.take i))
    a.length ⟨0,0,_,F,aE,F,F,F,F,F,F,h,p,aA,fz _,aq,by simp[val]⟩ ?_
   clear p h P D;rintro m f D ⟨i,d,L,rfl,hi,k,s,r,q,C,z,h,p,y,g,x,u⟩;rw[ui k,ui s,ui r,ui q,ui C,ui z];by_cases S:i<a.length
   ·refine gg ?_;refine b_ [(0,3),(1,3),(2,3),(3,3),(4,0),(5,3),(6,3),(7,3),(8,3),(9,0),(10,3),(11,3),(12,3),(13,3)] mixed az λz G _=>?_;obtain⟨ad,rfl,K⟩:=(M.Y (h.trans G)).at (j:=i) aq;obtain⟨z,rfl,z⟩:=(R.Y (h.trans G)).at (j:=i) aq;have hx:=K i aq;have C:=z i aq;have bx:=M.fD.getD i;have z:=R.fD.getD i;refine gg ?_;refine bZ (aX F) (.inl F) F rfl (p.Y G) (by rw[cN];omega) ?_;intro T t E Q;rw[dV]at t;refine gg ?_;refine⟨_,?_,i+1,_,_,F,aq,F,F,F,F,F,F,E.aK (h.trans G) (λb X=>aq),t,by simpa using y,g.set (Nat.mod_lt _ aw),?_,?_⟩
    ·omega
    ·omega
    ·rw[ft _ _ _ aq,bN _ _ aq,bN _ _ aq,Nat.pow_succ];exact(nW _ _ _ _ _ _ u).trans aq
   ·refine gg ?_;have:i=a.length:=aq;subst this;exact⟨d,L,F,F,F,F,h,p,y,g,x,u⟩
  ·clear p h P D;rintro f D ⟨d,L,k,s,r,q,h,p,y,g,x,u⟩;rw[ui k,ui s,ui r,ui q];refine aY (λf o=>∃d L,f 0=.slice A l.length c/\f 5=.slice (some ⟨w.heap.size,0,none⟩) (l.length+1) (l.length+1)/\f 6=.int .u64 ((d:Nat):Int)/\
    Ext w o/\bg o w.heap.size 153 (cells L)/\L.length=l.length+1/\fH L/\d<=1/\val (L.take l.length)+d*B^l.length=val l+val a) ?_ ?_
   ·refine gg ?_;refine aU (λm f o=>∃i d L,m=l.length-a.length-i/\i<=l.length-a.length/\f 0=.slice A l.length c/\f 1=.slice H a.length J/\f 5=.slice (some ⟨w.heap.size,0,none⟩) (l.length+1) (l.length+1)/\f 6=.int .u64 ((d:Nat):Int)/\
     f 50=.int .i64 ((l.length-a.length:Nat):Int)/\f 51=.int .i64 (i:Int)/\Ext w o/\bg o w.heap.size 153 (cells L)/\L.length=l.length+1/\fH L/\d<=1/\val (L.take (a.length+i))+d*B^(a.length+i)=val (l.take (a.length+i))+val a)
     (l.length-a.length) ⟨0,_,_,F,aE,F,F,F,F,F,F,h,p,y,g,x,by rw[dK]at u;exact u⟩ ?_
    clear u p h y g x D k s r q f d L;rintro m f D ⟨i,d,L,rfl,hi,k,s,r,q,o,c,h,p,y,g,x,u⟩;rw[ui k,ui s,ui r,ui q,ui o,ui c];by_cases S:i<l.length-a.length
    ·obtain⟨ad,rfl,K⟩:=(M.Y h).at (j:=a.length+i) aq;have hx:=K (a.length+i) aq;have bx:=M.fD.getD (a.length+i);refine gg ?_;refine bZ (aX F) (.inl F) F rfl p (by rw[cN];omega) ?_;intro T t E Q;rw[dV]at t;refine gg ?_;refine⟨_,?_,i+1,_,_,F,aq,F,F,F,F,F,F,E.aK h (λb X=>aq),t,by simpa using y,g.set (Nat.mod_lt _ aw),?_,?_⟩
     ·omega
     ·omega
     ·rw[<-Nat.add_assoc,ft _ _ _ aq,bN _ _ aq,Nat.pow_succ];exact(oh _ _ _ _ _ u).trans aq
    ·refine gg ?_;have e:a.length+i=l.length:=aq;rw[e,dK]at u;exact⟨d,L,F,F,F,h,p,y,g,x,u⟩
   ·clear u p h y g x D k s r q f d L;rintro f D ⟨d,L,k,r,q,h,p,y,g,x,u⟩;rw[ui k,ui r,ui q];refine gg ?_;refine bZ (aX F) (.inl F) F rfl p (by rw[cN];omega) ?_;intro T t E Q;rw[dV]at t;refine gg ?_;have a1:=E.aK h λb X=>aq;refine aJ (dA _ _ _ _ T (dE t (g.set (Nat.mod_lt _ aw))) (by simpa using y) aD aq) ?_;rintro v a ⟨rfl,m,Z,rfl,b,a⟩;refine gg ?_;refine bF (v:=.slice _ _ _) F rfl ⟨a1,iA (dE t (g.set (Nat.mod_lt _ aw))) Z ?_ ?_ b a ?_⟩
    ·simp;omega
    ·omega
    ·have e:L.set l.length (d%4294967296)=(L.set l.length (d%4294967296)).take (l.length+1):=by rw[List.take_of_length_le];simp;omega
     rw[e,ft _ _ _ aq,Nat.mod_eq_of_lt aq,<-W,<-u,Nat.mul_comm]
theorem lp(p o:Option Addr)(i f s r:Nat)(a b:List Nat)(w:World)(h1:fM w p a)(l:fM w o b)(t:a.length=i)(k:b.length=f)(z:i<17592186044416)(z:f<17592186044416)(y:dz a)(x:dz b):
 aT Tryz.prog 76 #[.slice p i s,.slice o f r] w λv h=>Ext w h/\v=.int .i64 (fl (val a) (val b)):=by
 subst t k;refine bo (n:=45) Tryz.func76 F rfl az aA ?_;by_cases f:a.length<b.length
 ·refine gg ?_;refine bF (v:=.int _ _) F rfl ⟨Ext.refl _,?_⟩;rw[fl,ab (il h1.fD x f)]
 by_cases f:b.length<a.length
 ·refine gg ?_;refine bF (v:=.int _ _) F rfl ⟨Ext.refl _,?_⟩;have:=il l.fD y f;rw[fl,aa aq,ab this];rfl
 have d:a.length=b.length:=aq;refine gg ?_;refine aN ?_;refine gg ?_;refine aU (λm f h=>∃k,m=k/\k<=a.length/\f 0=.slice p a.length s/\f 1=.slice o b.length r/\f 5=.int .i64 ((k:Int)-1)/\Ext w h/\a.drop k=b.drop k) a.length ⟨_,rfl,aD,rfl,rfl,rfl,Ext.refl _,by rw[d];simp[<-d]⟩ ?_;rintro m f f ⟨k,rfl,f,h,f,e,q,g⟩;rw[ui h,ui f];rcases m with _|j
 ·rw[ui e];refine aN ?_;refine gg ?_;refine bF (v:=.int _ _) F rfl ⟨q,?_⟩;have:val a=val b:=by simp at g;rw[g]
  rw[fl,aa aq,aa aq];rfl
 ·have f:(((j+1:Nat):Int)-1)=(j:Int):=aq;rw[f]at e;rw[ui e];refine aN ?_;refine gg ?_;refine b_ [(0,3),(1,3),(2,3),(3,0),(4,3),(5,3),(6,3),(7,0),(8,3),(9,3)] mixed az λe e _=>?_;have c:=q.trans e;obtain⟨e,rfl,u⟩:=(h1.Y c).at (j:=j) aq;obtain⟨e,rfl,e⟩:=(l.Y c).at (j:=j) aq;have h:=u j aq;have f:=e j aq;by_cases e:a.getD j 0<b.getD j 0
  ·refine gg ?_;refine bF (v:=.int _ _) F rfl ⟨c,?_⟩;rw[fl,ab (nY h1.fD d aq g e)]
  ·refine gg ?_;refine b_ [(0,3),(1,3),(2,3),(3,0),(4,3),(5,3),(6,3),(7,0),(8,3),(9,3)] mixed az λe e _=>?_;have h:=aP e h;have f:=aP e f;by_cases f:b.getD j 0<a.getD j 0
   ·refine gg ?_;refine bF (v:=.int _ _) F rfl ⟨c.trans e,?_⟩;have:=nY l.fD d.symm aq g.symm f;rw[fl,aa aq,ab this];rfl
   ·refine gg ?_;refine⟨j,aq,j,F,aq,F,F,F,c.trans e,?_⟩;rw[drop_cons a j aq,drop_cons b j aq,g,show a.getD j 0=b.getD j 0 by omega]
theorem qM(y t:Option Addr)(l r C A:Nat)(a d:List Nat)(w:World)(h1:fM w y a)(z:fM w t d)(G:a.length=l)(E:d.length=r)(J:l<17592186044416)(J:r<=l)(J:val d<=val a):
 aT Tryz.prog 114 #[.slice y l C,.slice t r A] w λv b=>Ext w b/\jX b v (val a-val d):=by
 subst G E;refine bo (n:=45) Tryz.func114 F rfl az aA ?_;refine gg ?_;refine cJ dM (.inl F) F rfl aD aq aq ?_;intro p g e u;rw[iW]at g;refine gg ?_;refine aY (λf b=>∃L,f 5=.slice (some ⟨w.heap.size,0,none⟩) a.length a.length/\Ext w b/\bg b w.heap.size 153 (cells L)/\L.length=a.length/\fH L/\val L+val d=val a) ?_ ?_
 ·refine gg ?_;refine aU (λm f b=>∃i k L,m=a.length-i/\i<=a.length/\f 0=.slice y a.length C/\f 1=.slice t d.length A/\f 5=.slice (some ⟨w.heap.size,0,none⟩) a.length a.length/\f 6=.int .u64 ((k:Nat):Int)/\
   f 13=.int .i64 (a.length:Int)/\f 14=.int .i64 (i:Int)/\Ext w b/\bg b w.heap.size 153 (cells L)/\L.length=a.length/\fH L/\k<=1/\val (L.take i)+val (d.take i)=val (a.take i)+k*B^i)
   a.length ⟨0,0,_,F,aE,F,F,F,F,F,F,e,g,aA,fz _,aq,by simp[val]⟩ ?_
  clear g e u p;rintro m f p ⟨i,k,L,rfl,b,y,t,s,r,l,b,e,g,o,c,x,q⟩;rw[ui y,ui t,ui s,ui r,ui l,ui b];by_cases b:i<a.length
  ·obtain⟨b,rfl,b⟩:=(h1.Y e).at (j:=i) aq;have l:=b i aq;have D:=h1.fD.getD i;refine gg ?_;refine iy F rfl aq ?_;refine gg ?_;by_cases b:i<d.length
   ·obtain⟨b,rfl,b⟩:=(z.Y e).at (j:=i) aq;have l:=b i aq;have b:=z.fD.getD i;refine aN ?_;refine gg ?_;refine iy F rfl aq ?_;refine gg ?_;refine bZ (aX F) (.inl F) F rfl g (by rw[cN];omega) ?_;intro z l t y;rw[dV]at l;refine gg ?_;have r:=Gz (a.getD i 0) (d.getD i 0) k D b x;refine⟨_,?_,i+1,_,_,F,aq,F,F,F,F,F,F,t.aK e (λb A=>aq),l,by simpa using o,c.set (Nat.mod_lt _ aw),r.2,?_⟩
    ·omega
    ·rw[ft _ _ _ aq,bN _ _ aq,bN _ _ aq,Nat.pow_succ];exact sB _ _ _ _ _ _ _ _ _ q r.1
   ·refine aN ?_;refine gg ?_;refine bZ (aX F) (.inl F) F rfl g (by rw[cN];omega) ?_;intro z l t y;rw[dV]at l;refine gg ?_;have r:=ER (a.getD i 0) k D x;refine⟨_,?_,i+1,_,_,F,aq,F,F,F,F,F,F,t.aK e (λb A=>aq),l,by simpa using o,c.set (Nat.mod_lt _ aw),r.2,?_⟩
    ·omega
    ·rw[ft _ _ _ aq,bN a _ aq,dk d (i+1) aq,Nat.pow_succ];rw[dk d i aq]at q;exact EP _ _ _ _ _ _ _ _ q r.1
  ·refine gg ?_;have:i=a.length:=aq;subst this;rw[dk _ _ aq,dk _ _ aq,dk _ _ aq]at q;have I:=g_ L c;have:k=0:=by
    rcases Nat.lt_or_ge 0 k with h|h
    ·have:B^a.length<=k*B^a.length:=Nat.le_mul_of_pos_left _ h;rw[o]at I;omega
    ·omega
   subst this;exact⟨L,F,e,g,o,c,aq⟩
 ·clear g e u p;rintro f p ⟨L,s,e,g,o,c,q⟩;rw[ui s];refine gg ?_;refine aJ (dA _ _ _ _ p (dE g c) o aD aq) ?_;rintro v a ⟨rfl,m,H,rfl,b,a⟩;refine gg ?_;exact bF (v:=.slice _ _ _) F rfl ⟨e,iA (dE g c) H aq aq b a aq⟩
theorem DT(i a x:Nat)(e:i<=1)(c:a<B^i)(e:x<4294967296):a ||| (x*2^(32*i))%18446744073709551616=a+B^i*x/\a+B^i*x<18446744073709551616/\a<18446744073709551616:=by
 have d:B=4294967296:=F;rcases(by omega:i=0\/i=1)with rfl|rfl
 ·simp only[Nat.pow_zero]at c;have:a=0:=aq;subst this;simp;omega
 ·rw[d,Nat.pow_one]at*;have e:x*2^(32*1)%18446744073709551616=2^32*x:=aq;have c:=Nat.two_pow_add_eq_or_of_lt (i:=32) (b:=a) aq x;rw[e,Nat.or_comm,<-c];omega
theorem mc(A:Option Addr)(n c:Nat)(l:List Nat)(w:World)(h:fM w A l)(f:l.length=n)(k:n<=2):
 aT Tryz.prog 119 #[.slice A n c] w λv a=>w=a/\v=.int .u64 ((val l:Nat):Int):=by
 subst f;refine bo (n:=22) Tryz.func119 F rfl az aA ?_;refine gg ?_;refine aN ?_;refine gg ?_;refine aU (λm f a=>∃i,m=l.length-i/\i<=l.length/\f 3=.int .u64 ((val (l.take i):Nat):Int)/\f 6=.slice A l.length c/\f 7=.int .i64 (l.length:Int)/\f 8=.int .i64 ((i:Nat):Int)/\w=a)
  l.length ⟨0,F,aE,F,F,F,F,F⟩ ?_
 rintro m f a ⟨i,rfl,a,g,e,d,b,rfl⟩;rw[ui g,ui e,ui d,ui b];by_cases a:i<l.length
 ·obtain⟨a,rfl,a⟩:=h.at (j:=i) aq;have b:=a i aq;have b:=h.fD.getD i;have a:=DT i (val (l.take i)) (l.getD i 0) aq (fX h.fD i) b;refine gg ?_;refine mQ F rfl aq ?_;refine gg ?_;refine jN F rfl a.2.2 (Nat.mod_lt _ aw) ?_;refine gg ?_;refine⟨_,?_,i+1,F,aq,?_,F,F,F,F⟩
  ·omega
  ·rw[bN l i aq,<-a.1];rfl
 ·refine gg ?_;refine bF (v:=.int _ _) F rfl ⟨F,?_⟩;rw[List.take_of_length_le aq]
theorem ix(x:Nat)(w:World)(b:x<18446744073709551616):
 aT Tryz.prog 79 #[.int .u64 (x:Int)] w λv b=>Ext w b/\jX b v x:=by
 refine bo (n:=10) Tryz.func79 F rfl az aA ?_;refine gg ?_;refine wq (v0:=.int _ _) (v1:=.int _ _) dM F (.inl F) F rfl rfl rfl ?_;intro b d f g;have a:bg b w.heap.size 153 (cells [x%4294967296,x/2^32%4294967296]):=d;have c:fH [x%4294967296,x/2^32%4294967296]:=by
  intro y d;simp at d;omega
 refine gg ?_;refine aJ (dA _ _ _ _ b (dE a c) F aD aq) ?_;rintro v b ⟨rfl,m,e,rfl,d,b⟩;refine gg ?_;refine bF (v:=.slice _ _ _) F rfl ⟨f,iA (dE a c) e aA aq d b ?_⟩;simp only[val,B];omega
def Lb(w:World)(g:Nat)(L:List Nat):Prop:=∃a,bg w g 153 (cells L++a)
theorem Lb.of{w:World}{g:Nat}{L:List Nat}(h:bg w g 153 (cells L)):Lb w g L:=⟨#[],by simpa using h⟩
theorem Lb.at{w:World}{g:Nat}{L:List Nat}(h:Lb w g L){j:Nat}(a:j<L.length):w.cell? ⟨g,0+j*1,none⟩=some (.int .u32 ((L.getD j 0:Nat):Int)):=by
 obtain⟨b,b⟩:=h;rw[b.cell,Array.getElem?_append_left (by rw[cN];omega)];simp[cells,a,List.getD]
theorem Lb.J2{w:World}{g:Nat}{L:List Nat}(h:Lb w g L)(a:fH L):fM w (some ⟨g,0,none⟩) L:=
 ⟨a,λj a=>⟨_,rfl,by rw[add_lit];exact h.at a⟩⟩
theorem Lb.Y{w w':World}{g:Nat}{L:List Nat}(h:Lb w g L)(c:Ext w w'):Lb w' g L:=by
 obtain⟨a,b⟩:=h;exact⟨a,b.Y c⟩
theorem Lb.lt{w:World}{g:Nat}{L:List Nat}(h:Lb w g L):g<w.heap.size:=by
 obtain⟨a,a⟩:=h;exact a.lt
theorem Lb.set{w:World}{g:Nat}{L:List Nat}{a:Array Value}{i x:Nat}(b:i<L.length)(h:bg w g 153 ((cells L++a).setIfInBounds (0+i*1) (.int .u32 (x:Int)))):Lb w g (L.set i x):=by
 refine⟨a,?_⟩;have e:(cells L++a).setIfInBounds (0+i*1) (.int .u32 (x:Int))=cells (L.set i x)++a:=by
  rw[<-dV];apply Array.toList_inj.1;simp[cells,b]
 rw[<-e];exact h
theorem sU{w:World}{base:Nat}{v:Value}{l:List Nat}(h:w.ownsRow base 153 1 v l.length (l.map λx=>Value.int .u32 ((x:Nat):Int))):
 (v=.slice none 0 0/\l=[])\/∃g c,v=.slice (some ⟨g,0,none⟩) l.length c/\base<=g/\l.length<=c/\c<=9223372036854775807/\Lb w g l:=by
 rcases h.2 with⟨rfl,h0⟩|⟨g,cap,cur,rfl,f,e,b,d,c,a⟩
 ·exact .inl ⟨F,List.eq_nil_of_length_eq_zero h0⟩
 ·refine .inr ⟨g,cap,F,f,b,d,⟨(cur.toList.drop l.length).toArray,?_⟩⟩;unfold bg;rw[e];congr 2;apply Array.toList_inj.1;rw[Nat.mul_one]at a;simp only[cells,Array.toList_append];rw[<-a];simp
theorem DX{w:World}{A:Option Addr}{l:List Nat}(h:fM w A l):∀j u,(l.map λx=>Value.int .u32 ((x:Nat):Int))[j]?=some u->∃c,A=some c/\w.cell? (c.add j)=some u:=by
 intro j u a;rw[List.getElem?_map]at a;rcases b:l[j]? with _|x
 ·rw[b]at a;cases a
 ·rw[b]at a;have f:j<l.length:=by
   rcases Nat.lt_or_ge j l.length with d|d
   ·exact d
   ·rw[List.getElem?_eq_none d]at b;cases b
  obtain⟨c,e,d⟩:=h.cell j f;refine⟨c,e,?_⟩;rw[Nat.mul_one]at d;rw[d,<-a];simp[List.getD,b]
theorem vC(l:List Nat):∀u∈(l.map λx=>Value.int .u32 ((x:Nat):Int)),u.oneCell'=true:=by
 intro u a;obtain⟨x,_,rfl⟩:=List.mem_map.1 a;rfl
theorem l8(A:Option Addr)(n c:Nat)(l:List Nat)(w:World)(h:fM w A l)(f:l.length=n)(m:n<17592186044416)(d:A=none->n=0):
 aT Tryz.prog 127 #[.slice A n c] w λv b=>Ext w b/\((v=.slice none 0 0/\l=[])\/∃g a,v=.slice (some ⟨g,0,none⟩) n a/\w.heap.size<=g/\n<=a/\a<=9223372036854775807/\Lb b g l):=by
 subst f;refine bo (n:=8) Tryz.func127 F rfl az aA ?_;refine gg ?_;refine aN ?_;refine gg ?_;refine IW dM F ?_;refine gg ?_;rcases A with _|f
 ·refine x8 F ?_;refine gg ?_;exact bF (v:=.slice _ _ _) F rfl ⟨Ext.refl _,.inl ⟨F,List.eq_nil_of_length_eq_zero (d F)⟩⟩
 ·refine sc F ?_;refine gg ?_;refine F_ dM (.inl F) ?_;intro d d f m;refine gg ?_;refine ou (base:=w.heap.size) (m0:=0) (xs:=[]) (news:=l.map λx=>Value.int .u32 ((x:Nat):Int)) (v:=.slice _ _ _) dM F aw (.inl F) F ⟨F,.inr ⟨_,_,_,F,aD,d,aD,aw,F,F⟩⟩ F aA (DX (h.Y f)) (vC l) aq aq aq ?_;intro h b d b _;refine gg ?_;refine bF (v:=h) F rfl ⟨b.aK f (λb e=>by simp[Value.ownBlock]at e;omega),?_⟩;rw[Nat.zero_add,List.nil_append]at d;rcases sU d with⟨rfl,rfl⟩|⟨g,a,rfl,k,j,i,e⟩
  ·exact .inl ⟨F,F⟩
  ·exact .inr ⟨g,a,F,k,j,i,e⟩
