import Derived.Test.YtmfndnlifgphjaaGreatQza
import Derived.WalkKit
import Derived.Laws.BitsAllLaws
set_option maxHeartbeats 64000000
namespace Go.cU
section
open Go Go.RowKit
def mv(f:Fr)(d t:Nat):Fr:=λi=>bif Nat.beq i d then f t else f i
theorem wrap_i64{a:Int}(h:-9223372036854775808<=a)(b:a<9223372036854775808):IntKind.i64.wrap a=a:=by rw[IntKind.wrap_i64];omega
theorem jU{a:Nat}(h:a<9223372036854775808):IntKind.i64.wrap (a:Int)=a:=wrap_i64 (by omega) (by omega)
theorem wrap_u64(a:Int):IntKind.u64.wrap a=a%18446744073709551616:=IntKind.wrap_u64 a
theorem wrap_u32(a:Int):IntKind.u32.wrap a=a%4294967296:=IntKind.wrap_u32 a
theorem y7(a:Nat):IntKind.u32.wrap (a:Int)=((a%4294967296:Nat):Int):=by rw[wrap_u32];omega
theorem jT{a:Nat}(h:a<18446744073709551616):IntKind.u64.wrap (a:Int)=a:=by rw[wrap_u64];omega
section
variable {P:Program}{n:Nat}{S:World->World->Prop}{k:Nat}{K:Fr->World->Prop}{f:Fr}{w:World}
 {d ty t t2:Nat} {x y:Operand} {pos:String} {aft:Array Edge} {g:Option (Nat×Bool)}
theorem C4{i:Nat}(a:Nat.blt i n=true)(h:K (mv f d i) w):R1 P n S k ⟨some d,.move (.tmp i),ty,pos,aft,g⟩ K f w:=by
 refine cD (v:=ev n f (.tmp i)) (λw=>rfl) ?_;have e:fh f (some d) (ev n f (.tmp i))=mv f d i:=by funext j;simp[ev,a,fh,mv,bS]
 rw[e];exact h
theorem xW{i:Nat}(a:Nat.blt i n=true)(h:K (mv f d i) w):R1 P n S k ⟨some d,.assign (.tmp i),ty,pos,aft,g⟩ K f w:=by
 refine cD (v:=ev n f (.tmp i)) (λw=>rfl) ?_;have e:fh f (some d) (ev n f (.tmp i))=mv f d i:=by funext j;simp[ev,a,fh,mv,bS]
 rw[e];exact h
theorem Am{kd:IntKind}{m:Nat}(h:K (bS f d (.int kd (((OfNat.ofNat m:Nat)):Int))) w):R1 P n S k ⟨some d,.move (.const (.int kd (OfNat.ofNat m))),ty,pos,aft,g⟩ K f w:=
 cD (v:=.int kd (((OfNat.ofNat m:Nat)):Int)) (λ_=>rfl) h
theorem v_{kd:IntKind}{m:Nat}(h:K (bS f d (.int kd (((OfNat.ofNat m:Nat)):Int))) w):R1 P n S k ⟨some d,.assign (.const (.int kd (OfNat.ofNat m))),ty,pos,aft,g⟩ K f w:=
 cD (v:=.int kd (((OfNat.ofNat m:Nat)):Int)) (λ_=>rfl) h
theorem xX{v:Value}(h:K (bS f d v) w):R1 P n S k ⟨some d,.assign (.const v),ty,pos,aft,g⟩ K f w:=
 cD (v:=v) (λ_=>rfl) h
theorem cw{c:BinOp}{r b a:Value}(i:ev n f x=b)(e:ev n f y=a)(l:∀w,(eqGuard c t x y b a).run P w=.ok () w)(j:∀w,(binOp c t b a).run P w=.ok r w)
 (h:K (bS f d r) w):R1 P n S k ⟨some d,.binOp c t x y t2,ty,pos,aft,g⟩ K f w:=by
 refine cD (v:=r) (λw=>?_) h;simp only[execOp,i,e,Sem.run_bind,l,j,Result.andThen_ok,Sem.run_pure]
theorem mN{a b:Nat}(e:ev n f x=.int .i64 (a:Int))(c:ev n f y=.int .i64 (b:Int))(i:a+b<9223372036854775808)(h:K (bS f d (.int .i64 ((a+b:Nat):Int))) w):R1 P n S k ⟨some d,.binOp .add t x y t2,ty,pos,aft,g⟩ K f w:=by
 refine cw e c (λ_=>by simp[eqGuard,go_sem]) (λ_=>?_) h;simp only[binOp,Op.intArith,ne_eq,not_true_eq_false,if_false];rw[<-Int.natCast_add,jU i];rfl
theorem mJ{a b:Nat}(e:ev n f x=.int .i64 (a:Int))(c:ev n f y=.int .i64 (b:Int))(i:a<9223372036854775808)(i:b<=a)(h:K (bS f d (.int .i64 ((a-b:Nat):Int))) w):R1 P n S k ⟨some d,.binOp .sub t x y t2,ty,pos,aft,g⟩ K f w:=by
 refine cw e c (λ_=>by simp[eqGuard,go_sem]) (λ_=>?_) h;simp only[binOp,Op.intArith,ne_eq,not_true_eq_false,if_false];rw[<-Int.natCast_sub i,jU aq];rfl
theorem jD{a b:Nat}(e:ev n f x=.int .i64 (a:Int))(c:ev n f y=.int .i64 (b:Int))(i:a*b<9223372036854775808)(h:K (bS f d (.int .i64 ((a*b:Nat):Int))) w):R1 P n S k ⟨some d,.binOp .mul t x y t2,ty,pos,aft,g⟩ K f w:=by
 refine cw e c (λ_=>by simp[eqGuard,go_sem]) (λ_=>?_) h;simp only[binOp,Op.intArith,ne_eq,not_true_eq_false,if_false];rw[<-Int.natCast_mul,jU i];rfl
theorem xG{a b:Nat}(e:ev n f x=.int .i64 (a:Int))(c:ev n f y=.int .i64 (b:Int))(i:a<9223372036854775808)(j:0<b)(h:K (bS f d (.int .i64 ((a/b:Nat):Int))) w):R1 P n S k ⟨some d,.binOp .quo t x y t2,ty,pos,aft,g⟩ K f w:=by
 refine cw e c (λ_=>by simp[eqGuard,go_sem]) (λ_=>?_) h;have e:((b:Int)=0)=False:=by(simp;omega)
 simp only[binOp,Op.intDiv,ne_eq,not_true_eq_false,if_false,e];rw[<-Int.ofNat_tdiv,jU (Nat.lt_of_le_of_lt (Nat.div_le_self _ _) i)];rfl
theorem mL{a b:Nat}(e:ev n f x=.int .i64 (a:Int))(c:ev n f y=.int .i64 (b:Int))(i:0<b)(h:K (bS f d (.int .i64 ((a%b:Nat):Int))) w):R1 P n S k ⟨some d,.binOp .rem t x y t2,ty,pos,aft,g⟩ K f w:=by
 refine cw e c (λ_=>by simp[eqGuard,go_sem]) (λ_=>?_) h;have e:((b:Int)=0)=False:=by(simp;omega)
 simp only[binOp,Op.intDiv,ne_eq,not_true_eq_false,if_false,e];rw[<-Int.ofNat_tmod];rfl
theorem xZ{a b:Nat}(e:ev n f x=.int .u64 (a:Int))(c:ev n f y=.int .u64 (b:Int))(i:a+b<18446744073709551616)(h:K (bS f d (.int .u64 ((a+b:Nat):Int))) w):R1 P n S k ⟨some d,.binOp .add t x y t2,ty,pos,aft,g⟩ K f w:=by
 refine cw e c (λ_=>by simp[eqGuard,go_sem]) (λ_=>?_) h;simp only[binOp,Op.intArith,ne_eq,not_true_eq_false,if_false];rw[<-Int.natCast_add,jT i];rfl
theorem xE{a b:Nat}(e:ev n f x=.int .u64 (a:Int))(c:ev n f y=.int .u64 (b:Int))(i:a<18446744073709551616)(i:b<=a)(h:K (bS f d (.int .u64 ((a-b:Nat):Int))) w):R1 P n S k ⟨some d,.binOp .sub t x y t2,ty,pos,aft,g⟩ K f w:=by
 refine cw e c (λ_=>by simp[eqGuard,go_sem]) (λ_=>?_) h;simp only[binOp,Op.intArith,ne_eq,not_true_eq_false,if_false];rw[<-Int.natCast_sub i,jT aq];rfl
theorem jC{a b:Nat}(e:ev n f x=.int .u64 (a:Int))(c:ev n f y=.int .u64 (b:Int))(i:a*b<18446744073709551616)(h:K (bS f d (.int .u64 ((a*b:Nat):Int))) w):R1 P n S k ⟨some d,.binOp .mul t x y t2,ty,pos,aft,g⟩ K f w:=by
 refine cw e c (λ_=>by simp[eqGuard,go_sem]) (λ_=>?_) h;simp only[binOp,Op.intArith,ne_eq,not_true_eq_false,if_false];rw[<-Int.natCast_mul,jT i];rfl
theorem kI{a b:Nat}(e:ev n f x=.int .u64 (a:Int))(c:ev n f y=.int .u64 (b:Int))(i:a<18446744073709551616)(j:0<b)(h:K (bS f d (.int .u64 ((a/b:Nat):Int))) w):R1 P n S k ⟨some d,.binOp .quo t x y t2,ty,pos,aft,g⟩ K f w:=by
 refine cw e c (λ_=>by simp[eqGuard,go_sem]) (λ_=>?_) h;have e:((b:Int)=0)=False:=by(simp;omega)
 simp only[binOp,Op.intDiv,ne_eq,not_true_eq_false,if_false,e];rw[<-Int.ofNat_tdiv,jT (Nat.lt_of_le_of_lt (Nat.div_le_self _ _) i)];rfl
theorem jB{a b:Nat}(e:ev n f x=.int .u64 (a:Int))(c:ev n f y=.int .u64 (b:Int))(i:0<b)(h:K (bS f d (.int .u64 ((a%b:Nat):Int))) w):R1 P n S k ⟨some d,.binOp .rem t x y t2,ty,pos,aft,g⟩ K f w:=by
 refine cw e c (λ_=>by simp[eqGuard,go_sem]) (λ_=>?_) h;have e:((b:Int)=0)=False:=by(simp;omega)
 simp only[binOp,Op.intDiv,ne_eq,not_true_eq_false,if_false,e];rw[<-Int.ofNat_tmod];rfl
theorem fz{a b:Nat}(e:ev n f x=.int .u64 (a:Int))(c:ev n f y=.int .u64 (b:Int))(i:b<=18446744073709551616)(h:K (bS f d (.int .u64 (((a+(18446744073709551616-b))%18446744073709551616:Nat):Int))) w):R1 P n S k ⟨some d,.binOp .sub t x y t2,ty,pos,aft,g⟩ K f w:=by
 refine cw e c (λ_=>by simp[eqGuard,go_sem]) (λ_=>?_) h;simp only[binOp,Op.intArith,ne_eq,not_true_eq_false,if_false];rw[wrap_u64,show((a:Int)-b)%18446744073709551616=(((a+(18446744073709551616-b))%18446744073709551616:Nat):Int)from aq];rfl
theorem we{a b:Nat}(e:ev n f x=.int .u32 (a:Int))(c:ev n f y=.int .u32 (b:Int))(h:K (bS f d (.int .u32 (((a+b)%4294967296:Nat):Int))) w):R1 P n S k ⟨some d,.binOp .add t x y t2,ty,pos,aft,g⟩ K f w:=by
 refine cw e c (λ_=>by simp[eqGuard,go_sem]) (λ_=>?_) h;simp only[binOp,Op.intArith,ne_eq,not_true_eq_false,if_false];rw[<-Int.natCast_add,wrap_u32];rfl
theorem qt{a b:Nat}(e:ev n f x=.int .i64 (a:Int))(c:ev n f y=.int .i64 (b:Int))(h:K (bS f d (.bool (decide (a<b)))) w):R1 P n S k ⟨some d,.binOp .lss t x y t2,ty,pos,aft,g⟩ K f w:=by
 refine cw e c (λ_=>by simp[eqGuard,go_sem]) (λ_=>?_) h;simp only[binOp,Op.intCmp,ne_eq,not_true_eq_false,if_false];rw[show(decide ((a:Int)<b))=decide (a<b)from by rw[Bool.eq_iff_iff];simp];rfl
theorem qu{a b:Nat}(e:ev n f x=.int .i64 (a:Int))(c:ev n f y=.int .i64 (b:Int))(h:K (bS f d (.bool (decide (a<=b)))) w):R1 P n S k ⟨some d,.binOp .leq t x y t2,ty,pos,aft,g⟩ K f w:=by
 refine cw e c (λ_=>by simp[eqGuard,go_sem]) (λ_=>?_) h;simp only[binOp,Op.intCmp,ne_eq,not_true_eq_false,if_false];rw[show(decide ((a:Int)<=b))=decide (a<=b)from by rw[Bool.eq_iff_iff];simp];rfl
theorem qv{a b:Nat}(e:ev n f x=.int .i64 (a:Int))(c:ev n f y=.int .i64 (b:Int))(h:K (bS f d (.bool (decide (b<a)))) w):R1 P n S k ⟨some d,.binOp .gtr t x y t2,ty,pos,aft,g⟩ K f w:=by
 refine cw e c (λ_=>by simp[eqGuard,go_sem]) (λ_=>?_) h;simp only[binOp,Op.intCmp,ne_eq,not_true_eq_false,if_false];rw[show(decide ((a:Int)>b))=decide (b<a)from by rw[Bool.eq_iff_iff];simp];rfl
theorem qw{a b:Nat}(e:ev n f x=.int .i64 (a:Int))(c:ev n f y=.int .i64 (b:Int))(h:K (bS f d (.bool (decide (b<=a)))) w):R1 P n S k ⟨some d,.binOp .geq t x y t2,ty,pos,aft,g⟩ K f w:=by
 refine cw e c (λ_=>by simp[eqGuard,go_sem]) (λ_=>?_) h;simp only[binOp,Op.intCmp,ne_eq,not_true_eq_false,if_false];rw[show(decide ((a:Int)>=b))=decide (b<=a)from by rw[Bool.eq_iff_iff];simp];rfl
theorem qC{a b:Nat}(e:ev n f x=.int .i64 (a:Int))(c:ev n f y=.int .i64 (b:Int))(h:K (bS f d (.bool (decide (a=b)))) w):R1 P n S k ⟨some d,.binOp .eql t x y t2,ty,pos,aft,g⟩ K f w:=by
 refine cw e c (λ_=>by simp[eqGuard,go_sem]) (λ_=>?_) h;simp only[binOp,Op.intCmp,ne_eq,not_true_eq_false,if_false];rw[show((a:Int) == b)=decide (a=b)from by rw[Bool.eq_iff_iff];simp;omega];rfl
theorem qp{a b:Nat}(e:ev n f x=.int .i64 (a:Int))(c:ev n f y=.int .i64 (b:Int))(h:K (bS f d (.bool (decide (¬a=b)))) w):R1 P n S k ⟨some d,.binOp .neq t x y t2,ty,pos,aft,g⟩ K f w:=by
 refine cw e c (λ_=>by simp[eqGuard,go_sem]) (λ_=>?_) h;simp only[binOp,Op.intCmp,ne_eq,not_true_eq_false,if_false];rw[show((a:Int) != b)=decide (¬a=b)from by rw[Bool.eq_iff_iff];simp;omega];rfl
theorem xK{a b:Nat}(e:ev n f x=.int .u64 (a:Int))(c:ev n f y=.int .u64 (b:Int))(h:K (bS f d (.bool (decide (a<b)))) w):R1 P n S k ⟨some d,.binOp .lss t x y t2,ty,pos,aft,g⟩ K f w:=by
 refine cw e c (λ_=>by simp[eqGuard,go_sem]) (λ_=>?_) h;simp only[binOp,Op.intCmp,ne_eq,not_true_eq_false,if_false];rw[show(decide ((a:Int)<b))=decide (a<b)from by rw[Bool.eq_iff_iff];simp];rfl
theorem xO{a b:Nat}(e:ev n f x=.int .u64 (a:Int))(c:ev n f y=.int .u64 (b:Int))(h:K (bS f d (.bool (decide (b<a)))) w):R1 P n S k ⟨some d,.binOp .gtr t x y t2,ty,pos,aft,g⟩ K f w:=by
 refine cw e c (λ_=>by simp[eqGuard,go_sem]) (λ_=>?_) h;simp only[binOp,Op.intCmp,ne_eq,not_true_eq_false,if_false];rw[show(decide ((a:Int)>b))=decide (b<a)from by rw[Bool.eq_iff_iff];simp];rfl
theorem qz{a b:Nat}(e:ev n f x=.int .u64 (a:Int))(c:ev n f y=.int .u64 (b:Int))(h:K (bS f d (.bool (decide (a=b)))) w):R1 P n S k ⟨some d,.binOp .eql t x y t2,ty,pos,aft,g⟩ K f w:=by
 refine cw e c (λ_=>by simp[eqGuard,go_sem]) (λ_=>?_) h;simp only[binOp,Op.intCmp,ne_eq,not_true_eq_false,if_false];rw[show((a:Int) == b)=decide (a=b)from by rw[Bool.eq_iff_iff];simp;omega];rfl
theorem qo{a b:Nat}(e:ev n f x=.int .u64 (a:Int))(c:ev n f y=.int .u64 (b:Int))(h:K (bS f d (.bool (decide (¬a=b)))) w):R1 P n S k ⟨some d,.binOp .neq t x y t2,ty,pos,aft,g⟩ K f w:=by
 refine cw e c (λ_=>by simp[eqGuard,go_sem]) (λ_=>?_) h;simp only[binOp,Op.intCmp,ne_eq,not_true_eq_false,if_false];rw[show((a:Int) != b)=decide (¬a=b)from by rw[Bool.eq_iff_iff];simp;omega];rfl
theorem xM{a b:Nat}(e:ev n f x=.int .u32 (a:Int))(c:ev n f y=.int .u32 (b:Int))(h:K (bS f d (.bool (decide (a<b)))) w):R1 P n S k ⟨some d,.binOp .lss t x y t2,ty,pos,aft,g⟩ K f w:=by
 refine cw e c (λ_=>by simp[eqGuard,go_sem]) (λ_=>?_) h;simp only[binOp,Op.intCmp,ne_eq,not_true_eq_false,if_false];rw[show(decide ((a:Int)<b))=decide (a<b)from by rw[Bool.eq_iff_iff];simp];rfl
theorem xP{a b:Nat}(e:ev n f x=.int .u32 (a:Int))(c:ev n f y=.int .u32 (b:Int))(h:K (bS f d (.bool (decide (b<a)))) w):R1 P n S k ⟨some d,.binOp .gtr t x y t2,ty,pos,aft,g⟩ K f w:=by
 refine cw e c (λ_=>by simp[eqGuard,go_sem]) (λ_=>?_) h;simp only[binOp,Op.intCmp,ne_eq,not_true_eq_false,if_false];rw[show(decide ((a:Int)>b))=decide (b<a)from by rw[Bool.eq_iff_iff];simp];rfl
theorem xQ{a b:Nat}(e:ev n f x=.int .u32 (a:Int))(c:ev n f y=.int .u32 (b:Int))(h:K (bS f d (.bool (decide (b<=a)))) w):R1 P n S k ⟨some d,.binOp .geq t x y t2,ty,pos,aft,g⟩ K f w:=by
 refine cw e c (λ_=>by simp[eqGuard,go_sem]) (λ_=>?_) h;simp only[binOp,Op.intCmp,ne_eq,not_true_eq_false,if_false];rw[show(decide ((a:Int)>=b))=decide (b<=a)from by rw[Bool.eq_iff_iff];simp];rfl
theorem qB{a b:Nat}(e:ev n f x=.int .u32 (a:Int))(c:ev n f y=.int .u32 (b:Int))(h:K (bS f d (.bool (decide (a=b)))) w):R1 P n S k ⟨some d,.binOp .eql t x y t2,ty,pos,aft,g⟩ K f w:=by
 refine cw e c (λ_=>by simp[eqGuard,go_sem]) (λ_=>?_) h;simp only[binOp,Op.intCmp,ne_eq,not_true_eq_false,if_false];rw[show((a:Int) == b)=decide (a=b)from by rw[Bool.eq_iff_iff];simp;omega];rfl
theorem xJ{a b:Nat}(e:ev n f x=.int .u32 (a:Int))(c:ev n f y=.int .u32 (b:Int))(h:K (bS f d (.bool (decide (¬a=b)))) w):R1 P n S k ⟨some d,.binOp .neq t x y t2,ty,pos,aft,g⟩ K f w:=by
 refine cw e c (λ_=>by simp[eqGuard,go_sem]) (λ_=>?_) h;simp only[binOp,Op.intCmp,ne_eq,not_true_eq_false,if_false];rw[show((a:Int) != b)=decide (¬a=b)from by rw[Bool.eq_iff_iff];simp;omega];rfl
theorem iB{a b:Nat}(e:ev n f x=.int .u64 (a:Int))(c:ev n f y=.int .u64 (b:Int))(j:a<18446744073709551616)(i:b<18446744073709551616)(h:K (bS f d (.int .u64 ((a ||| b:Nat):Int))) w):R1 P n S k ⟨some d,.binOp .or t x y t2,ty,pos,aft,g⟩ K f w:=by
 refine cw e c (λ_=>by simp[eqGuard,go_sem]) (λ_=>?_) h;have e:=u64_or_nat a b j i;simp only[binOp,Op.intBits,ne_eq,not_true_eq_false,if_false];change Result.ok (Value.int .u64 (bits .or .u64 (a:Int) (b:Int))) _=_;rw[e]
theorem rT{a b:Nat}(e:ev n f x=.int .u32 (a:Int))(c:ev n f y=.int .u32 (b:Int))(j:a<4294967296)(i:b<4294967296)(h:K (bS f d (.int .u32 ((a ||| b:Nat):Int))) w):R1 P n S k ⟨some d,.binOp .or t x y t2,ty,pos,aft,g⟩ K f w:=by
 refine cw e c (λ_=>by simp[eqGuard,go_sem]) (λ_=>?_) h;have e:=u32_or_nat a b j i;simp only[binOp,Op.intBits,ne_eq,not_true_eq_false,if_false];change Result.ok (Value.int .u32 (bits .or .u32 (a:Int) (b:Int))) _=_;rw[e]
theorem xY{a b:Nat}(e:ev n f x=.int .u32 (a:Int))(c:ev n f y=.int .u32 (b:Int))(j:a<4294967296)(i:b<4294967296)(h:K (bS f d (.int .u32 ((a &&& b:Nat):Int))) w):R1 P n S k ⟨some d,.binOp .and t x y t2,ty,pos,aft,g⟩ K f w:=by
 refine cw e c (λ_=>by simp[eqGuard,go_sem]) (λ_=>?_) h;have e:=u32_and_nat a b j i;simp only[binOp,Op.intBits,ne_eq,not_true_eq_false,if_false];change Result.ok (Value.int .u32 (bits .and .u32 (a:Int) (b:Int))) _=_;rw[e]
theorem kH{a b:Nat}{c:IntKind}(i:ev n f x=.int .u64 (a:Int))(e:ev n f y=.int c (b:Int))(c:b<64)(h:K (bS f d (.int .u64 (((a*2^b)%18446744073709551616:Nat):Int))) w):R1 P n S k ⟨some d,.binOp .shl t x y t2,ty,pos,aft,g⟩ K f w:=by
 refine cw i e (λ_=>by simp[eqGuard,go_sem]) (λ_=>?_) h;have e:min b 64=b:=aq;have c:((b:Int)<0)=False:=aA;simp only[binOp,Op.shift,c,if_false,Int.toNat_natCast,IntKind.bits,e];rw[wrap_u64,show((a:Int)*2^b)%18446744073709551616=(((a*2^b)%18446744073709551616:Nat):Int)from aA];rfl
theorem mK{a b:Nat}{c:IntKind}(i:ev n f x=.int .u64 (a:Int))(e:ev n f y=.int c (b:Int))(c:b<64)(h:K (bS f d (.int .u64 ((a/2^b:Nat):Int))) w):R1 P n S k ⟨some d,.binOp .shr t x y t2,ty,pos,aft,g⟩ K f w:=by
 refine cw i e (λ_=>by simp[eqGuard,go_sem]) (λ_=>?_) h;have e:min b 64=b:=aq;have c:((b:Int)<0)=False:=aA;simp only[binOp,Op.shift,c,if_false,Int.toNat_natCast,IntKind.bits,e];rw[show(a:Int).fdiv (2^b)=((a/2^b:Nat):Int)from by rw[Int.fdiv_eq_ediv_of_nonneg _ (Int.le_of_lt (Int.pow_pos ar))];simp];rfl
theorem qn{a b:Nat}{c:IntKind}(i:ev n f x=.int .u32 (a:Int))(e:ev n f y=.int c (b:Int))(c:b<32)(h:K (bS f d (.int .u32 (((a*2^b)%4294967296:Nat):Int))) w):R1 P n S k ⟨some d,.binOp .shl t x y t2,ty,pos,aft,g⟩ K f w:=by
 refine cw i e (λ_=>by simp[eqGuard,go_sem]) (λ_=>?_) h;have e:min b 32=b:=aq;have c:((b:Int)<0)=False:=aA;simp only[binOp,Op.shift,c,if_false,Int.toNat_natCast,IntKind.bits,e];rw[wrap_u32,show((a:Int)*2^b)%4294967296=(((a*2^b)%4294967296:Nat):Int)from aA];rfl
theorem qm{a b:Nat}{c:IntKind}(i:ev n f x=.int .u32 (a:Int))(e:ev n f y=.int c (b:Int))(c:b<32)(h:K (bS f d (.int .u32 ((a/2^b:Nat):Int))) w):R1 P n S k ⟨some d,.binOp .shr t x y t2,ty,pos,aft,g⟩ K f w:=by
 refine cw i e (λ_=>by simp[eqGuard,go_sem]) (λ_=>?_) h;have e:min b 32=b:=aq;have c:((b:Int)<0)=False:=aA;simp only[binOp,Op.shift,c,if_false,Int.toNat_natCast,IntKind.bits,e];rw[show(a:Int).fdiv (2^b)=((a/2^b:Nat):Int)from by rw[Int.fdiv_eq_ediv_of_nonneg _ (Int.le_of_lt (Int.pow_pos ar))];simp];rfl
theorem CY{a b:Int}(e:ev n f x=.int .i64 a)(c:ev n f y=.int .i64 b)(h1:-9223372036854775808<=a-b)(i:a-b<9223372036854775808)(h:K (bS f d (.int .i64 (a-b))) w):R1 P n S k ⟨some d,.binOp .sub t x y t2,ty,pos,aft,g⟩ K f w:=by
 refine cw e c (λ_=>by simp[eqGuard,go_sem]) (λ_=>?_) h;simp only[binOp,Op.intArith,ne_eq,not_true_eq_false,if_false];rw[wrap_i64 h1 i];rfl
theorem vV{a b:Int}(e:ev n f x=.int .i64 a)(c:ev n f y=.int .i64 b)(h1:-9223372036854775808<=a*b)(i:a*b<9223372036854775808)(h:K (bS f d (.int .i64 (a*b))) w):R1 P n S k ⟨some d,.binOp .mul t x y t2,ty,pos,aft,g⟩ K f w:=by
 refine cw e c (λ_=>by simp[eqGuard,go_sem]) (λ_=>?_) h;simp only[binOp,Op.intArith,ne_eq,not_true_eq_false,if_false];rw[wrap_i64 h1 i];rfl
theorem C5{a b:Int}(e:ev n f x=.int .i64 a)(c:ev n f y=.int .i64 b)(h:K (bS f d (.bool (decide (a<b)))) w):R1 P n S k ⟨some d,.binOp .lss t x y t2,ty,pos,aft,g⟩ K f w:=by
 refine cw e c (λ_=>by simp[eqGuard,go_sem]) (λ_=>?_) h;simp only[binOp,Op.intCmp,ne_eq,not_true_eq_false,if_false];rfl
theorem C7{a b:Int}(e:ev n f x=.int .i64 a)(c:ev n f y=.int .i64 b)(h:K (bS f d (.bool (decide (b<a)))) w):R1 P n S k ⟨some d,.binOp .gtr t x y t2,ty,pos,aft,g⟩ K f w:=by
 refine cw e c (λ_=>by simp[eqGuard,go_sem]) (λ_=>?_) h;simp only[binOp,Op.intCmp,ne_eq,not_true_eq_false,if_false];rfl
theorem C8{a b:Int}(e:ev n f x=.int .i64 a)(c:ev n f y=.int .i64 b)(h:K (bS f d (.bool (decide (b<=a)))) w):R1 P n S k ⟨some d,.binOp .geq t x y t2,ty,pos,aft,g⟩ K f w:=by
 refine cw e c (λ_=>by simp[eqGuard,go_sem]) (λ_=>?_) h;simp only[binOp,Op.intCmp,ne_eq,not_true_eq_false,if_false];rfl
theorem Db{a b:Int}(e:ev n f x=.int .i64 a)(c:ev n f y=.int .i64 b)(h:K (bS f d (.bool (decide (a=b)))) w):R1 P n S k ⟨some d,.binOp .eql t x y t2,ty,pos,aft,g⟩ K f w:=by
 refine cw e c (λ_=>by simp[eqGuard,go_sem]) (λ_=>?_) h;simp only[binOp,Op.intCmp,ne_eq,not_true_eq_false,if_false];rw[show(a == b)=decide (a=b)from by rw[Bool.eq_iff_iff];simp];rfl
theorem CZ{a b:Int}(e:ev n f x=.int .i64 a)(c:ev n f y=.int .i64 b)(h:K (bS f d (.bool (decide (¬a=b)))) w):R1 P n S k ⟨some d,.binOp .neq t x y t2,ty,pos,aft,g⟩ K f w:=by
 refine cw e c (λ_=>by simp[eqGuard,go_sem]) (λ_=>?_) h;simp only[binOp,Op.intCmp,ne_eq,not_true_eq_false,if_false];rw[show(a != b)=decide (¬a=b)from by rw[Bool.eq_iff_iff];simp];rfl
theorem tQ{a m:Nat}(c:ev n f x=.int .i64 (a:Int))(e:a+(OfNat.ofNat m)<9223372036854775808)(h:K (bS f d (.int .i64 ((a+(OfNat.ofNat m):Nat):Int))) w):R1 P n S k ⟨some d,.binOp .add t x (.const (.int .i64 (OfNat.ofNat m))) t2,ty,pos,aft,g⟩ K f w:=
 mN (b:=OfNat.ofNat m) c (by rfl) e h
theorem tn{a m:Nat}(c:ev n f x=.int .i64 (a:Int))(i:a<9223372036854775808)(e:(OfNat.ofNat m)<=a)(h:K (bS f d (.int .i64 ((a-(OfNat.ofNat m):Nat):Int))) w):R1 P n S k ⟨some d,.binOp .sub t x (.const (.int .i64 (OfNat.ofNat m))) t2,ty,pos,aft,g⟩ K f w:=
 mJ (b:=OfNat.ofNat m) c (by rfl) i e h
theorem nN{a m:Nat}(c:ev n f x=.int .i64 (a:Int))(i:a<9223372036854775808)(e:0<(OfNat.ofNat m))(h:K (bS f d (.int .i64 ((a/(OfNat.ofNat m):Nat):Int))) w):R1 P n S k ⟨some d,.binOp .quo t x (.const (.int .i64 (OfNat.ofNat m))) t2,ty,pos,aft,g⟩ K f w:=
 xG (b:=OfNat.ofNat m) c (by rfl) i e h
theorem jg{a m:Nat}(c:ev n f x=.int .i64 (a:Int))(e:0<(OfNat.ofNat m))(h:K (bS f d (.int .i64 ((a%(OfNat.ofNat m):Nat):Int))) w):R1 P n S k ⟨some d,.binOp .rem t x (.const (.int .i64 (OfNat.ofNat m))) t2,ty,pos,aft,g⟩ K f w:=
 mL (b:=OfNat.ofNat m) c (by rfl) e h
theorem tk{a m:Nat}(c:ev n f x=.int .u64 (a:Int))(i:a<18446744073709551616)(e:(OfNat.ofNat m)<=a)(h:K (bS f d (.int .u64 ((a-(OfNat.ofNat m):Nat):Int))) w):R1 P n S k ⟨some d,.binOp .sub t x (.const (.int .u64 (OfNat.ofNat m))) t2,ty,pos,aft,g⟩ K f w:=
 xE (b:=OfNat.ofNat m) c (by rfl) i e h
theorem tG{a m:Nat}(c:ev n f x=.int .i64 (a:Int))(h:K (bS f d (.bool (decide (a<(OfNat.ofNat m))))) w):R1 P n S k ⟨some d,.binOp .lss t x (.const (.int .i64 (OfNat.ofNat m))) t2,ty,pos,aft,g⟩ K f w:=
 qt (b:=OfNat.ofNat m) c (by rfl) h
theorem tH{a m:Nat}(c:ev n f x=.int .i64 (a:Int))(h:K (bS f d (.bool (decide (a<=(OfNat.ofNat m))))) w):R1 P n S k ⟨some d,.binOp .leq t x (.const (.int .i64 (OfNat.ofNat m))) t2,ty,pos,aft,g⟩ K f w:=
 qu (b:=OfNat.ofNat m) c (by rfl) h
theorem tJ{a m:Nat}(c:ev n f x=.int .i64 (a:Int))(h:K (bS f d (.bool (decide ((OfNat.ofNat m)<a)))) w):R1 P n S k ⟨some d,.binOp .gtr t x (.const (.int .i64 (OfNat.ofNat m))) t2,ty,pos,aft,g⟩ K f w:=
 qv (b:=OfNat.ofNat m) c (by rfl) h
theorem tK{a m:Nat}(c:ev n f x=.int .i64 (a:Int))(h:K (bS f d (.bool (decide ((OfNat.ofNat m)<=a)))) w):R1 P n S k ⟨some d,.binOp .geq t x (.const (.int .i64 (OfNat.ofNat m))) t2,ty,pos,aft,g⟩ K f w:=
 qw (b:=OfNat.ofNat m) c (by rfl) h
theorem tN{a m:Nat}(c:ev n f x=.int .i64 (a:Int))(h:K (bS f d (.bool (decide (a=(OfNat.ofNat m))))) w):R1 P n S k ⟨some d,.binOp .eql t x (.const (.int .i64 (OfNat.ofNat m))) t2,ty,pos,aft,g⟩ K f w:=
 qC (b:=OfNat.ofNat m) c (by rfl) h
theorem tE{a m:Nat}(c:ev n f x=.int .i64 (a:Int))(h:K (bS f d (.bool (decide (¬a=(OfNat.ofNat m))))) w):R1 P n S k ⟨some d,.binOp .neq t x (.const (.int .i64 (OfNat.ofNat m))) t2,ty,pos,aft,g⟩ K f w:=
 qp (b:=OfNat.ofNat m) c (by rfl) h
theorem tL{a m:Nat}(c:ev n f x=.int .u64 (a:Int))(h:K (bS f d (.bool (decide (a=(OfNat.ofNat m))))) w):R1 P n S k ⟨some d,.binOp .eql t x (.const (.int .u64 (OfNat.ofNat m))) t2,ty,pos,aft,g⟩ K f w:=
 qz (b:=OfNat.ofNat m) c (by rfl) h
theorem tD{a m:Nat}(c:ev n f x=.int .u64 (a:Int))(h:K (bS f d (.bool (decide (¬a=(OfNat.ofNat m))))) w):R1 P n S k ⟨some d,.binOp .neq t x (.const (.int .u64 (OfNat.ofNat m))) t2,ty,pos,aft,g⟩ K f w:=
 qo (b:=OfNat.ofNat m) c (by rfl) h
theorem jh{a m:Nat}(c:ev n f x=.int .u32 (a:Int))(h:K (bS f d (.bool (decide ((OfNat.ofNat m)<=a)))) w):R1 P n S k ⟨some d,.binOp .geq t x (.const (.int .u32 (OfNat.ofNat m))) t2,ty,pos,aft,g⟩ K f w:=
 xQ (b:=OfNat.ofNat m) c (by rfl) h
theorem tM{a m:Nat}(c:ev n f x=.int .u32 (a:Int))(h:K (bS f d (.bool (decide (a=(OfNat.ofNat m))))) w):R1 P n S k ⟨some d,.binOp .eql t x (.const (.int .u32 (OfNat.ofNat m))) t2,ty,pos,aft,g⟩ K f w:=
 qB (b:=OfNat.ofNat m) c (by rfl) h
theorem tO{a m:Nat}(c:ev n f x=.int .u32 (a:Int))(i:a<4294967296)(e:(OfNat.ofNat m)<4294967296)(h:K (bS f d (.int .u32 ((a &&& (OfNat.ofNat m):Nat):Int))) w):R1 P n S k ⟨some d,.binOp .and t x (.const (.int .u32 (OfNat.ofNat m))) t2,ty,pos,aft,g⟩ K f w:=
 xY (b:=OfNat.ofNat m) c (by rfl) i e h
theorem tw{a m:Nat}{c:IntKind}(e:ev n f x=.int .u64 (a:Int))(i:(OfNat.ofNat m)<64)(h:K (bS f d (.int .u64 (((a*2^(OfNat.ofNat m))%18446744073709551616:Nat):Int))) w):R1 P n S k ⟨some d,.binOp .shl t x (.const (.int c (OfNat.ofNat m))) t2,ty,pos,aft,g⟩ K f w:=
 kH (b:=OfNat.ofNat m) e (by rfl) i h
theorem tu{a m:Nat}{c:IntKind}(e:ev n f x=.int .u64 (a:Int))(i:(OfNat.ofNat m)<64)(h:K (bS f d (.int .u64 ((a/2^(OfNat.ofNat m):Nat):Int))) w):R1 P n S k ⟨some d,.binOp .shr t x (.const (.int c (OfNat.ofNat m))) t2,ty,pos,aft,g⟩ K f w:=
 mK (b:=OfNat.ofNat m) e (by rfl) i h
theorem tB{a m:Nat}{c:IntKind}(e:ev n f x=.int .u32 (a:Int))(i:(OfNat.ofNat m)<32)(h:K (bS f d (.int .u32 (((a*2^(OfNat.ofNat m))%4294967296:Nat):Int))) w):R1 P n S k ⟨some d,.binOp .shl t x (.const (.int c (OfNat.ofNat m))) t2,ty,pos,aft,g⟩ K f w:=
 qn (b:=OfNat.ofNat m) e (by rfl) i h
theorem kG{a m:Nat}{c:IntKind}(e:ev n f x=.int .u32 (a:Int))(i:(OfNat.ofNat m)<32)(h:K (bS f d (.int .u32 ((a/2^(OfNat.ofNat m):Nat):Int))) w):R1 P n S k ⟨some d,.binOp .shr t x (.const (.int c (OfNat.ofNat m))) t2,ty,pos,aft,g⟩ K f w:=
 qm (b:=OfNat.ofNat m) e (by rfl) i h
theorem tP{b m:Nat}(c:ev n f y=.int .i64 (b:Int))(e:(OfNat.ofNat m)+b<9223372036854775808)(h:K (bS f d (.int .i64 (((OfNat.ofNat m)+b:Nat):Int))) w):R1 P n S k ⟨some d,.binOp .add t (.const (.int .i64 (OfNat.ofNat m))) y t2,ty,pos,aft,g⟩ K f w:=
 mN (a:=OfNat.ofNat m) (by rfl) c e h
theorem tl{b m:Nat}(c:ev n f y=.int .i64 (b:Int))(i:(OfNat.ofNat m)<9223372036854775808)(e:b<=(OfNat.ofNat m))(h:K (bS f d (.int .i64 (((OfNat.ofNat m)-b:Nat):Int))) w):R1 P n S k ⟨some d,.binOp .sub t (.const (.int .i64 (OfNat.ofNat m))) y t2,ty,pos,aft,g⟩ K f w:=
 mJ (a:=OfNat.ofNat m) (by rfl) c i e h
theorem tF{b m:Nat}(c:ev n f y=.int .i64 (b:Int))(e:(OfNat.ofNat m)*b<9223372036854775808)(h:K (bS f d (.int .i64 (((OfNat.ofNat m)*b:Nat):Int))) w):R1 P n S k ⟨some d,.binOp .mul t (.const (.int .i64 (OfNat.ofNat m))) y t2,ty,pos,aft,g⟩ K f w:=
 jD (a:=OfNat.ofNat m) (by rfl) c e h
theorem tz{b m:Nat}{c:IntKind}(e:ev n f y=.int c (b:Int))(c:b<32)(h:K (bS f d (.int .u32 ((((OfNat.ofNat m)*2^b)%4294967296:Nat):Int))) w):R1 P n S k ⟨some d,.binOp .shl t (.const (.int .u32 (OfNat.ofNat m))) y t2,ty,pos,aft,g⟩ K f w:=
 qn (a:=OfNat.ofNat m) (by rfl) e c h
