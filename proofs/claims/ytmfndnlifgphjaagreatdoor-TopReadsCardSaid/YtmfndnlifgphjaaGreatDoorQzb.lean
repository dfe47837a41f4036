import Derived.Test.YtmfndnlifgphjaaGreatDoorQza
import Derived.WalkKit
import Derived.Laws.BitsAllLaws
set_option maxHeartbeats 64000000
namespace Go.cW
section
open Go Go.RowKit
def mv(f:Fr)(d t:Nat):Fr:=λi=>bif Nat.beq i d then f t else f i
theorem wrap_i64{a:Int}(h:-9223372036854775808<=a)(b:a<9223372036854775808):IntKind.i64.wrap a=a:=by rw[IntKind.wrap_i64];omega
theorem lz{a:Nat}(h:a<9223372036854775808):IntKind.i64.wrap (a:Int)=a:=wrap_i64 (by omega) (by omega)
theorem wrap_u64(a:Int):IntKind.u64.wrap a=a%18446744073709551616:=IntKind.wrap_u64 a
theorem wrap_u32(a:Int):IntKind.u32.wrap a=a%4294967296:=IntKind.wrap_u32 a
theorem EF(a:Nat):IntKind.u32.wrap (a:Int)=((a%4294967296:Nat):Int):=by rw[wrap_u32];omega
theorem kf{a:Nat}(h:a<18446744073709551616):IntKind.u64.wrap (a:Int)=a:=by rw[wrap_u64];omega
theorem uO{a:Nat}(h:a<4294967296):IntKind.u32.wrap (a:Int)=a:=by rw[wrap_u32];omega
section
variable {P:Program}{n:Nat}{S:World->World->Prop}{k:Nat}{K:Fr->World->Prop}{f:Fr}{w:World}
 {d ty t t2:Nat} {x y:Operand} {pos:String} {aft:Array Edge} {g:Option (Nat×Bool)}
theorem IK{i:Nat}(a:Nat.blt i n=true)(h:K (mv f d i) w):R1 P n S k ⟨some d,.move (.tmp i),ty,pos,aft,g⟩ K f w:=by
 refine cH (v:=ev n f (.tmp i)) (λw=>rfl) ?_;have e:fZ f (some d) (ev n f (.tmp i))=mv f d i:=by funext j;simp[ev,a,fZ,mv,cg]
 rw[e];exact h
theorem Dj{i:Nat}(a:Nat.blt i n=true)(h:K (mv f d i) w):R1 P n S k ⟨some d,.assign (.tmp i),ty,pos,aft,g⟩ K f w:=by
 refine cH (v:=ev n f (.tmp i)) (λw=>rfl) ?_;have e:fZ f (some d) (ev n f (.tmp i))=mv f d i:=by funext j;simp[ev,a,fZ,mv,cg]
 rw[e];exact h
theorem FY{kd:IntKind}{m:Nat}(h:K (cg f d (.int kd (((OfNat.ofNat m:Nat)):Int))) w):R1 P n S k ⟨some d,.move (.const (.int kd (OfNat.ofNat m))),ty,pos,aft,g⟩ K f w:=
 cH (v:=.int kd (((OfNat.ofNat m:Nat)):Int)) (λ_=>rfl) h
theorem Bt{kd:IntKind}{m:Nat}(h:K (cg f d (.int kd (((OfNat.ofNat m:Nat)):Int))) w):R1 P n S k ⟨some d,.assign (.const (.int kd (OfNat.ofNat m))),ty,pos,aft,g⟩ K f w:=
 cH (v:=.int kd (((OfNat.ofNat m:Nat)):Int)) (λ_=>rfl) h
theorem Dk{v:Value}(h:K (cg f d v) w):R1 P n S k ⟨some d,.assign (.const v),ty,pos,aft,g⟩ K f w:=
 cH (v:=v) (λ_=>rfl) h
theorem cw{a:BinOp}{r vx vy:Value}(c:ev n f x=vx)(b:ev n f y=vy)(i:∀w,(eqGuard a t x y vx vy).run P w=.ok () w)(e:∀w,(binOp a t vx vy).run P w=.ok r w)
 (h:K (cg f d r) w):R1 P n S k ⟨some d,.binOp a t x y t2,ty,pos,aft,g⟩ K f w:=by
 refine cH (v:=r) (λw=>?_) h;simp only[execOp,c,b,Sem.run_bind,i,e,Result.andThen_ok,Sem.run_pure]
theorem pk{a b:Nat}(e:ev n f x=.int .i64 (a:Int))(c:ev n f y=.int .i64 (b:Int))(i:a+b<9223372036854775808)(h:K (cg f d (.int .i64 ((a+b:Nat):Int))) w):R1 P n S k ⟨some d,.binOp .add t x y t2,ty,pos,aft,g⟩ K f w:=by
 refine cw e c (λ_=>by simp[eqGuard,go_sem]) (λ_=>?_) h;simp only[binOp,Op.intArith,ne_eq,not_true_eq_false,if_false];rw[<-Int.natCast_add,lz i];rfl
theorem o_{a b:Nat}(e:ev n f x=.int .i64 (a:Int))(c:ev n f y=.int .i64 (b:Int))(h:a<9223372036854775808)(i:b<=a)(h:K (cg f d (.int .i64 ((a-b:Nat):Int))) w):R1 P n S k ⟨some d,.binOp .sub t x y t2,ty,pos,aft,g⟩ K f w:=by
 refine cw e c (λ_=>by simp[eqGuard,go_sem]) (λ_=>?_) h;simp only[binOp,Op.intArith,ne_eq,not_true_eq_false,if_false];rw[<-Int.natCast_sub i,lz aq];rfl
theorem kK{a b:Nat}(e:ev n f x=.int .i64 (a:Int))(c:ev n f y=.int .i64 (b:Int))(i:a*b<9223372036854775808)(h:K (cg f d (.int .i64 ((a*b:Nat):Int))) w):R1 P n S k ⟨some d,.binOp .mul t x y t2,ty,pos,aft,g⟩ K f w:=by
 refine cw e c (λ_=>by simp[eqGuard,go_sem]) (λ_=>?_) h;simp only[binOp,Op.intArith,ne_eq,not_true_eq_false,if_false];rw[<-Int.natCast_mul,lz i];rfl
theorem CY{a b:Nat}(e:ev n f x=.int .i64 (a:Int))(c:ev n f y=.int .i64 (b:Int))(i:a<9223372036854775808)(h:0<b)(h:K (cg f d (.int .i64 ((a/b:Nat):Int))) w):R1 P n S k ⟨some d,.binOp .quo t x y t2,ty,pos,aft,g⟩ K f w:=by
 refine cw e c (λ_=>by simp[eqGuard,go_sem]) (λ_=>?_) h;have e:((b:Int)=0)=False:=by(simp;omega)
 simp only[binOp,Op.intDiv,ne_eq,not_true_eq_false,if_false,e];rw[<-Int.ofNat_tdiv,lz (Nat.lt_of_le_of_lt (Nat.div_le_self _ _) i)];rfl
theorem pg{a b:Nat}(e:ev n f x=.int .i64 (a:Int))(c:ev n f y=.int .i64 (b:Int))(h:0<b)(h:K (cg f d (.int .i64 ((a%b:Nat):Int))) w):R1 P n S k ⟨some d,.binOp .rem t x y t2,ty,pos,aft,g⟩ K f w:=by
 refine cw e c (λ_=>by simp[eqGuard,go_sem]) (λ_=>?_) h;have e:((b:Int)=0)=False:=by(simp;omega)
 simp only[binOp,Op.intDiv,ne_eq,not_true_eq_false,if_false,e];rw[<-Int.ofNat_tmod];rfl
theorem Dp{a b:Nat}(e:ev n f x=.int .u64 (a:Int))(c:ev n f y=.int .u64 (b:Int))(i:a+b<18446744073709551616)(h:K (cg f d (.int .u64 ((a+b:Nat):Int))) w):R1 P n S k ⟨some d,.binOp .add t x y t2,ty,pos,aft,g⟩ K f w:=by
 refine cw e c (λ_=>by simp[eqGuard,go_sem]) (λ_=>?_) h;simp only[binOp,Op.intArith,ne_eq,not_true_eq_false,if_false];rw[<-Int.natCast_add,kf i];rfl
theorem CP{a b:Nat}(e:ev n f x=.int .u64 (a:Int))(c:ev n f y=.int .u64 (b:Int))(h:a<18446744073709551616)(i:b<=a)(h:K (cg f d (.int .u64 ((a-b:Nat):Int))) w):R1 P n S k ⟨some d,.binOp .sub t x y t2,ty,pos,aft,g⟩ K f w:=by
 refine cw e c (λ_=>by simp[eqGuard,go_sem]) (λ_=>?_) h;simp only[binOp,Op.intArith,ne_eq,not_true_eq_false,if_false];rw[<-Int.natCast_sub i,kf aq];rfl
theorem jO{a b:Nat}(e:ev n f x=.int .u64 (a:Int))(c:ev n f y=.int .u64 (b:Int))(i:a*b<18446744073709551616)(h:K (cg f d (.int .u64 ((a*b:Nat):Int))) w):R1 P n S k ⟨some d,.binOp .mul t x y t2,ty,pos,aft,g⟩ K f w:=by
 refine cw e c (λ_=>by simp[eqGuard,go_sem]) (λ_=>?_) h;simp only[binOp,Op.intArith,ne_eq,not_true_eq_false,if_false];rw[<-Int.natCast_mul,kf i];rfl
theorem mR{a b:Nat}(e:ev n f x=.int .u64 (a:Int))(c:ev n f y=.int .u64 (b:Int))(i:a<18446744073709551616)(h:0<b)(h:K (cg f d (.int .u64 ((a/b:Nat):Int))) w):R1 P n S k ⟨some d,.binOp .quo t x y t2,ty,pos,aft,g⟩ K f w:=by
 refine cw e c (λ_=>by simp[eqGuard,go_sem]) (λ_=>?_) h;have e:((b:Int)=0)=False:=by(simp;omega)
 simp only[binOp,Op.intDiv,ne_eq,not_true_eq_false,if_false,e];rw[<-Int.ofNat_tdiv,kf (Nat.lt_of_le_of_lt (Nat.div_le_self _ _) i)];rfl
theorem kJ{a b:Nat}(e:ev n f x=.int .u64 (a:Int))(c:ev n f y=.int .u64 (b:Int))(h:0<b)(h:K (cg f d (.int .u64 ((a%b:Nat):Int))) w):R1 P n S k ⟨some d,.binOp .rem t x y t2,ty,pos,aft,g⟩ K f w:=by
 refine cw e c (λ_=>by simp[eqGuard,go_sem]) (λ_=>?_) h;have e:((b:Int)=0)=False:=by(simp;omega)
 simp only[binOp,Op.intDiv,ne_eq,not_true_eq_false,if_false,e];rw[<-Int.ofNat_tmod];rfl
theorem Dq{a b:Nat}(e:ev n f x=.int .u32 (a:Int))(c:ev n f y=.int .u32 (b:Int))(i:a+b<4294967296)(h:K (cg f d (.int .u32 ((a+b:Nat):Int))) w):R1 P n S k ⟨some d,.binOp .add t x y t2,ty,pos,aft,g⟩ K f w:=by
 refine cw e c (λ_=>by simp[eqGuard,go_sem]) (λ_=>?_) h;simp only[binOp,Op.intArith,ne_eq,not_true_eq_false,if_false];rw[<-Int.natCast_add,uO i];rfl
theorem CX{a b:Nat}(e:ev n f x=.int .u32 (a:Int))(c:ev n f y=.int .u32 (b:Int))(i:a<4294967296)(h:0<b)(h:K (cg f d (.int .u32 ((a/b:Nat):Int))) w):R1 P n S k ⟨some d,.binOp .quo t x y t2,ty,pos,aft,g⟩ K f w:=by
 refine cw e c (λ_=>by simp[eqGuard,go_sem]) (λ_=>?_) h;have e:((b:Int)=0)=False:=by(simp;omega)
 simp only[binOp,Op.intDiv,ne_eq,not_true_eq_false,if_false,e];rw[<-Int.ofNat_tdiv,uO (Nat.lt_of_le_of_lt (Nat.div_le_self _ _) i)];rfl
theorem CW{a b:Nat}(e:ev n f x=.int .u32 (a:Int))(c:ev n f y=.int .u32 (b:Int))(h:0<b)(h:K (cg f d (.int .u32 ((a%b:Nat):Int))) w):R1 P n S k ⟨some d,.binOp .rem t x y t2,ty,pos,aft,g⟩ K f w:=by
 refine cw e c (λ_=>by simp[eqGuard,go_sem]) (λ_=>?_) h;have e:((b:Int)=0)=False:=by(simp;omega)
 simp only[binOp,Op.intDiv,ne_eq,not_true_eq_false,if_false,e];rw[<-Int.ofNat_tmod];rfl
theorem iy{a b:Nat}(e:ev n f x=.int .u64 (a:Int))(c:ev n f y=.int .u64 (b:Int))(h:b<=18446744073709551616)(h:K (cg f d (.int .u64 (((a+(18446744073709551616-b))%18446744073709551616:Nat):Int))) w):R1 P n S k ⟨some d,.binOp .sub t x y t2,ty,pos,aft,g⟩ K f w:=by
 refine cw e c (λ_=>by simp[eqGuard,go_sem]) (λ_=>?_) h;simp only[binOp,Op.intArith,ne_eq,not_true_eq_false,if_false];rw[wrap_u64,show((a:Int)-b)%18446744073709551616=(((a+(18446744073709551616-b))%18446744073709551616:Nat):Int)from aq];rfl
theorem Bv{a b:Nat}(e:ev n f x=.int .u32 (a:Int))(c:ev n f y=.int .u32 (b:Int))(h:K (cg f d (.int .u32 (((a+b)%4294967296:Nat):Int))) w):R1 P n S k ⟨some d,.binOp .add t x y t2,ty,pos,aft,g⟩ K f w:=by
 refine cw e c (λ_=>by simp[eqGuard,go_sem]) (λ_=>?_) h;simp only[binOp,Op.intArith,ne_eq,not_true_eq_false,if_false];rw[<-Int.natCast_add,wrap_u32];rfl
theorem tU{a b:Nat}(e:ev n f x=.int .i64 (a:Int))(c:ev n f y=.int .i64 (b:Int))(h:K (cg f d (.bool (decide (a<b)))) w):R1 P n S k ⟨some d,.binOp .lss t x y t2,ty,pos,aft,g⟩ K f w:=by
 refine cw e c (λ_=>by simp[eqGuard,go_sem]) (λ_=>?_) h;simp only[binOp,Op.intCmp,ne_eq,not_true_eq_false,if_false];rw[show(decide ((a:Int)<b))=decide (a<b)from by rw[Bool.eq_iff_iff];simp];rfl
theorem tW{a b:Nat}(e:ev n f x=.int .i64 (a:Int))(c:ev n f y=.int .i64 (b:Int))(h:K (cg f d (.bool (decide (a<=b)))) w):R1 P n S k ⟨some d,.binOp .leq t x y t2,ty,pos,aft,g⟩ K f w:=by
 refine cw e c (λ_=>by simp[eqGuard,go_sem]) (λ_=>?_) h;simp only[binOp,Op.intCmp,ne_eq,not_true_eq_false,if_false];rw[show(decide ((a:Int)<=b))=decide (a<=b)from by rw[Bool.eq_iff_iff];simp];rfl
theorem tY{a b:Nat}(e:ev n f x=.int .i64 (a:Int))(c:ev n f y=.int .i64 (b:Int))(h:K (cg f d (.bool (decide (b<a)))) w):R1 P n S k ⟨some d,.binOp .gtr t x y t2,ty,pos,aft,g⟩ K f w:=by
 refine cw e c (λ_=>by simp[eqGuard,go_sem]) (λ_=>?_) h;simp only[binOp,Op.intCmp,ne_eq,not_true_eq_false,if_false];rw[show(decide ((a:Int)>b))=decide (b<a)from by rw[Bool.eq_iff_iff];simp];rfl
theorem tZ{a b:Nat}(e:ev n f x=.int .i64 (a:Int))(c:ev n f y=.int .i64 (b:Int))(h:K (cg f d (.bool (decide (b<=a)))) w):R1 P n S k ⟨some d,.binOp .geq t x y t2,ty,pos,aft,g⟩ K f w:=by
 refine cw e c (λ_=>by simp[eqGuard,go_sem]) (λ_=>?_) h;simp only[binOp,Op.intCmp,ne_eq,not_true_eq_false,if_false];rw[show(decide ((a:Int)>=b))=decide (b<=a)from by rw[Bool.eq_iff_iff];simp];rfl
theorem ud{a b:Nat}(e:ev n f x=.int .i64 (a:Int))(c:ev n f y=.int .i64 (b:Int))(h:K (cg f d (.bool (decide (a=b)))) w):R1 P n S k ⟨some d,.binOp .eql t x y t2,ty,pos,aft,g⟩ K f w:=by
 refine cw e c (λ_=>by simp[eqGuard,go_sem]) (λ_=>?_) h;simp only[binOp,Op.intCmp,ne_eq,not_true_eq_false,if_false];rw[show((a:Int) == b)=decide (a=b)from by rw[Bool.eq_iff_iff];simp;omega];rfl
theorem tS{a b:Nat}(e:ev n f x=.int .i64 (a:Int))(c:ev n f y=.int .i64 (b:Int))(h:K (cg f d (.bool (decide (¬a=b)))) w):R1 P n S k ⟨some d,.binOp .neq t x y t2,ty,pos,aft,g⟩ K f w:=by
 refine cw e c (λ_=>by simp[eqGuard,go_sem]) (λ_=>?_) h;simp only[binOp,Op.intCmp,ne_eq,not_true_eq_false,if_false];rw[show((a:Int) != b)=decide (¬a=b)from by rw[Bool.eq_iff_iff];simp;omega];rfl
theorem tT{a b:Nat}(e:ev n f x=.int .u64 (a:Int))(c:ev n f y=.int .u64 (b:Int))(h:K (cg f d (.bool (decide (a<b)))) w):R1 P n S k ⟨some d,.binOp .lss t x y t2,ty,pos,aft,g⟩ K f w:=by
 refine cw e c (λ_=>by simp[eqGuard,go_sem]) (λ_=>?_) h;simp only[binOp,Op.intCmp,ne_eq,not_true_eq_false,if_false];rw[show(decide ((a:Int)<b))=decide (a<b)from by rw[Bool.eq_iff_iff];simp];rfl
theorem tV{a b:Nat}(e:ev n f x=.int .u64 (a:Int))(c:ev n f y=.int .u64 (b:Int))(h:K (cg f d (.bool (decide (a<=b)))) w):R1 P n S k ⟨some d,.binOp .leq t x y t2,ty,pos,aft,g⟩ K f w:=by
 refine cw e c (λ_=>by simp[eqGuard,go_sem]) (λ_=>?_) h;simp only[binOp,Op.intCmp,ne_eq,not_true_eq_false,if_false];rw[show(decide ((a:Int)<=b))=decide (a<=b)from by rw[Bool.eq_iff_iff];simp];rfl
theorem tX{a b:Nat}(e:ev n f x=.int .u64 (a:Int))(c:ev n f y=.int .u64 (b:Int))(h:K (cg f d (.bool (decide (b<a)))) w):R1 P n S k ⟨some d,.binOp .gtr t x y t2,ty,pos,aft,g⟩ K f w:=by
 refine cw e c (λ_=>by simp[eqGuard,go_sem]) (λ_=>?_) h;simp only[binOp,Op.intCmp,ne_eq,not_true_eq_false,if_false];rw[show(decide ((a:Int)>b))=decide (b<a)from by rw[Bool.eq_iff_iff];simp];rfl
theorem t_{a b:Nat}(e:ev n f x=.int .u64 (a:Int))(c:ev n f y=.int .u64 (b:Int))(h:K (cg f d (.bool (decide (a=b)))) w):R1 P n S k ⟨some d,.binOp .eql t x y t2,ty,pos,aft,g⟩ K f w:=by
 refine cw e c (λ_=>by simp[eqGuard,go_sem]) (λ_=>?_) h;simp only[binOp,Op.intCmp,ne_eq,not_true_eq_false,if_false];rw[show((a:Int) == b)=decide (a=b)from by rw[Bool.eq_iff_iff];simp;omega];rfl
theorem tR{a b:Nat}(e:ev n f x=.int .u64 (a:Int))(c:ev n f y=.int .u64 (b:Int))(h:K (cg f d (.bool (decide (¬a=b)))) w):R1 P n S k ⟨some d,.binOp .neq t x y t2,ty,pos,aft,g⟩ K f w:=by
 refine cw e c (λ_=>by simp[eqGuard,go_sem]) (λ_=>?_) h;simp only[binOp,Op.intCmp,ne_eq,not_true_eq_false,if_false];rw[show((a:Int) != b)=decide (¬a=b)from by rw[Bool.eq_iff_iff];simp;omega];rfl
theorem C6{a b:Nat}(e:ev n f x=.int .u32 (a:Int))(c:ev n f y=.int .u32 (b:Int))(h:K (cg f d (.bool (decide (a<b)))) w):R1 P n S k ⟨some d,.binOp .lss t x y t2,ty,pos,aft,g⟩ K f w:=by
 refine cw e c (λ_=>by simp[eqGuard,go_sem]) (λ_=>?_) h;simp only[binOp,Op.intCmp,ne_eq,not_true_eq_false,if_false];rw[show(decide ((a:Int)<b))=decide (a<b)from by rw[Bool.eq_iff_iff];simp];rfl
theorem Dc{a b:Nat}(e:ev n f x=.int .u32 (a:Int))(c:ev n f y=.int .u32 (b:Int))(h:K (cg f d (.bool (decide (b<a)))) w):R1 P n S k ⟨some d,.binOp .gtr t x y t2,ty,pos,aft,g⟩ K f w:=by
 refine cw e c (λ_=>by simp[eqGuard,go_sem]) (λ_=>?_) h;simp only[binOp,Op.intCmp,ne_eq,not_true_eq_false,if_false];rw[show(decide ((a:Int)>b))=decide (b<a)from by rw[Bool.eq_iff_iff];simp];rfl
theorem Df{a b:Nat}(e:ev n f x=.int .u32 (a:Int))(c:ev n f y=.int .u32 (b:Int))(h:K (cg f d (.bool (decide (b<=a)))) w):R1 P n S k ⟨some d,.binOp .geq t x y t2,ty,pos,aft,g⟩ K f w:=by
 refine cw e c (λ_=>by simp[eqGuard,go_sem]) (λ_=>?_) h;simp only[binOp,Op.intCmp,ne_eq,not_true_eq_false,if_false];rw[show(decide ((a:Int)>=b))=decide (b<=a)from by rw[Bool.eq_iff_iff];simp];rfl
theorem uc{a b:Nat}(e:ev n f x=.int .u32 (a:Int))(c:ev n f y=.int .u32 (b:Int))(h:K (cg f d (.bool (decide (a=b)))) w):R1 P n S k ⟨some d,.binOp .eql t x y t2,ty,pos,aft,g⟩ K f w:=by
 refine cw e c (λ_=>by simp[eqGuard,go_sem]) (λ_=>?_) h;simp only[binOp,Op.intCmp,ne_eq,not_true_eq_false,if_false];rw[show((a:Int) == b)=decide (a=b)from by rw[Bool.eq_iff_iff];simp;omega];rfl
theorem C5{a b:Nat}(e:ev n f x=.int .u32 (a:Int))(c:ev n f y=.int .u32 (b:Int))(h:K (cg f d (.bool (decide (¬a=b)))) w):R1 P n S k ⟨some d,.binOp .neq t x y t2,ty,pos,aft,g⟩ K f w:=by
 refine cw e c (λ_=>by simp[eqGuard,go_sem]) (λ_=>?_) h;simp only[binOp,Op.intCmp,ne_eq,not_true_eq_false,if_false];rw[show((a:Int) != b)=decide (¬a=b)from by rw[Bool.eq_iff_iff];simp;omega];rfl
theorem FZ{a b:Nat}(e:ev n f x=.int .u8 (a:Int))(c:ev n f y=.int .u8 (b:Int))(h:K (cg f d (.bool (decide (a<b)))) w):R1 P n S k ⟨some d,.binOp .lss t x y t2,ty,pos,aft,g⟩ K f w:=by
 refine cw e c (λ_=>by simp[eqGuard,go_sem]) (λ_=>?_) h;simp only[binOp,Op.intCmp,ne_eq,not_true_eq_false,if_false];rw[show(decide ((a:Int)<b))=decide (a<b)from by rw[Bool.eq_iff_iff];simp];rfl
theorem F7{a b:Nat}(e:ev n f x=.int .u8 (a:Int))(c:ev n f y=.int .u8 (b:Int))(h:K (cg f d (.bool (decide (b<a)))) w):R1 P n S k ⟨some d,.binOp .gtr t x y t2,ty,pos,aft,g⟩ K f w:=by
 refine cw e c (λ_=>by simp[eqGuard,go_sem]) (λ_=>?_) h;simp only[binOp,Op.intCmp,ne_eq,not_true_eq_false,if_false];rw[show(decide ((a:Int)>b))=decide (b<a)from by rw[Bool.eq_iff_iff];simp];rfl
theorem F8{a b:Nat}(e:ev n f x=.int .u8 (a:Int))(c:ev n f y=.int .u8 (b:Int))(h:K (cg f d (.bool (decide (a=b)))) w):R1 P n S k ⟨some d,.binOp .eql t x y t2,ty,pos,aft,g⟩ K f w:=by
 refine cw e c (λ_=>by simp[eqGuard,go_sem]) (λ_=>?_) h;simp only[binOp,Op.intCmp,ne_eq,not_true_eq_false,if_false];rw[show((a:Int) == b)=decide (a=b)from by rw[Bool.eq_iff_iff];simp;omega];rfl
theorem jN{a b:Nat}(e:ev n f x=.int .u64 (a:Int))(c:ev n f y=.int .u64 (b:Int))(j:a<18446744073709551616)(i:b<18446744073709551616)(h:K (cg f d (.int .u64 ((a ||| b:Nat):Int))) w):R1 P n S k ⟨some d,.binOp .or t x y t2,ty,pos,aft,g⟩ K f w:=by
 refine cw e c (λ_=>by simp[eqGuard,go_sem]) (λ_=>?_) h;have e:=u64_or_nat a b j i;simp only[binOp,Op.intBits,ne_eq,not_true_eq_false,if_false];change Result.ok (Value.int .u64 (bits .or .u64 (a:Int) (b:Int))) _=_;rw[e]
theorem wh{a b:Nat}(e:ev n f x=.int .u32 (a:Int))(c:ev n f y=.int .u32 (b:Int))(j:a<4294967296)(i:b<4294967296)(h:K (cg f d (.int .u32 ((a ||| b:Nat):Int))) w):R1 P n S k ⟨some d,.binOp .or t x y t2,ty,pos,aft,g⟩ K f w:=by
 refine cw e c (λ_=>by simp[eqGuard,go_sem]) (λ_=>?_) h;have e:=u32_or_nat a b j i;simp only[binOp,Op.intBits,ne_eq,not_true_eq_false,if_false];change Result.ok (Value.int .u32 (bits .or .u32 (a:Int) (b:Int))) _=_;rw[e]
theorem Dm{a b:Nat}(e:ev n f x=.int .u32 (a:Int))(c:ev n f y=.int .u32 (b:Int))(j:a<4294967296)(i:b<4294967296)(h:K (cg f d (.int .u32 ((a &&& b:Nat):Int))) w):R1 P n S k ⟨some d,.binOp .and t x y t2,ty,pos,aft,g⟩ K f w:=by
 refine cw e c (λ_=>by simp[eqGuard,go_sem]) (λ_=>?_) h;have e:=u32_and_nat a b j i;simp only[binOp,Op.intBits,ne_eq,not_true_eq_false,if_false];change Result.ok (Value.int .u32 (bits .and .u32 (a:Int) (b:Int))) _=_;rw[e]
theorem mQ{a b:Nat}{c:IntKind}(i:ev n f x=.int .u64 (a:Int))(e:ev n f y=.int c (b:Int))(c:b<64)(h:K (cg f d (.int .u64 (((a*2^b)%18446744073709551616:Nat):Int))) w):R1 P n S k ⟨some d,.binOp .shl t x y t2,ty,pos,aft,g⟩ K f w:=by
 refine cw i e (λ_=>by simp[eqGuard,go_sem]) (λ_=>?_) h;have e:min b 64=b:=aq;have c:((b:Int)<0)=False:=aA;simp only[binOp,Op.shift,c,if_false,Int.toNat_natCast,IntKind.bits,e];rw[wrap_u64,show((a:Int)*2^b)%18446744073709551616=(((a*2^b)%18446744073709551616:Nat):Int)from aA];rfl
theorem pf{a b:Nat}{c:IntKind}(i:ev n f x=.int .u64 (a:Int))(e:ev n f y=.int c (b:Int))(c:b<64)(h:K (cg f d (.int .u64 ((a/2^b:Nat):Int))) w):R1 P n S k ⟨some d,.binOp .shr t x y t2,ty,pos,aft,g⟩ K f w:=by
 refine cw i e (λ_=>by simp[eqGuard,go_sem]) (λ_=>?_) h;have e:min b 64=b:=aq;have c:((b:Int)<0)=False:=aA;simp only[binOp,Op.shift,c,if_false,Int.toNat_natCast,IntKind.bits,e];rw[show(a:Int).fdiv (2^b)=((a/2^b:Nat):Int)from by rw[Int.fdiv_eq_ediv_of_nonneg _ (Int.le_of_lt (Int.pow_pos aw))];simp];rfl
theorem tO{a b:Nat}{c:IntKind}(i:ev n f x=.int .u32 (a:Int))(e:ev n f y=.int c (b:Int))(c:b<32)(h:K (cg f d (.int .u32 (((a*2^b)%4294967296:Nat):Int))) w):R1 P n S k ⟨some d,.binOp .shl t x y t2,ty,pos,aft,g⟩ K f w:=by
 refine cw i e (λ_=>by simp[eqGuard,go_sem]) (λ_=>?_) h;have e:min b 32=b:=aq;have c:((b:Int)<0)=False:=aA;simp only[binOp,Op.shift,c,if_false,Int.toNat_natCast,IntKind.bits,e];rw[wrap_u32,show((a:Int)*2^b)%4294967296=(((a*2^b)%4294967296:Nat):Int)from aA];rfl
theorem tN{a b:Nat}{c:IntKind}(i:ev n f x=.int .u32 (a:Int))(e:ev n f y=.int c (b:Int))(c:b<32)(h:K (cg f d (.int .u32 ((a/2^b:Nat):Int))) w):R1 P n S k ⟨some d,.binOp .shr t x y t2,ty,pos,aft,g⟩ K f w:=by
 refine cw i e (λ_=>by simp[eqGuard,go_sem]) (λ_=>?_) h;have e:min b 32=b:=aq;have c:((b:Int)<0)=False:=aA;simp only[binOp,Op.shift,c,if_false,Int.toNat_natCast,IntKind.bits,e];rw[show(a:Int).fdiv (2^b)=((a/2^b:Nat):Int)from by rw[Int.fdiv_eq_ediv_of_nonneg _ (Int.le_of_lt (Int.pow_pos aw))];simp];rfl
theorem I3{a b:Int}(e:ev n f x=.int .i64 a)(c:ev n f y=.int .i64 b)(h1:-9223372036854775808<=a+b)(i:a+b<9223372036854775808)(h:K (cg f d (.int .i64 (a+b))) w):R1 P n S k ⟨some d,.binOp .add t x y t2,ty,pos,aft,g⟩ K f w:=by
 refine cw e c (λ_=>by simp[eqGuard,go_sem]) (λ_=>?_) h;simp only[binOp,Op.intArith,ne_eq,not_true_eq_false,if_false];rw[wrap_i64 h1 i];rfl
theorem IH{a b:Int}(e:ev n f x=.int .i64 a)(c:ev n f y=.int .i64 b)(h1:-9223372036854775808<=a-b)(i:a-b<9223372036854775808)(h:K (cg f d (.int .i64 (a-b))) w):R1 P n S k ⟨some d,.binOp .sub t x y t2,ty,pos,aft,g⟩ K f w:=by
 refine cw e c (λ_=>by simp[eqGuard,go_sem]) (λ_=>?_) h;simp only[binOp,Op.intArith,ne_eq,not_true_eq_false,if_false];rw[wrap_i64 h1 i];rfl
theorem fg{a b:Int}(e:ev n f x=.int .i64 a)(c:ev n f y=.int .i64 b)(h1:-9223372036854775808<=a*b)(i:a*b<9223372036854775808)(h:K (cg f d (.int .i64 (a*b))) w):R1 P n S k ⟨some d,.binOp .mul t x y t2,ty,pos,aft,g⟩ K f w:=by
 refine cw e c (λ_=>by simp[eqGuard,go_sem]) (λ_=>?_) h;simp only[binOp,Op.intArith,ne_eq,not_true_eq_false,if_false];rw[wrap_i64 h1 i];rfl
theorem IL{a b:Int}(e:ev n f x=.int .i64 a)(c:ev n f y=.int .i64 b)(h:K (cg f d (.bool (decide (a<b)))) w):R1 P n S k ⟨some d,.binOp .lss t x y t2,ty,pos,aft,g⟩ K f w:=by
 refine cw e c (λ_=>by simp[eqGuard,go_sem]) (λ_=>?_) h;simp only[binOp,Op.intCmp,ne_eq,not_true_eq_false,if_false];rfl
theorem IM{a b:Int}(e:ev n f x=.int .i64 a)(c:ev n f y=.int .i64 b)(h:K (cg f d (.bool (decide (a<=b)))) w):R1 P n S k ⟨some d,.binOp .leq t x y t2,ty,pos,aft,g⟩ K f w:=by
 refine cw e c (λ_=>by simp[eqGuard,go_sem]) (λ_=>?_) h;simp only[binOp,Op.intCmp,ne_eq,not_true_eq_false,if_false];rfl
theorem IP{a b:Int}(e:ev n f x=.int .i64 a)(c:ev n f y=.int .i64 b)(h:K (cg f d (.bool (decide (b<a)))) w):R1 P n S k ⟨some d,.binOp .gtr t x y t2,ty,pos,aft,g⟩ K f w:=by
 refine cw e c (λ_=>by simp[eqGuard,go_sem]) (λ_=>?_) h;simp only[binOp,Op.intCmp,ne_eq,not_true_eq_false,if_false];rfl
theorem IQ{a b:Int}(e:ev n f x=.int .i64 a)(c:ev n f y=.int .i64 b)(h:K (cg f d (.bool (decide (b<=a)))) w):R1 P n S k ⟨some d,.binOp .geq t x y t2,ty,pos,aft,g⟩ K f w:=by
 refine cw e c (λ_=>by simp[eqGuard,go_sem]) (λ_=>?_) h;simp only[binOp,Op.intCmp,ne_eq,not_true_eq_false,if_false];rfl
theorem IX{a b:Int}(e:ev n f x=.int .i64 a)(c:ev n f y=.int .i64 b)(h:K (cg f d (.bool (decide (a=b)))) w):R1 P n S k ⟨some d,.binOp .eql t x y t2,ty,pos,aft,g⟩ K f w:=by
 refine cw e c (λ_=>by simp[eqGuard,go_sem]) (λ_=>?_) h;simp only[binOp,Op.intCmp,ne_eq,not_true_eq_false,if_false];rw[show(a == b)=decide (a=b)from by rw[Bool.eq_iff_iff];simp];rfl
theorem IJ{a b:Int}(e:ev n f x=.int .i64 a)(c:ev n f y=.int .i64 b)(h:K (cg f d (.bool (decide (¬a=b)))) w):R1 P n S k ⟨some d,.binOp .neq t x y t2,ty,pos,aft,g⟩ K f w:=by
 refine cw e c (λ_=>by simp[eqGuard,go_sem]) (λ_=>?_) h;simp only[binOp,Op.intCmp,ne_eq,not_true_eq_false,if_false];rw[show(a != b)=decide (¬a=b)from by rw[Bool.eq_iff_iff];simp];rfl
theorem A9{a b:Int}(e:ev n f x=.int .i64 a)(c:ev n f y=.int .i64 b)(i:b≠0)(h:K (cg f d (.int .i64 (a.tmod b))) w):R1 P n S k ⟨some d,.binOp .rem t x y t2,ty,pos,aft,g⟩ K f w:=by
 refine cw e c (λ_=>by simp[eqGuard,go_sem]) (λ_=>?_) h;simp only[binOp,Op.intDiv,ne_eq,not_true_eq_false,if_false,i];rfl
theorem yN{a m:Nat}(c:ev n f x=.int .i64 (a:Int))(e:a+(OfNat.ofNat m)<9223372036854775808)(h:K (cg f d (.int .i64 ((a+(OfNat.ofNat m):Nat):Int))) w):R1 P n S k ⟨some d,.binOp .add t x (.const (.int .i64 (OfNat.ofNat m))) t2,ty,pos,aft,g⟩ K f w:=
 pk (b:=OfNat.ofNat m) c (by rfl) e h
theorem yj{a m:Nat}(c:ev n f x=.int .i64 (a:Int))(i:a<9223372036854775808)(e:(OfNat.ofNat m)<=a)(h:K (cg f d (.int .i64 ((a-(OfNat.ofNat m):Nat):Int))) w):R1 P n S k ⟨some d,.binOp .sub t x (.const (.int .i64 (OfNat.ofNat m))) t2,ty,pos,aft,g⟩ K f w:=
 o_ (b:=OfNat.ofNat m) c (by rfl) i e h
theorem qC{a m:Nat}(c:ev n f x=.int .i64 (a:Int))(i:a<9223372036854775808)(e:0<(OfNat.ofNat m))(h:K (cg f d (.int .i64 ((a/(OfNat.ofNat m):Nat):Int))) w):R1 P n S k ⟨some d,.binOp .quo t x (.const (.int .i64 (OfNat.ofNat m))) t2,ty,pos,aft,g⟩ K f w:=
 CY (b:=OfNat.ofNat m) c (by rfl) i e h
theorem jB{a m:Nat}(c:ev n f x=.int .i64 (a:Int))(e:0<(OfNat.ofNat m))(h:K (cg f d (.int .i64 ((a%(OfNat.ofNat m):Nat):Int))) w):R1 P n S k ⟨some d,.binOp .rem t x (.const (.int .i64 (OfNat.ofNat m))) t2,ty,pos,aft,g⟩ K f w:=
 pg (b:=OfNat.ofNat m) c (by rfl) e h
theorem yh{a m:Nat}(c:ev n f x=.int .u64 (a:Int))(i:a<18446744073709551616)(e:(OfNat.ofNat m)<=a)(h:K (cg f d (.int .u64 ((a-(OfNat.ofNat m):Nat):Int))) w):R1 P n S k ⟨some d,.binOp .sub t x (.const (.int .u64 (OfNat.ofNat m))) t2,ty,pos,aft,g⟩ K f w:=
 CP (b:=OfNat.ofNat m) c (by rfl) i e h
theorem yu{a m:Nat}(c:ev n f x=.int .u32 (a:Int))(i:a<4294967296)(e:0<(OfNat.ofNat m))(h:K (cg f d (.int .u32 ((a/(OfNat.ofNat m):Nat):Int))) w):R1 P n S k ⟨some d,.binOp .quo t x (.const (.int .u32 (OfNat.ofNat m))) t2,ty,pos,aft,g⟩ K f w:=
 CX (b:=OfNat.ofNat m) c (by rfl) i e h
theorem yt{a m:Nat}(c:ev n f x=.int .u32 (a:Int))(e:0<(OfNat.ofNat m))(h:K (cg f d (.int .u32 ((a%(OfNat.ofNat m):Nat):Int))) w):R1 P n S k ⟨some d,.binOp .rem t x (.const (.int .u32 (OfNat.ofNat m))) t2,ty,pos,aft,g⟩ K f w:=
 CW (b:=OfNat.ofNat m) c (by rfl) e h
theorem yA{a m:Nat}(c:ev n f x=.int .i64 (a:Int))(h:K (cg f d (.bool (decide (a<(OfNat.ofNat m))))) w):R1 P n S k ⟨some d,.binOp .lss t x (.const (.int .i64 (OfNat.ofNat m))) t2,ty,pos,aft,g⟩ K f w:=
 tU (b:=OfNat.ofNat m) c (by rfl) h
theorem yC{a m:Nat}(c:ev n f x=.int .i64 (a:Int))(h:K (cg f d (.bool (decide (a<=(OfNat.ofNat m))))) w):R1 P n S k ⟨some d,.binOp .leq t x (.const (.int .i64 (OfNat.ofNat m))) t2,ty,pos,aft,g⟩ K f w:=
 tW (b:=OfNat.ofNat m) c (by rfl) h
theorem yE{a m:Nat}(c:ev n f x=.int .i64 (a:Int))(h:K (cg f d (.bool (decide ((OfNat.ofNat m)<a)))) w):R1 P n S k ⟨some d,.binOp .gtr t x (.const (.int .i64 (OfNat.ofNat m))) t2,ty,pos,aft,g⟩ K f w:=
 tY (b:=OfNat.ofNat m) c (by rfl) h
theorem yF{a m:Nat}(c:ev n f x=.int .i64 (a:Int))(h:K (cg f d (.bool (decide ((OfNat.ofNat m)<=a)))) w):R1 P n S k ⟨some d,.binOp .geq t x (.const (.int .i64 (OfNat.ofNat m))) t2,ty,pos,aft,g⟩ K f w:=
 tZ (b:=OfNat.ofNat m) c (by rfl) h
theorem yI{a m:Nat}(c:ev n f x=.int .i64 (a:Int))(h:K (cg f d (.bool (decide (a=(OfNat.ofNat m))))) w):R1 P n S k ⟨some d,.binOp .eql t x (.const (.int .i64 (OfNat.ofNat m))) t2,ty,pos,aft,g⟩ K f w:=
 ud (b:=OfNat.ofNat m) c (by rfl) h
theorem yw{a m:Nat}(c:ev n f x=.int .i64 (a:Int))(h:K (cg f d (.bool (decide (¬a=(OfNat.ofNat m))))) w):R1 P n S k ⟨some d,.binOp .neq t x (.const (.int .i64 (OfNat.ofNat m))) t2,ty,pos,aft,g⟩ K f w:=
 tS (b:=OfNat.ofNat m) c (by rfl) h
theorem yz{a m:Nat}(c:ev n f x=.int .u64 (a:Int))(h:K (cg f d (.bool (decide (a<(OfNat.ofNat m))))) w):R1 P n S k ⟨some d,.binOp .lss t x (.const (.int .u64 (OfNat.ofNat m))) t2,ty,pos,aft,g⟩ K f w:=
 tT (b:=OfNat.ofNat m) c (by rfl) h
theorem yB{a m:Nat}(c:ev n f x=.int .u64 (a:Int))(h:K (cg f d (.bool (decide (a<=(OfNat.ofNat m))))) w):R1 P n S k ⟨some d,.binOp .leq t x (.const (.int .u64 (OfNat.ofNat m))) t2,ty,pos,aft,g⟩ K f w:=
 tV (b:=OfNat.ofNat m) c (by rfl) h
theorem yD{a m:Nat}(c:ev n f x=.int .u64 (a:Int))(h:K (cg f d (.bool (decide ((OfNat.ofNat m)<a)))) w):R1 P n S k ⟨some d,.binOp .gtr t x (.const (.int .u64 (OfNat.ofNat m))) t2,ty,pos,aft,g⟩ K f w:=
 tX (b:=OfNat.ofNat m) c (by rfl) h
theorem yG{a m:Nat}(c:ev n f x=.int .u64 (a:Int))(h:K (cg f d (.bool (decide (a=(OfNat.ofNat m))))) w):R1 P n S k ⟨some d,.binOp .eql t x (.const (.int .u64 (OfNat.ofNat m))) t2,ty,pos,aft,g⟩ K f w:=
 t_ (b:=OfNat.ofNat m) c (by rfl) h
theorem yv{a m:Nat}(c:ev n f x=.int .u64 (a:Int))(h:K (cg f d (.bool (decide (¬a=(OfNat.ofNat m))))) w):R1 P n S k ⟨some d,.binOp .neq t x (.const (.int .u64 (OfNat.ofNat m))) t2,ty,pos,aft,g⟩ K f w:=
 tR (b:=OfNat.ofNat m) c (by rfl) h
theorem ka{a m:Nat}(c:ev n f x=.int .u32 (a:Int))(h:K (cg f d (.bool (decide ((OfNat.ofNat m)<=a)))) w):R1 P n S k ⟨some d,.binOp .geq t x (.const (.int .u32 (OfNat.ofNat m))) t2,ty,pos,aft,g⟩ K f w:=
 Df (b:=OfNat.ofNat m) c (by rfl) h
theorem yH{a m:Nat}(c:ev n f x=.int .u32 (a:Int))(h:K (cg f d (.bool (decide (a=(OfNat.ofNat m))))) w):R1 P n S k ⟨some d,.binOp .eql t x (.const (.int .u32 (OfNat.ofNat m))) t2,ty,pos,aft,g⟩ K f w:=
 uc (b:=OfNat.ofNat m) c (by rfl) h
theorem Bi{a m:Nat}(c:ev n f x=.int .u8 (a:Int))(h:K (cg f d (.bool (decide (a<(OfNat.ofNat m))))) w):R1 P n S k ⟨some d,.binOp .lss t x (.const (.int .u8 (OfNat.ofNat m))) t2,ty,pos,aft,g⟩ K f w:=
 FZ (b:=OfNat.ofNat m) c (by rfl) h
theorem Bm{a m:Nat}(c:ev n f x=.int .u8 (a:Int))(h:K (cg f d (.bool (decide ((OfNat.ofNat m)<a)))) w):R1 P n S k ⟨some d,.binOp .gtr t x (.const (.int .u8 (OfNat.ofNat m))) t2,ty,pos,aft,g⟩ K f w:=
 F7 (b:=OfNat.ofNat m) c (by rfl) h
theorem bw{a m:Nat}(c:ev n f x=.int .u8 (a:Int))(h:K (cg f d (.bool (decide (a=(OfNat.ofNat m))))) w):R1 P n S k ⟨some d,.binOp .eql t x (.const (.int .u8 (OfNat.ofNat m))) t2,ty,pos,aft,g⟩ K f w:=
 F8 (b:=OfNat.ofNat m) c (by rfl) h
theorem yK{a m:Nat}(c:ev n f x=.int .u32 (a:Int))(i:a<4294967296)(e:(OfNat.ofNat m)<4294967296)(h:K (cg f d (.int .u32 ((a &&& (OfNat.ofNat m):Nat):Int))) w):R1 P n S k ⟨some d,.binOp .and t x (.const (.int .u32 (OfNat.ofNat m))) t2,ty,pos,aft,g⟩ K f w:=
 Dm (b:=OfNat.ofNat m) c (by rfl) i e h
theorem yl{a m:Nat}{c:IntKind}(e:ev n f x=.int .u64 (a:Int))(i:(OfNat.ofNat m)<64)(h:K (cg f d (.int .u64 (((a*2^(OfNat.ofNat m))%18446744073709551616:Nat):Int))) w):R1 P n S k ⟨some d,.binOp .shl t x (.const (.int c (OfNat.ofNat m))) t2,ty,pos,aft,g⟩ K f w:=
 mQ (b:=OfNat.ofNat m) e (by rfl) i h
theorem yk{a m:Nat}{c:IntKind}(e:ev n f x=.int .u64 (a:Int))(i:(OfNat.ofNat m)<64)(h:K (cg f d (.int .u64 ((a/2^(OfNat.ofNat m):Nat):Int))) w):R1 P n S k ⟨some d,.binOp .shr t x (.const (.int c (OfNat.ofNat m))) t2,ty,pos,aft,g⟩ K f w:=
 pf (b:=OfNat.ofNat m) e (by rfl) i h
theorem ys{a m:Nat}{c:IntKind}(e:ev n f x=.int .u32 (a:Int))(i:(OfNat.ofNat m)<32)(h:K (cg f d (.int .u32 (((a*2^(OfNat.ofNat m))%4294967296:Nat):Int))) w):R1 P n S k ⟨some d,.binOp .shl t x (.const (.int c (OfNat.ofNat m))) t2,ty,pos,aft,g⟩ K f w:=
 tO (b:=OfNat.ofNat m) e (by rfl) i h
theorem mP{a m:Nat}{c:IntKind}(e:ev n f x=.int .u32 (a:Int))(i:(OfNat.ofNat m)<32)(h:K (cg f d (.int .u32 ((a/2^(OfNat.ofNat m):Nat):Int))) w):R1 P n S k ⟨some d,.binOp .shr t x (.const (.int c (OfNat.ofNat m))) t2,ty,pos,aft,g⟩ K f w:=
 tN (b:=OfNat.ofNat m) e (by rfl) i h
theorem yM{b m:Nat}(c:ev n f y=.int .i64 (b:Int))(e:(OfNat.ofNat m)+b<9223372036854775808)(h:K (cg f d (.int .i64 (((OfNat.ofNat m)+b:Nat):Int))) w):R1 P n S k ⟨some d,.binOp .add t (.const (.int .i64 (OfNat.ofNat m))) y t2,ty,pos,aft,g⟩ K f w:=
 pk (a:=OfNat.ofNat m) (by rfl) c e h
theorem yi{b m:Nat}(c:ev n f y=.int .i64 (b:Int))(i:(OfNat.ofNat m)<9223372036854775808)(e:b<=(OfNat.ofNat m))(h:K (cg f d (.int .i64 (((OfNat.ofNat m)-b:Nat):Int))) w):R1 P n S k ⟨some d,.binOp .sub t (.const (.int .i64 (OfNat.ofNat m))) y t2,ty,pos,aft,g⟩ K f w:=
 o_ (a:=OfNat.ofNat m) (by rfl) c i e h
theorem yy{b m:Nat}(c:ev n f y=.int .i64 (b:Int))(e:(OfNat.ofNat m)*b<9223372036854775808)(h:K (cg f d (.int .i64 (((OfNat.ofNat m)*b:Nat):Int))) w):R1 P n S k ⟨some d,.binOp .mul t (.const (.int .i64 (OfNat.ofNat m))) y t2,ty,pos,aft,g⟩ K f w:=
 kK (a:=OfNat.ofNat m) (by rfl) c e h
theorem yx{b m:Nat}(c:ev n f y=.int .u64 (b:Int))(e:(OfNat.ofNat m)*b<18446744073709551616)(h:K (cg f d (.int .u64 (((OfNat.ofNat m)*b:Nat):Int))) w):R1 P n S k ⟨some d,.binOp .mul t (.const (.int .u64 (OfNat.ofNat m))) y t2,ty,pos,aft,g⟩ K f w:=
 jO (a:=OfNat.ofNat m) (by rfl) c e h
theorem yL{b m:Nat}(c:ev n f y=.int .u32 (b:Int))(e:(OfNat.ofNat m)+b<4294967296)(h:K (cg f d (.int .u32 (((OfNat.ofNat m)+b:Nat):Int))) w):R1 P n S k ⟨some d,.binOp .add t (.const (.int .u32 (OfNat.ofNat m))) y t2,ty,pos,aft,g⟩ K f w:=
 Dq (a:=OfNat.ofNat m) (by rfl) c e h
theorem yp{b m:Nat}{c:IntKind}(e:ev n f y=.int c (b:Int))(c:b<32)(h:K (cg f d (.int .u32 ((((OfNat.ofNat m)*2^b)%4294967296:Nat):Int))) w):R1 P n S k ⟨some d,.binOp .shl t (.const (.int .u32 (OfNat.ofNat m))) y t2,ty,pos,aft,g⟩ K f w:=
 tO (a:=OfNat.ofNat m) (by rfl) e c h
