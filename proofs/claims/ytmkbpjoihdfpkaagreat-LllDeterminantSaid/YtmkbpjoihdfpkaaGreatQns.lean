/- Joined: Lyi. -/
import Derived.Test.YtmkbpjoihdfpkaaGreatQnl
import Derived.Test.YtmkbpjoihdfpkaaGreatQni
/- The laws LllEdges and LllDeterminant. -/
namespace Go.Proofs.YtmkbpjoihdfpkaaGreat
open Go Go.Eng Go.Num Go.Proofs
open Go.Det (gr bm det Sy PM Red one)
section
variable {P:Program} {n:Nat} {S:World→World→Prop} {k:Nat} {K:Fr→World→Prop} {f:Fr} {w:World} {d ty t t2:Nat} {x y:Operand} {pos:String} {aft:Array Edge} {g:Option (Nat × Bool)}
theorem R1_gtr_i16 {a b:Int} (hx:ev n f x = .int .i16 a) (hy:ev n f y = .int .i16 b) (h:K (upd f d (.bool (decide (b < a)))) w):R1 P n S k ⟨some d,.binOp .gtr t x y t2,ty,pos,aft,g⟩ K f w:=by
 refine R1_bin hx hy (fun _=>by simp [eqGuard,go_sem]) (fun _=>?_) h
 simp only [binOp,Op.intCmp,ne_eq,not_true_eq_false,if_false]; rfl
theorem R1_i16_i64 {a:Int} (hs:TyD P t (.int .i16)) (ht:TyD P t2 (.int .i64)) (hx:ev n f x = .int .i16 a) (h1:-32768≤a) (h2:a < 32768) (h:K (upd f d (.int .i64 a)) w):R1 P n S k ⟨some d,.convert t t2 x,ty,pos,aft,g⟩ K f w :=
 R1_conv hs ht hx (wrap_i64 (by omega) (by omega)) h
theorem R1_max_z {a b:Int} {ats:Array TypeId} (hx:ev n f x = .int .i64 a) (hy:ev n f y = .int .i64 b) (h:K (upd f d (.int .i64 (if b > a then b else a))) w):R1 P n S k ⟨some d,.call { callee:=.builtin .max,args:=#[x,y],argTypes:=ats },ty,pos,aft,g⟩ K f w:=by
 refine R1_pure (v:=.int .i64 (if b > a then b else a)) (fun w=>?_) h
 simp [execOp,resolve,invoke,builtin,Builtin.max_,Builtin.max2,hx,hy]
end
theorem ty_i16:TyD Tryz.prog 32 (.int .i16):=by unfold TyD; exact Tryz.underlying32
theorem matZ_lit1 {w:World} {gO g0:Nat} {a:Int} (hO:Blk w gO 30 #[.slice (some ⟨g0,0,none⟩) 1 1]) (h0:Blk w g0 2 #[.int .i64 a]) (ha:-9223372036854775808≤a∧a < 9223372036854775808):MatZ w (.slice (some ⟨gO,0,none⟩) 1 1) 1 (fun _=>1) (fun _ _=>a):=by
 refine ⟨_,_,rfl,Nat.le_refl _,by decide,fun i hi=>?_⟩
 obtain rfl:i = 0:=by omega
 refine ⟨_,_,rfl,by rw [add_lit,hO.cell]; rfl,_,_,rfl,Nat.le_refl _,by decide,fun j hj=>?_⟩
 obtain rfl:j = 0:=by have:j < 1:=hj; omega
 exact ⟨_,rfl,by rw [add_lit,h0.cell]; rfl,ha⟩
set_option maxHeartbeats 16000000 in
theorem lawLllDeterminant {v:Value} {o:Nat} {w:World} (ho:ByteV v o) :
 Meets Tryz.prog 6 #[v] w (Law w):=by
 obtain ⟨rfl,hol⟩:=ho
 refine fn_W (n:=28) Tryz.func6 rfl rfl (by kernel_rfl) (by simp) ?_
 have hm:=Nat.mod_lt o (show 0 < 3 by decide)
 obtain ⟨d,hd⟩ : ∃ d,d = 9999 + o % 3:=⟨_,rfl⟩
 have hd1:9999≤d∧d≤10001:=by omega
 refine gh ?_
 refine R1_rem_u8L (b:=3) rfl rfl (by decide) ?_
 refine gh ?_
 refine R1_u8_i64 ty_u8 ty_i64 rfl (by omega) ?_
 refine gh ?_
 rw [show (OfNat.ofNat 9999 + o % 3:Nat) = d from hd.symm]
 clear hd hm
 refine gh ?_
 refine R1_build1 (v0:=.int .i64 ((d:Nat):Int)) sl_i64 rfl (.inl rfl) rfl rfl ?_
 intro w1 hB1 hE1 hs1
 refine gh ?_
 refine R1_build1 (v0:=.slice (some ⟨w.heap.size,0,none⟩) 1 1) sl_si64 rfl (.inl rfl) rfl rfl ?_
 intro w2 hB2 hE2 hs2
 refine gh ?_
 refine R1_call2 (isReduced_ok _ 1 (fun _=>1) (fun _ _=>((d:Nat):Int)) w2 (matZ_lit1 hB2 (hB1.ext hE2) (by omega))) ?_
 rintro _ w3 ⟨hE3,b,rfl,hb⟩
 rw [redOk1] at hb
 have e1:(b == decide (d≤OfNat.ofNat 10000)) = true:=by
  have e:(OfNat.ofNat 10000:Nat) = 10000:=rfl
  rw [e]
  by_cases h:d≤10000
  · rw [hb.2 (by omega),decide_eq_true h]; rfl
  · rw [decide_eq_false h]
    cases b with
    | false=>rfl
    | true=>have:=hb.1 rfl; omega
 refine gh ?_
 rw [e1]
 refine gh ?_
 refine R1_build2 sl_i64 rfl (.inl rfl) rfl rfl rfl rfl ?_
 intro w4 hB4 hE4 hs4
 refine gh ?_
 refine R1_build2 sl_i64 rfl (.inl rfl) rfl rfl rfl rfl ?_
 intro w5 hB5 hE5 hs5
 refine gh ?_
 refine R1_build2 sl_si64 rfl (.inl rfl) rfl rfl rfl rfl ?_
 intro w6 hB6 hE6 hs6
 refine gh ?_
 refine R1_call2 (isReduced_ok _ 2 (fun _=>2) (lit2 1 0 0 ((d:Nat):Int)) w6 (matZ_lit hB6 (hB4.ext (hE5.trans hE6)) (hB5.ext hE6) (by decide) (by decide) (by decide) (by omega))) ?_
 rintro _ w7 ⟨hE7,b',rfl,hb'⟩
 rw [redOk2] at hb'
 have hb2:b' = true ↔ ((d:Nat):Int)≤10000:=by
  rw [hb']
  simp only [lit2]
  simp
  omega
 have e2:(b' == decide (d≤OfNat.ofNat 10000)) = true:=by
  have e:(OfNat.ofNat 10000:Nat) = 10000:=rfl
  rw [e]
  by_cases h:d≤10000
  · rw [hb2.2 (by omega),decide_eq_true h]; rfl
  · rw [decide_eq_false h]
    cases b' with
    | false=>rfl
    | true=>have:=hb2.1 rfl; omega
 refine gh ?_
 rw [e2]
 refine gh ?_
 refine R1_call2 (awake8_ok w7) ?_
 rintro _ w8 ⟨hE8,rfl⟩
 refine gh ?_
 exact ret1 (v:=.bool _) rfl rfl ⟨hE1.trans (hE2.trans (hE3.trans (hE4.trans (hE5.trans (hE6.trans (hE7.trans hE8)))))),rfl⟩
theorem edge_iff {a b c:Int}:redOk 2 (fun _=>2) (lit2 a b b c) ↔ 0 < a∧0 < a * c - b * b∧a * c - b * b≤10000∧2 * (if 0 - b > b then 0 - b else b)≤a∧3 * a≤4 * c:=by
 rw [redOk2]
 simp only [lit2]
 have e1:a * c - b * b + b * b = a * c:=by omega
 have e2:3 * (a * a) = a * (3 * a):=by grind
 have e3:4 * (a * c) = a * (4 * c):=by grind
 simp only [if_true,show ¬ ((1:Nat) = 0) by decide,if_false]
 rw [e1,e2,e3]
 constructor
 · rintro ⟨_,h1,h2,h3,h4,h5,h6⟩
   refine ⟨h1,h2,h3,by split <;> omega,?_⟩
   exact Int.le_of_mul_le_mul_left h6 h1
 · rintro ⟨h1,h2,h3,h4,h5⟩
   refine ⟨trivial,h1,h2,h3,?_,?_,Int.mul_le_mul_of_nonneg_left h5 (Int.le_of_lt h1)⟩
   · split at h4 <;> omega
   · split at h4 <;> omega
set_option maxHeartbeats 16000000 in
theorem lawLllEdges {va vb vc:Value} {a b c:Int} {w:World} (ha:I16V va a) (hb:I16V vb b) (hc:I16V vc c) :
 Meets Tryz.prog 5 #[va,vb,vc] w (Law w):=by
 obtain ⟨rfl,ha1,ha2⟩:=ha
 obtain ⟨rfl,hb1,hb2⟩:=hb
 obtain ⟨rfl,hc1,hc2⟩:=hc
 have m1:=mul_lim (a:=a) (b:=c) (A:=32768) (C:=32768) (by omega) (by omega) (by omega) (by omega)
 have m2:=mul_lim (a:=b) (b:=b) (A:=32768) (C:=32768) (by omega) (by omega) (by omega) (by omega)
 refine fn_W (n:=70) Tryz.func5 rfl rfl (by kernel_rfl) (by simp) ?_
 refine gh ?_
 refine R1_i16_i64 ty_i16 ty_i64 rfl ha1 ha2 ?_
 refine gh ?_
 refine R1_i16_i64 ty_i16 ty_i64 rfl hb1 hb2 ?_
 refine gh ?_
 refine R1_build2 sl_i64 rfl (.inl rfl) rfl rfl rfl rfl ?_
 intro w1 hB1 hE1 hs1
 refine gh ?_
 refine R1_i16_i64 ty_i16 ty_i64 rfl hb1 hb2 ?_
 refine gh ?_
 refine R1_i16_i64 ty_i16 ty_i64 rfl hc1 hc2 ?_
 refine gh ?_
 refine R1_build2 sl_i64 rfl (.inl rfl) rfl rfl rfl rfl ?_
 intro w2 hB2 hE2 hs2
 refine gh ?_
 refine R1_build2 sl_si64 rfl (.inl rfl) rfl rfl rfl rfl ?_
 intro w3 hB3 hE3 hs3
 have hM:=matZ_lit hB3 (hB1.ext (hE2.trans hE3)) (hB2.ext hE3) (show -9223372036854775808≤a∧a < 9223372036854775808 by omega) (show -9223372036854775808≤b∧b < 9223372036854775808 by omega) (show -9223372036854775808≤b∧b < 9223372036854775808 by omega) (show -9223372036854775808≤c∧c < 9223372036854775808 by omega)
 have hX:=hE1.trans (hE2.trans hE3)
 clear hB1 hB2 hB3 hE1 hE2 hE3 hs1 hs2 hs3
 generalize w2.heap.size = g2 at hM ⊢
 refine gh ?_
 refine R1_i16_i64 ty_i16 ty_i64 rfl ha1 ha2 ?_
 refine gh ?_
 refine R1_i16_i64 ty_i16 ty_i64 rfl hc1 hc2 ?_
 refine gh ?_
 refine R1_mul_z (a:=a) (b:=c) rfl rfl (by omega) (by omega) ?_
 refine gh ?_
 refine R1_i16_i64 ty_i16 ty_i64 rfl hb1 hb2 ?_
 refine gh ?_
 refine R1_i16_i64 ty_i16 ty_i64 rfl hb1 hb2 ?_
 refine gh ?_
 refine R1_mul_z (a:=b) (b:=b) rfl rfl (by omega) (by omega) ?_
 refine gh ?_
 refine R1_gtr_i16 (b:=0) rfl rfl ?_
 by_cases h1:0 < a
 rotate_left
 · refine gh ?_
   refine R1_call2 (isReduced_ok _ 2 (fun _=>2) _ w3 hM) ?_
   rintro _ w4 ⟨hE4,b',rfl,hb'⟩
   obtain rfl:b' = false:=by
    cases b' with
    | false=>rfl
    | true=>exact absurd (edge_iff.1 (hb'.1 rfl)) (fun h=>h1 h.1)
   refine gh ?_
   rw [show (false == false) = true from rfl]
   refine gh ?_
   refine R1_call2 (awake8_ok w4) ?_
   rintro _ w5 ⟨hE5,rfl⟩
   refine gh ?_
   exact ret1 (v:=.bool _) rfl rfl ⟨hX.trans (hE4.trans hE5),rfl⟩
 by_cases h2:0 < a * c - b * b
 rotate_left
 · refine gh ?_
   refine R1_call2 (isReduced_ok _ 2 (fun _=>2) _ w3 hM) ?_
   rintro _ w4 ⟨hE4,b',rfl,hb'⟩
   obtain rfl:b' = false:=by
    cases b' with
    | false=>rfl
    | true=>exact absurd (edge_iff.1 (hb'.1 rfl)) (fun h=>h2 h.2.1)
   refine gh ?_
   rw [show (false == false) = true from rfl]
   refine gh ?_
   refine R1_call2 (awake8_ok w4) ?_
   rintro _ w5 ⟨hE5,rfl⟩
   refine gh ?_
   exact ret1 (v:=.bool _) rfl rfl ⟨hX.trans (hE4.trans hE5),rfl⟩
 by_cases h3:a * c - b * b≤10000
 rotate_left
 · refine gh ?_
   refine R1_call2 (isReduced_ok _ 2 (fun _=>2) _ w3 hM) ?_
   rintro _ w4 ⟨hE4,b',rfl,hb'⟩
   obtain rfl:b' = false:=by
    cases b' with
    | false=>rfl
    | true=>exact absurd (edge_iff.1 (hb'.1 rfl)) (fun h=>h3 h.2.2.1)
   refine gh ?_
   rw [show (false == false) = true from rfl]
   refine gh ?_
   refine R1_call2 (awake8_ok w4) ?_
   rintro _ w5 ⟨hE5,rfl⟩
   refine gh ?_
   exact ret1 (v:=.bool _) rfl rfl ⟨hX.trans (hE4.trans hE5),rfl⟩
 refine gh ?_
 refine R1_i16_i64 ty_i16 ty_i64 rfl hb1 hb2 ?_
 refine gh ?_
 refine R1_i16_i64 ty_i16 ty_i64 rfl hb1 hb2 ?_
 refine gh ?_
 refine R1_neg_z (a:=b) rfl (by omega) (by omega) ?_
 refine gh ?_
 refine R1_max_z (a:=b) (b:=0 - b) rfl rfl ?_
 obtain ⟨mx,hmx⟩ : ∃ mx,mx = if 0 - b > b then 0 - b else b:=⟨_,rfl⟩
 have hmxl:-40000 < mx∧mx < 40000:=by rw [hmx]; split <;> omega
 rw [← hmx]
 refine gh ?_
 refine R1_mul_z (a:=2) (b:=mx) rfl rfl (by omega) (by omega) ?_
 refine gh ?_
 refine R1_i16_i64 ty_i16 ty_i64 rfl ha1 ha2 ?_
 by_cases h4:2 * mx≤a
 rotate_left
 · refine gh ?_
   refine R1_call2 (isReduced_ok _ 2 (fun _=>2) _ w3 hM) ?_
   rintro _ w4 ⟨hE4,b',rfl,hb'⟩
   obtain rfl:b' = false:=by
    cases b' with
    | false=>rfl
    | true=>exact absurd (edge_iff.1 (hb'.1 rfl)) (fun h=>h4 (by rw [hmx]; exact h.2.2.2.1))
   refine gh ?_
   rw [show (false == false) = true from rfl]
   refine gh ?_
   refine R1_call2 (awake8_ok w4) ?_
   rintro _ w5 ⟨hE5,rfl⟩
   refine gh ?_
   exact ret1 (v:=.bool _) rfl rfl ⟨hX.trans (hE4.trans hE5),rfl⟩
 refine gh ?_
 refine R1_i16_i64 ty_i16 ty_i64 rfl hc1 hc2 ?_
 refine gh ?_
 refine R1_mul_z (a:=4) (b:=c) rfl rfl (by omega) (by omega) ?_
 refine gh ?_
 refine R1_i16_i64 ty_i16 ty_i64 rfl ha1 ha2 ?_
 refine gh ?_
 refine R1_mul_z (a:=3) (b:=a) rfl rfl (by omega) (by omega) ?_
 refine gh ?_
 refine R1_call2 (isReduced_ok _ 2 (fun _=>2) _ w3 hM) ?_
 rintro _ w4 ⟨hE4,b',rfl,hb'⟩
 have hbb:(b' == decide (3 * a≤4 * c)) = true:=by
  have hi:b' = true ↔ 3 * a≤4 * c:=by
   rw [hb',edge_iff,← hmx]
   exact ⟨fun h=>h.2.2.2.2,fun h=>⟨h1,h2,h3,h4,h⟩⟩
  by_cases h:3 * a≤4 * c
  · rw [hi.2 h,decide_eq_true h]; rfl
  · rw [decide_eq_false h]
    cases b' with
    | false=>rfl
    | true=>exact absurd (hi.1 rfl) h
 refine gh ?_
 rw [hbb]
 refine gh ?_
 refine R1_call2 (awake8_ok w4) ?_
 rintro _ w5 ⟨hE5,rfl⟩
 refine gh ?_
 exact ret1 (v:=.bool _) rfl rfl ⟨hX.trans (hE4.trans hE5),rfl⟩
end Go.Proofs.YtmkbpjoihdfpkaaGreat
