/- Joined: Isw, Isx, Rla. -/
import Derived.Test.YtmkbpjoihdfpkaaGreatQnb
import Derived.Test.YtmkbpjoihdfpkaaGreatQr
import Derived.Test.YtmkbpjoihdfpkaaGreatQnc
import Derived.Test.YtmkbpjoihdfpkaaGreatQlx
import Derived.Test.YtmkbpjoihdfpkaaGreatQz
/- lll.isSmall,isShortened: the walks. -/
namespace Go.Proofs.YtmkbpjoihdfpkaaGreat
open Go Go.Eng Go.Num Go.Proofs
open Go.Det (gr bm det Sy PM Red)
set_option maxHeartbeats 16000000 in
theorem isSmall_ok (v:Value) (r:Nat) (len:Nat→Nat) (M:Nat→Nat→Int) (w:World) (h:MatZ w v r len M) :
 Meets Tryz.prog 42 #[v] w fun u w'=>w = w'∧∃ b,u = .bool b∧(b = true ↔ smallP r len M):=by
 obtain ⟨A,cap,rfl,hc1,hc2,hrow⟩:=h
 refine fn_W (n:=62) Tryz.func42 rfl rfl (by kernel_rfl) (by simp) ?_
 by_cases h1:1≤r∧r≤8
 rotate_left
 · have hno:¬ smallP r len M:=fun h=>h1 ⟨h.1,h.2.1⟩
   by_cases h0:r < 1
   · refine gh ?_
     refine W_seq ?_
     refine gh ?_
     exact ret1 (v:=.bool _) rfl rfl ⟨rfl,false,rfl,(fun h=>by cases h),fun h=>absurd h hno⟩
   · refine gh ?_
     refine W_seq ?_
     refine gh ?_
     exact ret1 (v:=.bool _) rfl rfl ⟨rfl,false,rfl,(fun h=>by cases h),fun h=>absurd h hno⟩
 obtain ⟨hr1,hr8⟩:=h1
 obtain ⟨ad,_,rfl,_⟩:=hrow 0 (by omega)
 refine gh ?_
 refine W_seq ?_
 refine gh ?_
 refine W_seqM (fun f w'=>f 0 = .slice (some ad) r cap∧f 3 = .int .i64 ((r:Nat):Int)∧w = w'∧∀ k,k < r→len k = r) ?_ ?_
 · refine gh ?_
   refine W_loop (fun m f w'=>∃ i,m = r - i∧i≤r∧f 0 = .slice (some ad) r cap∧f 3 = .int .i64 ((r:Nat):Int)∧f 18 = .slice (some ad) r cap∧f 19 = .int .i64 ((r:Nat):Int)∧f 20 = .int .i64 ((i:Nat):Int)∧w = w'∧∀ k,k < i→len k = r)
    r ⟨0,rfl,Nat.zero_le _,rfl,rfl,rfl,rfl,rfl,rfl,fun k h=>absurd h (by omega)⟩ ?_
   rintro m f _ ⟨i,rfl,hi,hf0,hf3,hf18,hf19,hf20,rfl,hall⟩
   rw [ui hf0,ui hf3,ui hf18,ui hf19,ui hf20]
   clear hf0 hf3 hf18 hf19 hf20
   by_cases hlt:i < r
   · obtain ⟨ad1,u1,e1,hu1,hz1⟩:=hrow i hlt
     obtain rfl:=Option.some.inj e1
     obtain ⟨A1,c1,rfl,_,_,he1⟩:=hz1
     by_cases hl:len i = r
     · refine gh ?_
       refine ⟨_,?_,i + 1,rfl,by omega,rfl,rfl,rfl,rfl,rfl,rfl,fun k hk=>?_⟩
       · omega
       · by_cases e:k = i
         · rw [e]; exact hl
         · exact hall k (by omega)
     · refine gh ?_
       exact ret1 (v:=.bool _) rfl rfl ⟨rfl,false,rfl,(fun h=>by cases h),fun h=>absurd (h.2.2.1 i hlt) hl⟩
   · refine gh ?_
     exact ⟨rfl,rfl,rfl,fun k hk=>hall k (by omega)⟩
 rintro f _ ⟨hf0,hf3,rfl,hlen⟩
 rw [ui hf0,ui hf3]
 clear hf0 hf3
 refine W_seqM (fun f w'=>w = w'∧∀ a b,a < r→b < r→M a b = M b a∧-262144 < M a b∧M a b < 262144) ?_ ?_
 · refine gh ?_
   refine W_loop (fun m f w'=>∃ i,m = r - i∧i≤r∧f 0 = .slice (some ad) r cap∧f 3 = .int .i64 ((r:Nat):Int)∧f 29 = .slice (some ad) r cap∧f 30 = .int .i64 ((r:Nat):Int)∧f 31 = .int .i64 ((i:Nat):Int)∧w = w'∧∀ a b,a < i→b < r→M a b = M b a∧-262144 < M a b∧M a b < 262144)
    r ⟨0,rfl,Nat.zero_le _,rfl,rfl,rfl,rfl,rfl,rfl,fun a b h=>absurd h (by omega)⟩ ?_
   rintro m f _ ⟨i,rfl,hi,hf0,hf3,hf29,hf30,hf31,rfl,hall⟩
   rw [ui hf0,ui hf3,ui hf29,ui hf30,ui hf31]
   clear hf0 hf3 hf29 hf30 hf31
   by_cases hlt:i < r
   · obtain ⟨ad1,u1,e1,hu1,hz1⟩:=hrow i hlt
     obtain rfl:=Option.some.inj e1
     obtain ⟨A1,c1,rfl,_,_,he1⟩:=hz1
     rw [hlen i hlt] at he1 hu1
     refine gh ?_
     refine W_loop (fun m f w'=>∃ j,m = r - j∧j≤r∧f 0 = .slice (some ad) r cap∧f 3 = .int .i64 ((r:Nat):Int)∧f 29 = .slice (some ad) r cap∧f 30 = .int .i64 ((r:Nat):Int)∧f 31 = .int .i64 ((i:Nat):Int)∧f 6 = .int .i64 ((i:Nat):Int)∧f 36 = .slice A1 r c1∧f 37 = .int .i64 ((r:Nat):Int)∧f 38 = .int .i64 ((j:Nat):Int)∧w = w'∧∀ b,b < j→M i b = M b i∧-262144 < M i b∧M i b < 262144)
      r ⟨0,rfl,Nat.zero_le _,rfl,rfl,rfl,rfl,rfl,rfl,rfl,rfl,rfl,rfl,fun b h=>absurd h (by omega)⟩ ?_
     rintro m f _ ⟨j,rfl,hj,hf0,hf3,hf29,hf30,hf31,hf6,hf36,hf37,hf38,rfl,hall2⟩
     rw [ui hf0,ui hf3,ui hf29,ui hf30,ui hf31,ui hf6,ui hf36,ui hf37,ui hf38]
     clear hf0 hf3 hf29 hf30 hf31 hf6 hf36 hf37 hf38
     by_cases hjl:j < r
     · obtain ⟨ae1,rfl,hx1,hb1,hb2⟩:=he1 j hjl
       obtain ⟨ad2,u2,e2,hu2,hz2⟩:=hrow j hjl
       obtain rfl:=Option.some.inj e2
       obtain ⟨A2,c2,rfl,_,_,he2⟩:=hz2
       rw [hlen j hjl] at he2 hu2
       obtain ⟨ae2,rfl,hx2,hb3,hb4⟩:=he2 i hlt
       by_cases hg:M i j = M j i∧-262144 < M i j∧M i j < 262144
       · refine gh ?_
         refine ⟨_,?_,j + 1,rfl,by omega,rfl,rfl,rfl,rfl,rfl,rfl,rfl,rfl,rfl,rfl,fun b hb=>?_⟩
         · omega
         · by_cases e:b = j
           · subst e; exact hg
           · exact hall2 b (by omega)
       · by_cases g1:M i j = M j i
         · by_cases g2:M i j≤-262144
           · refine gh ?_
             exact ret1 (v:=.bool _) rfl rfl ⟨rfl,false,rfl,(fun h=>by cases h),fun h=>absurd (h.2.2.2 i j hlt hjl) hg⟩
           · refine gh ?_
             exact ret1 (v:=.bool _) rfl rfl ⟨rfl,false,rfl,(fun h=>by cases h),fun h=>absurd (h.2.2.2 i j hlt hjl) hg⟩
         · refine gh ?_
           exact ret1 (v:=.bool _) rfl rfl ⟨rfl,false,rfl,(fun h=>by cases h),fun h=>absurd (h.2.2.2 i j hlt hjl) hg⟩
     · refine gh ?_
       refine ⟨_,?_,i + 1,rfl,by omega,rfl,rfl,rfl,rfl,rfl,rfl,fun a b ha hb=>?_⟩
       · omega
       · by_cases e:a = i
         · subst e; exact hall2 b (by omega)
         · exact hall a b (by omega) hb
   · refine gh ?_
     exact ⟨rfl,fun a b ha hb=>hall a b (by omega) hb⟩
 rintro f _ ⟨rfl,he⟩
 refine gh ?_
 exact ret1 (v:=.bool _) rfl rfl ⟨rfl,true,rfl,fun _=>⟨hr1,hr8,hlen,he⟩,fun _=>rfl⟩
end Go.Proofs.YtmkbpjoihdfpkaaGreat
namespace Go.Eng
open Go Go.RowKit
section
variable {P:Program} {n:Nat} {S:World→World→Prop} {k:Nat} {K:Fr→World→Prop} {f:Fr} {w:World}
 {d ty t t2:Nat} {x y:Operand} {pos:String} {aft:Array Edge} {g:Option (Nat × Bool)}
theorem R1_quo_x {a b q:Int} (hx:ev n f x = .int .i64 a) (hy:ev n f y = .int .i64 b) (hb:b ≠ 0) (e:a = b * q) (h1:-9223372036854775808≤q) (h2:q < 9223372036854775808) (h:K (upd f d (.int .i64 q)) w):R1 P n S k ⟨some d,.binOp .quo t x y t2,ty,pos,aft,g⟩ K f w:=by
 refine R1_bin hx hy (fun _=>by simp [eqGuard,go_sem]) (fun _=>?_) h
 simp only [binOp,Op.intDiv,ne_eq,not_true_eq_false,if_false,hb]; rw [e,Int.mul_tdiv_cancel_left _ hb,wrap_i64 h1 h2]; rfl
end
end Go.Eng
namespace Go.Proofs.YtmkbpjoihdfpkaaGreat
open Go Go.Eng Go.Num Go.Proofs
open Go.Det (gr bm det Sy PM Red Stg)
def shortP (m:Nat) (M:Nat→Nat→Int):Prop:=0 < M 0 0∧M 0 0 < 65536∧∀ i,1≤i→i < m→2 * M i 0≤M 0 0∧-(2 * M i 0)≤M 0 0
set_option maxHeartbeats 8000000 in
theorem isShortened_ok (v:Value) (m:Nat) (M:Nat→Nat→Int) (w:World) (h:MatZ w v m (fun _=>m) M) (hm:2≤m) (hb:∀ i,i < m→-1000000000000 < M i 0∧M i 0 < 1000000000000) :
 Meets Tryz.prog 43 #[v] w fun u w'=>w = w'∧∃ b,u = .bool b∧(b = true ↔ shortP m M):=by
 obtain ⟨A,cap,rfl,hc1,hc2,hrow⟩:=h
 refine fn_W (n:=39) Tryz.func43 rfl rfl (by kernel_rfl) (by simp) ?_
 obtain ⟨ad,u0,rfl,hu0,hz0⟩:=hrow 0 (by omega)
 replace hz0:RowZ w u0 m (M 0):=hz0
 obtain ⟨A0,c0,rfl,_,_,he0⟩:=hz0
 obtain ⟨ae0,rfl,hx0,hb1,hb2⟩:=he0 0 (by omega)
 have hbd0:=hb 0 (by omega)
 refine gh ?_
 refine R1_index0 sl_i64 rfl (by omega) ?_
 refine gh ?_
 refine W_seq ?_
 by_cases hd:0 < M 0 0∧M 0 0 < 65536
 rotate_left
 · by_cases h0:M 0 0≤0
   · refine gh ?_
     exact ret1 (v:=.bool _) rfl rfl ⟨rfl,false,rfl,(fun h=>by cases h),fun h=>absurd ⟨h.1,h.2.1⟩ hd⟩
   · refine gh ?_
     exact ret1 (v:=.bool _) rfl rfl ⟨rfl,false,rfl,(fun h=>by cases h),fun h=>absurd ⟨h.1,h.2.1⟩ hd⟩
 refine gh ?_
 refine W_seqM (fun f w'=>w = w'∧∀ i,1≤i→i < m→2 * M i 0≤M 0 0∧-(2 * M i 0)≤M 0 0) ?_ ?_
 · refine gh ?_
   refine R1_sliceL sl_si64 rfl (l:=1) rfl (by omega) ?_
   rw [if_neg (by omega)]
   obtain ⟨ad2,had2⟩ : ∃ a,a = ad.add (1 * 1):=⟨_,rfl⟩
   rw [show Option.map (fun x:Addr=>x.add (1 * 1)) (some ad) = some ad2 from congrArg some had2.symm]
   refine gh ?_
   refine W_loop (fun q f w'=>∃ i,q = m - 1 - i∧i≤m - 1∧f 0 = .slice (some ad) m cap∧f 3 = .int .i64 (M 0 0)∧f 18 = .slice (some ad2) (m - 1) (cap - 1)∧f 19 = .int .i64 ((m - 1:Nat):Int)∧f 20 = .int .i64 ((i:Nat):Int)∧w = w'∧∀ k,1≤k→k < i + 1→2 * M k 0≤M 0 0∧-(2 * M k 0)≤M 0 0)
    (m - 1) ⟨0,rfl,Nat.zero_le _,rfl,rfl,rfl,rfl,rfl,rfl,fun k h1 h2=>absurd h1 (by omega)⟩ ?_
   rintro q f _ ⟨i,rfl,hi,hf0,hf3,hf18,hf19,hf20,rfl,hall⟩
   rw [ui hf0,ui hf3,ui hf18,ui hf19,ui hf20]
   clear hf0 hf3 hf18 hf19 hf20
   by_cases hlt:i < m - 1
   · obtain ⟨ad1,u1,e1,hu1,hz1⟩:=hrow (i + 1) (by omega)
     obtain rfl:=Option.some.inj e1
     replace hz1:RowZ w u1 m (M (i + 1)):=hz1
     obtain ⟨A1,c1,rfl,_,_,he1⟩:=hz1
     obtain ⟨ae1,rfl,hx1,hb3,hb4⟩:=he1 0 (by omega)
     have hbd1:=hb (i + 1) (by omega)
     have hu1':w.cell? (ad2.add (i * 1)) = some (.slice (some ae1) m c1):=by
      rw [had2,add_add,show 1 * 1 + i * 1 = (i + 1) * 1 by omega]; exact hu1
     by_cases hg:2 * M (i + 1) 0≤M 0 0∧-(2 * M (i + 1) 0)≤M 0 0
     · refine gh ?_
       refine R1_index0 (m:=m) (c:=c1) (ad:=ae1) sl_i64 rfl (by omega) ?_
       refine gh ?_
       refine R1_mul_z (a:=2) (b:=M (i + 1) 0) rfl rfl (by omega) (by omega) ?_
       refine gh ?_
       refine R1_index0 (m:=m) (c:=c1) (ad:=ae1) sl_i64 rfl (by omega) ?_
       refine gh ?_
       refine R1_mul_z (a:=(-2)) (b:=M (i + 1) 0) rfl rfl (by omega) (by omega) ?_
       refine gh ?_
       refine ⟨_,?_,i + 1,rfl,by omega,rfl,rfl,rfl,rfl,rfl,rfl,fun k h1 h2=>?_⟩
       · omega
       · by_cases e:k = i + 1
         · subst e; exact hg
         · exact hall k h1 (by omega)
     · by_cases g1:2 * M (i + 1) 0≤M 0 0
       · refine gh ?_
         refine R1_index0 (m:=m) (c:=c1) (ad:=ae1) sl_i64 rfl (by omega) ?_
         refine gh ?_
         refine R1_mul_z (a:=2) (b:=M (i + 1) 0) rfl rfl (by omega) (by omega) ?_
         refine gh ?_
         refine R1_index0 (m:=m) (c:=c1) (ad:=ae1) sl_i64 rfl (by omega) ?_
         refine gh ?_
         refine R1_mul_z (a:=(-2)) (b:=M (i + 1) 0) rfl rfl (by omega) (by omega) ?_
         refine gh ?_
         exact ret1 (v:=.bool _) rfl rfl ⟨rfl,false,rfl,(fun h=>by cases h),fun h=>absurd (h.2.2 (i + 1) (by omega) (by omega)) hg⟩
       · refine gh ?_
         refine R1_index0 (m:=m) (c:=c1) (ad:=ae1) sl_i64 rfl (by omega) ?_
         refine gh ?_
         refine R1_mul_z (a:=2) (b:=M (i + 1) 0) rfl rfl (by omega) (by omega) ?_
         refine gh ?_
         exact ret1 (v:=.bool _) rfl rfl ⟨rfl,false,rfl,(fun h=>by cases h),fun h=>absurd (h.2.2 (i + 1) (by omega) (by omega)) hg⟩
   · refine gh ?_
     exact ⟨rfl,fun k h1 h2=>hall k h1 (by omega)⟩
 rintro f _ ⟨rfl,he⟩
 refine gh ?_
 exact ret1 (v:=.bool _) rfl rfl ⟨rfl,true,rfl,fun _=>⟨hd.1,hd.2,he⟩,fun _=>rfl⟩
theorem shortP_of {r k:Nat} {M:Nat→Nat→Int}:shortP (r - k) (fun i j=>bm k M (k + i) (k + j)) ↔ 0 < det (k + 1) M∧det (k + 1) M < 65536∧∀ i,k < i→i < r→2 * bm k M i k≤det (k + 1) M∧-(2 * bm k M i k)≤det (k + 1) M:=by
 unfold shortP
 simp only [Nat.add_zero,Go.Det.bm_self]
 constructor
 · rintro ⟨h1,h2,h3⟩
   refine ⟨h1,h2,fun i hi hr=>?_⟩
   have:=h3 (i - k) (by omega) (by omega)
   rwa [show k + (i - k) = i by omega] at this
 · rintro ⟨h1,h2,h3⟩
   exact ⟨h1,h2,fun i hi hr=>h3 (k + i) (by omega) (by omega)⟩
theorem Stg.lim {r k:Nat} {M:Nat→Nat→Int} (h:Stg r k M) (hr:r≤8) (hk:k < r) {i j:Nat} (hi:k≤i) (hi2:i < r) (hj:k≤j) (hj2:j < r):-25769803776 < bm k M i j∧bm k M i j < 25769803776:=by
 have hb:=h.bd i j hi hi2 hj hj2
 have hd:det k M≤65535:=by
  by_cases e:k = 0
  · subst e; exact (by decide:(1:Int)≤65535)
  · have:=h.sml k (by omega) (Nat.le_refl _); omega
 have hp:=h.pos k (Nat.le_refl _)
 have h1:det k M * (262144 + (k:Int) * 16384)≤65535 * (262144 + 8 * 16384):=Int.mul_le_mul hd (by omega) (by omega) (by decide)
 omega
theorem Stg.limN {r k:Nat} {M:Nat→Nat→Int} (hs:Sy r M) (h:Stg r k M) (hr:r≤8) (hk:k + 1 < r) (hd:0 < det (k + 1) M) (hm:det (k + 1) M < 65536)
 (hz:∀ i,k < i→i < r→2 * bm k M i k≤det (k + 1) M∧-(2 * bm k M i k)≤det (k + 1) M) {i j:Nat} (hi:k + 1≤i) (hi2:i < r) (hj:k + 1≤j) (hj2:j < r):-25769803776 < bm (k + 1) M i j∧bm (k + 1) M i j < 25769803776:=by
 have hb:=h.bd i j (by omega) hi2 (by omega) hj2
 have hzi:=hz i (by omega) hi2
 have hzj:=hz j (by omega) hj2
 rw [Go.Det.bmS hs (by omega) hj2 (by omega)] at hzj
 have:=Go.Det.stage_bd (C:=262144 + (k:Int) * 16384) (by omega) (h.pos k (Nat.le_refl _)) hd (by omega) hb.1 hb.2 hzi.1 hzi.2 hzj.1 hzj.2
 have h1:det (k + 1) M * (262144 + (k:Int) * 16384 + 16384)≤65535 * (262144 + 8 * 16384):=Int.mul_le_mul (by omega) (by omega) (by omega) (by decide)
 omega
theorem mul_lim {a b A C:Int} (h1:-A≤a) (h2:a≤A) (h3:-C≤b) (h4:b≤C):-(A * C)≤a * b∧a * b≤A * C:=by
 have hA:0≤A:=by omega
 have hC:0≤C:=by omega
 have h5:(a * b).natAbs≤A.natAbs * C.natAbs:=by rw [Int.natAbs_mul]; exact Nat.mul_le_mul (by omega) (by omega)
 have h6:((A.natAbs * C.natAbs:Nat):Int) = A * C:=by rw [← Int.natAbs_mul]; have:=Int.mul_nonneg hA hC; omega
 omega
set_option maxHeartbeats 32000000 in
theorem isReduced_ok (v0:Value) (r:Nat) (len:Nat→Nat) (M:Nat→Nat→Int) (w:World) (h:MatZ w v0 r len M) :
 Meets Tryz.prog 15 #[v0] w (REq w (redOk r len M)):=by
 refine fn_W (n:=118) Tryz.func15 rfl rfl (by kernel_rfl) (by simp) ?_
 refine gh ?_
 refine W_seq ?_
 refine gh ?_
 refine R1_call2 (isSmall_ok v0 r len M w h) ?_
 rintro _ _ ⟨rfl,b,rfl,hb⟩
 cases b with
 | false =>
  refine gh ?_
  exact ret1 (v:=.bool _) rfl rfl ⟨Ext.refl _,false,rfl,(fun h=>by cases h),fun h=>hb.2 h.small⟩
 | true =>
 have hsm:=hb.1 rfl
 clear hb
 obtain ⟨hr1,hr8,hlen,hent⟩:=id hsm
 have hsy:=hsm.sy
 have h0:MatZ w v0 (r - 0) (fun _=>r - 0) (fun i j=>bm 0 M (0 + i) (0 + j)):=by
  have:=h.sq (c:=r) hlen
  obtain ⟨A,cap,e,h1,h2,h3⟩:=this
  refine ⟨A,cap,e,h1,h2,fun i hi=>?_⟩
  obtain ⟨ad,u,e1,e2,e3⟩:=h3 i hi
  refine ⟨ad,u,e1,e2,?_⟩
  have:(fun j=>bm 0 M (0 + i) (0 + j)) = M i:=by
   funext j
   rw [Go.Det.bm_zero',Nat.zero_add,Nat.zero_add]
  show RowZ w u (r - 0) (fun j=>bm 0 M (0 + i) (0 + j))
  rw [this]; exact e3
 refine gh ?_
 refine W_seqM (fun f w'=>∃ k vS,k + 1 = r∧f 3 = vS∧Ext w w'∧MatZ w' vS (r - k) (fun _=>r - k) (fun i j=>bm k M (k + i) (k + j))∧Stg r k M) ?_ ?_
 · refine gh ?_
   refine W_loop (fun q f w'=>∃ k vS,q = r - k∧k + 1≤r∧f 0 = v0∧f 3 = vS∧f 4 = .int .i64 (det k M)∧Ext w w'∧MatZ w' vS (r - k) (fun _=>r - k) (fun i j=>bm k M (k + i) (k + j))∧Stg r k M)
    r ⟨0,v0,rfl,hr1,rfl,rfl,rfl,Ext.refl _,h0,Go.Det.Stg.zero fun i j hi hj=>(hent i j hi hj).2⟩ ?_
   clear h0
   rintro q f w1 ⟨k,vS,rfl,hk,hf0,hf3,hf4,hE,hS,hst⟩
   rw [ui hf0,ui hf3,ui hf4]
   clear hf0 hf3 hf4
   obtain ⟨m,hm⟩ : ∃ m,m = r - k:=⟨_,rfl⟩
   rw [← hm] at hS
   have hS0:=hS
   obtain ⟨A,cap,rfl,hc1,hc2,hrow⟩:=hS
   obtain ⟨ad,u0,rfl,hu0,hz0⟩:=hrow 0 (by omega)
   refine W_seq ?_
   by_cases hm1:m = 1
   · refine gh ?_
     exact ⟨k,_,by omega,rfl,hE,by rw [← hm]; exact hS0,hst⟩
   replace hz0:RowZ w1 u0 m (fun j=>bm k M (k + 0) (k + j)):=hz0
   obtain ⟨A0,c0,rfl,hc01,hc02,he0⟩:=hz0
   obtain ⟨ae0,rfl,hx0,hb1,hb2⟩:=he0 0 (by omega)
   replace hx0:w1.cell? (ae0.add (0 * 1)) = some (.int .i64 (det (k + 1) M)):=by rw [← Go.Det.bm_self]; exact hx0
   refine gh ?_
   refine R1_index0 sl_i64 rfl (by omega) ?_
   refine gh ?_
   have hlim0:∀ i,i < m→-1000000000000 < bm k M (k + i) (k + 0)∧bm k M (k + i) (k + 0) < 1000000000000:=fun i hi=>by
    have:=Stg.lim hst hr8 (by omega) (i:=k + i) (j:=k + 0) (by omega) (by omega) (by omega) (by omega)
    omega
   refine W_seq ?_
   refine gh ?_
   refine R1_call2 (isShortened_ok _ m (fun i j=>bm k M (k + i) (k + j)) w1 hS0 (by omega) hlim0) ?_
   rintro _ _ ⟨rfl,b,rfl,hb⟩
   rw [hm,shortP_of] at hb
   cases b with
   | false =>
    refine gh ?_
    refine ret1 (v:=.bool _) rfl rfl ⟨hE,false,rfl,(fun h=>by cases h),fun h=>?_⟩
    refine hb.2 ⟨(h.minor (show k + 1≤r by omega)).1,?_,fun i hi hr=>h.2.2.sized i k hi hr⟩
    have:=(h.minor (show k + 1≤r by omega)).2
    omega
   | true =>
   obtain ⟨hd0,hd1,hz⟩:=hb.1 rfl
   clear hb
   have hpk:=hst.pos k (Nat.le_refl _)
   have hstep:=hst.step
   have hnx:=hst.next hsy (show k + 1 < r by omega) hd0 hd1 hz
   have hlm:∀ i j,k + 1≤i→i < r→k + 1≤j→j < r→-25769803776 < bm (k + 1) M i j∧bm (k + 1) M i j < 25769803776:=fun i j=>Stg.limN hsy hst hr8 (show k + 1 < r by omega) hd0 hd1 hz
   have hlimk:=fun i j h1 h2 h3 h4=>Stg.lim hst hr8 (by omega) (i:=i) (j:=j) h1 h2 h3 h4
   have hdk:det k M≤65535:=by
    by_cases e:k = 0
    · subst e; exact (by decide:(1:Int)≤65535)
    · have:=hst.sml k (by omega) (Nat.le_refl _); omega
   obtain ⟨p,hp⟩ : ∃ p,m = p + 1:=⟨m - 1,by omega⟩
   refine gh ?_
   rw [show m - OfNat.ofNat 1 = p from by rw [hp]; rfl]
   refine R1_make sl_si64 (.inl rfl) rfl rfl (Nat.le_refl _) (by omega) (by omega) ?_
   intro w2 hB2 hE2 hs2
   obtain ⟨gO,hgO⟩ : ∃ g,g = w1.heap.size:=⟨_,rfl⟩
   rw [← hgO] at hB2 ⊢
   have hO2:Outer 30 w2 gO p 0 p (fun _=>0):=outer_made hB2
   clear hB2
   refine gh ?_
   refine W_seqM (fun f w'=>∃ gs,f 0 = v0∧f 3 = .slice (some ad) m cap∧f 4 = .int .i64 (det k M)∧f 5 = .int .i64 (det (k + 1) M)∧f 6 = .slice (some ⟨gO,0,none⟩) p p∧Ext w1 w'∧ZMat w' gO gs p p (fun i j=>bm (k + 1) M (k + 1 + i) (k + 1 + j))) ?_ ?_
   · refine gh ?_
     refine W_loop (fun q f w'=>∃ i gs,q = p - i∧i≤p∧f 0 = v0∧f 3 = .slice (some ad) m cap∧f 4 = .int .i64 (det k M)∧f 5 = .int .i64 (det (k + 1) M)∧f 6 = .slice (some ⟨gO,0,none⟩) p p∧f 31 = .int .i64 ((p:Nat):Int)∧f 32 = .int .i64 ((i:Nat):Int)∧Ext w1 w'∧Outer 30 w' gO p i p gs∧(∀ t,t < i→RowW w' (gs t) p (fun j=>bm (k + 1) M (k + 1 + t) (k + 1 + j))∧gO < gs t)∧(∀ t t',t < i→t' < i→gs t = gs t'→t = t'))
      p ⟨0,fun _=>0,rfl,Nat.zero_le _,rfl,rfl,rfl,rfl,rfl,rfl,rfl,hE2,hO2,fun t ht=>absurd ht (by omega),fun t t' ht=>absurd ht (by omega)⟩ ?_
     clear hE2 hO2 hs2 w2
     rintro q f w2 ⟨i,gs,rfl,hi,hf0,hf3,hf4,hf5,hf6,hf31,hf32,hE2,hO,hrw,hinj⟩
     rw [ui hf0,ui hf3,ui hf4,ui hf5,ui hf6,ui hf31,ui hf32]
     clear hf0 hf3 hf4 hf5 hf6 hf31 hf32
     by_cases hlt:i < p
     · have hOl:=hO.lt
       obtain ⟨ad1,u1,e1,hu1,hz1⟩:=hrow (i + 1) (by omega)
       obtain rfl:=Option.some.inj e1
       replace hz1:RowZ w1 u1 m (fun j=>bm k M (k + (i + 1)) (k + j)):=hz1
       obtain ⟨A1,c1,rfl,_,_,he1⟩:=hz1
       obtain ⟨ae1,rfl,hy0,_⟩:=he1 0 (by omega)
       have hu1':=cell_ext hE2 hu1
       refine gh ?_
       refine R1_make sl_i64 (.inl rfl) rfl rfl (Nat.le_refl _) (by omega) (by omega) ?_
       intro w3 hB3 hE3 hs3
       have hr3:=rowW_made hB3
       obtain ⟨g,hg⟩ : ∃ g,g = w2.heap.size:=⟨_,rfl⟩
       rw [← hg] at hr3 ⊢
       clear hB3
       refine gh ?_
       refine R1_storeRow (one_of rfl) (.inl rfl) rfl rfl (hO.ext hE3) hlt ?_
       intro w4 ⟨_,hO4⟩ hC4 hk4 hs4
       have hO4:=hO4 rfl
       have hE4:Ext w1 w4:=hC4.ext_of (hE2.trans hE3) (fun b hb=>by omega)
       have hr4:RowW w4 g p (fun _=>0):=Blk.ch hr3 hC4 (by omega)
       have hrw4:∀ t,t < i→RowW w4 (gs t) p (fun j=>bm (k + 1) M (k + 1 + t) (k + 1 + j))∧gO < gs t∧gs t < g:=fun t ht=>by
        obtain ⟨h1,h2⟩:=hrw t ht
        have:=Blk.lt h1
        exact ⟨Blk.ch (Blk.ext h1 hE3) hC4 (by omega),h2,by omega⟩
       have hgO':gO < g:=by omega
       have hgw:w1.heap.size < g:=by omega
       clear hC4 hk4 hs4 hr3 hE3 hs3 hO hrw hE2 hu1'
       refine gh ?_
       refine W_loop (fun q f w'=>∃ j,q = p - j∧j≤p∧f 0 = v0∧f 3 = .slice (some ad) m cap∧f 4 = .int .i64 (det k M)∧f 5 = .int .i64 (det (k + 1) M)∧f 6 = .slice (some ⟨gO,0,none⟩) p p∧f 31 = .int .i64 ((p:Nat):Int)∧f 32 = .int .i64 ((i:Nat):Int)∧f 7 = .int .i64 ((i:Nat):Int)∧f 8 = .slice (some ae1) m c1∧f 47 = .int .i64 ((p:Nat):Int)∧f 48 = .int .i64 ((j:Nat):Int)∧Ext w1 w'∧Outer 30 w' gO p (i + 1) p (setN gs i g)∧(∀ t,t < i→RowW w' (gs t) p (fun j=>bm (k + 1) M (k + 1 + t) (k + 1 + j)))∧RowW w' g p (fun b=>if b < j then bm (k + 1) M (k + 1 + i) (k + 1 + b) else 0))
        p ⟨0,rfl,Nat.zero_le _,rfl,rfl,rfl,rfl,rfl,rfl,rfl,rfl,rfl,rfl,rfl,hE4,hO4,fun t ht=>(hrw4 t ht).1,hr4.congr fun b _=>by simp⟩ ?_
       have hrw5:∀ t,t < i→gO < gs t∧gs t < g:=fun t ht=>(hrw4 t ht).2
       clear hE4 hO4 hrw4 hr4 f
       rintro q f w5 ⟨j,rfl,hj,hf0,hf3,hf4,hf5,hf6,hf31,hf32,hf7,hf8,hf47,hf48,hE5,hO5,hrw,hr⟩
       rw [ui hf0,ui hf3,ui hf4,ui hf5,ui hf6,ui hf31,ui hf32,ui hf7,ui hf8,ui hf47,ui hf48]
       clear hf0 hf3 hf4 hf5 hf6 hf31 hf32 hf7 hf8 hf47 hf48
       by_cases hjl:j < p
       · refine gh ?_
         refine W_regD [(0,3),(1,3),(2,3),(3,0),(4,3),(5,3),(6,3),(7,3),(8,3),(9,3),(10,0),(11,3),(12,3),(13,3),(14,0),(15,3),(16,3),(17,0),(18,3),(19,3),(20,3),(21,0),(22,3),(23,3),(24,3),(25,3),(26,3),(27,2)] mixed (by kernel_rfl) (fun w6 hE6 _=>?_)
         have hE16:=hE5.trans hE6
         have hx6:=(hO5.ext hE6).at (k:=i) (by omega) hlt
         rw [show setN gs i g i = g by simp [setN]] at hx6
         obtain ⟨ae1',e1,hy1,_⟩:=he1 (j + 1) (by omega)
         obtain rfl:=Option.some.inj e1
         obtain ⟨ae0',e1,hy2,_⟩:=he0 (j + 1) (by omega)
         obtain rfl:=Option.some.inj e1
         have k1:=cell_ext hE16 hy0
         have k2:=cell_ext hE16 hy1
         have k3:=cell_ext hE16 hy2
         have k4:=cell_ext hE16 hu0
         replace k1:w6.cell? (ae1.add (0 * 1)) = some (.int .i64 (bm k M (k + (i + 1)) k)):=k1
         replace k2:w6.cell? (ae1.add ((j + 1) * 1)) = some (.int .i64 (bm k M (k + (i + 1)) (k + (j + 1)))):=k2
         replace k3:w6.cell? (ae0.add ((j + 1) * 1)) = some (.int .i64 (bm k M k (k + (j + 1)))):=k3
         have l1:=hlimk (k + (i + 1)) (k + (j + 1)) (by omega) (by omega) (by omega) (by omega)
         have l2:=hz (k + (i + 1)) (by omega) (by omega)
         have l3:=hlimk k (k + (j + 1)) (by omega) (by omega) (by omega) (by omega)
         have l4:=hlm (k + 1 + i) (k + 1 + j) (by omega) (by omega) (by omega) (by omega)
         have hst2:=hstep (k + (i + 1)) (k + (j + 1))
         have hbr:=Go.Det.bareiss k M (k + (i + 1)) (k + (j + 1)) (by omega)
         rw [Go.Det.bm_self] at hbr
         rw [show k + (i + 1) = k + 1 + i by omega,show k + (j + 1) = k + 1 + j by omega] at hbr k2 l1
         rw [show k + (i + 1) = k + 1 + i by omega] at k1 l2
         rw [show k + (j + 1) = k + 1 + j by omega] at k3 l3
         have m1:=mul_lim (a:=det (k + 1) M) (b:=bm k M (k + 1 + i) (k + 1 + j)) (A:=65536) (C:=25769803776) (by omega) (by omega) (by omega) (by omega)
         have m2:=mul_lim (a:=bm k M (k + 1 + i) k) (b:=bm k M k (k + 1 + j)) (A:=65536) (C:=25769803776) (by omega) (by omega) (by omega) (by omega)
         refine gh ?_
         refine R1_mul_z (a:=det (k + 1) M) (b:=bm k M (k + 1 + i) (k + 1 + j)) rfl rfl (by omega) (by omega) ?_
         refine gh ?_
         refine R1_index0 sl_i64 rfl (by omega) ?_
         refine gh ?_
         refine R1_mul_z (a:=bm k M (k + 1 + i) k) (b:=bm k M k (k + 1 + j)) rfl rfl (by omega) (by omega) ?_
         refine gh ?_
         refine R1_quo_x (b:=det k M) (q:=bm (k + 1) M (k + 1 + i) (k + 1 + j)) rfl rfl (by omega) hbr.symm (by omega) (by omega) ?_
         refine gh ?_
         have hr6:RowW w6 g p _:=Blk.ext hr hE6
         refine R1_storeI (one_of rfl) (.inl rfl) rfl rfl hr6 (by rw [arr_size]; omega) ?_
         intro w7 hB7 hC7 hs7
         have hr7:=RowW.set hB7
         refine gh ?_
         refine ⟨_,?_,j + 1,rfl,by omega,rfl,rfl,rfl,rfl,rfl,rfl,rfl,rfl,rfl,rfl,rfl,hC7.ext_of hE16 (fun b hb=>by omega),(hO5.ext hE6).kp hC7 (by omega),fun t ht=>?_,hr7.congr fun b hb=>?_⟩
         · omega
         · have:=hrw5 t ht
           exact Blk.ch (Blk.ext (hrw t ht) hE6) hC7 (by omega)
         · simp only [setZ]
           by_cases e:b = j
           · subst e; rw [if_pos rfl,if_pos (by omega)]
           · rw [if_neg e]
             by_cases e2:b < j
             · rw [if_pos e2,if_pos (by omega)]
             · rw [if_neg e2,if_neg (by omega)]
       · obtain rfl:j = p:=by omega
         refine gh ?_
         refine ⟨_,?_,i + 1,setN gs i g,rfl,by omega,rfl,rfl,rfl,rfl,rfl,rfl,rfl,hE5,hO5,fun t ht=>?_,fun t t' ht ht' e=>?_⟩
         · omega
         · by_cases e:t = i
           · subst e
             simp only [setN,if_true]
             exact ⟨hr.congr fun b hb=>by rw [if_pos hb],hgO'⟩
           · simp only [setN,if_neg e]
             exact ⟨hrw t (by omega),(hrw5 t (by omega)).1⟩
         · simp only [setN] at e
           split at e <;> split at e
           · omega
           · have:=hrw5 t' (by omega); omega
           · have:=hrw5 t (by omega); omega
           · exact hinj t t' (by omega) (by omega) e
     · refine gh ?_
       obtain rfl:i = p:=by omega
       exact ⟨gs,rfl,rfl,rfl,rfl,rfl,hE2,hO.full,fun t ht=>(hrw t ht).1,fun t ht=>by have:=(hrw t ht).2; omega,hinj⟩
   clear hE2 hO2 hs2 w2
   rintro f w2 ⟨gs,hf0,hf3,hf4,hf5,hf6,hE2,hZ⟩
   rw [ui hf0,ui hf3,ui hf4,ui hf5,ui hf6]
   clear hf0 hf3 hf4 hf5 hf6
   obtain ⟨ad1,u1,e1,hu1,hz1⟩:=hrow 1 (by omega)
   obtain rfl:=Option.some.inj e1
   replace hz1:RowZ w1 u1 m (fun j=>bm k M (k + 1) (k + j)):=hz1
   obtain ⟨A1,c1,rfl,_,_,he1⟩:=hz1
   obtain ⟨ae1,rfl,hy0,_⟩:=he1 0 (by omega)
   have k1:=cell_ext hE2 hu1
   have k2:w2.cell? (ae1.add (0 * 1)) = some (.int .i64 (bm k M (k + 1) k)):=cell_ext hE2 hy0
   have k3:=hZ.at (i:=0) (by omega)
   have k4:=(hZ.row 0 (by omega)).at (j:=0) (by omega)
   rw [Nat.add_zero,Go.Det.bm_self] at k4
   have l4:=hlm (k + 1) (k + 1) (by omega) (by omega) (by omega) (by omega)
   rw [Go.Det.bm_self] at l4
   have l2:=hz (k + 1) (by omega) (by omega)
   have m1:=mul_lim (a:=det k M) (b:=det (k + 1 + 1) M) (A:=65536) (C:=25769803776) (by omega) (by omega) (by omega) (by omega)
   have m2:=mul_lim (a:=bm k M (k + 1) k) (b:=bm k M (k + 1) k) (A:=65536) (C:=65536) (by omega) (by omega) (by omega) (by omega)
   have m3:=mul_lim (a:=det (k + 1) M) (b:=det (k + 1) M) (A:=65536) (C:=65536) (by omega) (by omega) (by omega) (by omega)
   have e3:3 * det (k + 1) M * det (k + 1) M = 3 * (det (k + 1) M * det (k + 1) M):=Int.mul_assoc _ _ _
   refine gh ?_
   refine R1_index sl_si64 rfl (j:=1) rfl (by omega) ?_
   refine gh ?_
   refine R1_index0 sl_i64 rfl (by omega) ?_
   refine gh ?_
   refine W_seq ?_
   refine gh ?_
   refine R1_index0B sl_i64 rfl (by omega) ?_
   refine gh ?_
   refine R1_mul_z (a:=det k M) (b:=det (k + 1 + 1) M) rfl rfl (by omega) (by omega) ?_
   refine gh ?_
   refine R1_mul_z (a:=bm k M (k + 1) k) (b:=bm k M (k + 1) k) rfl rfl (by omega) (by omega) ?_
   refine gh ?_
   refine R1_mul_z (a:=4) (b:=det k M * det (k + 1 + 1) M + bm k M (k + 1) k * bm k M (k + 1) k) rfl rfl (by omega) (by omega) ?_
   refine gh ?_
   refine R1_mul_z (a:=3) (b:=det (k + 1) M) rfl rfl (by omega) (by omega) ?_
   refine gh ?_
   refine R1_mul_z (a:=3 * det (k + 1) M) (b:=det (k + 1) M) rfl rfl (by omega) (by omega) ?_
   by_cases hl:3 * (det (k + 1) M * det (k + 1) M)≤4 * (det k M * det (k + 1 + 1) M + bm k M (k + 1) k * bm k M (k + 1) k)
   rotate_left
   · refine gh ?_
     refine ret1 (v:=.bool _) rfl rfl ⟨hE.trans hE2,false,rfl,(fun h=>by cases h),fun h=>?_⟩
     exact absurd (h.2.2.lov k (by omega)) hl
   · refine gh ?_
     refine ⟨_,?_,k + 1,_,rfl,by omega,rfl,rfl,rfl,hE.trans hE2,?_,hnx hl⟩
     · omega
     · rw [show r - (k + 1) = p by omega]
       refine hZ.read (fun i j hi hj=>?_) (by omega) (by omega)
       have:=hlm (k + 1 + i) (k + 1 + j) (by omega) (by omega) (by omega) (by omega)
       omega
 rintro f w1 ⟨k,vS,hk,hf3,hE,hS,hst⟩
 rw [ui hf3]
 clear hf3
 subst hk
 rw [show k + 1 - k = 1 by omega] at hS
 obtain ⟨A,cap,rfl,_,_,hrow⟩:=hS
 obtain ⟨ad,u0,rfl,hu0,hz0⟩:=hrow 0 (by omega)
 replace hz0:RowZ w1 u0 1 (fun j=>bm k M (k + 0) (k + j)):=hz0
 obtain ⟨A0,c0,rfl,hc01,hc02,he0⟩:=hz0
 obtain ⟨ae0,rfl,hx0,hb1,hb2⟩:=he0 0 (by omega)
 replace hx0:w1.cell? (ae0.add (0 * 1)) = some (.int .i64 (det (k + 1) M)):=by rw [← Go.Det.bm_self]; exact hx0
 refine gh ?_
 refine R1_index0 sl_i64 rfl (by omega) ?_
 by_cases h1:0 < det (k + 1) M
 · refine gh ?_
   refine R1_index0 sl_i64 rfl (by omega) ?_
   refine gh ?_
   refine ret1 (v:=.bool _) rfl rfl ⟨hE,_,rfl,?_⟩
   rw [decide_eq_true_iff]
   exact ⟨fun h=>redOk_of hsm hst h1 h,fun h=>h.2.1⟩
 · refine gh ?_
   exact ret1 (v:=.bool _) rfl rfl ⟨hE,false,rfl,(fun h=>by cases h),fun h=>absurd (h.minor (Nat.le_refl _)).1 h1⟩
end Go.Proofs.YtmkbpjoihdfpkaaGreat
namespace Go.Proofs.YtmkbpjoihdfpkaaGreat
open Go Go.Eng Go.Num Go.Proofs
open Go.Det (gr bm det Sy PM Red)
theorem retI {n:Nat} {f:Fr} {w0 w:World} {fn:Func} {t:Tmp} {g N:Nat} {z:Int} (hr:fn.results = #[.cell t 47]) (hv:ev n f (.tmp t) = .pointer (some ⟨g,0,none⟩)) (hb:Bx w g N true z) (hE:Ext w0 w):bodyPost Tryz.prog fn (Ret (RI w0 z)) .ret (act n f) w:=by
 obtain ⟨x,y,hB,hV⟩:=hb
 exact retC hr agg_Int hv hB ⟨hE,x,y,rfl,hV.2 rfl⟩
theorem bm_firstF (M:Nat→Nat→Int) (i j:Nat):detB (j + 1) (fun a b=>M (firstF j i a) (firstF j j b)) = bm j M i j:=by
 rw [detB_det]; rfl
theorem bm_bd {n N i j:Nat} {M:Nat→Nat→Int} (hN:1≤N) (hi:i < n) (hj:j < n) (hn:n≤16) (h:∀ i j,i < n→j < n→Bd N (M i j)):Bd (Nb N 16) (bm j M i j):=by
 rw [← bm_firstF]
 refine (detB_bd hN fun a b ha hb=>h _ _ ?_ ?_).mono (Nb_le16 N _ (by omega))
 · unfold firstF; split <;> omega
 · unfold firstF; split <;> omega
theorem det_bdL {n N j:Nat} {M:Nat→Nat→Int} (hN:1≤N) (hj:j≤n) (hn:n≤16) (h:∀ i j,i < n→j < n→Bd N (M i j)):Bd (Nb N 16) (det j M):=by
 rw [← detB_det]
 exact (detB_bd hN fun a b ha hb=>h _ _ (by omega) (by omega)).mono (Nb_le16 N _ (by omega))
def idV (j:Nat):Value:=.int .i64 ((j:Nat):Int)
set_option maxHeartbeats 16000000 in
theorem lambda_ok (va:Value) (n N i j:Nat) (M:Nat→Nat→Int) (w:World) (ha:MatE (EI N) w va n (fun _=>n) M) (hi:i < n) (hj:j < n) (hn:n≤16) (hN1:1≤N) (hN:N < 1048576) :
 Meets Tryz.prog 119 #[va,.int .i64 ((i:Nat):Int),.int .i64 ((j:Nat):Int)] w (RI w (bm j M i j)):=by
 refine fn_W (n:=34) Tryz.func119 rfl rfl (by kernel_rfl) (by simp) ?_
 have hbd:=bm_bd hN1 hi hj hn fun i j hi hj=>ha.bd hi hj
 have ha0:=ha
 have hX:Ext w w:=Ext.refl w
 refine gh ?_
 refine R1_alloc (.inl rfl) z_Int ?_
 intro w_1 hB0_ hE_ hs_
 have h6:=Bx.zero (N:=1) true hB0_
 obtain ⟨g6,hg_⟩ : ∃ g,g = w.heap.size:=⟨_,rfl⟩
 rw [← hg_] at h6 ⊢
 have hfr_g6:w.heap.size≤g6:=by have:=hX.size; omega
 replace hX:=hX.trans hE_
 clear hB0_ hs_ hg_ hE_
 have hlt6:=h6.lt
 refine gh ?_
 refine W_seqM (fun f w'=>∃ v u,f 0 = va∧f 1 = idV i∧f 2 = idV j∧f 6 = .pointer (some ⟨g6,0,none⟩)∧f 7 = v∧f 8 = u∧Ext w w'∧Bx w' g6 1 true 0∧Gr1 3 (.int .i64 0) w' v j idV∧Gr1 3 (.int .i64 0) w' u j idV∧(∀ b,some b = v.ownBlock→g6 < b∧some b ≠ u.ownBlock)∧(∀ b,some b = u.ownBlock→g6 < b)) ?_ ?_
 · refine gh ?_
   refine W_loop (fun q f w'=>∃ k v u,q = j - k∧k≤j∧f 0 = va∧f 1 = .int .i64 ((i:Nat):Int)∧f 2 = .int .i64 ((j:Nat):Int)∧f 6 = .pointer (some ⟨g6,0,none⟩)∧f 7 = v∧f 8 = u∧f 9 = .int .i64 ((k:Nat):Int)∧Ext w w'∧Bx w' g6 1 true 0∧Gr1 3 (.int .i64 0) w' v k idV∧Gr1 3 (.int .i64 0) w' u k idV∧(∀ b,some b = v.ownBlock→g6 < b∧some b ≠ u.ownBlock)∧(∀ b,some b = u.ownBlock→g6 < b))
    j ⟨0,.slice none 0 0,.slice none 0 0,rfl,Nat.zero_le _,rfl,rfl,rfl,rfl,rfl,rfl,rfl,hX,h6,Gr1.nil,Gr1.nil,fun b hb=>(by cases hb),fun b hb=>(by cases hb)⟩ ?_
   clear hX h6 ha hlt6
   rintro q f w1 ⟨k,v,u,rfl,hk,hf0,hf1,hf2,hf6,hf7,hf8,hf9,hE,h6,hV,hU,hv,hu⟩
   rw [ui hf0,ui hf1,ui hf2,ui hf6,ui hf7,ui hf8,ui hf9]
   clear hf0 hf1 hf2 hf6 hf7 hf8 hf9
   have hlt6:=h6.lt
   refine W_seq ?_
   by_cases hlt:k < j
   · refine gh ?_
     refine R1_build1 (v0:=.int .i64 ((k:Nat):Int)) sl_int rfl (.inl rfl) rfl rfl ?_
     intro w2 hB2 hE2 hs2
     have hc2:=blkS hB2
     refine gh ?_
     refine R1_app1 sl_int rfl (.inl rfl) rfl rfl (hV.ext hE2) hc2 rfl (by omega) (by decide) (fun _ _ _=>by simp [idV]) (fun _=>by simp) ?_
     intro v' w3 hV3 hk3 hC3 hv3
     have hE3:Ext w w3:=hC3.ext_of (hE.trans hE2) (fun b hb=>by have:=(hv b hb).1; omega)
     have hU3:=(hU.ext hE2).ch hC3 (fun b hb e=>(hv b e).2 hb)
     have h63:=(h6.ext hE2).kp hk3 hC3 (fun e=>by have:=(hv _ e).1; omega)
     have hv3':∀ b,some b = v'.ownBlock→g6 < b∧some b ≠ u.ownBlock:=fun b hb=>by
      rcases hv3 with e | e
      · rw [e] at hb; exact hv b hb
      · rw [e] at hb; injection hb with hb
        refine ⟨by omega,fun e2=>?_⟩
        have:=hU.lt e2
        omega
     have hlt3:w2.heap.size≤w3.heap.size:=hC3.size
     refine gh ?_
     refine R1_build1 (v0:=.int .i64 ((k:Nat):Int)) sl_int rfl (.inl rfl) rfl rfl ?_
     intro w4 hB4 hE4 hs4
     have hc4:=blkS hB4
     refine gh ?_
     refine R1_app1 sl_int rfl (.inl rfl) rfl rfl (hU3.ext hE4) hc4 rfl (by omega) (by decide) (fun _ _ _=>by simp [idV]) (fun _=>by simp) ?_
     intro u' w5 hU5 hk5 hC5 hu5
     have hVl:∀ b,some b = v'.ownBlock→b < w3.heap.size:=fun b hb=>hV3.lt hb
     refine gh ?_
     refine ⟨_,?_,k + 1,v',u',rfl,by omega,rfl,rfl,rfl,rfl,rfl,rfl,rfl,hC5.ext_of (hE3.trans hE4) (fun b hb=>by have:=hu b hb; omega),(h63.ext hE4).kp hk5 hC5 (fun e=>by have:=hu _ e; omega),((hV3.ext hE4).ch hC5 (fun b hb e=>(hv3' b hb).2 e)).congr fun q _=>?_,hU5.congr fun q _=>?_,fun b hb=>⟨(hv3' b hb).1,fun e=>?_⟩,fun b hb=>?_⟩
     · omega
     · by_cases e:q = k
       · rw [if_pos e,e]; rfl
       · rw [if_neg e]
     · by_cases e:q = k
       · rw [if_pos e,e]; rfl
       · rw [if_neg e]
     · rcases hu5 with e2 | e2
       · rw [e2] at e; exact (hv3' b hb).2 e
       · rw [e2] at e; injection e with e
         have:=hVl b hb
         omega
     · rcases hu5 with e2 | e2
       · rw [e2] at hb; exact hu b hb
       · rw [e2] at hb; injection hb with hb; omega
   · refine gh ?_
     obtain rfl:k = j:=by omega
     exact ⟨v,u,rfl,rfl,rfl,rfl,rfl,rfl,hE,h6,hV,hU,hv,hu⟩
 clear hX h6 ha hlt6
 rintro f w1 ⟨v,u,hf0,hf1,hf2,hf6,hf7,hf8,hE,h6,hV,hU,hv,hu⟩
 unfold idV at hf1 hf2
 rw [ui hf0,ui hf1,ui hf2,ui hf6,ui hf7,ui hf8]
 clear hf0 hf1 hf2 hf6 hf7 hf8
 have hlt6:=h6.lt
 refine gh ?_
 refine R1_build1 (v0:=.int .i64 ((i:Nat):Int)) sl_int rfl (.inl rfl) rfl rfl ?_
 intro w2 hB2 hE2 hs2
 have hc2:=blkS hB2
 refine gh ?_
 refine R1_app1 sl_int rfl (.inl rfl) rfl rfl (hV.ext hE2) hc2 rfl (by omega) (by decide) (fun _ _ _=>by simp [idV]) (fun _=>by simp) ?_
 intro v' w3 hV3 hk3 hC3 hv3
 have hE3:Ext w w3:=hC3.ext_of (hE.trans hE2) (fun b hb=>by have:=(hv b hb).1; omega)
 have hU3:=(hU.ext hE2).ch hC3 (fun b hb e=>(hv b e).2 hb)
 have h63:=(h6.ext hE2).kp hk3 hC3 (fun e=>by have:=(hv _ e).1; omega)
 have hv3':∀ b,some b = v'.ownBlock→g6 < b∧some b ≠ u.ownBlock:=fun b hb=>by
  rcases hv3 with e | e
  · rw [e] at hb; exact hv b hb
  · rw [e] at hb; injection hb with hb
    refine ⟨by omega,fun e2=>?_⟩
    have:=hU.lt e2
    omega
 have hlt3:w2.heap.size≤w3.heap.size:=hC3.size
 refine gh ?_
 refine R1_build1 (v0:=.int .i64 ((j:Nat):Int)) sl_int rfl (.inl rfl) rfl rfl ?_
 intro w4 hB4 hE4 hs4
 have hc4:=blkS hB4
 refine gh ?_
 refine R1_app1 sl_int rfl (.inl rfl) rfl rfl (hU3.ext hE4) hc4 rfl (by omega) (by decide) (fun _ _ _=>by simp [idV]) (fun _=>by simp) ?_
 intro u' w5 hU5 hk5 hC5 hu5
 have hE5:Ext w w5:=hC5.ext_of (hE3.trans hE4) (fun b hb=>by have:=hu b hb; omega)
 have h65:=(h63.ext hE4).kp hk5 hC5 (fun e=>by have:=hu _ e; omega)
 have hV5:=(hV3.ext hE4).ch hC5 (fun b hb e=>(hv3' b hb).2 e)
 have hVi:IntsN w5 v' (j + 1) (firstF j i):=hV5.ints fun q hq=>by
  unfold firstF
  by_cases e:q = j
  · rw [if_pos e,if_neg (by omega)]
  · rw [if_neg e,if_pos (by omega)]; rfl
 have hUi:IntsN w5 u' (j + 1) (firstF j j):=hU5.ints fun q hq=>by
  unfold firstF
  by_cases e:q = j
  · rw [if_pos e,if_neg (by omega)]
  · rw [if_neg e,if_pos (by omega)]; rfl
 have f1:∀ q,q < j + 1→firstF j i q < n:=fun q hq=>by unfold firstF; split <;> omega
 have f2:∀ q,q < j + 1→firstF j j q < n:=fun q hq=>by unfold firstF; split <;> omega
 have ha:=ha0.ext hE5
 clear hV hU hV3 hU3 h6 h63 hV5 hU5 hE hE2 hE3 hE4 hC3 hC5 hk3 hk5 hB2 hB4 hc2 hc4 hv hu hv3 hv3' hu5
 have hX:Ext w w5:=hE5
 refine gh ?_
 refine R1_call2 (rselect_ok va v' u' n n (j + 1) (j + 1) N (firstF j i) (firstF j j) M w5 ha hVi hUi f1 f2 (by omega) (by omega)) ?_
 rintro _ w_2 ⟨hE_,hS⟩
 replace hVi:=hVi.ext hE_
 replace hUi:=hUi.ext hE_
 replace ha:=ha.ext hE_
 replace h65:=h65.ext hE_
 replace hX:=hX.trans hE_
 clear hE_
 refine gh ?_
 refine R1_call2 (rdet_ok _ (j + 1) N _ w_2 hS (by omega) hN1 hN) ?_
 rintro _ w_3 ⟨hE_,x,y,rfl,hcv⟩
 replace hVi:=hVi.ext hE_
 replace hUi:=hUi.ext hE_
 replace ha:=ha.ext hE_
 replace h65:=h65.ext hE_
 replace hS:=hS.ext hE_
 replace hX:=hX.trans hE_
 clear hE_
 rw [bm_firstF] at hcv
 have hfr_g6:w.heap.size≤g6:=by assumption
 refine gh ?_
 refine R1_storeBx (by first | exact .inl rfl | exact .inr ⟨rfl,fun _ h=>h.mono fun b _ e=>by omega⟩) rfl rfl h65 (hcv.ev true hbd) ?_
 intro w_4 h65 hC_ hk_ hs_
 clear hVi
 clear hUi
 clear ha
 clear hS
 replace hcv:=hcv.kp hk_
 replace hX:=hC_.ext_of hX (fun b hb=>by omega)
 clear hC_ hk_ hs_
 refine gh ?_
 exact retI rfl rfl h65 hX
set_option maxHeartbeats 4000000 in
theorem rminor_ok (v:Value) (n N k:Nat) (M:Nat→Nat→Int) (w:World) (hv:RowE (EC N) w v n (fun k=>det (k + 1) M)) (hk:k≤n) (hn:n≤16) (hN1:1≤N) :
 Meets Tryz.prog 120 #[v,.int .i64 ((k:Nat):Int)] w (RI w (det k M)):=by
 refine fn_W (n:=13) Tryz.func120 rfl rfl (by kernel_rfl) (by simp) ?_
 obtain ⟨A,cap,rfl,hc1,hc2,he⟩:=hv
 have he0:=he
 have hX:Ext w w:=Ext.refl w
 refine gh ?_
 refine R1_alloc (.inl rfl) z_Int ?_
 intro w_1 hB0_ hE_ hs_
 have h4:=Bx.zero (N:=1) true hB0_
 obtain ⟨g4,hg_⟩ : ∃ g,g = w.heap.size:=⟨_,rfl⟩
 rw [← hg_] at h4 ⊢
 have hfr_g4:w.heap.size≤g4:=by have:=hX.size; omega
 replace hX:=hX.trans hE_
 clear hB0_ hs_ hg_ hE_
 by_cases h0:k = 0
 · subst h0
   refine gh ?_
   refine W_seq ?_
   refine gh ?_
   refine R1_call2 (rsmall_ok 1 w_1 (by decide) (by decide)) ?_
   rintro _ w_2 ⟨hE_,x,y,rfl,hcv⟩
   replace h4:=h4.ext hE_
   replace hX:=hX.trans hE_
   clear hE_
   refine gh ?_
   refine R1_storeBx (by first | exact .inl rfl | exact .inr ⟨rfl,fun _ h=>h.mono fun b _ e=>by omega⟩) rfl rfl h4 (hcv.ev true ((show Bd 1 1 by unfold Bd; decide).mono hN1)) ?_
   intro w_3 h4 hC_ hk_ hs_
   replace hcv:=hcv.kp hk_
   replace hX:=hC_.ext_of hX (fun b hb=>by omega)
   clear hC_ hk_ hs_
   refine gh ?_
   exact retI rfl rfl h4 hX
 · refine gh ?_
   refine W_seq ?_
   obtain ⟨ad,x,y,rfl,hx,hy,hcv⟩:=he (k - 1) (by omega)
   replace hcv:EC N w x y (det (k - 1 + 1) M):=hcv
   rw [show k - 1 + 1 = k by omega] at hcv
   replace hx:=cell_ext hX hx
   replace hy:=cell_ext hX hy
   have hcv1:=hcv.1.ext hX
   refine gh ?_
   refine gh ?_
   refine R1_storeBx (by first | exact .inl rfl | exact .inr ⟨rfl,fun _ h=>h.mono fun b _ e=>by omega⟩) rfl rfl h4 (hcv1.ev true hcv.2) ?_
   intro w_4 h4 hC_ hk_ hs_
   replace hcv1:=hcv1.kp hk_
   replace hX:=hC_.ext_of hX (fun b hb=>by omega)
   clear hC_ hk_ hs_
   refine gh ?_
   exact retI rfl rfl h4 hX
end Go.Proofs.YtmkbpjoihdfpkaaGreat
