/- Joined: Val, Isp, Awp, Grn. -/
import Derived.Test.YtmkbpjoihdfpkaaGreatQw
import Derived.Test.YtmkbpjoihdfpkaaGreatQz
import Derived.Test.YtmkbpjoihdfpkaaGreatQna
import Derived.Test.YtmkbpjoihdfpkaaGreatQe
import Derived.Test.YtmkbpjoihdfpkaaGreatQf
/- gram.Validate and the reference's Validate: the first error of a matrix. -/
namespace Go.Proofs.YtmkbpjoihdfpkaaGreat
open Go Go.Eng Go.Num Go.Proofs
open Go.Det (stg)
theorem stg_ld' {M:Nat→Nat→Int} {k:Nat} (h:∀ q,q < k→ldM M q ≠ 0):stg M k 0 0 = ldM M k:=by
 have:=(Go.Det.stg_bm M k fun q h1 h2=>by
  have:=h (q - 1) (by omega)
  unfold ldM at this
  rwa [show q - 1 + 1 = q by omega] at this).1 0 0
 rw [this,Nat.add_zero,Go.Det.bm_self]; rfl
theorem pos_iff' {M:Nat→Nat→Int} (n:Nat):(∀ q,q < n→0 < stg M q 0 0) ↔ ∀ q,q < n→0 < ldM M q:=by
 induction n with
 | zero=>exact ⟨fun _ q hq=>absurd hq (by omega),fun _ q hq=>absurd hq (by omega)⟩
 | succ n ih =>
  constructor
  · intro h
    have h1:=ih.1 fun q hq=>h q (by omega)
    have e:=stg_ld' (M:=M) (k:=n) fun q hq=>by have:=h1 q hq; omega
    intro q hq
    by_cases eq:q = n
    · rw [eq,← e]; exact h n (by omega)
    · exact h1 q (by omega)
  · intro h
    have h1:=ih.2 fun q hq=>h q (by omega)
    have e:=stg_ld' (M:=M) (k:=n) fun q hq=>by have:=h q (by omega); omega
    intro q hq
    by_cases eq:q = n
    · rw [eq,e]; exact h n (by omega)
    · exact h1 q (by omega)
theorem okDef_df' {r:Nat} {len:Nat→Nat} {M:Nat→Nat→Int}:okDef r len M ↔ okDf r len M:=by
 unfold okDef okDf; rw [pos_iff']
open Classical in
noncomputable def valE (r:Nat) (len:Nat→Nat) (M:Nat→Nat→Int):Nat :=
 if okS r len = true∧r≤8 then
  if ∀ i j,i < r→j < i→M i j = M j i then
   if ∀ q,q < r→0 < Go.Det.det (q + 1) M then 0 else 5
  else 4
 else 3
theorem valE_zero {r:Nat} {len:Nat→Nat} {M:Nat→Nat→Int}:valE r len M = 0 ↔ okS r len = true∧r≤8∧(∀ i j,i < r→j < i→M i j = M j i)∧∀ q,q < r→0 < Go.Det.det (q + 1) M:=by
 unfold valE
 constructor
 · intro h
   by_cases h1:okS r len = true∧r≤8
   · rw [if_pos h1] at h
     by_cases h2:∀ i j,i < r→j < i→M i j = M j i
     · rw [if_pos h2] at h
       by_cases h3:∀ q,q < r→0 < Go.Det.det (q + 1) M
       · exact ⟨h1.1,h1.2,h2,h3⟩
       · rw [if_neg h3] at h; omega
     · rw [if_neg h2] at h; omega
   · rw [if_neg h1] at h; omega
 · rintro ⟨h1,h2,h3,h4⟩
   rw [if_pos ⟨h1,h2⟩,if_pos h3,if_pos h4]
theorem valE_3 {r:Nat} {len:Nat→Nat} {M:Nat→Nat→Int} (h:¬ (okS r len = true∧r≤8)):valE r len M = 3:=by
 unfold valE; rw [if_neg h]
theorem valE_4 {r:Nat} {len:Nat→Nat} {M:Nat→Nat→Int} (h:okS r len = true∧r≤8) (h2:¬ ∀ i j,i < r→j < i→M i j = M j i):valE r len M = 4:=by
 unfold valE; rw [if_pos h,if_neg h2]
theorem valE_5 {r:Nat} {len:Nat→Nat} {M:Nat→Nat→Int} (h:okS r len = true∧r≤8) (h2:∀ i j,i < r→j < i→M i j = M j i) (h3:¬ ∀ q,q < r→0 < Go.Det.det (q + 1) M):valE r len M = 5:=by
 unfold valE; rw [if_pos h,if_pos h2,if_neg h3]
theorem valE_0 {r:Nat} {len:Nat→Nat} {M:Nat→Nat→Int} (h:okS r len = true∧r≤8) (h2:∀ i j,i < r→j < i→M i j = M j i) (h3:∀ q,q < r→0 < Go.Det.det (q + 1) M):valE r len M = 0:=by
 unfold valE; rw [if_pos h,if_pos h2,if_pos h3]
theorem valE_le (r:Nat) (len:Nat→Nat) (M:Nat→Nat→Int):valE r len M≤5:=by
 unfold valE
 split
 · split
   · split <;> omega
   · omega
 · omega
def RVal (w:World) (r:Nat) (len:Nat→Nat) (M:Nat→Nat→Int) (v:Value) (w':World):Prop:=Ext w w'∧v = .int .i64 ((valE r len M:Nat):Int)
set_option maxHeartbeats 16000000 in
theorem rvalidate_ok (va:Value) (r N:Nat) (len:Nat→Nat) (M:Nat→Nat→Int) (w:World) (ha:MatE (EI N) w va r len M) (hN1:1≤N) (hN:N < 1048576) :
 Meets Tryz.prog 45 #[va] w (RVal w r len M):=by
 refine fn_W (n:=25) Tryz.func45 rfl rfl (by kernel_rfl) (by simp) ?_
 refine gg ?_
 refine R1_call2 (rsquare_ok _ va r len M w ha) ?_
 rintro _ w1 ⟨hE1,rfl⟩
 obtain ⟨s,e1,hs⟩:=sqV_cases r len
 rw [e1]
 by_cases hok:okS r len = true
 rotate_left
 · have hok':okS r len = false:=by simpa using hok
   rw [hok']
   refine gg ?_
   refine ret1 (v:=.int _ _) rfl rfl ⟨hE1,?_⟩
   rw [valE_3 (by rw [hok']; simp)]
 rw [if_pos hok] at hs
 subst hs
 obtain ⟨hr1,hr2,hlen⟩:=okS_iff.1 hok
 rw [hok]
 by_cases h8:s≤8
 rotate_left
 · refine gg ?_
   refine ret1 (v:=.int _ _) rfl rfl ⟨hE1,?_⟩
   rw [valE_3 (fun h=>h8 h.2)]
 have hM:=ha.sq hlen
 refine gg ?_
 refine R1_call2 (rsymm_ok va s N M w1 (hM.ext hE1) hr1 (by omega)) ?_
 rintro _ w2 ⟨hE2,b,rfl,hb⟩
 cases b
 · refine gg ?_
   refine ret1 (v:=.int _ _) rfl rfl ⟨hE1.trans hE2,?_⟩
   rw [valE_4 ⟨hok,h8⟩ (fun h=>by cases hb.2 h)]
 have hsym:=hb.1 rfl
 refine gg ?_
 refine R1_call2 (rdefinite_ok va s N len M w2 (ha.ext (hE1.trans hE2)) hN1 hN) ?_
 rintro _ w3 ⟨hE3,b,rfl,hb⟩
 cases b
 · refine gg ?_
   refine ret1 (v:=.int _ _) rfl rfl ⟨hE1.trans (hE2.trans hE3),?_⟩
   rw [valE_5 ⟨hok,h8⟩ hsym (fun h=>by cases hb.2 ⟨hok,hsym,h⟩)]
 refine gg ?_
 refine ret1 (v:=.int _ _) rfl rfl ⟨hE1.trans (hE2.trans hE3),?_⟩
 rw [valE_0 ⟨hok,h8⟩ hsym (hb.1 rfl).2.2]
set_option maxHeartbeats 16000000 in
theorem validate_ok (va:Value) (r N:Nat) (len:Nat→Nat) (M:Nat→Nat→Int) (w:World) (ha:MatE (EI N) w va r len M) (hN1:1≤N) (hN:N < 1048576) :
 Meets Tryz.prog 82 #[va] w (RVal w r len M):=by
 refine fn_W (n:=54) Tryz.func82 rfl rfl (by kernel_rfl) (by simp) ?_
 refine gg ?_
 refine R1_call2 (shapeX_ok _ va r len M w ha) ?_
 rintro _ _ ⟨rfl,rfl⟩
 obtain ⟨s1,c1,ok1,e1,h1⟩:=shapeV_cases r len
 rw [e1]
 clear e1
 rcases h1 with ⟨hok,rfl,rfl,rfl⟩ | ⟨hok,rfl,rfl,rfl⟩
 rotate_left
 · refine gg ?_
   refine W_seq ?_
   refine gg ?_
   refine ret1 (v:=.int _ _) rfl rfl ⟨Ext.refl _,?_⟩
   rw [valE_3 (fun h=>by rw [okS_def,hok] at h; cases h.1)]
 by_cases hrl:s1 = len 0
 rotate_left
 · refine gg ?_
   refine W_seq ?_
   refine gg ?_
   refine ret1 (v:=.int _ _) rfl rfl ⟨Ext.refl _,?_⟩
   rw [valE_3 (fun h=>by rw [okS_def,hok] at h; exact hrl (by simpa using h.1))]
 have hok2:okS s1 len = true:=by rw [okS_def,hok]; simpa using hrl
 obtain ⟨hr1,hr2,hlen⟩:=okS_iff.1 hok2
 by_cases h8:s1≤8
 rotate_left
 · refine gg ?_
   refine W_seq ?_
   refine gg ?_
   refine ret1 (v:=.int _ _) rfl rfl ⟨Ext.refl _,?_⟩
   rw [valE_3 (fun h=>h8 h.2)]
 refine gg ?_
 refine W_seq ?_
 refine gg ?_
 clear hok
 obtain ⟨n,rfl⟩ : ∃ n,n = s1:=⟨_,rfl⟩
 have hM:=ha.sq hlen
 obtain ⟨Aa,capa,rfl,_,_,hrow⟩:=id hM
 obtain ⟨ad,_,rfl,_⟩:=hrow 0 (by omega)
 refine W_seqM (fun f w'=>f 0 = .slice (some ad) n capa∧f 3 = .int .i64 ((n:Nat):Int)∧Ext w w'∧∀ a b,a < n→b < a→M a b = M b a) ?_ ?_
 · refine gg ?_
   refine W_loop (fun m f w'=>∃ i,m = n - i∧i≤n∧f 0 = .slice (some ad) n capa∧f 3 = .int .i64 ((n:Nat):Int)∧f 25 = .int .i64 ((n:Nat):Int)∧f 26 = .int .i64 ((i:Nat):Int)∧Ext w w'∧∀ a b,a < i→b < a→M a b = M b a)
    n ⟨0,rfl,Nat.zero_le _,rfl,rfl,rfl,rfl,Ext.refl _,fun a b h=>absurd h (by omega)⟩ ?_
   rintro m f w1 ⟨i,rfl,hi,hf0,hf3,hf25,hf26,hE,hall⟩
   rw [ui hf0,ui hf3,ui hf25,ui hf26]
   clear hf0 hf3 hf25 hf26
   by_cases hlt:i < n
   · refine gg ?_
     refine W_loop (fun m f w'=>∃ j,m = i - j∧j≤i∧f 0 = .slice (some ad) n capa∧f 3 = .int .i64 ((n:Nat):Int)∧f 25 = .int .i64 ((n:Nat):Int)∧f 26 = .int .i64 ((i:Nat):Int)∧f 6 = .int .i64 ((i:Nat):Int)∧f 29 = .int .i64 ((i:Nat):Int)∧f 30 = .int .i64 ((j:Nat):Int)∧Ext w w'∧∀ b,b < j→M i b = M b i)
      i ⟨0,rfl,Nat.zero_le _,rfl,rfl,rfl,rfl,rfl,rfl,rfl,hE,fun b h=>absurd h (by omega)⟩ ?_
     clear hE
     rintro m f w2 ⟨j,rfl,hj,hf0,hf3,hf25,hf26,hf6,hf29,hf30,hE,hall2⟩
     rw [ui hf0,ui hf3,ui hf25,ui hf26,ui hf6,ui hf29,ui hf30]
     clear hf0 hf3 hf25 hf26 hf6 hf29 hf30
     by_cases hjl:j < i
     · refine gg ?_
       refine W_seqD [(0,3),(1,3),(2,3),(3,0),(4,3),(5,3),(6,0),(7,3),(8,3),(9,3),(10,0),(11,3),(12,3),(13,0),(14,1),(15,3)] mixed (by kernel_rfl) (fun w3 hE3 _=>?_)
       obtain ⟨ad1,u1,e1,hu1,hr1'⟩:=hrow i hlt
       obtain rfl:=Option.some.inj e1
       have hr1':RowE (EI N) w u1 n (M i):=hr1'
       obtain ⟨A1,c1,rfl,_,_,he1⟩:=hr1'
       obtain ⟨ae1,x1,y1,rfl,hx1,hy1,hv1⟩:=he1 j (by omega)
       obtain ⟨ad2,u2,e2,hu2,hr2'⟩:=hrow j (by omega)
       obtain rfl:=Option.some.inj e2
       have hr2':RowE (EI N) w u2 n (M j):=hr2'
       obtain ⟨A2,c2,rfl,_,_,he2⟩:=hr2'
       obtain ⟨ae2,x2,y2,rfl,hx2,hy2,hv2⟩:=he2 i hlt
       have hE03:=hE.trans hE3
       have k1:=cell_ext hE03 hu1
       have k2:=cell_ext hE03 hu2
       have k3:=cell_ext hE03 hx1
       have k4:=cell_ext hE03 hy1
       have k5:=cell_ext hE03 hx2
       have k6:=cell_ext hE03 hy2
       refine gg ?_
       refine R1_call1 (cmp_ok _ _ _ _ _ _ N w3 (IV.ext hv1 hE03) (IV.ext hv2 hE03) (by omega)) ?_
       rintro _ w4 ⟨hE4,rfl⟩
       refine ⟨hE4,?_⟩
       by_cases hz:M i j = M j i
       · have hs:cmpI (M i j) (M j i) = 0:=by rw [hz]; simp [cmpI]
         refine gg ?_
         refine ⟨_,?_,j + 1,rfl,by omega,rfl,rfl,rfl,rfl,rfl,rfl,rfl,hE03.trans hE4,fun b hb=>?_⟩
         · omega
         · by_cases e:b = j
           · subst e; exact hz
           · exact hall2 b (by omega)
       · have hs:¬ cmpI (M i j) (M j i) = 0:=by
          unfold cmpI
          split
          · decide
          · split <;> omega
         refine gg ?_
         refine ret1 (v:=.int _ _) rfl rfl ⟨hE03.trans hE4,?_⟩
         rw [valE_4 ⟨hok2,h8⟩ (fun h=>hz (h i j hlt hjl))]
     · refine gg ?_
       refine ⟨_,?_,i + 1,rfl,by omega,rfl,rfl,rfl,rfl,hE,fun a b ha' hb=>?_⟩
       · omega
       · by_cases e:a = i
         · subst e; exact hall2 b (by omega)
         · exact hall a b (by omega) hb
   · refine gg ?_
     exact ⟨rfl,rfl,hE,fun a b ha' hb=>hall a b (by omega) hb⟩
 rintro f w1 ⟨hf0,hf3,hE1,hsym⟩
 rw [ui hf0,ui hf3]
 clear hf0 hf3
 refine W_seq ?_
 refine gg ?_
 refine R1_call2 (definite_ok _ n N len M w1 (ha.ext hE1) hN1 hN) ?_
 rintro _ w3 ⟨hE3,b,rfl,hb⟩
 rw [okDef_df'] at hb
 cases b
 · refine gg ?_
   refine ret1 (v:=.int _ _) rfl rfl ⟨hE1.trans hE3,?_⟩
   rw [valE_5 ⟨hok2,h8⟩ hsym (fun h=>by cases hb.2 ⟨hok2,hsym,h⟩)]
 refine gg ?_
 refine ret1 (v:=.int _ _) rfl rfl ⟨hE1.trans hE3,?_⟩
 rw [valE_0 ⟨hok2,h8⟩ hsym (hb.1 rfl).2.2]
end Go.Proofs.YtmkbpjoihdfpkaaGreat
namespace Go.Det
open Go
theorem stage_bd {H:Mt} {k i j:Nat} {C:Int} (_hC:0≤C) (hk:0 < det k H) (hd:0 < det (k + 1) H) (hdm:det (k + 1) H≤65536)
 (h1:bm k H i j≤det k H * C) (h2:-(bm k H i j)≤det k H * C)
 (a1:2 * bm k H i k≤det (k + 1) H) (a2:-(2 * bm k H i k)≤det (k + 1) H) (b1:2 * bm k H k j≤det (k + 1) H) (b2:-(2 * bm k H k j)≤det (k + 1) H) :
 bm (k + 1) H i j≤det (k + 1) H * (C + 16384)∧-(bm (k + 1) H i j)≤det (k + 1) H * (C + 16384):=by
 have hb:=bareiss k H i j (by omega)
 rw [bm_self] at hb
 generalize det k H = e at *
 generalize det (k + 1) H = d at *
 generalize bm k H i j = x at *
 generalize bm (k + 1) H i j = y at *
 generalize bm k H i k = p at *
 generalize bm k H k j = q at *
 have hpq:4 * (p * q)≤d * d∧-(4 * (p * q))≤d * d:=by
  have e1:(2 * p) * (2 * q) = 4 * (p * q):=by grind
  have hn:((2 * p) * (2 * q)).natAbs≤d.natAbs * d.natAbs:=by
   rw [Int.natAbs_mul]; exact Nat.mul_le_mul (by omega) (by omega)
  rw [e1] at hn
  have e2:((d.natAbs * d.natAbs:Nat):Int) = d * d:=by
   rw [← Int.natAbs_mul]; have:=Int.mul_nonneg (Int.le_of_lt hd) (Int.le_of_lt hd); omega
  omega
 have h3:d * d≤d * 65536:=Int.mul_le_mul_of_nonneg_left hdm (Int.le_of_lt hd)
 have h4:d * 16384≤d * 16384 * e:=by
  have:=Int.mul_le_mul_of_nonneg_left (show (1:Int)≤e by omega) (show 0≤d * 16384 by omega)
  omega
 have h5:d * x≤d * (e * C):=Int.mul_le_mul_of_nonneg_left h1 (Int.le_of_lt hd)
 have h6:d * -x≤d * (e * C):=Int.mul_le_mul_of_nonneg_left h2 (Int.le_of_lt hd)
 have e3:d * (C + 16384) * e = d * (e * C) + d * 16384 * e:=by grind
 have e4:e * y = y * e:=Int.mul_comm _ _
 have e5:d * -x = -(d * x):=by grind
 constructor
 · refine Int.le_of_mul_le_mul_right (show y * e≤d * (C + 16384) * e from ?_) hk
   omega
 · refine Int.le_of_mul_le_mul_right (show -y * e≤d * (C + 16384) * e from ?_) hk
   have:-y * e = -(y * e):=by grind
   omega
structure Stg (n k:Nat) (H:Mt):Prop where
 pos:∀ m,m≤k→0 < det m H
 sml:∀ m,1≤m→m≤k→det m H < 65536
 sz:∀ i j,j < k→j < i→i < n→2 * bm j H i j≤det (j + 1) H∧-(2 * bm j H i j)≤det (j + 1) H
 lov:∀ i,i < k→i + 1 < n→3 * (det (i + 1) H * det (i + 1) H)≤4 * (det i H * det (i + 2) H + bm i H (i + 1) i * bm i H (i + 1) i)
 bd:∀ i j,k≤i→i < n→k≤j→j < n→bm k H i j≤det k H * (262144 + (k:Int) * 16384)∧-(bm k H i j)≤det k H * (262144 + (k:Int) * 16384)
theorem bmS {n k i j:Nat} {H:Mt} (hs:Sy n H) (hk:k≤n) (hi:i < n) (hj:j < n):bm k H i j = bm k H j i:=by
 rw [← gr_one_bm hk hi hj,bm_symm (gr_tr hs),gr_one_bm hk hj hi]
theorem Stg.zero {n:Nat} {H:Mt} (hb:∀ i j,i < n→j < n→-262144 < H i j∧H i j < 262144):Stg n 0 H:=by
 refine ⟨fun m hm=>?_,fun m h1 h2=>absurd h1 (by omega),fun i j h=>absurd h (by omega),fun i h=>absurd h (by omega),fun i j _ hi _ hj=>?_⟩
 · obtain rfl:m = 0:=by omega
   exact Int.zero_lt_one
 · rw [bm_zero']
   have:=hb i j hi hj
   simp only [det]
   omega
theorem Stg.next {n k:Nat} {H:Mt} (hs:Sy n H) (h:Stg n k H) (hk:k + 1 < n) (hd:0 < det (k + 1) H) (hm:det (k + 1) H < 65536)
 (hz:∀ i,k < i→i < n→2 * bm k H i k≤det (k + 1) H∧-(2 * bm k H i k)≤det (k + 1) H)
 (hl:3 * (det (k + 1) H * det (k + 1) H)≤4 * (det k H * det (k + 2) H + bm k H (k + 1) k * bm k H (k + 1) k)):Stg n (k + 1) H:=by
 refine ⟨fun m hm'=>?_,fun m h1 h2=>?_,fun i j hj hji hi=>?_,fun i hi h2=>?_,fun i j h1 h2 h3 h4=>?_⟩
 · by_cases e:m = k + 1
   · subst e; exact hd
   · exact h.pos m (by omega)
 · by_cases e:m = k + 1
   · subst e; exact hm
   · exact h.sml m h1 (by omega)
 · by_cases e:j = k
   · subst e; exact hz i hji hi
   · exact h.sz i j (by omega) hji hi
 · by_cases e:i = k
   · subst e; exact hl
   · exact h.lov i (by omega) h2
 · have hb:=h.bd i j (by omega) h2 (by omega) h4
   have hzi:=hz i (by omega) h2
   have hzj:=hz j (by omega) h4
   rw [bmS hs (by omega) h4 (by omega)] at hzj
   have:=stage_bd (C:=262144 + (k:Int) * 16384) (by omega) (h.pos k (Nat.le_refl _)) hd (by omega) hb.1 hb.2 hzi.1 hzi.2 hzj.1 hzj.2
   rw [show (262144:Int) + ((k + 1:Nat):Int) * 16384 = 262144 + (k:Int) * 16384 + 16384 by omega]
   exact this
theorem Stg.red {n:Nat} {H:Mt} (hn:1≤n) (h:Stg n (n - 1) H):Red n H:=by
 exact ⟨fun i j hji hi=>h.sz i j (by omega) hji hi,fun i hi=>h.lov i (by omega) hi⟩
theorem Stg.step {n k:Nat} {H:Mt} (h:Stg n k H) (i j:Nat):(det (k + 1) H * bm k H i j - bm k H i k * bm k H k j) / det k H = bm (k + 1) H i j:=by
 have hb:=bareiss k H i j (by have:=h.pos k (Nat.le_refl _); omega)
 rw [bm_self] at hb
 rw [← hb]
 exact Int.mul_ediv_cancel_left _ (by have:=h.pos k (Nat.le_refl _); omega)
theorem red_symm {n:Nat} {H:Mt} (h:Red n H):Red n (gr n one H):=by
 refine ⟨fun i j hji hi=>?_,fun i hi=>?_⟩
 · rw [gr_one_bm (by omega) hi (by omega),gr_one_det (by omega)]; exact h.sized i j hji hi
 · rw [gr_one_bm (by omega) hi (by omega),gr_one_det (by omega),gr_one_det (by omega),gr_one_det (by omega)]; exact h.lov i hi
theorem pm_symm {n:Nat} {H:Mt} (h:PM n H):PM n (gr n one H):=fun m hm=>by rw [gr_one_det hm]; exact h m hm
theorem entry_small' {n:Nat} {H:Mt} (hs:Sy n H) (hp:PM n H) (hr:Red n H) (hn:n≤8) (hd:det n H≤10000) {i j:Nat} (hi:i < n) (hj:j < n):-262144 < H i j∧H i j < 262144:=by
 have:=entry_small (gr_tr hs (T:=one)) (pm_symm hp) (red_symm hr) hn (by rw [gr_one_det (Nat.le_refl _)]; exact hd) hi hj
 rwa [gr_one hi hj] at this
end Go.Det
namespace Go.Proofs.YtmkbpjoihdfpkaaGreat
open Go Go.Eng Go.Num Go.Proofs
open Go.Det (gr bm det Sy PM Red Stg)
theorem val_pmI {r:Nat} {len:Nat→Nat} {G:Nat→Nat→Int} (h:valE r len G = 0):PM r G∧Sy r G:=by
 obtain ⟨hok,h8,hs,hp⟩:=valE_zero.1 h
 refine ⟨fun m hm=>?_,fun a b ha hb=>?_⟩
 · by_cases e:m = 0
   · subst e; exact Int.zero_lt_one
   · have:=hp (m - 1) (by omega)
     rwa [show m - 1 + 1 = m by omega] at this
 · by_cases e:a = b
   · rw [e]
   · by_cases e2:b < a
     · exact hs a b ha e2
     · exact (hs b a hb (by omega)).symm
def redOk (r:Nat) (len:Nat→Nat) (H:Nat→Nat→Int):Prop:=valE r len H = 0∧det r H≤10000∧Red r H
def smallP (r:Nat) (len:Nat→Nat) (H:Nat→Nat→Int):Prop :=
 1≤r∧r≤8∧(∀ i,i < r→len i = r)∧∀ i j,i < r→j < r→H i j = H j i∧-262144 < H i j∧H i j < 262144
theorem redOk.small {r:Nat} {len:Nat→Nat} {H:Nat→Nat→Int} (h:redOk r len H):smallP r len H:=by
 obtain ⟨h1,h2,h3⟩:=h
 obtain ⟨hp,hs⟩:=val_pmI h1
 obtain ⟨hok,h8,_,_⟩:=valE_zero.1 h1
 obtain ⟨hr1,_,hl⟩:=okS_iff.1 hok
 exact ⟨hr1,h8,hl,fun i j hi hj=>⟨hs i j hi hj,Go.Det.entry_small' hs hp h3 h8 h2 hi hj⟩⟩
theorem redOk.minor {r:Nat} {len:Nat→Nat} {H:Nat→Nat→Int} (h:redOk r len H) {m:Nat} (hm:m≤r):0 < det m H∧det m H≤65535:=by
 obtain ⟨h1,h2,h3⟩:=h
 obtain ⟨hp,hs⟩:=val_pmI h1
 obtain ⟨_,h8,_,_⟩:=valE_zero.1 h1
 exact ⟨hp m hm,Go.Det.minor_small hp h3 h8 h2 m hm⟩
theorem redOk_of {r:Nat} {len:Nat→Nat} {H:Nat→Nat→Int} (hsm:smallP r len H) (h:Stg r (r - 1) H) (hd1:0 < det r H) (hd2:det r H≤10000):redOk r len H:=by
 obtain ⟨hr1,h8,hl,he⟩:=hsm
 refine ⟨valE_0 ⟨okS_iff.2 ⟨hr1,by omega,hl⟩,h8⟩ (fun i j hi hj=>(he i j hi (by omega)).1) fun q hq=>?_,hd2,h.red hr1⟩
 by_cases e:q + 1 = r
 · rw [e]; exact hd1
 · exact h.pos (q + 1) (by omega)
theorem smallP.sy {r:Nat} {len:Nat→Nat} {H:Nat→Nat→Int} (h:smallP r len H):Sy r H:=fun i j hi hj=>(h.2.2.2 i j hi hj).1
end Go.Proofs.YtmkbpjoihdfpkaaGreat
namespace Go.Proofs.YtmkbpjoihdfpkaaGreat
open Go Go.Eng Go.Num Go.Proofs
open Go.Det (gr bm det Sy PM Red one)
theorem det1 (M:Nat→Nat→Int):det 1 M = M 0 0:=by
 simp [det,Go.Det.sm,Go.Det.sgn]
theorem det2 (M:Nat→Nat→Int):det 2 M = M 0 0 * M 1 1 - M 0 1 * M 1 0:=by
 simp only [det,Go.Det.sm,Go.Det.sgn,Go.Det.minor,Go.Det.skip]
 simp
 grind
theorem bm0 (M:Nat→Nat→Int) (i j:Nat):bm 0 M i j = M i j:=Go.Det.bm_zero' M i j
theorem redOk2 (M:Nat→Nat→Int):redOk 2 (fun _=>2) M ↔ M 1 0 = M 0 1∧0 < M 0 0∧0 < M 0 0 * M 1 1 - M 0 1 * M 1 0∧M 0 0 * M 1 1 - M 0 1 * M 1 0≤10000∧2 * M 1 0≤M 0 0∧-(2 * M 1 0)≤M 0 0∧3 * (M 0 0 * M 0 0)≤4 * (M 0 0 * M 1 1 - M 0 1 * M 1 0 + M 1 0 * M 1 0):=by
 have d0:det 0 M = 1:=rfl
 constructor
 · rintro ⟨h1,h2,h3⟩
   obtain ⟨_,_,hs,hp⟩:=valE_zero.1 h1
   have p0:=hp 0 (by decide)
   have p1:=hp 1 (by decide)
   have hsy:=hs 1 0 (by decide) (by decide)
   have hz:=h3.sized 1 0 (by decide) (by decide)
   have hl:=h3.lov 0 (by decide)
   rw [show 0 + 1 = 1 from rfl,det1] at p0
   rw [show 1 + 1 = 2 from rfl,det2] at p1
   rw [det2] at h2
   rw [show 0 + 1 = 1 from rfl,bm0,det1] at hz
   rw [show 0 + 1 = 1 from rfl,show 0 + 2 = 2 from rfl,bm0,det1,det2,d0,Int.one_mul] at hl
   exact ⟨hsy,p0,p1,h2,hz.1,hz.2,hl⟩
 · rintro ⟨h1,h2,h3,h4,h5,h6,h7⟩
   refine ⟨valE_0 ⟨okS22,by decide⟩ (fun i j hi hj=>?_) fun q hq=>?_,by rw [det2]; exact h4,⟨fun i j hj hi=>?_,fun i hi=>?_⟩⟩
   · obtain rfl:i = 1:=by omega
     obtain rfl:j = 0:=by omega
     exact h1
   · have:q = 0 ∨ q = 1:=by omega
     rcases this with rfl | rfl
     · rw [show 0 + 1 = 1 from rfl,det1]; exact h2
     · rw [show 1 + 1 = 2 from rfl,det2]; exact h3
   · obtain rfl:i = 1:=by omega
     obtain rfl:j = 0:=by omega
     rw [show 0 + 1 = 1 from rfl,bm0,det1]; exact ⟨h5,h6⟩
   · obtain rfl:i = 0:=by omega
     rw [show 0 + 1 = 1 from rfl,show 0 + 2 = 2 from rfl,bm0,det1,det2,d0,Int.one_mul]
     exact h7
theorem redOk1 (M:Nat→Nat→Int):redOk 1 (fun _=>1) M ↔ 0 < M 0 0∧M 0 0≤10000:=by
 constructor
 · rintro ⟨h1,h2,_⟩
   obtain ⟨_,_,_,hp⟩:=valE_zero.1 h1
   have p0:=hp 0 (by decide)
   rw [show 0 + 1 = 1 from rfl,det1] at p0
   rw [det1] at h2
   exact ⟨p0,h2⟩
 · rintro ⟨h1,h2⟩
   refine ⟨valE_0 ⟨okS_iff.2 ⟨by decide,by decide,fun _ _=>rfl⟩,by decide⟩ (fun i j hi hj=>by omega) fun q hq=>?_,by rw [det1]; exact h2,⟨fun i j hj hi=>by omega,fun i hi=>by omega⟩⟩
   obtain rfl:q = 0:=by omega
   rw [show 0 + 1 = 1 from rfl,det1]; exact h1
theorem first_one {M:Nat→Nat→Int} (hp:PM 2 M) (hr:Red 2 M) (hd:det 2 M = 1):M 0 0 = 1:=by
 have h:=Go.Det.first_small hp hr (by decide)
 rw [hd] at h
 have p:=hp 1 (by decide)
 rw [det1] at p
 have h2:M 0 0 * M 0 0≤2:=by
  have e:(M 0 0) ^ 2 = M 0 0 * M 0 0:=by rw [show (2:Nat) = 1 + 1 from rfl,Int.pow_succ,Int.pow_succ,Int.pow_zero,Int.one_mul]
  rw [e] at h
  simpa using h
 by_cases e:M 0 0≤1
 · omega
 · have:=Int.mul_le_mul (show (2:Int)≤M 0 0 by omega) (show (2:Int)≤M 0 0 by omega) (by decide) (by omega)
   omega
end Go.Proofs.YtmkbpjoihdfpkaaGreat
namespace Go.Eng
open Go Go.RowKit
section
variable {P:Program} {n:Nat} {ops:Array Oper} {S:World→World→Prop} {K:Fr→World→Prop} {f:Fr} {w:World} {o:Oper}
theorem Ro_nil' (h:Ro P n ops S K [] f w):K f w:=by unfold Ro at h; exact h
theorem R1_lift (hS:∀ a b,Ext a b→S a b) {k:Nat} {K':Fr→World→Prop} (hK:∀ f w,K f w→K' f w) (hk:k ≠ 0) (h:R1 P n Ext k o K f w):R1 P n S k o K' f w:=by
 unfold R1 at h ⊢
 rw [if_neg hk] at h ⊢
 split
 · rename_i h3
   rw [if_pos h3] at h
   obtain ⟨v,hv,hk⟩:=h
   exact ⟨v,hv,hK _ _ hk⟩
 · rename_i h3
   rw [if_neg h3] at h
   refine Oper.wp_mono (fun a' w' hh=>?_) h
   obtain ⟨f',e,h1,h2⟩:=hh
   exact ⟨f',e,h1.imp id fun h=>h.imp id (hS _ _),hK _ _ h2⟩
theorem Ro_lift (hS:∀ a b,Ext a b→S a b) {K':Fr→World→Prop} (hK:∀ f w,K f w→K' f w):∀ (ord:List (Nat × Nat)) (f:Fr) (w:World),(ord.all fun q=>q.2 != 0) = true→Ro P n ops Ext K ord f w→Ro P n ops S K' ord f w
 | [],f,w,_,h=>Ro_nil (hK _ _ (Ro_nil' h))
 | (i,k) :: rest,f,w,hk,h=>by
  rw [List.all_cons,Bool.and_eq_true] at hk
  have hk0:k ≠ 0:=by simpa using hk.1
  unfold Ro at h ⊢
  obtain ⟨o,ho,h⟩:=h
  refine ⟨o,ho,?_⟩
  split
  · rename_i hw
    rw [if_pos hw] at h
    exact R1_lift hS (fun f w h=>Ro_lift hS hK rest f w hk.2 h) hk0 h
  · rename_i hw
    rw [if_neg hw] at h
    exact Ro_lift hS hK rest _ _ hk.2 h
theorem Rg_lift (hS:∀ a b,Ext a b→S a b) {G:List Mem'} {suf:List (Nat × Nat)} (hk:(G.all fun g=>g.2.1.all fun q=>q.2 != 0) = true) (h:Rg P n ops Ext G [] (fun f w=>Ro P n ops S K suf f w) f w):Rg P n ops S G suf K f w:=by
 unfold Rg at h
 obtain ⟨Inv,h0,hG,hE⟩:=h
 refine Rg_intro Inv h0 (fun i qs nd hm L f w h1 h2 h3=>?_) (fun L f w h1 h2=>Ro_nil' (hE L f w h1 h2))
 refine Ro_lift hS (fun _ _ h=>h) _ f w ?_ (hG i qs nd hm L f w h1 h2 h3)
 rw [List.all_cons,Bool.and_eq_true]
 exact ⟨rfl,List.all_eq_true.1 hk _ hm⟩
theorem Rc_mono {K':Fr→World→Prop} (hK:∀ f w,K f w→K' f w):∀ (C:List (Nat × List (Nat × Nat))) (f:Fr) (w:World),Rc P n ops K C f w→Rc P n ops K' C f w
 | [],f,w,h=>Rc_nil fun w' hE=>hK _ _ (by unfold Rc at h; exact h w' hE)
 | (i,qs) :: C,f,w,h=>Rc_cons fun w' hE=>Ro_mono (fun f w h=>Rc_mono hK C f w h) _ _ _ (by unfold Rc at h; exact h w' hE)
theorem Rg_floatN {M:Nat→Prop} {G:List Mem'} {suf:List (Nat × Nat)} (C:List (Nat × List (Nat × Nat))) (F:List Flt) (E:List Nat) (hok:fltOk ops G C (F.map fun a=>(a.i,a.d)) E = true) (hk:(G.all fun g=>g.2.1.all fun q=>q.2 != 0) = true)
 (hF:∀ a,a ∈ F→∀ f' w',AgN n E f' f→Ext w w'→Ro P n ops Ext (fun f'' w''=>f'' = upd f' a.d (a.vl w'.heap.size)∧Blk w'' w'.heap.size a.T a.cs∧Ext w' w'') [(a.i,1)] f' w')
 (hC:Rc P n ops (fun f1 w1=>∀ gs:Nat→Nat,(∀ a,a ∈ F→w.heap.size≤gs a.d∧Blk w1 (gs a.d) a.T a.cs)→(∀ a b,a ∈ F→b ∈ F→a.d ≠ b.d→gs a.d ≠ gs b.d)→Ro P n ops (Ch M) K suf (upF gs F f1) w1) C f w) :
 Rg P n ops (Ch M) G suf K f w :=
 Rg_lift (fun _ _ h=>h.mono fun _ _ e=>e.elim) hk (Rg_float C F E hok hF (Rc_mono (fun _ _ h gs h1 h2=>Ro_nil (h gs h1 h2)) C f w hC))
theorem W_seqGN {Q:Exit→Fr→World→Prop} {id:Nat} {ops:Array Oper} {c:Code} {f:Fr} {w:World} (pre:List (Nat × Nat)) (G:List Mem') (suf:List (Nat × Nat)) (hm:P.follows .mixedOrders = true)
 (hok:regOk ops pre G suf = true)
 (h:∀ w',Ext w w'→w'.heap = w.heap→Ro P n ops (Ch fun b=>w'.heap.size≤b) (Rg P n ops (Ch fun b=>w'.heap.size≤b) G suf (W P n c Q)) pre f w'):W P n (.seq (.region id ops true) c) Q f w :=
 W_seq (W_drawG (S:=Ch fun b=>w.heap.size≤b) (fun _ _ _ h k=>h.trans k) pre G suf hm hok (by rw [thenF_fun]; exact h _ (ch_drew w) rfl))
end
section
variable {P:Program} {n:Nat} {k:Nat} {K:Fr→World→Prop} {f:Fr} {w:World} {d ty t:Nat} {x:Operand} {pos:String} {aft:Array Edge} {gd:Option (Nat × Bool)}
theorem R1_load1N {p:Addr} {v:Value} (h3:k ≠ 3) (ht:oneTy P t = true) (hx:ev n f x = .pointer (some p)) (hc:w.cell? p = some v) (h:K (upd f d v) w) :
 R1 P n (Ch fun b=>w.heap.size≤b) k ⟨some d,.load t x,ty,pos,aft,gd⟩ K f w:=by
 refine R1_read h3 (v:=v) (fun w' hw=>?_) h
 have hc':w'.cell? p = some v:=by
  rcases hw with hw | rfl
  · have hlt:=World.block_lt_of_cell? w _ hc
    rw [cell_ch hw hlt (fun h=>by have:w.heap.size≤p.block:=h; omega)]; exact hc
  · exact hc
 simp only [execOp,hx,Sem.run_bind,run_load_one ht hc',Result.andThen_ok,Sem.run_pure]
theorem R1_load2N {p:Addr} {v0 v1:Value} (h3:k ≠ 3) (ht:aggTy P t 2 = true) (hx:ev n f x = .pointer (some p)) (h0:w.cell? p = some v0) (h1:w.cell? (p.add 1) = some v1) (h:K (upd f d (.agg #[v0,v1])) w) :
 R1 P n (Ch fun b=>w.heap.size≤b) k ⟨some d,.load t x,ty,pos,aft,gd⟩ K f w:=by
 refine R1_read h3 (v:=.agg #[v0,v1]) (fun w' hw=>?_) h
 have hc':∀ q u,w.cell? q = some u→w'.cell? q = some u:=fun q u hq=>by
  rcases hw with hw | rfl
  · have hlt:=World.block_lt_of_cell? w _ hq
    rw [cell_ch hw hlt (fun h=>by have:w.heap.size≤q.block:=h; omega)]; exact hq
  · exact hq
 simp only [execOp,hx,Sem.run_bind,run_load_two ht (hc' _ _ h0) (hc' _ _ h1),Result.andThen_ok,Sem.run_pure]
end
end Go.Eng
