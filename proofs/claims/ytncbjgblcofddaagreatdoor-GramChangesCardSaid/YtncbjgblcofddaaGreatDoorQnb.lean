/- Joined: Val, Isp, Awp, Grn. -/
import Derived.Test.YtncbjgblcofddaaGreatDoorQw
import Derived.Test.YtncbjgblcofddaaGreatDoorQz
import Derived.Test.YtncbjgblcofddaaGreatDoorQna
import Derived.Test.YtncbjgblcofddaaGreatDoorQe
import Derived.Test.YtncbjgblcofddaaGreatDoorQf
/- gram.Validate and the reference's Validate: the first error of a matrix. -/
namespace Go.Proofs.YtncbjgblcofddaaGreatDoor
open Go Go.Eng Go.Num Go.Proofs
open Go.Det (stg)
theorem stg_ld' {M:Nat→Nat→Int} {k:Nat} (h:∀ q,q < k→ldM M q ≠ 0):stg M k 0 0 = ldM M k:=by
 have:=(Go.Det.stg_bm M k fun q h1 h2=>by
  have:=h (q - 1) (by omega)
  unfold ldM at this
  rwa [show q - 1 + 1 = q by omega] at this).1 0 0
 rw [this,Nat.add_zero,Go.Det.bm_self]; rfl
theorem pos_iff' {M:Nat→Nat→Int} (n:Nat):(∀ q,q < n→0 < stg M q 0 0) ↔ ∀ q,q < n→0 < ldM M q:=by
 induction n with
 | zero=>exact ⟨fun _ q hq=>absurd hq (by omega),fun _ q hq=>absurd hq (by omega)⟩
 | succ n ih =>
  constructor
  · intro h
    have h1:=ih.1 fun q hq=>h q (by omega)
    have e:=stg_ld' (M:=M) (k:=n) fun q hq=>by have:=h1 q hq; omega
    intro q hq
    by_cases eq:q = n
    · rw [eq,← e]; exact h n (by omega)
    · exact h1 q (by omega)
  · intro h
    have h1:=ih.2 fun q hq=>h q (by omega)
    have e:=stg_ld' (M:=M) (k:=n) fun q hq=>by have:=h q (by omega); omega
    intro q hq
    by_cases eq:q = n
    · rw [eq,e]; exact h n (by omega)
    · exact h1 q (by omega)
theorem okDef_df' {r:Nat} {len:Nat→Nat} {M:Nat→Nat→Int}:okDef r len M ↔ okDf r len M:=by
 unfold okDef okDf; rw [pos_iff']
open Classical in
noncomputable def valE (r:Nat) (len:Nat→Nat) (M:Nat→Nat→Int):Nat :=
 if okS r len = true∧r≤8 then
  if ∀ i j,i < r→j < i→M i j = M j i then
   if ∀ q,q < r→0 < Go.Det.det (q + 1) M then 0 else 5
  else 4
 else 3
theorem valE_zero {r:Nat} {len:Nat→Nat} {M:Nat→Nat→Int}:valE r len M = 0 ↔ okS r len = true∧r≤8∧(∀ i j,i < r→j < i→M i j = M j i)∧∀ q,q < r→0 < Go.Det.det (q + 1) M:=by
 unfold valE
 constructor
 · intro h
   by_cases h1:okS r len = true∧r≤8
   · rw [if_pos h1] at h
     by_cases h2:∀ i j,i < r→j < i→M i j = M j i
     · rw [if_pos h2] at h
       by_cases h3:∀ q,q < r→0 < Go.Det.det (q + 1) M
       · exact ⟨h1.1,h1.2,h2,h3⟩
       · rw [if_neg h3] at h; omega
     · rw [if_neg h2] at h; omega
   · rw [if_neg h1] at h; omega
 · rintro ⟨h1,h2,h3,h4⟩
   rw [if_pos ⟨h1,h2⟩,if_pos h3,if_pos h4]
theorem valE_3 {r:Nat} {len:Nat→Nat} {M:Nat→Nat→Int} (h:¬ (okS r len = true∧r≤8)):valE r len M = 3:=by
 unfold valE; rw [if_neg h]
theorem valE_4 {r:Nat} {len:Nat→Nat} {M:Nat→Nat→Int} (h:okS r len = true∧r≤8) (h2:¬ ∀ i j,i < r→j < i→M i j = M j i):valE r len M = 4:=by
 unfold valE; rw [if_pos h,if_neg h2]
theorem valE_5 {r:Nat} {len:Nat→Nat} {M:Nat→Nat→Int} (h:okS r len = true∧r≤8) (h2:∀ i j,i < r→j < i→M i j = M j i) (h3:¬ ∀ q,q < r→0 < Go.Det.det (q + 1) M):valE r len M = 5:=by
 unfold valE; rw [if_pos h,if_pos h2,if_neg h3]
theorem valE_0 {r:Nat} {len:Nat→Nat} {M:Nat→Nat→Int} (h:okS r len = true∧r≤8) (h2:∀ i j,i < r→j < i→M i j = M j i) (h3:∀ q,q < r→0 < Go.Det.det (q + 1) M):valE r len M = 0:=by
 unfold valE; rw [if_pos h,if_pos h2,if_pos h3]
theorem valE_le (r:Nat) (len:Nat→Nat) (M:Nat→Nat→Int):valE r len M≤5:=by
 unfold valE
 split
 · split
   · split <;> omega
   · omega
 · omega
def RVal (w:World) (r:Nat) (len:Nat→Nat) (M:Nat→Nat→Int) (v:Value) (w':World):Prop:=Ext w w'∧v = .int .i64 ((valE r len M:Nat):Int)
set_option maxHeartbeats 16000000 in
theorem rvalidate_ok (va:Value) (r N:Nat) (len:Nat→Nat) (M:Nat→Nat→Int) (w:World) (ha:MatE (EI N) w va r len M) (hN1:1≤N) (hN:N < 1048576) :
 Meets Tryz.prog 19 #[va] w (RVal w r len M):=by
 refine fn_W (n:=25) Tryz.func19 rfl rfl (by kernel_rfl) (by simp) ?_
 refine gg ?_
 refine R1_call2 (rsquare_ok _ va r len M w ha) ?_
 rintro _ w1 ⟨hE1,rfl⟩
 obtain ⟨s,e1,hs⟩:=sqV_cases r len
 rw [e1]
 by_cases hok:okS r len = true
 rotate_left
 · have hok':okS r len = false:=by simpa using hok
   rw [hok']
   refine gg ?_
   refine ret1 (v:=.int _ _) rfl rfl ⟨hE1,?_⟩
   rw [valE_3 (by rw [hok']; simp)]
 rw [if_pos hok] at hs
 subst hs
 obtain ⟨hr1,hr2,hlen⟩:=okS_iff.1 hok
 rw [hok]
 by_cases h8:s≤8
 rotate_left
 · refine gg ?_
   refine ret1 (v:=.int _ _) rfl rfl ⟨hE1,?_⟩
   rw [valE_3 (fun h=>h8 h.2)]
 have hM:=ha.sq hlen
 refine gg ?_
 refine R1_call2 (rsymm_ok va s N M w1 (hM.ext hE1) hr1 (by omega)) ?_
 rintro _ w2 ⟨hE2,b,rfl,hb⟩
 cases b
 · refine gg ?_
   refine ret1 (v:=.int _ _) rfl rfl ⟨hE1.trans hE2,?_⟩
   rw [valE_4 ⟨hok,h8⟩ (fun h=>by cases hb.2 h)]
 have hsym:=hb.1 rfl
 refine gg ?_
 refine R1_call2 (rdefinite_ok va s N len M w2 (ha.ext (hE1.trans hE2)) hN1 hN) ?_
 rintro _ w3 ⟨hE3,b,rfl,hb⟩
 cases b
 · refine gg ?_
   refine ret1 (v:=.int _ _) rfl rfl ⟨hE1.trans (hE2.trans hE3),?_⟩
   rw [valE_5 ⟨hok,h8⟩ hsym (fun h=>by cases hb.2 ⟨hok,hsym,h⟩)]
 refine gg ?_
 refine ret1 (v:=.int _ _) rfl rfl ⟨hE1.trans (hE2.trans hE3),?_⟩
 rw [valE_0 ⟨hok,h8⟩ hsym (hb.1 rfl).2.2]
set_option maxHeartbeats 16000000 in
theorem validate_ok (va:Value) (r N:Nat) (len:Nat→Nat) (M:Nat→Nat→Int) (w:World) (ha:MatE (EI N) w va r len M) (hN1:1≤N) (hN:N < 1048576) :
 Meets Tryz.prog 18 #[va] w (RVal w r len M):=by
 refine fn_W (n:=54) Tryz.func18 rfl rfl (by kernel_rfl) (by simp) ?_
 refine gg ?_
 refine R1_call2 (shapeX_ok _ va r len M w ha) ?_
 rintro _ _ ⟨rfl,rfl⟩
 obtain ⟨s1,c1,ok1,e1,h1⟩:=shapeV_cases r len
 rw [e1]
 clear e1
 rcases h1 with ⟨hok,rfl,rfl,rfl⟩ | ⟨hok,rfl,rfl,rfl⟩
 rotate_left
 · refine gg ?_
   refine W_seq ?_
   refine gg ?_
   refine ret1 (v:=.int _ _) rfl rfl ⟨Ext.refl _,?_⟩
   rw [valE_3 (fun h=>by rw [okS_def,hok] at h; cases h.1)]
 by_cases hrl:s1 = len 0
 rotate_left
 · refine gg ?_
   refine W_seq ?_
   refine gg ?_
   refine ret1 (v:=.int _ _) rfl rfl ⟨Ext.refl _,?_⟩
   rw [valE_3 (fun h=>by rw [okS_def,hok] at h; exact hrl (by simpa using h.1))]
 have hok2:okS s1 len = true:=by rw [okS_def,hok]; simpa using hrl
 obtain ⟨hr1,hr2,hlen⟩:=okS_iff.1 hok2
 by_cases h8:s1≤8
 rotate_left
 · refine gg ?_
   refine W_seq ?_
   refine gg ?_
   refine ret1 (v:=.int _ _) rfl rfl ⟨Ext.refl _,?_⟩
   rw [valE_3 (fun h=>h8 h.2)]
 refine gg ?_
 refine W_seq ?_
 refine gg ?_
 clear hok
 obtain ⟨n,rfl⟩ : ∃ n,n = s1:=⟨_,rfl⟩
 have hM:=ha.sq hlen
 obtain ⟨Aa,capa,rfl,_,_,hrow⟩:=id hM
 obtain ⟨ad,_,rfl,_⟩:=hrow 0 (by omega)
 refine W_seqM (fun f w'=>f 0 = .slice (some ad) n capa∧f 3 = .int .i64 ((n:Nat):Int)∧Ext w w'∧∀ a b,a < n→b < a→M a b = M b a) ?_ ?_
 · refine gg ?_
   refine W_loop (fun m f w'=>∃ i,m = n - i∧i≤n∧f 0 = .slice (some ad) n capa∧f 3 = .int .i64 ((n:Nat):Int)∧f 25 = .int .i64 ((n:Nat):Int)∧f 26 = .int .i64 ((i:Nat):Int)∧Ext w w'∧∀ a b,a < i→b < a→M a b = M b a)
    n ⟨0,rfl,Nat.zero_le _,rfl,rfl,rfl,rfl,Ext.refl _,fun a b h=>absurd h (by omega)⟩ ?_
   rintro m f w1 ⟨i,rfl,hi,hf0,hf3,hf25,hf26,hE,hall⟩
   rw [ui hf0,ui hf3,ui hf25,ui hf26]
   clear hf0 hf3 hf25 hf26
   by_cases hlt:i < n
   · refine gg ?_
     refine W_loop (fun m f w'=>∃ j,m = i - j∧j≤i∧f 0 = .slice (some ad) n capa∧f 3 = .int .i64 ((n:Nat):Int)∧f 25 = .int .i64 ((n:Nat):Int)∧f 26 = .int .i64 ((i:Nat):Int)∧f 6 = .int .i64 ((i:Nat):Int)∧f 29 = .int .i64 ((i:Nat):Int)∧f 30 = .int .i64 ((j:Nat):Int)∧Ext w w'∧∀ b,b < j→M i b = M b i)
      i ⟨0,rfl,Nat.zero_le _,rfl,rfl,rfl,rfl,rfl,rfl,rfl,hE,fun b h=>absurd h (by omega)⟩ ?_
     clear hE
     rintro m f w2 ⟨j,rfl,hj,hf0,hf3,hf25,hf26,hf6,hf29,hf30,hE,hall2⟩
     rw [ui hf0,ui hf3,ui hf25,ui hf26,ui hf6,ui hf29,ui hf30]
     clear hf0 hf3 hf25 hf26 hf6 hf29 hf30
     by_cases hjl:j < i
     · refine gg ?_
       refine W_seqD [(0,3),(1,3),(2,3),(3,0),(4,3),(5,3),(6,0),(7,3),(8,3),(9,3),(10,0),(11,3),(12,3),(13,0),(14,1),(15,3)] mixed (by kernel_rfl) (fun w3 hE3 _=>?_)
       obtain ⟨ad1,u1,e1,hu1,hr1'⟩:=hrow i hlt
       obtain rfl:=Option.some.inj e1
       have hr1':RowE (EI N) w u1 n (M i):=hr1'
       obtain ⟨A1,c1,rfl,_,_,he1⟩:=hr1'
       obtain ⟨ae1,x1,y1,rfl,hx1,hy1,hv1⟩:=he1 j (by omega)
       obtain ⟨ad2,u2,e2,hu2,hr2'⟩:=hrow j (by omega)
       obtain rfl:=Option.some.inj e2
       have hr2':RowE (EI N) w u2 n (M j):=hr2'
       obtain ⟨A2,c2,rfl,_,_,he2⟩:=hr2'
       obtain ⟨ae2,x2,y2,rfl,hx2,hy2,hv2⟩:=he2 i hlt
       have hE03:=hE.trans hE3
       have k1:=cell_ext hE03 hu1
       have k2:=cell_ext hE03 hu2
       have k3:=cell_ext hE03 hx1
       have k4:=cell_ext hE03 hy1
       have k5:=cell_ext hE03 hx2
       have k6:=cell_ext hE03 hy2
       refine gg ?_
       refine R1_call1 (cmp_ok _ _ _ _ _ _ N w3 (IV.ext hv1 hE03) (IV.ext hv2 hE03) (by omega)) ?_
       rintro _ w4 ⟨hE4,rfl⟩
       refine ⟨hE4,?_⟩
       by_cases hz:M i j = M j i
       · have hs:cmpI (M i j) (M j i) = 0:=by rw [hz]; simp [cmpI]
         refine gg ?_
         refine ⟨_,?_,j + 1,rfl,by omega,rfl,rfl,rfl,rfl,rfl,rfl,rfl,hE03.trans hE4,fun b hb=>?_⟩
         · omega
         · by_cases e:b = j
           · subst e; exact hz
           · exact hall2 b (by omega)
       · have hs:¬ cmpI (M i j) (M j i) = 0:=by
          unfold cmpI
          split
          · decide
          · split <;> omega
         refine gg ?_
         refine ret1 (v:=.int _ _) rfl rfl ⟨hE03.trans hE4,?_⟩
         rw [valE_4 ⟨hok2,h8⟩ (fun h=>hz (h i j hlt hjl))]
     · refine gg ?_
       refine ⟨_,?_,i + 1,rfl,by omega,rfl,rfl,rfl,rfl,hE,fun a b ha' hb=>?_⟩
       · omega
       · by_cases e:a = i
         · subst e; exact hall2 b (by omega)
         · exact hall a b (by omega) hb
   · refine gg ?_
     exact ⟨rfl,rfl,hE,fun a b ha' hb=>hall a b (by omega) hb⟩
 rintro f w1 ⟨hf0,hf3,hE1,hsym⟩
 rw [ui hf0,ui hf3]
 clear hf0 hf3
 refine W_seq ?_
 refine gg ?_
 refine R1_call2 (definite_ok _ n N len M w1 (ha.ext hE1) hN1 hN) ?_
 rintro _ w3 ⟨hE3,b,rfl,hb⟩
 rw [okDef_df'] at hb
 cases b
 · refine gg ?_
   refine ret1 (v:=.int _ _) rfl rfl ⟨hE1.trans hE3,?_⟩
   rw [valE_5 ⟨hok2,h8⟩ hsym (fun h=>by cases hb.2 ⟨hok2,hsym,h⟩)]
 refine gg ?_
 refine ret1 (v:=.int _ _) rfl rfl ⟨hE1.trans hE3,?_⟩
 rw [valE_0 ⟨hok2,h8⟩ hsym (hb.1 rfl).2.2]
end Go.Proofs.YtncbjgblcofddaaGreatDoor
namespace Go.Det
open Go
structure Stg (n k:Nat) (H:Mt):Prop where
 pos:∀ m,m≤k→0 < det m H
 sml:∀ m,1≤m→m≤k→det m H < 65536
 sz:∀ i j,j < k→j < i→i < n→2 * bm j H i j≤det (j + 1) H∧-(2 * bm j H i j)≤det (j + 1) H
 lov:∀ i,i < k→i + 1 < n→3 * (det (i + 1) H * det (i + 1) H)≤4 * (det i H * det (i + 2) H + bm i H (i + 1) i * bm i H (i + 1) i)
 bd:∀ i j,k≤i→i < n→k≤j→j < n→bm k H i j≤det k H * (262144 + (k:Int) * 16384)∧-(bm k H i j)≤det k H * (262144 + (k:Int) * 16384)
theorem Stg.red {n:Nat} {H:Mt} (hn:1≤n) (h:Stg n (n - 1) H):Red n H:=by
 exact ⟨fun i j hji hi=>h.sz i j (by omega) hji hi,fun i hi=>h.lov i (by omega) hi⟩
end Go.Det
namespace Go.Proofs.YtncbjgblcofddaaGreatDoor
open Go Go.Eng Go.Num Go.Proofs
open Go.Det (gr bm det Sy PM Red Stg)
theorem val_pmI {r:Nat} {len:Nat→Nat} {G:Nat→Nat→Int} (h:valE r len G = 0):PM r G∧Sy r G:=by
 obtain ⟨hok,h8,hs,hp⟩:=valE_zero.1 h
 refine ⟨fun m hm=>?_,fun a b ha hb=>?_⟩
 · by_cases e:m = 0
   · subst e; exact Int.zero_lt_one
   · have:=hp (m - 1) (by omega)
     rwa [show m - 1 + 1 = m by omega] at this
 · by_cases e:a = b
   · rw [e]
   · by_cases e2:b < a
     · exact hs a b ha e2
     · exact (hs b a hb (by omega)).symm
def redOk (r:Nat) (len:Nat→Nat) (H:Nat→Nat→Int):Prop:=valE r len H = 0∧det r H≤10000∧Red r H
theorem redOk.minor {r:Nat} {len:Nat→Nat} {H:Nat→Nat→Int} (h:redOk r len H) {m:Nat} (hm:m≤r):0 < det m H∧det m H≤65535:=by
 obtain ⟨h1,h2,h3⟩:=h
 obtain ⟨hp,hs⟩:=val_pmI h1
 obtain ⟨_,h8,_,_⟩:=valE_zero.1 h1
 exact ⟨hp m hm,Go.Det.minor_small hp h3 h8 h2 m hm⟩
end Go.Proofs.YtncbjgblcofddaaGreatDoor
namespace Go.Proofs.YtncbjgblcofddaaGreatDoor
open Go Go.Eng Go.Num Go.Proofs
open Go.Det (gr bm det Sy PM Red one)
theorem det1 (M:Nat→Nat→Int):det 1 M = M 0 0:=by
 simp [det,Go.Det.sm,Go.Det.sgn]
theorem det2 (M:Nat→Nat→Int):det 2 M = M 0 0 * M 1 1 - M 0 1 * M 1 0:=by
 simp only [det,Go.Det.sm,Go.Det.sgn,Go.Det.minor,Go.Det.skip]
 simp
 grind
end Go.Proofs.YtncbjgblcofddaaGreatDoor
