/- Joined: Shp, Lyh. -/
import Derived.Test.YtmkbpjoihdfpkaaGreatQna
import Derived.Test.YtmkbpjoihdfpkaaGreatQnj
import Derived.Test.YtmkbpjoihdfpkaaGreatQnl
/- The product of a reduced form's diagonal,in plain Lean. -/
namespace Go.Det
open Go
variable {n:Nat} {H:Mt}
theorem Red.far (hp:PM n H) (h:Red n H) {c:Nat}:∀ t,c + t < n→det (c + 1) H * det (c + t) H≤2 ^ t * (det c H * det (c + t + 1) H)
 | 0,hc=>by rw [Nat.add_zero,Int.pow_zero,Int.one_mul,Int.mul_comm]; exact Int.le_refl _
 | t + 1,hc=>by
  have ih:=Red.far (c:=c) hp h t (by omega)
  have hh:=h.half (i:=c + t) (by omega)
  have p0:=hp c (by omega)
  have p1:=hp (c + t) (by omega)
  have p2:=hp (c + t + 1) (by omega)
  have e2:(2:Int) ^ (t + 1) = 2 ^ t * 2:=Int.pow_succ 2 t
  have pw:(0:Int)≤2 ^ t:=by
   have:0 < (2:Nat) ^ t:=Nat.pow_pos (by decide)
   have e9:((2 ^ t:Nat):Int) = (2:Int) ^ t:=by rw [Int.natCast_pow]; rfl
   omega
  rw [show c + (t + 1) = c + t + 1 by omega,show c + t + 1 + 1 = c + t + 2 by omega,e2]
  generalize (2:Int) ^ t = q at *
  generalize det (c + t) H = a at *
  generalize det (c + t + 1) H = b at *
  generalize det (c + t + 2) H = d at *
  generalize det (c + 1) H = x at *
  generalize det c H = y at *
  have h1:=Int.mul_le_mul_of_nonneg_right ih (Int.le_of_lt p2)
  have h2:=Int.mul_le_mul_of_nonneg_left hh (Int.mul_nonneg pw (Int.le_of_lt p0))
  refine Int.le_of_mul_le_mul_left (a:=a) ?_ p1
  have e3:a * (x * b) = x * a * b:=by grind
  have e4:a * (q * 2 * (y * d)) = q * y * (2 * (a * d)):=by grind
  have e5:q * (y * b) * b = q * y * (b * b):=by grind
  omega
theorem diag_far (hs:tr H = H) (hp:PM n H) (h:Red n H) {i:Nat} (hi:i < n):∀ t c,c + t = i→4 * (det i H * bm c H i i)≤det c H * det (i + 1) H * (2 + 2 ^ (t + 1))
 | 0,c,e=>by
  obtain rfl:c = i:=by omega
  rw [bm_self]
  simp only [Int.pow_succ,Int.pow_zero]
  omega
 | t + 1,c,e=>by
  have ih:=diag_far hs hp h hi t (c + 1) (by omega)
  have hf:=h.far hp (c:=c) (t + 1) (by omega)
  rw [show c + (t + 1) = i by omega] at hf
  have p0:=hp c (by omega)
  have p1:=hp (c + 1) (by omega)
  have pi:=hp i (by omega)
  have hst:=step_diag hs (k:=c) (by omega) i
  have hz:=h.sized i c (by omega) hi
  have hl:=four_sq hz.1 hz.2
  have e2:(2:Int) ^ (t + 1 + 1) = 2 ^ (t + 1) * 2:=Int.pow_succ 2 (t + 1)
  rw [e2]
  generalize (2:Int) ^ (t + 1) = q at *
  generalize det i H = a at *
  generalize det (i + 1) H = b at *
  generalize det (c + 1) H = x at *
  generalize det c H = y at *
  generalize bm c H i i = u at *
  generalize bm (c + 1) H i i = v at *
  generalize bm c H i c = l at *
  refine Int.le_of_mul_le_mul_left (a:=x) ?_ p1
  have h1:=Int.mul_le_mul_of_nonneg_left ih (Int.le_of_lt p0)
  have h2:=Int.mul_le_mul_of_nonneg_left hl (Int.le_of_lt pi)
  have h3:=Int.mul_le_mul_of_nonneg_left hf (Int.le_of_lt p1)
  have e3:x * (4 * (a * u)) = 4 * (a * (x * u)):=by grind
  rw [e3,hst]
  have e4:4 * (a * (y * v + l * l)) = y * (4 * (a * v)) + a * (4 * (l * l)):=by grind
  have e5:x * (y * b * (2 + q * 2)) = y * (x * b * (2 + q)) + x * (q * (y * b)):=by grind
  have e6:a * (x * x) = x * (x * a):=by grind
  omega
theorem diag_proj (hs:tr H = H) (hp:PM n H) (h:Red n H) {i:Nat} (hi:i < n):det i H * H i i≤2 ^ i * det (i + 1) H:=by
 have h1:=diag_far hs hp h hi i 0 (by omega)
 have p1:=hp (i + 1) (by omega)
 have e1:det 0 H = 1:=rfl
 rw [bm_zero',e1,Int.one_mul] at h1
 have e2:(2:Int) ^ (i + 1) = 2 ^ i * 2:=Int.pow_succ 2 i
 rw [e2] at h1
 have pw:(1:Int)≤2 ^ i:=by
  have:0 < (2:Nat) ^ i:=Nat.pow_pos (by decide)
  have e9:((2 ^ i:Nat):Int) = (2:Int) ^ i:=by rw [Int.natCast_pow]; rfl
  omega
 generalize (2:Int) ^ i = q at *
 have h2:=Int.mul_le_mul_of_nonneg_left pw (Int.le_of_lt p1)
 have e3:det (i + 1) H * (2 + q * 2) = det (i + 1) H * 2 + 2 * (q * det (i + 1) H):=by grind
 have e4:det (i + 1) H * q = q * det (i + 1) H:=Int.mul_comm _ _
 omega
def dgp (H:Mt):Nat→Int
 | 0=>1
 | m + 1=>dgp H m * H m m
theorem tri_succ (m:Nat):(m + 1) * (m + 1 - 1) / 2 = m * (m - 1) / 2 + m:=by
 have:(m + 1) * (m + 1 - 1) = m * (m - 1) + m * 2:=by
  cases m with
  | zero=>rfl
  | succ k=>simp only [Nat.add_sub_cancel]; grind
 rw [this,Nat.add_mul_div_right _ _ (by decide)]
theorem dgp_le (hs:tr H = H) (hp:PM n H) (h:Red n H):∀ m,m≤n→0 < dgp H m∧dgp H m≤2 ^ (m * (m - 1) / 2) * det m H
 | 0,_=>by simp [dgp,det]
 | m + 1,hm=>by
  obtain ⟨i0,i1⟩:=dgp_le hs hp h m (by omega)
  have hd:=diag_proj hs hp h (i:=m) (by omega)
  have pd:0 < H m m:=by
   have:=diag_pos hs hp (i:=m) (by omega) m 0 (by omega)
   rwa [bm_zero'] at this
  simp only [dgp]
  refine ⟨Int.mul_pos i0 pd,?_⟩
  rw [tri_succ,Int.pow_add]
  have h1:=Int.mul_le_mul_of_nonneg_right i1 (Int.le_of_lt pd)
  have pw:(0:Int)≤2 ^ (m * (m - 1) / 2):=by
   have e9:((2 ^ (m * (m - 1) / 2):Nat):Int) = (2:Int) ^ (m * (m - 1) / 2):=by rw [Int.natCast_pow]; rfl
   rw [← e9]; exact Int.natCast_nonneg _
  have h2:=Int.mul_le_mul_of_nonneg_left hd pw
  generalize (2:Int) ^ (m * (m - 1) / 2) = q at *
  generalize (2:Int) ^ m = r at *
  have e1:q * det m H * H m m = q * (det m H * H m m):=Int.mul_assoc _ _ _
  have e2:q * r * det (m + 1) H = q * (r * det (m + 1) H):=Int.mul_assoc _ _ _
  omega
end Go.Det
namespace Go.Proofs.YtmkbpjoihdfpkaaGreat
open Go Go.Eng Go.Num Go.Proofs
open Go.Det (gr bm det Sy PM Red one dgp)
theorem ofT_ok {v:Value} {n:Nat} {M:Nat→Nat→Int} {w:World} (h:MatZ w v n (fun _=>n) M) (h1:1≤n) (h2:n≤16) :
 Meets Tryz.prog 25 #[v] w (fun u w'=>Ext w w'∧∃ gO gs,u = .slice (some ⟨gO,0,none⟩) n n∧OMat w' gO gs n n M):=by
 have hh:=rof_ok v n (fun _=>n) M w h
 refine ⟨hh.enters,hh.calls.mono fun e w' ⟨u,he,hu⟩=>?_⟩
 obtain ⟨hE,gO,gs,rfl,_,_,hO⟩:=hu.get (okM_iff.2 ⟨⟨h1,h2,h1,h2⟩,fun _ _=>rfl⟩)
 exact ⟨_,he,hE,gO,gs,rfl,hO⟩
theorem pow_bd {N:Nat} {z:Int} (h:Bd N z):∀ k:Nat,Bd (N * k + 1) (z ^ k)
 | 0=>by rw [Int.pow_zero]; unfold Bd; rw [Nat.mul_zero]; decide
 | k + 1=>by
  rw [Int.pow_succ]
  exact ((pow_bd h k).mul h).mono (by rw [Nat.mul_succ]; omega)
set_option maxHeartbeats 16000000 in
theorem rpow_ok (x y:Value) (z:Int) (N n:Nat) (w:World) (h:IV w N x y z) (hN1:1≤N) (hN:N≤1000000) (hn:n≤64) :
 Meets Tryz.prog 34 #[.agg #[x,y],.int .i64 ((n:Nat):Int)] w fun v w'=>Ext w w'∧∃ x' y',v = .tuple #[.agg #[x',y'],.bool true]∧CV w' x' y' (z ^ n):=by
 refine fn_W (n:=25) Tryz.func34 rfl rfl (by kernel_rfl) (by simp) ?_
 have bz:=IV.bd h
 have hpb:=pow_bd bz
 have hNn:∀ k,k≤64→N * k + 1≤64000001:=fun k hk=>by
  have:=Nat.mul_le_mul hN hk
  omega
 have hX:Ext w w:=Ext.refl w
 refine gh ?_
 refine R1_box (v:=.agg _) (.inl rfl) rfl ?_
 intro w_1 hB0_ hE_ hs_
 have hA:Blk w_1 w.heap.size 47 #[x,y]:=hB0_
 obtain ⟨gA,hg_⟩ : ∃ g,g = w.heap.size:=⟨_,rfl⟩
 rw [← hg_] at hA ⊢
 have hfr_gA:w.heap.size≤gA:=by have:=hX.size; omega
 replace h:=h.ext hE_
 replace hX:=hX.trans hE_
 clear hB0_ hs_ hg_ hE_
 refine gh ?_
 refine R1_alloc (.inl rfl) z_Int ?_
 intro w_2 hB0_ hE_ hs_
 have h4:=Bx.zero (N:=1) true hB0_
 obtain ⟨g4,hg_⟩ : ∃ g,g = w_1.heap.size:=⟨_,rfl⟩
 rw [← hg_] at h4 ⊢
 have hfr_g4:w.heap.size≤g4:=by have:=hX.size; omega
 have hne_g4_gA:g4 ≠ gA:=by have:=hA.lt; omega
 replace h:=h.ext hE_
 replace hA:=hA.ext hE_
 replace hX:=hX.trans hE_
 clear hB0_ hs_ hg_ hE_
 refine gh ?_
 refine W_seq ?_
 refine gh ?_
 refine gh ?_
 refine R1_call2 (rsmall_ok 1 w_2 (by decide) (by decide)) ?_
 rintro _ w_3 ⟨hE_,a0,a1,rfl,hc1⟩
 replace h:=h.ext hE_
 replace hA:=hA.ext hE_
 replace h4:=h4.ext hE_
 replace hX:=hX.trans hE_
 clear hE_
 refine gh ?_
 refine R1_alloc (.inl rfl) z_Int ?_
 intro w_4 hB0_ hE_ hs_
 have h6:=Bx.zero (N:=1) true hB0_
 obtain ⟨g6,hg_⟩ : ∃ g,g = w_3.heap.size:=⟨_,rfl⟩
 rw [← hg_] at h6 ⊢
 have hfr_g6:w.heap.size≤g6:=by have:=hX.size; omega
 have hne_g6_gA:g6 ≠ gA:=by have:=hA.lt; omega
 have hne_g6_g4:g6 ≠ g4:=by have:=h4.lt; omega
 replace h:=h.ext hE_
 replace hA:=hA.ext hE_
 replace h4:=h4.ext hE_
 replace hc1:=hc1.ext hE_
 replace hX:=hX.trans hE_
 clear hB0_ hs_ hg_ hE_
 refine gh ?_
 refine R1_storeBx (by first | exact .inl rfl | exact .inr ⟨rfl,fun _ h=>h.mono fun b _ e=>by omega⟩) rfl rfl h6 (hc1.ev true (show Bd 1 1 by unfold Bd; decide)) ?_
 intro w_5 h6 hC_ hk_ hs_
 replace h:=h.kp hk_
 replace hA:=hA.ch hC_ (by omega)
 replace h4:=h4.kp hk_ hC_ (by first | omega | assumption)
 replace hc1:=hc1.kp hk_
 replace hX:=hC_.ext_of hX (fun b hb=>by omega)
 clear hC_ hk_ hs_
 have hI0:h6 = h6:=rfl
 have hdis:w.heap.size≤gA∧w.heap.size≤g4∧w.heap.size≤g6∧gA ≠ g4∧gA ≠ g6∧g4 ≠ g6:=by omega
 obtain ⟨d1,d2,d3,d4,d5,d6⟩:=hdis
 clear hI0
 refine gh ?_
 refine W_seqM (fun f w'=>f 4 = .pointer (some ⟨g4,0,none⟩)∧f 6 = .pointer (some ⟨g6,0,none⟩)∧Ext w w'∧Bx w' g4 1 true 0∧Bx w' g6 (N * n + 1) true (z ^ n)) ?_ ?_
 · refine gh ?_
   refine W_loop (fun q f w'=>∃ k,q = n - k∧k≤n∧f 1 = .int .i64 ((n:Nat):Int)∧f 2 = .pointer (some ⟨gA,0,none⟩)∧f 4 = .pointer (some ⟨g4,0,none⟩)∧f 6 = .pointer (some ⟨g6,0,none⟩)∧f 7 = .int .i64 ((k:Nat):Int)∧Ext w w'∧IV w' N x y z∧Blk w' gA 47 #[x,y]∧Bx w' g4 1 true 0∧Bx w' g6 (N * k + 1) true (z ^ k))
    n ⟨0,rfl,Nat.zero_le _,rfl,rfl,rfl,rfl,rfl,hX,h,hA,h4,by rw [Int.pow_zero,Nat.mul_zero]; exact h6⟩ ?_
   clear hX h hA h4 h6 a0 a1 hc1
   rintro q f wl ⟨k,rfl,hk,hf1,hf2,hf4,hf6,hf7,hX,h,hA,h4,h6⟩
   rw [ui hf1,ui hf2,ui hf4,ui hf6,ui hf7]
   clear hf1 hf2 hf4 hf6 hf7
   refine W_seq ?_
   by_cases hlt:k < n
   · obtain ⟨p0,p1⟩:=blkP hA
     obtain ⟨h6_u,h6_v,h6_B,h6_V⟩:=id h6
     obtain ⟨h6_0,h6_1⟩:=blkP h6_B
     have hNk:=hNn (k + 1) (by omega)
     have e1:N * (k + 1) = N * k + N:=Nat.mul_succ N k
     refine gh ?_
     refine gh ?_
     refine R1_call2 (rmul_ok _ _ _ _ _ _ (N * (k + 1) + 1) wl (h6_V.1.mono (by omega)) (h.mono (by omega)) (by omega)) ?_
     rintro _ w_6 ⟨hE_,m0,m1,rfl,hm⟩
     replace h:=h.ext hE_
     replace hA:=hA.ext hE_
     replace h4:=h4.ext hE_
     replace h6:=h6.ext hE_
     replace hX:=hX.trans hE_
     clear hE_
     clear p0 p1 h6_0 h6_1 h6_V
     have hpk:=hpb (k + 1)
     rw [← Int.pow_succ] at hm
     refine gh ?_
     refine R1_storeBx (by first | exact .inl rfl | exact .inr ⟨rfl,fun _ h=>h.mono fun b _ e=>by omega⟩) rfl rfl h6 (hm.ev true hpk) ?_
     intro w_7 h6 hC_ hk_ hs_
     replace h:=h.kp hk_
     replace hA:=hA.ch hC_ (by omega)
     replace h4:=h4.kp hk_ hC_ (by first | omega | assumption)
     replace hm:=hm.kp hk_
     replace hX:=hC_.ext_of hX (fun b hb=>by omega)
     clear hC_ hk_ hs_
     refine gh ?_
     refine ⟨_,?_,k + 1,rfl,by omega,rfl,rfl,rfl,rfl,rfl,hX,h,hA,h4,h6⟩
     omega
   · refine gh ?_
     obtain rfl:k = n:=by omega
     exact ⟨rfl,rfl,hX,h4,h6⟩
 clear hX h hA h4 h6 a0 a1 hc1
 rintro f wl ⟨hf4,hf6,hX,h4,h6⟩
 rw [ui hf4,ui hf6]
 clear hf4 hf6
 obtain ⟨h6_u,h6_v,h6_B,h6_V⟩:=id h6
 obtain ⟨h6_0,h6_1⟩:=blkP h6_B
 have hpn:=hpb n
 have hc:=h6_V.2 rfl
 refine gh ?_
 clear h6_0 h6_1 h6_V
 refine gh ?_
 refine R1_storeBx (by first | exact .inl rfl | exact .inr ⟨rfl,fun _ h=>h.mono fun b _ e=>by omega⟩) rfl rfl h4 (hc.ev true hpn) ?_
 intro w_8 h4 hC_ hk_ hs_
 replace h6:=h6.kp hk_ hC_ (by first | omega | assumption)
 replace hc:=hc.kp hk_
 replace hX:=hC_.ext_of hX (fun b hb=>by omega)
 clear hC_ hk_ hs_
 refine gh ?_
 obtain ⟨x',y',hB,hV⟩:=h4
 exact retCB rfl agg_Int rfl hB rfl ⟨hX,x',y',rfl,hV.2 rfl⟩
theorem dgp_bd {n:Nat} {H:Nat→Nat→Int} (h:∀ i,i < n→Bd 1 (H i i)):∀ k,k≤n→Bd (k + 1) (dgp H k)
 | 0,_=>by simp only [dgp]; unfold Bd; decide
 | k + 1,hk=>by
  simp only [dgp]
  exact ((dgp_bd h k (by omega)).mul (h k (by omega))).mono (by omega)
set_option maxHeartbeats 32000000 in
theorem lawLllShort {v:Value} {dm kd q m:Nat} {ns ms:Nat→Int} {w:World} (h:LatV w v dm kd q ns m ms) :
 Meets Tryz.prog 10 #[v] w (Law w):=by
 obtain ⟨A,cap,A',cap',rfl,hd,hk,hc,hc',hN,hN'⟩:=h
 have hL:=LatV.agg hd hk hc hc' hN hN'
 refine fn_W (n:=83) Tryz.func10 rfl rfl (by kernel_rfl) (by simp) ?_
 have hdm:=Nat.mod_lt dm (show 0 < 5 by decide)
 obtain ⟨n,hn⟩ : ∃ n,n = 1 + dm % 5:=⟨_,rfl⟩
 have hn1:1≤n:=by omega
 have hn5:n≤5:=by omega
 have hn8:n≤8:=by omega
 have hoM:okM n (fun _=>n) = true:=okM_iff.2 ⟨⟨hn1,by omega,hn1,by omega⟩,fun _ _=>rfl⟩
 have hX:Ext w w:=Ext.refl w
 refine gh ?_
 refine R1_box (v:=.agg _) (.inl rfl) rfl ?_
 intro w_1 hB0_ hE_ hs_
 have hX1:Blk w_1 w.heap.size 27 #[.int .u8 ((dm:Nat):Int),.int .u8 ((kd:Nat):Int),.slice A q cap,.slice A' m cap']:=hB0_
 obtain ⟨gX,hg_⟩ : ∃ g,g = w.heap.size:=⟨_,rfl⟩
 rw [← hg_] at hX1 ⊢
 have hfr_gX:w.heap.size≤gX:=by have:=hX.size; omega
 replace hX:=hX.trans hE_
 clear hB0_ hs_ hg_ hE_
 obtain ⟨x0,x1,x2,x3⟩:=blkQ hX1
 refine gh ?_
 refine R1_load4F (by decide) agg_Lat rfl x0 x1 x2 x3 ?_
 clear x0 x1 x2 x3
 refine gh ?_
 refine R1_call2 (latRaw_ok _ dm kd q m 5 ns ms w_1 (hL w_1 hX) (by decide) (by decide)) ?_
 rintro _ w_2 ⟨hE_,gA,gsA,M,rfl,_,_,hO,h0,hdet,bM⟩
 replace hX1:=hX1.ext hE_
 replace hX:=hX.trans hE_
 clear hE_
 rw [← hn] at hO h0 hdet bM ⊢
 have hA:=hO.rd bM (Nat.le_refl _) (by omega) (by omega)
 refine gh ?_
 refine R1_call2 (reduce_ok _ n 5 (fun _=>n) M w_2 hA (by decide) (by decide)) ?_
 rintro _ w6 ⟨hE6,⟨h1,_⟩ | ⟨_,h1,_⟩ | ⟨_,_,T,gO,gs,gT,gsT,rfl,hgO,hgs,hZ,_,_,hT,hF⟩⟩
 · exact absurd h0 h1
 · omega
 have hws:=hX.size
 replace hX:=hX.trans hE6
 have hOk:=found_ok hF hn1 hn8 hdet
 have hfs:=Go.Det.first_small hF.pos hF.red hn1
 have hdp:=(Go.Det.dgp_le hF.sym hF.pos hF.red n (Nat.le_refl n)).2
 have hsm:=hF.small
 have hrd:∀ w',Ext w6 w'→MatZ w' (.slice (some ⟨gO,0,none⟩) n n) n (fun _=>n) (gr n T M):=fun w' hE=>found_rd hF (hZ.ext hE) hn8
 have hHd:det n (gr n T M)≤10000:=by rw [hF.det]; exact hdet
 generalize gr n T M = H at hZ hOk hfs hdp hsm hrd hHd
 clear hF hT hA hO h0 hdet bM hX1
 have bH:∀ i j,i < n→j < n→Bd 1 (H i j):=fun i j hi hj=>by
  have:=hsm i j hi hj
  unfold Bd B
  omega
 refine gh ?_
 refine W_seq ?_
 refine gh ?_
 refine R1_call2 (rIsReduced_ok _ n (fun _=>n) H w6 (hrd w6 (Ext.refl _))) ?_
 rintro _ w7 ⟨hE7,b,rfl,hb⟩
 obtain rfl:b = true:=hb.2 hOk
 replace hX:=hX.trans hE7
 replace hZ:=hZ.ext hE7
 have hE67:=hE7
 have hgw:w.heap.size≤gO∧∀ i,i < n→w.heap.size≤gs i:=⟨by omega,fun i hi=>by have:=hgs i hi; omega⟩
 clear hgO hgs hws hE6 hE7
 have hZl:gO < w7.heap.size∧∀ i,i < n→gs i < w7.heap.size:=⟨hZ.outer.lt,fun i hi=>Blk.lt (hZ.row i hi)⟩
 have hX0:=hX
 clear hX
 have b0:=bH 0 0 (by omega) (by omega)
 have bp:∀ k,Bd (k + 1) (H 0 0 ^ k):=fun k=>by
  have:=pow_bd b0 k
  rw [Nat.one_mul] at this
  exact this
 have bd:=dgp_bd (n:=n) (fun i hi=>bH i i hi hi)
 have hX:Ext w7 w7:=(Ext.refl _)
 refine gh ?_
 refine gh ?_
 refine R1_call2 (rsmall_ok 1 w7 (by decide) (by decide)) ?_
 rintro _ w_3 ⟨hE_,a0,a1,rfl,hc1⟩
 replace hX:=hX.trans hE_
 clear hE_
 refine gh ?_
 refine R1_call2 (rsmall_ok 1 w_3 (by decide) (by decide)) ?_
 rintro _ w_4 ⟨hE_,a2,a3,rfl,hc2⟩
 replace hc1:=hc1.ext hE_
 replace hX:=hX.trans hE_
 clear hE_
 refine gh ?_
 refine R1_alloc (.inl rfl) z_Int ?_
 intro w_5 hB0_ hE_ hs_
 have h7:=Bx.zero (N:=1) true hB0_
 obtain ⟨g7,hg_⟩ : ∃ g,g = w_4.heap.size:=⟨_,rfl⟩
 rw [← hg_] at h7 ⊢
 have hfr_g7:w7.heap.size≤g7:=by have:=hX.size; omega
 replace hc1:=hc1.ext hE_
 replace hc2:=hc2.ext hE_
 replace hX:=hX.trans hE_
 clear hB0_ hs_ hg_ hE_
 refine gh ?_
 refine R1_alloc (.inl rfl) z_Int ?_
 intro w_6 hB0_ hE_ hs_
 have h8:=Bx.zero (N:=1) true hB0_
 obtain ⟨g8,hg_⟩ : ∃ g,g = w_5.heap.size:=⟨_,rfl⟩
 rw [← hg_] at h8 ⊢
 have hfr_g8:w7.heap.size≤g8:=by have:=hX.size; omega
 have hne_g8_g7:g8 ≠ g7:=by have:=h7.lt; omega
 replace hc1:=hc1.ext hE_
 replace hc2:=hc2.ext hE_
 replace h7:=h7.ext hE_
 replace hX:=hX.trans hE_
 clear hB0_ hs_ hg_ hE_
 refine gh ?_
 refine R1_storeBx (by first | exact .inl rfl | exact .inr ⟨rfl,fun _ h=>h.mono fun b _ e=>by omega⟩) rfl rfl h7 (hc1.ev true (show Bd 1 1 by unfold Bd; decide)) ?_
 intro w_7 h7 hC_ hk_ hs_
 replace hc1:=hc1.kp hk_
 replace hc2:=hc2.kp hk_
 replace h8:=h8.kp hk_ hC_ (by first | omega | assumption)
 replace hX:=hC_.ext_of hX (fun b hb=>by omega)
 clear hC_ hk_ hs_
 refine gh ?_
 refine R1_storeBx (by first | exact .inl rfl | exact .inr ⟨rfl,fun _ h=>h.mono fun b _ e=>by omega⟩) rfl rfl h8 (hc2.ev true (show Bd 1 1 by unfold Bd; decide)) ?_
 intro w_8 h8 hC_ hk_ hs_
 replace hc1:=hc1.kp hk_
 replace hc2:=hc2.kp hk_
 replace h7:=h7.kp hk_ hC_ (by first | omega | assumption)
 replace hX:=hC_.ext_of hX (fun b hb=>by omega)
 clear hC_ hk_ hs_
 have hdis:w7.heap.size≤g7∧w7.heap.size≤g8∧g7 ≠ g8:=by omega
 obtain ⟨d1,d2,d3⟩:=hdis
 refine gh ?_
 refine W_seqM (fun f w'=>f 3 = .slice (some ⟨gO,0,none⟩) n n∧f 6 = .int .i64 ((n:Nat):Int)∧f 7 = .pointer (some ⟨g7,0,none⟩)∧f 8 = .pointer (some ⟨g8,0,none⟩)∧Ext w7 w'∧Bx w' g7 (n + 1) true (H 0 0 ^ n)∧Bx w' g8 (n + 1) true (dgp H n)) ?_ ?_
 · refine gh ?_
   refine W_loop (fun q f w'=>∃ i,q = n - i∧i≤n∧f 3 = .slice (some ⟨gO,0,none⟩) n n∧f 6 = .int .i64 ((n:Nat):Int)∧f 7 = .pointer (some ⟨g7,0,none⟩)∧f 8 = .pointer (some ⟨g8,0,none⟩)∧f 32 = .int .i64 ((n:Nat):Int)∧f 33 = .int .i64 ((i:Nat):Int)∧Ext w7 w'∧Bx w' g7 (i + 1) true (H 0 0 ^ i)∧Bx w' g8 (i + 1) true (dgp H i))
    n ⟨0,rfl,Nat.zero_le _,rfl,rfl,rfl,rfl,rfl,rfl,hX,by rw [Int.pow_zero]; exact h7,h8⟩ ?_
   clear hX h7 h8 a0 a1 a2 a3 hc1 hc2
   rintro q f wl ⟨i,rfl,hi,hf3,hf6,hf7,hf8,hf32,hf33,hX,h7,h8⟩
   rw [ui hf3,ui hf6,ui hf7,ui hf8,ui hf32,ui hf33]
   clear hf3 hf6 hf7 hf8 hf32 hf33
   by_cases hlt:i < n
   · have hbi:=bH i i hlt hlt
     have hsi:=hsm i i hlt hlt
     have hs0:=hsm 0 0 (by omega) (by omega)
     refine gh ?_
     refine W_seqD [(0,0),(1,3),(2,3),(3,0),(4,3),(5,0),(6,1),(7,1),(8,2)] mixed (by kernel_rfl) (fun w_9 hE_ _=>?_)
     replace h7:=h7.ext hE_
     replace h8:=h8.ext hE_
     replace hX:=hX.trans hE_
     clear hE_
     have k1:=(hZ.ext hX).at (i:=0) (by omega)
     have k2:=((hZ.ext hX).row 0 (by omega)).at (j:=0) (by omega)
     obtain ⟨h7_u,h7_v,h7_B,h7_V⟩:=id h7
     obtain ⟨h7_0,h7_1⟩:=blkP h7_B
     have u7:=h7_V.1
     refine gh ?_
     refine R1_index0B sl_i64 rfl (by omega) ?_
     refine gh ?_
     clear h7_0 h7_1 h7_V k1 k2
     refine gh ?_
     refine R1_call1 (rsmall_ok (H 0 0) w_9 (by omega) (by omega)) ?_
     rintro _ w_10 ⟨hE_,z0,z1,rfl,hz1⟩
     refine ⟨hE_,?_⟩
     replace h7:=h7.ext hE_
     replace h8:=h8.ext hE_
     replace u7:=u7.ext hE_
     replace hX:=hX.trans hE_
     clear hE_
     refine gh ?_
     refine R1_call1 (rmul_ok _ _ _ _ _ _ (i + 1) w_10 u7 (hz1.iv (b0.mono (by omega))) (by omega)) ?_
     rintro _ w_11 ⟨hE_,z2,z3,rfl,hz2⟩
     refine ⟨hE_,?_⟩
     replace h7:=h7.ext hE_
     replace h8:=h8.ext hE_
     replace u7:=u7.ext hE_
     replace hz1:=hz1.ext hE_
     replace hX:=hX.trans hE_
     clear hE_
     rw [← Int.pow_succ] at hz2
     refine gh ?_
     refine R1_storeBx (by first | exact .inl rfl | exact .inr ⟨rfl,fun _ h=>h.mono fun b _ e=>by omega⟩) rfl rfl h7 (hz2.ev true (bp (i + 1))) ?_
     intro w_12 h7 hC_ hk_ hs_
     replace h8:=h8.kp hk_ hC_ (by first | omega | assumption)
     replace u7:=u7.kp hk_
     replace hz1:=hz1.kp hk_
     replace hz2:=hz2.kp hk_
     replace hX:=hC_.ext_of hX (fun b hb=>by omega)
     clear hC_ hk_ hs_
     refine gh ?_
     refine W_regD [(0,0),(1,3),(2,3),(3,3),(4,0),(5,3),(6,3),(7,0),(8,1),(9,1),(10,2)] mixed (by kernel_rfl) (fun w_13 hE_ _=>?_)
     replace h7:=h7.ext hE_
     replace h8:=h8.ext hE_
     replace hX:=hX.trans hE_
     clear hE_
     have k1:=(hZ.ext hX).at (i:=i) hlt
     have k2:=((hZ.ext hX).row i hlt).at (j:=i) hlt
     obtain ⟨h8_u,h8_v,h8_B,h8_V⟩:=id h8
     obtain ⟨h8_0,h8_1⟩:=blkP h8_B
     have u8:=h8_V.1
     refine gh ?_
     clear h8_0 h8_1 h8_V k1 k2
     refine gh ?_
     refine R1_call1 (rsmall_ok (H i i) w_13 (by omega) (by omega)) ?_
     rintro _ w_14 ⟨hE_,z4,z5,rfl,hz1⟩
     refine ⟨hE_,?_⟩
     replace h7:=h7.ext hE_
     replace h8:=h8.ext hE_
     replace u8:=u8.ext hE_
     replace hX:=hX.trans hE_
     clear hE_
     refine gh ?_
     refine R1_call1 (rmul_ok _ _ _ _ _ _ (i + 1) w_14 u8 (hz1.iv (hbi.mono (by omega))) (by omega)) ?_
     rintro _ w_15 ⟨hE_,z6,z7,rfl,hz2⟩
     refine ⟨hE_,?_⟩
     replace h7:=h7.ext hE_
     replace h8:=h8.ext hE_
     replace u8:=u8.ext hE_
     replace hz1:=hz1.ext hE_
     replace hX:=hX.trans hE_
     clear hE_
     refine gh ?_
     refine R1_storeBx (by first | exact .inl rfl | exact .inr ⟨rfl,fun _ h=>h.mono fun b _ e=>by omega⟩) rfl rfl h8 (hz2.ev true (bd (i + 1) (by omega))) ?_
     intro w_16 h8 hC_ hk_ hs_
     replace h7:=h7.kp hk_ hC_ (by first | omega | assumption)
     replace u8:=u8.kp hk_
     replace hz1:=hz1.kp hk_
     replace hz2:=hz2.kp hk_
     replace hX:=hC_.ext_of hX (fun b hb=>by omega)
     clear hC_ hk_ hs_
     refine gh ?_
     refine ⟨_,?_,i + 1,rfl,by omega,rfl,rfl,rfl,rfl,rfl,rfl,hX,h7,h8⟩
     omega
   · refine gh ?_
     obtain rfl:i = n:=by omega
     exact ⟨rfl,rfl,rfl,rfl,hX,h7,h8⟩
 clear hX h7 h8 a0 a1 a2 a3 hc1 hc2
 rintro f wl ⟨hf3,hf6,hf7,hf8,hX,h7,h8⟩
 rw [ui hf3,ui hf6,ui hf7,ui hf8]
 clear hf3 hf6 hf7 hf8
 obtain ⟨e,he⟩ : ∃ e,e = n * (n - 1) / 2:=⟨_,rfl⟩
 have hnn:n * (n - 1)≤5 * 4:=Nat.mul_le_mul hn5 (by omega)
 have he64:e≤10:=by omega
 refine gh ?_
 refine gh ?_
 refine R1_call2 (rsmall_ok 2 wl (by decide) (by decide)) ?_
 rintro _ w_17 ⟨hE_,z0,z1,rfl,hz1⟩
 replace h7:=h7.ext hE_
 replace h8:=h8.ext hE_
 replace hX:=hX.trans hE_
 clear hE_
 refine gh ?_
 rw [show n - OfNat.ofNat 1 = n - 1 from rfl]
 refine R1_mul_i64 rfl rfl (by omega) ?_
 refine gh ?_
 refine R1_quo_i64_c rfl (by omega) (by decide) ?_
 rw [show n * (n - 1) / OfNat.ofNat 2 = e from he.symm]
 have b2:Bd 1 2:=by unfold Bd B; decide
 refine gh ?_
 refine R1_call2 (rpow_ok _ _ 2 1 e w_17 (hz1.iv b2) (by decide) (by decide) (by omega)) ?_
 rintro _ w_18 ⟨hE_,z2,z3,rfl,hz2⟩
 replace h7:=h7.ext hE_
 replace h8:=h8.ext hE_
 replace hz1:=hz1.ext hE_
 replace hX:=hX.trans hE_
 clear hE_
 have bpe:Bd 12 ((2:Int) ^ e):=(pow_bd b2 e).mono (by omega)
 refine gh ?_
 refine R1_alloc (.inl rfl) z_Int ?_
 intro w_19 hB0_ hE_ hs_
 have h10:=Bx.zero (N:=1) true hB0_
 obtain ⟨g10,hg_⟩ : ∃ g,g = w_18.heap.size:=⟨_,rfl⟩
 rw [← hg_] at h10 ⊢
 have hfr_g10:w7.heap.size≤g10:=by have:=hX.size; omega
 have hne_g10_g7:g10 ≠ g7:=by have:=h7.lt; omega
 have hne_g10_g8:g10 ≠ g8:=by have:=h8.lt; omega
 replace h7:=h7.ext hE_
 replace h8:=h8.ext hE_
 replace hz1:=hz1.ext hE_
 replace hz2:=hz2.ext hE_
 replace hX:=hX.trans hE_
 clear hB0_ hs_ hg_ hE_
 refine gh ?_
 refine R1_storeBx (by first | exact .inl rfl | exact .inr ⟨rfl,fun _ h=>h.mono fun b _ e=>by omega⟩) rfl rfl h10 (hz2.ev true bpe) ?_
 intro w_20 h10 hC_ hk_ hs_
 replace h7:=h7.kp hk_ hC_ (by first | omega | assumption)
 replace h8:=h8.kp hk_ hC_ (by first | omega | assumption)
 replace hz1:=hz1.kp hk_
 replace hz2:=hz2.kp hk_
 replace hX:=hC_.ext_of hX (fun b hb=>by omega)
 clear hC_ hk_ hs_
 refine gh ?_
 refine W_seqG [(0,0),(1,3)] [(2,[],[]),(5,[],[]),(3,[],[2]),(4,[],[3])] [(6,2)] mixed (by kernel_rfl) (fun w_21 hE_ _=>?_)
 replace h7:=h7.ext hE_
 replace h8:=h8.ext hE_
 replace h10:=h10.ext hE_
 replace hX:=hX.trans hE_
 clear hE_
 obtain ⟨h10_u,h10_v,h10_B,h10_V⟩:=id h10
 obtain ⟨h10_0,h10_1⟩:=blkP h10_B
 have u10:=h10_V.1
 have hZr:∀ w',Ext w7 w'→MatZ w' (.slice (some ⟨gO,0,none⟩) n n) n (fun _=>n) H:=fun w' hE=>hrd w' (hE67.trans hE)
 refine gh ?_
 refine Rg_float [(2,[]),(3,[]),(4,[])] [fA 5 12 47 (.agg #[.bool false,.slice none 0 0])] [67,68,69,12] (by kernel_rfl) (fun a ha f' w' _ _=>by
  rcases List.mem_singleton.1 ha with rfl
  exact flt_alloc z_Int rfl f' w') ?_
 have hltq_g7:=h7.lt
 have hltq_g8:=h8.lt
 have hltq_g10:=h10.lt
 have hszq:=hX.size
 clear h10_0 h10_1
 refine gh ?_
 refine Rc_cons (fun w_22 hE_=>?_)
 replace h7:=h7.ext hE_
 replace h8:=h8.ext hE_
 replace h10:=h10.ext hE_
 replace u10:=u10.ext hE_
 replace hX:=hX.trans hE_
 clear hE_
 refine gh ?_
 refine R1_call1 (ofT_ok (hZr w_22 hX) hn1 (by omega)) ?_
 rintro _ w_23 ⟨hE_,gI,gsI,rfl,hI⟩
 refine ⟨hE_,?_⟩
 replace h7:=h7.ext hE_
 replace h8:=h8.ext hE_
 replace h10:=h10.ext hE_
 replace u10:=u10.ext hE_
 replace hX:=hX.trans hE_
 clear hE_
 refine gh ?_
 refine gh ?_
 refine Rc_cons (fun w_24 hE_=>?_)
 replace h7:=h7.ext hE_
 replace h8:=h8.ext hE_
 replace h10:=h10.ext hE_
 replace u10:=u10.ext hE_
 replace hI:=hI.ext hE_
 replace hX:=hX.trans hE_
 clear hE_
 refine gh ?_
 refine R1_call1 (rdet_ok _ n 1 H w_24 (hI.rd bH (Nat.le_refl _) (by omega) (by omega)) (by omega) (by decide) (by decide)) ?_
 rintro _ w_25 ⟨hE_,z4,z5,rfl,hz3⟩
 refine ⟨hE_,?_⟩
 replace h7:=h7.ext hE_
 replace h8:=h8.ext hE_
 replace h10:=h10.ext hE_
 replace u10:=u10.ext hE_
 replace hI:=hI.ext hE_
 replace hX:=hX.trans hE_
 clear hE_
 rw [detB_det] at hz3
 have bD:Bd 1 (det n H):=by
  obtain ⟨q1,q2,_⟩:=hOk
  obtain ⟨_,_,_,q3⟩:=valE_zero.1 q1
  have:=q3 (n - 1) (by omega)
  rw [show n - 1 + 1 = n by omega] at this
  unfold Bd B
  omega
 refine gh ?_
 refine gh ?_
 refine Rc_cons (fun w_26 hE_=>?_)
 replace h7:=h7.ext hE_
 replace h8:=h8.ext hE_
 replace h10:=h10.ext hE_
 replace u10:=u10.ext hE_
 replace hI:=hI.ext hE_
 replace hz3:=hz3.ext hE_
 replace hX:=hX.trans hE_
 clear hE_
 refine gh ?_
 refine R1_call1 (rmul_ok _ _ _ _ _ _ 12 w_26 u10 (hz3.iv (bD.mono (by decide))) (by decide)) ?_
 rintro _ w_27 ⟨hE_,z6,z7,rfl,hz4⟩
 refine ⟨hE_,?_⟩
 replace h7:=h7.ext hE_
 replace h8:=h8.ext hE_
 replace h10:=h10.ext hE_
 replace u10:=u10.ext hE_
 replace hI:=hI.ext hE_
 replace hz3:=hz3.ext hE_
 replace hX:=hX.trans hE_
 clear hE_
 refine gh ?_
 refine Rc_nil (fun w_28 hE_ bs hbs hdis=>?_)
 replace h7:=h7.ext hE_
 replace h8:=h8.ext hE_
 replace h10:=h10.ext hE_
 replace u10:=u10.ext hE_
 replace hI:=hI.ext hE_
 replace hz3:=hz3.ext hE_
 replace hz4:=hz4.ext hE_
 replace hX:=hX.trans hE_
 clear hE_
 obtain ⟨hge_g12,hB_g12⟩:=hbs _ List.mem_cons_self
 have hge_g12:w_21.heap.size≤bs 12:=hge_g12
 have h12:Bx w_28 (bs 12) 1 true 0:=Bx.zero true hB_g12
 show Ro _ _ _ _ _ _ (upd _ 12 (.pointer (some ⟨bs 12,0,none⟩))) _
 generalize bs 12 = g12 at *
 have hfr_g12:w7.heap.size≤g12:=by omega
 have hne_g12_g7:g12 ≠ g7:=by omega
 have hne_g12_g8:g12 ≠ g8:=by omega
 have hne_g12_g10:g12 ≠ g10:=by omega
 clear hbs hdis hszq hB_g12 hge_g12 hltq_g7 hltq_g8 hltq_g10
 have bb:Bd 24 ((2:Int) ^ e * det n H):=(bpe.mul (bD.mono (show 1≤12 by decide))).mono (by decide)
 refine gh ?_
 refine R1_storeBx (by first | exact .inl rfl | exact .inr ⟨rfl,fun _ h=>h.mono fun b _ e=>by omega⟩) rfl rfl h12 (hz4.ev true bb) ?_
 intro w_29 h12 hC_ hk_ hs_
 replace h7:=h7.kp hk_ hC_ (by first | omega | assumption)
 replace h8:=h8.kp hk_ hC_ (by first | omega | assumption)
 replace h10:=h10.kp hk_ hC_ (by first | omega | assumption)
 replace u10:=u10.kp hk_
 clear hI
 replace hz3:=hz3.kp hk_
 replace hz4:=hz4.kp hk_
 replace hX:=hC_.ext_of hX (fun b hb=>by omega)
 clear hC_ hk_ hs_
 obtain ⟨h7_u,h7_v,h7_B,h7_V⟩:=id h7
 obtain ⟨h7_0,h7_1⟩:=blkP h7_B
 obtain ⟨h12_u,h12_v,h12_B,h12_V⟩:=id h12
 obtain ⟨h12_0,h12_1⟩:=blkP h12_B
 refine gh ?_
 refine gh ?_
 refine R1_call2 (rcmpI_ok _ _ _ _ _ _ 24 w_29 (h7_V.1.mono (by omega)) h12_V.1 (by decide)) ?_
 rintro _ w_30 ⟨hE_,rfl⟩
 replace h7:=h7.ext hE_
 replace h8:=h8.ext hE_
 replace h10:=h10.ext hE_
 replace h12:=h12.ext hE_
 replace hX:=hX.trans hE_
 clear hE_
 clear h7_0 h7_1 h7_V h12_0 h12_1 h12_V
 have hc1:cmpI (H 0 0 ^ n) ((2:Int) ^ e * det n H)≤0:=cmpI_le.2 (by rw [he]; exact hfs)
 have hc2:cmpI (dgp H n) ((2:Int) ^ e * det n H)≤0:=cmpI_le.2 (by rw [he]; exact hdp)
 generalize cmpI (H 0 0 ^ n) ((2:Int) ^ e * det n H) = cm1 at hc1 ⊢
 obtain ⟨h8_u,h8_v,h8_B,h8_V⟩:=id h8
 obtain ⟨h8_0,h8_1⟩:=blkP h8_B
 obtain ⟨h12_u,h12_v,h12_B,h12_V⟩:=id h12
 obtain ⟨h12_0,h12_1⟩:=blkP h12_B
 refine gh ?_
 refine gh ?_
 refine R1_call2 (rcmpI_ok _ _ _ _ _ _ 24 w_30 (h8_V.1.mono (by omega)) h12_V.1 (by decide)) ?_
 rintro _ w_31 ⟨hE_,rfl⟩
 replace h7:=h7.ext hE_
 replace h8:=h8.ext hE_
 replace h10:=h10.ext hE_
 replace h12:=h12.ext hE_
 replace hX:=hX.trans hE_
 clear hE_
 generalize cmpI (dgp H n) ((2:Int) ^ e * det n H) = cm2 at hc2 ⊢
 refine gh ?_
 refine R1_call2 (awake8_ok w_31) ?_
 rintro _ wz ⟨hEz,rfl⟩
 refine gh ?_
 exact ret1 (v:=.bool _) rfl rfl ⟨hX0.trans (hX.trans hEz),rfl⟩
end Go.Proofs.YtmkbpjoihdfpkaaGreat
