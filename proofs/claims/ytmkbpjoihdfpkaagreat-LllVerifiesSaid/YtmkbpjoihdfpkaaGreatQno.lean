/- Joined: Lyd. -/
import Derived.Test.YtmkbpjoihdfpkaaGreatQnn
/- The law LllErrors. -/
namespace Go.Proofs.YtmkbpjoihdfpkaaGreat
open Go Go.Eng Go.Num Go.Proofs
open Go.Det (gr bm det Sy PM Red one)
theorem ver_found2 {r N:Nat} {len:Nat→Nat} {G T:Nat→Nat→Int} (h0:valE r len G = 0) (hd:det r G≤10000) (h:Found r N G T):verE r len G r (fun _=>r) (gr r T G) r (fun _=>r) (fun i j=>T j i) = 0:=by
 obtain ⟨hok,h8,_⟩:=valE_zero.1 h0
 obtain ⟨hr1,hr2,_⟩:=okS_iff.1 hok
 unfold verE
 rw [if_pos h0,if_pos (found_ok h hr1 h8 hd),if_pos ⟨rfl,okS_iff.2 ⟨hr1,hr2,fun _ _=>rfl⟩,rfl⟩,if_pos]
 refine ⟨?_,fun i j _ _=>rfl⟩
 rw [show det r (fun i j=>T j i) = det r T from Go.Det.det_tr r T]; exact h.uni
set_option maxHeartbeats 16000000 in
theorem reduces_ok (va:Value) (r N:Nat) (len:Nat→Nat) (G:Nat→Nat→Int) (w:World) (ha:MatE (EI N) w va r len G) (hN1:1≤N) (hN:N≤60) :
 Meets Tryz.prog 29 #[va] w (Law w):=by
 refine fn_W (n:=42) Tryz.func29 rfl rfl (by kernel_rfl) (by simp) ?_
 have h5:=valE_le r len G
 obtain ⟨K,hK⟩ : ∃ K,K = 15 * Nb N 8 + 12:=⟨_,rfl⟩
 have hKl:K < 300000:=by rw [hK]; simp only [Nb]; omega
 have hK2:12≤K:=by omega
 have hKN:N≤K:=by have:=Nb_le' N (Nat.zero_le 8); have e:Nb N 0 = N:=rfl; omega
 refine gh ?_
 refine R1_call2 (reduce_ok va r N len G w ha hN1 (by omega)) ?_
 rintro _ w1 ⟨hE1,hcase⟩
 rw [← hK] at hcase
 have ha1:=ha.ext hE1
 rcases hcase with ⟨h0,rfl⟩ | ⟨h0,hd,rfl⟩ | ⟨h0,hd,T,gO,gs,gT,gsT,rfl,hgO,hgs,hZ,_,_,hT,hF⟩
 · refine gh ?_
   refine R1_call2 (rvalidate_ok va r N len G w1 ha1 hN1 (by omega)) ?_
   rintro _ w2 ⟨hE2,rfl⟩
   refine gh ?_
   refine W_seq ?_
   refine gh ?_
   refine W_seq ?_
   refine gh ?_
   refine W_seq ?_
   refine gh ?_
   exact ret1 (v:=.bool _) rfl rfl ⟨hE1.trans hE2,rfl⟩
 · obtain ⟨hok,h8,_⟩:=valE_zero.1 h0
   obtain ⟨hr1,hr2,hlen⟩:=okS_iff.1 hok
   have hG:=ha1.sq hlen
   have bG:∀ i j,i < r→j < r→Bd N (G i j):=fun i j hi hj=>hG.bd hi hj
   have bD:=det_bdL hN1 (Nat.le_refl r) hr2 bG
   have hNb:=Nb_big (show N < 1048576 by omega) (Nat.le_refl 16)
   have hK1:1≤Nb N 16:=Nat.le_trans hN1 (Nb_le' N (Nat.zero_le 16))
   have hb1:Bd (Nb N 16) 10000:=(show Bd 1 10000 by unfold Bd B; decide).mono hK1
   refine gh ?_
   refine R1_call2 (rvalidate_ok va r N len G w1 ha1 hN1 (by omega)) ?_
   rintro _ w2 ⟨hE2,rfl⟩
   rw [h0]
   refine gh ?_
   refine W_seq ?_
   refine gh ?_
   refine R1_call2 (rdet_ok va r N G w2 (hG.ext hE2) hr2 hN1 (by omega)) ?_
   rintro _ w3 ⟨hE3,x,y,rfl,hcv⟩
   rw [detB_det] at hcv
   refine gh ?_
   refine R1_call2 (rsmall_ok 10000 w3 (by decide) (by decide)) ?_
   rintro _ w4 ⟨hE4,x0,x1,rfl,hcs⟩
   refine gh ?_
   refine R1_call2 (rcmpI_ok _ _ _ _ _ _ (Nb N 16) w4 ((hcv.ext hE4).iv bD) (hcs.iv hb1) (by omega)) ?_
   rintro _ w5 ⟨hE5,rfl⟩
   have hcm:cmpI (det r G) 10000 = 1:=by
    unfold cmpI
    rw [if_neg (by omega),if_pos (by omega)]
   rw [hcm]
   refine gh ?_
   refine W_seq ?_
   refine gh ?_
   refine W_seq ?_
   refine gh ?_
   exact ret1 (v:=.bool _) rfl rfl ⟨hE1.trans (hE2.trans (hE3.trans (hE4.trans hE5))),rfl⟩
 · obtain ⟨hok,h8,_⟩:=valE_zero.1 h0
   obtain ⟨hr1,hr2,hlen⟩:=okS_iff.1 hok
   have hG:=ha1.sq hlen
   have bG:∀ i j,i < r→j < r→Bd N (G i j):=fun i j hi hj=>hG.bd hi hj
   have bD:=det_bdL hN1 (Nat.le_refl r) hr2 bG
   have hNb:=Nb_big (show N < 1048576 by omega) (Nat.le_refl 16)
   have hK1:1≤Nb N 16:=Nat.le_trans hN1 (Nb_le' N (Nat.zero_le 16))
   have hb1:Bd (Nb N 16) 10000:=(show Bd 1 10000 by unfold Bd B; decide).mono hK1
   refine gh ?_
   refine R1_call2 (rvalidate_ok va r N len G w1 ha1 hN1 (by omega)) ?_
   rintro _ w2 ⟨hE2,rfl⟩
   rw [h0]
   refine gh ?_
   refine W_seq ?_
   refine gh ?_
   refine R1_call2 (rdet_ok va r N G w2 (hG.ext hE2) hr2 hN1 (by omega)) ?_
   rintro _ w3 ⟨hE3,x,y,rfl,hcv⟩
   rw [detB_det] at hcv
   refine gh ?_
   refine R1_call2 (rsmall_ok 10000 w3 (by decide) (by decide)) ?_
   rintro _ w4 ⟨hE4,x0,x1,rfl,hcs⟩
   refine gh ?_
   refine R1_call2 (rcmpI_ok _ _ _ _ _ _ (Nb N 16) w4 ((hcv.ext hE4).iv bD) (hcs.iv hb1) (by omega)) ?_
   rintro _ w5 ⟨hE5,rfl⟩
   have hcm:cmpI (det r G) 10000≤0:=cmpI_le.2 hd
   have hE15:=hE2.trans (hE3.trans (hE4.trans hE5))
   have bT:∀ i j,i < r→j < r→Bd K (T j i):=fun i j hi hj=>hF.bd j i hj hi
   have hTr:=(hT.ext hE15).rd bT (Nat.le_refl _) (by omega) (by omega)
   have hZ5:=hZ.ext hE15
   have hv:=ver_found2 h0 hd hF
   generalize cmpI (det r G) 10000 = cm at hcm ⊢
   refine gh ?_
   refine W_seq ?_
   refine gh ?_
   refine W_seq ?_
   refine gh ?_
   refine R1_call2 (rverify_ok _ _ _ r r r K len (fun _=>r) (fun _=>r) G (gr r T G) (fun i j=>T j i) w5 ((ha1.ext hE15).mono hKN) (found_rd hF hZ5 h8) hTr (by omega) hKl) ?_
   rintro _ w6 ⟨hE6,rfl⟩
   rw [hv]
   refine gh ?_
   exact ret1 (v:=.bool _) rfl rfl ⟨hE1.trans (hE15.trans hE6),rfl⟩
set_option maxHeartbeats 32000000 in
theorem lawLllErrors {v vl va vc:Value} {r dm kd q m at':Nat} {c:Int} {len:Nat→Nat} {G:Nat→Nat→Int} {L:Nat→Nat→Nat} {ns ms:Nat→Int} {w:World} (hm:MatL w v r len G L) (h:LatV w vl dm kd q ns m ms) (ha:ByteV va at') (hcc:I8V vc c) :
 Meets Tryz.prog 8 #[v,vl,va,vc] w (Law w):=by
 obtain ⟨A,cap,A',cap',rfl,hd,hk,hc,hc',hN,hN'⟩:=h
 obtain ⟨rfl,hat⟩:=ha
 obtain ⟨rfl,hcl1,hcl2⟩:=hcc
 have hL:=LatV.agg hd hk hc hc' hN hN'
 obtain ⟨Aa,capa,hva,_⟩:=id hm
 refine fn_W (n:=74) Tryz.func8 rfl rfl (by kernel_rfl) (by simp) ?_
 have hdm:=Nat.mod_lt dm (show 0 < 4 by decide)
 obtain ⟨n,hn⟩ : ∃ n,n = 1 + dm % 4:=⟨_,rfl⟩
 have hn1:1≤n:=by omega
 have hn8:n≤8:=by omega
 have hX:Ext w w:=Ext.refl w
 refine gh ?_
 refine R1_box (v:=.agg _) (.inl rfl) rfl ?_
 intro w_1 hB0_ hE_ hs_
 have hX1:Blk w_1 w.heap.size 27 #[.int .u8 ((dm:Nat):Int),.int .u8 ((kd:Nat):Int),.slice A q cap,.slice A' m cap']:=hB0_
 obtain ⟨gX,hg_⟩ : ∃ g,g = w.heap.size:=⟨_,rfl⟩
 rw [← hg_] at hX1 ⊢
 have hfr_gX:w.heap.size≤gX:=by have:=hX.size; omega
 replace hX:=hX.trans hE_
 clear hB0_ hs_ hg_ hE_
 refine gh ?_
 refine W_seq ?_
 refine gh ?_
 refine R1_call2 (large8_ok v r len G L w_1 (hm.ext hX)) ?_
 rintro _ _ ⟨rfl,b,rfl,hlg⟩
 cases b with
 | true =>
  refine gh ?_
  refine R1_call2 (awake8_ok w_1) ?_
  rintro _ w12 ⟨hE12,rfl⟩
  refine gh ?_
  exact ret1 (v:=.bool _) rfl rfl ⟨hX.trans hE12,rfl⟩
 | false =>
 have hA:=(hlg rfl).e hm
 subst hva
 by_cases hr5:5 < r
 · refine gh ?_
   refine R1_call2 (awake8_ok w_1) ?_
   rintro _ w12 ⟨hE12,rfl⟩
   refine gh ?_
   exact ret1 (v:=.bool _) rfl rfl ⟨hX.trans hE12,rfl⟩
 obtain ⟨x0,x1,x2,x3⟩:=blkQ hX1
 refine gh ?_
 refine R1_load4F (by decide) agg_Lat rfl x0 x1 x2 x3 ?_
 clear x0 x1 x2 x3
 have hs1:=hX.size
 refine gh ?_
 refine R1_call2 (latRaw_ok _ dm kd q m 4 ns ms w_1 (hL w_1 hX) (by decide) (by decide)) ?_
 rintro _ w_2 ⟨hE_,gO,gs,M,rfl,hgO,hgs,hO,_,_,bM⟩
 replace hX1:=hX1.ext hE_
 replace hX:=hX.trans hE_
 clear hE_
 rw [← hn] at hO bM hgs ⊢
 have hW:WMat w_2 gO gs n n true (fun _ _=>5) M:=hO.wm true bM
 clear hO
 refine gh ?_
 have hi:=Nat.mod_lt at' hn1
 have hj:=Nat.mod_lt (at' / 16) hn1
 obtain ⟨i,hie⟩ : ∃ i,i = at' % n:=⟨_,rfl⟩
 obtain ⟨j,hje⟩ : ∃ j,j = at' / 16 % n:=⟨_,rfl⟩
 refine W_seqD [(0,3),(1,3),(2,3),(3,3),(4,3),(5,3),(6,3),(7,3),(8,3),(9,3),(10,3),(11,3),(12,3)] mixed (by kernel_rfl) (fun w7 hE7 _=>?_)
 replace hX:=hX.trans hE7
 replace hW:=hW.ext hE7
 refine gh ?_
 refine R1_rem_i64 rfl rfl hn1 ?_
 refine gh ?_
 refine R1_quo_i64_c rfl (by omega) (by decide) ?_
 refine gh ?_
 refine R1_rem_i64 rfl rfl hn1 ?_
 rw [show at' / OfNat.ofNat 16 % n = j from hje.symm,show at' % n = i from hie.symm]
 rw [← hie] at hi
 rw [← hje] at hj
 clear hie hje
 have bMij:=bM i j hi hj
 have hgi:w.heap.size≤gs i:=by have:=hgs i hi; omega
 have hgj:w.heap.size≤gs j:=by have:=hgs j hj; omega
 refine gh ?_
 refine W_seqD [(0,3),(1,3),(2,3),(3,0),(4,3),(5,3),(6,3),(7,3),(8,0),(9,3),(10,3),(11,0),(12,3),(13,3),(14,1),(15,1),(16,3),(17,2)] mixed (by kernel_rfl) (fun w8 hE8 _=>?_)
 have hW8:=hW.ext hE8
 have hx1:=hW8.at hi
 obtain ⟨ex,ey,p1,p2,hev⟩:=(hW8.row i hi).at hj
 have hXq:=hX.trans hE8
 clear hX hW hX1
 have hX:Ext w8 w8:=(Ext.refl _)
 refine gh ?_
 refine R1_i8_i64 ty_i8 ty_i64 rfl (by omega) (by omega) ?_
 clear p1 p2
 refine gh ?_
 refine R1_call1 (rsmall_ok c w8 (by omega) (by omega)) ?_
 rintro _ w_3 ⟨hE_,z0,z1,rfl,hs0⟩
 refine ⟨hE_,?_⟩
 replace hW8:=hW8.ext hE_
 replace hev:=hev.ext hE_
 replace hX:=hX.trans hE_
 clear hE_
 have bc:Bd 5 c:=(show Bd 1 c by unfold Bd B; omega).mono (by omega)
 refine gh ?_
 refine R1_call1 (radd_ok _ _ _ _ _ _ 5 w_3 hev.iv (hs0.iv bc) (by decide)) ?_
 rintro _ w_4 ⟨hE_,z2,z3,rfl,hs2⟩
 refine ⟨hE_,?_⟩
 replace hW8:=hW8.ext hE_
 replace hev:=hev.ext hE_
 replace hs0:=hs0.ext hE_
 replace hX:=hX.trans hE_
 clear hE_
 have bsum:Bd 6 (M i j + c):=bMij.add bc
 have hWl:=hW8.lt
 refine gh ?_
 refine R1_storeE (.inl rfl) rfl rfl (hW8.row i hi) hj (hs2.ev true bsum) ?_
 intro w9 hr9 hC9 hk9 hs9
 have hW9:=(hW8.put hi hr9 hC9 hk9).congr (bn':=fun _ _=>6) (M':=set2 M i j (M i j + c)) fun a b _ _=>⟨by unfold set2; split <;> simp,rfl⟩
 have hX9:Ext w w9:=hC9.ext_of (hXq.trans hX) (fun b hb=>by omega)
 clear hX hXq hW8 hev hs0 hs2 hr9 hC9 hk9 hs9 hx1
 generalize set2 M i j (M i j + c) = M9 at hW9
 refine gh ?_
 refine W_seqM (fun f w'=>∃ M10,f 0 = .slice Aa r capa∧f 9 = .slice (some ⟨gO,0,none⟩) n n∧Ext w w'∧WMat w' gO gs n n true (fun _ _=>6) M10) ?_ ?_
 · refine gh ?_
   refine R1_geq_u8L (b:=64) rfl rfl ?_
   by_cases h64:64≤at'
   · refine gh ?_
     refine W_regD [(0,3),(1,3),(2,3),(3,0),(4,3),(5,3),(6,3),(7,3),(8,0),(9,3),(10,3),(11,0),(12,3),(13,2)] mixed (by kernel_rfl) (fun w10 hE10 _=>?_)
     have hW10:=hW9.ext hE10
     have hx1:=hW10.at hi
     have hx2:=hW10.at hj
     obtain ⟨ex,ey,p1,p2,hev⟩:=(hW10.row i hi).at hj
     refine gh ?_
     refine R1_storeE (.inl rfl) rfl rfl (hW10.row j hj) hi hev ?_
     intro w11 hr11 hC11 hk11 hs11
     have hW11:=(hW10.put hj hr11 hC11 hk11).congr (bn':=fun _ _=>6) (M':=set2 M9 j i (M9 i j)) fun a b _ _=>⟨by unfold set2; split <;> simp,rfl⟩
     refine gh ?_
     exact ⟨_,rfl,rfl,hC11.ext_of (hX9.trans hE10) (fun b hb=>by omega),hW11⟩
   · refine gh ?_
     exact ⟨M9,rfl,rfl,hX9,hW9⟩
 clear hX9 hW9
 rintro f w10 ⟨M10,hf0,hf9,hX,hW⟩
 rw [ui hf0,ui hf9]
 clear hf0 hf9
 have hB:=hW.read (by omega) (by omega)
 refine gh ?_
 refine R1_call2 (reduces_ok _ r 60 len G w10 (hA.ext hX) (by decide) (by decide)) ?_
 rintro _ w11 ⟨hE11,rfl⟩
 refine gh ?_
 refine R1_call2 (reduces_ok _ n 6 (fun _=>n) M10 w11 (hB.ext hE11) (by decide) (by decide)) ?_
 rintro _ w12 ⟨hE12,rfl⟩
 refine gh ?_
 refine R1_call2 (awake8_ok w12) ?_
 rintro _ w13 ⟨hE13,rfl⟩
 refine gh ?_
 exact ret1 (v:=.bool _) rfl rfl ⟨hX.trans (hE11.trans (hE12.trans hE13)),rfl⟩
end Go.Proofs.YtmkbpjoihdfpkaaGreat
