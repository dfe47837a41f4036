/- Joined: Lyb. -/
import Derived.Test.YtmkbpjoihdfpkaaGreatQnj
import Derived.Test.YtmkbpjoihdfpkaaGreatQnl
/- The laws LllReduces,LllAccepts,LllAgain. -/
namespace Go.Proofs.YtmkbpjoihdfpkaaGreat
open Go Go.Eng Go.Num Go.Proofs
open Go.Det (gr bm det Sy PM Red one)
set_option maxHeartbeats 16000000 in
theorem lawLllReduces {v:Value} {dm kd q m:Nat} {ns ms:Nat→Int} {w:World} (h:LatV w v dm kd q ns m ms) :
 Meets Tryz.prog 7 #[v] w (Law w):=by
 obtain ⟨A,cap,A',cap',rfl,hd,hk,hc,hc',hN,hN'⟩:=h
 have hL:=LatV.agg hd hk hc hc' hN hN'
 refine fn_W (n:=50) Tryz.func7 rfl rfl (by kernel_rfl) (by simp) ?_
 have hdm:=Nat.mod_lt dm (show 0 < 5 by decide)
 have hX:Ext w w:=Ext.refl w
 refine gh ?_
 refine R1_box (v:=.agg _) (.inl rfl) rfl ?_
 intro w_1 hB0_ hE_ hs_
 have hX1:Blk w_1 w.heap.size 27 #[.int .u8 ((dm:Nat):Int),.int .u8 ((kd:Nat):Int),.slice A q cap,.slice A' m cap']:=hB0_
 obtain ⟨gX,hg_⟩ : ∃ g,g = w.heap.size:=⟨_,rfl⟩
 rw [← hg_] at hX1 ⊢
 have hfr_gX:w.heap.size≤gX:=by have:=hX.size; omega
 replace hX:=hX.trans hE_
 clear hB0_ hs_ hg_ hE_
 obtain ⟨x0,x1,x2,x3⟩:=blkQ hX1
 refine gh ?_
 refine R1_load4F (by decide) agg_Lat rfl x0 x1 x2 x3 ?_
 clear x0 x1 x2 x3
 refine gh ?_
 refine R1_call2 (latRaw_ok _ dm kd q m 5 ns ms w_1 (hL w_1 hX) (by decide) (by decide)) ?_
 rintro _ w_2 ⟨hE_,gA,gsA,M,rfl,_,hgsA,hO,h0,hdet,bM⟩
 replace hX1:=hX1.ext hE_
 replace hX:=hX.trans hE_
 clear hE_
 obtain ⟨n,hn⟩ : ∃ n,n = 1 + dm % 5:=⟨_,rfl⟩
 rw [← hn] at hO h0 hdet bM hgsA ⊢
 have hn1:1≤n:=by omega
 have hn8:n≤8:=by omega
 have hoM:okM n (fun _=>n) = true:=okM_iff.2 ⟨⟨hn1,by omega,hn1,by omega⟩,fun _ _=>rfl⟩
 have hoS:okS n (fun _=>n) = true:=okS_iff.2 ⟨hn1,by omega,fun _ _=>rfl⟩
 have hA:=hO.rd bM (Nat.le_refl _) (by omega) (by omega)
 refine gh ?_
 refine R1_call2 (reduce_ok _ n 5 (fun _=>n) M w_2 hA (by decide) (by decide)) ?_
 rintro _ w6 ⟨hE6,⟨h1,_⟩ | ⟨_,h1,_⟩ | ⟨_,_,T,gO,gs,gT,gsT,rfl,hgO,hgs,hZ,_,_,hT,hF⟩⟩
 · exact absurd h0 h1
 · omega
 replace hX:=hX.trans hE6
 replace hA:=hA.ext hE6
 obtain ⟨K,hK⟩ : ∃ K,K = 15 * Nb 5 8 + 12:=⟨_,rfl⟩
 have hKl:K≤30000:=by rw [hK]; simp only [Nb]; omega
 have hK5:12≤K:=by omega
 rw [← hK] at hF
 have hOk:=found_ok hF hn1 hn8 hdet
 have bT:∀ i j,i < n→j < n→Bd K (T j i):=fun i j hi hj=>hF.bd j i hj hi
 have hTr:=hT.rd bT (Nat.le_refl _) (by omega) (by omega)
 refine gh ?_
 refine R1_call2 (rIsReduced_ok _ n (fun _=>n) _ w6 (found_rd hF hZ hn8)) ?_
 rintro _ w7 ⟨hE7,b,rfl,hb⟩
 obtain rfl:b = true:=hb.2 hOk
 replace hX:=hX.trans hE7
 replace hA:=hA.ext hE7
 replace hTr:=hTr.ext hE7
 replace hZ:=hZ.ext hE7
 refine gh ?_
 refine R1_call2 (runimodular_ok _ n K (fun _=>n) _ w7 hTr (by omega) (by omega)) ?_
 rintro _ w8 ⟨hE8,rfl⟩
 have hoI:okI n (fun _=>n) (fun i j=>T j i) = true:=by
  rw [okI_iff,hoS,detB_det,Bool.true_and]
  refine decide_eq_true ?_
  rw [show det n (fun i j=>T j i) = det n T from Go.Det.det_tr n T]; exact hF.uni
 rw [hoI]
 replace hX:=hX.trans hE8
 replace hA:=hA.ext hE8
 replace hTr:=hTr.ext hE8
 replace hZ:=hZ.ext hE8
 refine gh ?_
 refine R1_call2 (rcongruent_ok (N:=K) (N2:=K + K + 1) (MatE.mono hA (by omega)) hTr hn1 (by omega) (by omega) rfl) ?_
 rintro _ w9 ⟨hE9,gP,gsP,rfl,_,_,hP⟩
 replace hX:=hX.trans hE9
 replace hZ:=hZ.ext hE9
 have bH:∀ i j,i < n→j < n→Bd 2 (gr n T M i j):=fun i j hi hj=>by
  have:=hF.small i j hi hj
  exact zbd (by omega) (by omega)
 refine gh ?_
 refine R1_call2 (rof_ok _ n (fun _=>n) _ w9 (found_rd hF hZ hn8)) ?_
 intro u w10 hu
 obtain ⟨hE10,gI,gsI,rfl,_,_,hI⟩:=hu.get hoM
 clear hu
 replace hX:=hX.trans hE10
 replace hP:=hP.ext hE10
 refine gh ?_
 refine R1_call2 (same_o (N:=2) hP hI (fun _ _ _ _=>rfl) bH (by omega) (by omega) (by decide)) ?_
 rintro _ w11 ⟨hE11,rfl⟩
 refine gh ?_
 refine R1_call2 (awake8_ok w11) ?_
 rintro _ w12 ⟨hE12,rfl⟩
 refine gh ?_
 exact ret1 (v:=.bool _) rfl rfl ⟨hX.trans (hE11.trans hE12),rfl⟩
set_option maxHeartbeats 16000000 in
theorem lawLllAccepts {v:Value} {dm kd q m:Nat} {ns ms:Nat→Int} {w:World} (h:LatV w v dm kd q ns m ms) :
 Meets Tryz.prog 14 #[v] w (Law w):=by
 obtain ⟨A,cap,A',cap',rfl,hd,hk,hc,hc',hN,hN'⟩:=h
 have hL:=LatV.agg hd hk hc hc' hN hN'
 refine fn_W (n:=34) Tryz.func14 rfl rfl (by kernel_rfl) (by simp) ?_
 have hdm:=Nat.mod_lt dm (show 0 < 5 by decide)
 have hX:Ext w w:=Ext.refl w
 refine gh ?_
 refine R1_box (v:=.agg _) (.inl rfl) rfl ?_
 intro w_1 hB0_ hE_ hs_
 have hX1:Blk w_1 w.heap.size 27 #[.int .u8 ((dm:Nat):Int),.int .u8 ((kd:Nat):Int),.slice A q cap,.slice A' m cap']:=hB0_
 obtain ⟨gX,hg_⟩ : ∃ g,g = w.heap.size:=⟨_,rfl⟩
 rw [← hg_] at hX1 ⊢
 have hfr_gX:w.heap.size≤gX:=by have:=hX.size; omega
 replace hX:=hX.trans hE_
 clear hB0_ hs_ hg_ hE_
 obtain ⟨x0,x1,x2,x3⟩:=blkQ hX1
 refine gh ?_
 refine R1_load4F (by decide) agg_Lat rfl x0 x1 x2 x3 ?_
 clear x0 x1 x2 x3
 refine gh ?_
 refine R1_call2 (latRaw_ok _ dm kd q m 5 ns ms w_1 (hL w_1 hX) (by decide) (by decide)) ?_
 rintro _ w_2 ⟨hE_,gA,gsA,M,rfl,_,hgsA,hO,h0,hdet,bM⟩
 replace hX1:=hX1.ext hE_
 replace hX:=hX.trans hE_
 clear hE_
 obtain ⟨n,hn⟩ : ∃ n,n = 1 + dm % 5:=⟨_,rfl⟩
 rw [← hn] at hO h0 hdet bM hgsA ⊢
 have hn1:1≤n:=by omega
 have hn8:n≤8:=by omega
 have hA:=hO.rd bM (Nat.le_refl _) (by omega) (by omega)
 refine gh ?_
 refine R1_call2 (reduce_ok _ n 5 (fun _=>n) M w_2 hA (by decide) (by decide)) ?_
 rintro _ w6 ⟨hE6,⟨h1,_⟩ | ⟨_,h1,_⟩ | ⟨_,_,T,gO,gs,gT,gsT,rfl,hgO,hgs,hZ,_,_,hT,hF⟩⟩
 · exact absurd h0 h1
 · omega
 replace hX:=hX.trans hE6
 replace hA:=hA.ext hE6
 obtain ⟨K,hK⟩ : ∃ K,K = 15 * Nb 5 8 + 12:=⟨_,rfl⟩
 have hKl:K≤30000:=by rw [hK]; simp only [Nb]; omega
 have hK5:12≤K:=by omega
 rw [← hK] at hF
 have bT:∀ i j,i < n→j < n→Bd K (T j i):=fun i j hi hj=>hF.bd j i hj hi
 have hTr:=hT.rd bT (Nat.le_refl _) (by omega) (by omega)
 have hv:=ver_found h0 hdet hF
 refine gh ?_
 refine R1_call2 (verify_ok _ _ _ n n n K (fun _=>n) (fun _=>n) (fun _=>n) M (gr n T M) (fun i j=>T j i) w6 (MatE.mono hA (by omega)) (found_rd hF hZ hn8) hTr (by omega) (by omega)) ?_
 rintro _ w7 ⟨hE7,rfl⟩
 rw [hv]
 refine gh ?_
 refine R1_call2 (awake8_ok w7) ?_
 rintro _ w12 ⟨hE12,rfl⟩
 refine gh ?_
 exact ret1 (v:=.bool _) rfl rfl ⟨hX.trans (hE7.trans hE12),rfl⟩
set_option maxHeartbeats 16000000 in
theorem lawLllAgain {v:Value} {dm kd q m:Nat} {ns ms:Nat→Int} {w:World} (h:LatV w v dm kd q ns m ms) :
 Meets Tryz.prog 11 #[v] w (Law w):=by
 obtain ⟨A,cap,A',cap',rfl,hd,hk,hc,hc',hN,hN'⟩:=h
 have hL:=LatV.agg hd hk hc hc' hN hN'
 refine fn_W (n:=45) Tryz.func11 rfl rfl (by kernel_rfl) (by simp) ?_
 have hdm:=Nat.mod_lt dm (show 0 < 5 by decide)
 have hX:Ext w w:=Ext.refl w
 refine gh ?_
 refine R1_box (v:=.agg _) (.inl rfl) rfl ?_
 intro w_1 hB0_ hE_ hs_
 have hX1:Blk w_1 w.heap.size 27 #[.int .u8 ((dm:Nat):Int),.int .u8 ((kd:Nat):Int),.slice A q cap,.slice A' m cap']:=hB0_
 obtain ⟨gX,hg_⟩ : ∃ g,g = w.heap.size:=⟨_,rfl⟩
 rw [← hg_] at hX1 ⊢
 have hfr_gX:w.heap.size≤gX:=by have:=hX.size; omega
 replace hX:=hX.trans hE_
 clear hB0_ hs_ hg_ hE_
 obtain ⟨x0,x1,x2,x3⟩:=blkQ hX1
 refine gh ?_
 refine R1_load4F (by decide) agg_Lat rfl x0 x1 x2 x3 ?_
 clear x0 x1 x2 x3
 refine gh ?_
 refine R1_call2 (latForm_ok _ dm kd q m 5 ns ms w_1 (hL w_1 hX) (by decide) (by decide)) ?_
 rintro _ w_2 ⟨hE_,gA,gsA,H,rfl,_,hgsA,hZ0,hred,hsm⟩
 replace hX1:=hX1.ext hE_
 replace hX:=hX.trans hE_
 clear hE_
 obtain ⟨n,hn⟩ : ∃ n,n = 1 + dm % 5:=⟨_,rfl⟩
 rw [← hn] at hZ0 hred hsm hgsA ⊢
 have hn1:1≤n:=by omega
 have hn8:n≤8:=by omega
 have hoM:okM n (fun _=>n) = true:=okM_iff.2 ⟨⟨hn1,by omega,hn1,by omega⟩,fun _ _=>rfl⟩
 have hoS:okS n (fun _=>n) = true:=okS_iff.2 ⟨hn1,by omega,fun _ _=>rfl⟩
 obtain ⟨h0,hdet,_⟩:=id hred
 have hHr:=hZ0.read (fun i j hi hj=>by have:=hsm i j hi hj; omega) (by omega) (by omega)
 have b2:∀ i j,i < n→j < n→Bd 2 (H i j):=fun i j hi hj=>by
  have:=hsm i j hi hj
  exact zbd (by omega) (by omega)
 refine gh ?_
 refine R1_call2 (rof_ok _ n (fun _=>n) H w_2 hHr) ?_
 intro u w5 hu
 obtain ⟨hE5,gI,gsI,rfl,_,_,hI⟩:=hu.get hoM
 clear hu
 replace hX:=hX.trans hE5
 replace hHr:=hHr.ext hE5
 have hA:=hI.rd b2 (Nat.le_refl _) (by omega) (by omega)
 refine gh ?_
 refine R1_call2 (reduce_ok _ n 2 (fun _=>n) H w5 hA (by decide) (by decide)) ?_
 rintro _ w6 ⟨hE6,⟨h1,_⟩ | ⟨_,h1,_⟩ | ⟨_,_,T,gO,gs,gT,gsT,rfl,hgO,hgs,hZ,_,_,hT,hF⟩⟩
 · exact absurd h0 h1
 · omega
 replace hX:=hX.trans hE6
 replace hHr:=hHr.ext hE6
 obtain ⟨K,hK⟩ : ∃ K,K = 15 * Nb 2 8 + 12:=⟨_,rfl⟩
 have hKl:K≤30000:=by rw [hK]; simp only [Nb]; omega
 have hK5:12≤K:=by omega
 rw [← hK] at hF
 have hOk:=found_ok hF hn1 hn8 hdet
 have bT:∀ i j,i < n→j < n→Bd K (T j i):=fun i j hi hj=>hF.bd j i hj hi
 have hTr:=hT.rd bT (Nat.le_refl _) (by omega) (by omega)
 refine gh ?_
 refine R1_call2 (isReduced_ok _ n (fun _=>n) _ w6 (found_rd hF hZ hn8)) ?_
 rintro _ w7 ⟨hE7,b,rfl,hb⟩
 obtain rfl:b = true:=hb.2 hOk
 replace hX:=hX.trans hE7
 replace hHr:=hHr.ext hE7
 replace hTr:=hTr.ext hE7
 replace hZ:=hZ.ext hE7
 refine gh ?_
 refine R1_call2 (runimodular_ok _ n K (fun _=>n) _ w7 hTr (by omega) (by omega)) ?_
 rintro _ w8 ⟨hE8,rfl⟩
 have hoI:okI n (fun _=>n) (fun i j=>T j i) = true:=by
  rw [okI_iff,hoS,detB_det,Bool.true_and]
  refine decide_eq_true ?_
  rw [show det n (fun i j=>T j i) = det n T from Go.Det.det_tr n T]; exact hF.uni
 rw [hoI]
 replace hX:=hX.trans hE8
 replace hHr:=hHr.ext hE8
 replace hZ:=hZ.ext hE8
 have b3:∀ i j,i < n→j < n→Bd 2 (gr n T H i j):=fun i j hi hj=>by
  have:=hF.small i j hi hj
  exact zbd (by omega) (by omega)
 refine gh ?_
 refine R1_call2 (rof_ok _ n (fun _=>n) _ w8 (found_rd hF hZ hn8)) ?_
 intro u w9 hu
 obtain ⟨hE9,gJ,gsJ,rfl,_,_,hJ⟩:=hu.get hoM
 clear hu
 replace hX:=hX.trans hE9
 replace hHr:=hHr.ext hE9
 refine gh ?_
 refine R1_call2 (rdet_ok _ n 2 _ w9 (hJ.rd b3 (Nat.le_refl _) (by omega) (by omega)) (by omega) (by decide) (by decide)) ?_
 rintro _ w10 ⟨hE10,e1,e2,rfl,hc1⟩
 rw [detB_det,hF.det] at hc1
 replace hX:=hX.trans hE10
 replace hHr:=hHr.ext hE10
 refine gh ?_
 refine R1_call2 (rof_ok _ n (fun _=>n) H w10 hHr) ?_
 intro u w11 hu
 obtain ⟨hE11,gL,gsL,rfl,_,_,hLM⟩:=hu.get hoM
 clear hu
 replace hX:=hX.trans hE11
 replace hc1:=hc1.ext hE11
 refine gh ?_
 refine R1_call2 (rdet_ok _ n 2 _ w11 (hLM.rd b2 (Nat.le_refl _) (by omega) (by omega)) (by omega) (by decide) (by decide)) ?_
 rintro _ w12 ⟨hE12,e3,e4,rfl,hc2⟩
 rw [detB_det] at hc2
 replace hX:=hX.trans hE12
 replace hc1:=hc1.ext hE12
 have bd:=det_bdL (show 1≤2 by decide) (Nat.le_refl n) (by omega) b2
 have hNb:=Nb_big (show 2 < 1048576 by decide) (Nat.le_refl 16)
 refine gh ?_
 refine R1_call2 (rsame_ok _ _ _ _ _ _ (Nb 2 16) (Nb 2 16) w12 hc1 hc2 (by omega) (by omega) bd bd) ?_
 rintro _ w13 ⟨hE13,rfl⟩
 rw [show decide (det n H = det n H) = true from decide_eq_true rfl]
 refine gh ?_
 refine R1_call2 (awake8_ok w13) ?_
 rintro _ w14 ⟨hE14,rfl⟩
 refine gh ?_
 exact ret1 (v:=.bool _) rfl rfl ⟨hX.trans (hE13.trans hE14),rfl⟩
end Go.Proofs.YtmkbpjoihdfpkaaGreat
