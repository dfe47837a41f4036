/- Joined: Lye. -/
import Derived.Test.YtmkbpjoihdfpkaaGreatQno
/- The laws LllLarge and LllVerifiesAny. -/
namespace Go.Proofs.YtmkbpjoihdfpkaaGreat
open Go Go.Eng Go.Num Go.Proofs
open Go.Det (gr bm det Sy PM Red one)
set_option maxHeartbeats 32000000 in
theorem lawLllLarge {v vk vl:Value} {dm kd q m m1 m2:Nat} {ns ms n1 n2:Nat→Int} {w:World} (h:LatV w v dm kd q ns m ms) (h1:NumsV w vk m1 n1) (h2:NumsV w vl m2 n2) :
 Meets Tryz.prog 9 #[v,vk,vl] w (Law w):=by
 obtain ⟨A,cap,A',cap',rfl,hd,hk,hc,hc',hN,hN'⟩:=h
 obtain ⟨A1,cap1,rfl,_,hN1⟩:=h1
 obtain ⟨A2,cap2,rfl,_,hN2⟩:=h2
 have hL:=LatV.agg hd hk hc hc' hN hN'
 refine fn_W (n:=53) Tryz.func9 rfl rfl (by kernel_rfl) (by simp) ?_
 have hdm:=Nat.mod_lt dm (show 0 < 3 by decide)
 obtain ⟨n,hn⟩ : ∃ n,n = 1 + dm % 3:=⟨_,rfl⟩
 have hn1:1≤n:=by omega
 have hn8:n≤8:=by omega
 have hoM:okM n (fun _=>n) = true:=okM_iff.2 ⟨⟨hn1,by omega,hn1,by omega⟩,fun _ _=>rfl⟩
 have hX:Ext w w:=Ext.refl w
 refine gh ?_
 refine R1_box (v:=.agg _) (.inl rfl) rfl ?_
 intro w_1 hB0_ hE_ hs_
 have hX1:Blk w_1 w.heap.size 27 #[.int .u8 ((dm:Nat):Int),.int .u8 ((kd:Nat):Int),.slice A q cap,.slice A' m cap']:=hB0_
 obtain ⟨gX,hg_⟩ : ∃ g,g = w.heap.size:=⟨_,rfl⟩
 rw [← hg_] at hX1 ⊢
 have hfr_gX:w.heap.size≤gX:=by have:=hX.size; omega
 replace hX:=hX.trans hE_
 clear hB0_ hs_ hg_ hE_
 obtain ⟨x0,x1,x2,x3⟩:=blkQ hX1
 refine gh ?_
 refine R1_load4F (by decide) agg_Lat rfl x0 x1 x2 x3 ?_
 clear x0 x1 x2 x3
 refine gh ?_
 refine R1_call2 (latRaw_ok _ dm kd q m 3 ns ms w_1 (hL w_1 hX) (by decide) (by decide)) ?_
 rintro _ w_2 ⟨hE_,gA,gsA,M,rfl,_,_,hO,h0,hdet,bM⟩
 replace hX1:=hX1.ext hE_
 replace hX:=hX.trans hE_
 clear hE_
 rw [← hn] at hO h0 hdet bM ⊢
 have hA:=hO.rd bM (Nat.le_refl _) (by omega) (by omega)
 refine gh ?_
 refine R1_call2 (unimodular_ok A1 m1 cap1 n n1 w_2 (hN1.ext hX) hn1 (by omega)) ?_
 rintro _ w_3 ⟨hE_,gU,gsU,U,rfl,_,_,hU,bU,hdU⟩
 replace hX1:=hX1.ext hE_
 replace hO:=hO.ext hE_
 replace hA:=hA.ext hE_
 replace hX:=hX.trans hE_
 clear hE_
 have bU1:∀ i j,i < n→j < n→Bd 1 (U i j):=fun i j hi hj=>by
  have:=bU i j hi hj
  unfold Bd B
  omega
 refine gh ?_
 refine R1_call2 (rof_ok _ n (fun _=>n) U w_3 (hU.read (fun i j hi hj=>by have:=bU i j hi hj; omega) (by omega) (by omega))) ?_
 intro u w6 hu
 obtain ⟨hE6,gV,gsV,rfl,_,_,hUo⟩:=hu.get hoM
 clear hu
 replace hX:=hX.trans hE6
 replace hA:=hA.ext hE6
 have hUm:=hUo.rd bU1 (Nat.le_refl _) (by omega) (by omega)
 refine gh ?_
 refine R1_call2 (unimodular_ok A2 m2 cap2 n n2 w6 (hN2.ext hX) hn1 (by omega)) ?_
 rintro _ w_4 ⟨hE_,gU2,gsU2,V,rfl,_,_,hV,bV,hdV⟩
 replace hA:=hA.ext hE_
 replace hUm:=hUm.ext hE_
 replace hX:=hX.trans hE_
 clear hE_
 have bV1:∀ i j,i < n→j < n→Bd 1 (V i j):=fun i j hi hj=>by
  have:=bV i j hi hj
  unfold Bd B
  omega
 refine gh ?_
 refine R1_call2 (rof_ok _ n (fun _=>n) V w_4 (hV.read (fun i j hi hj=>by have:=bV i j hi hj; omega) (by omega) (by omega))) ?_
 intro u w7 hu
 obtain ⟨hE7,gV2,gsV2,rfl,_,_,hVo⟩:=hu.get hoM
 clear hu
 replace hX:=hX.trans hE7
 replace hA:=hA.ext hE7
 replace hUm:=hUm.ext hE7
 have hVm:=hVo.rd bV1 (Nat.le_refl _) (by omega) (by omega)
 refine gh ?_
 refine R1_call2 (rproductT_ok (N:=1) hUm hVm (by decide) hn1 (by omega) hn1 (by omega) hn1 (by omega)) ?_
 rintro _ w8 ⟨hE8,g8,gs8,rfl,_,_,hP8⟩
 refine gh ?_
 refine R1_call2 (rproductT_ok (N:=1) (hUm.ext hE8) (hVm.ext hE8) (by decide) hn1 (by omega) hn1 (by omega) hn1 (by omega)) ?_
 rintro _ w9 ⟨hE9,g9,gs9,rfl,_,_,hP9⟩
 obtain ⟨P,hP⟩ : ∃ P,P = mulM n U V:=⟨_,rfl⟩
 have bP:∀ i j,i < n→j < n→Bd 3 (P i j):=fun i j hi hj=>by
  rw [hP]; exact sumTo_bd (N:=2) (by omega) fun t ht=>(bU1 i t hi ht).mul (bV1 t j ht hj)
 have hdP:det n P = det n U * det n V:=by rw [hP,mulM_mul,Go.Det.det_mul]
 rw [← hP] at hP8 hP9
 clear hP
 refine gh ?_
 refine R1_call2 (rproductT_ok (N:=3) ((hP8.ext hE9).rd bP (Nat.le_refl _) (by omega) (by omega)) (hP9.rd bP (Nat.le_refl _) (by omega) (by omega)) (by decide) hn1 (by omega) hn1 (by omega) hn1 (by omega)) ?_
 rintro _ w10 ⟨hE10,g10,gs10,rfl,_,_,hQ10⟩
 obtain ⟨Q,hQ⟩ : ∃ Q0,Q0 = mulM n P P:=⟨_,rfl⟩
 have bQ:∀ i j,i < n→j < n→Bd 7 (Q i j):=fun i j hi hj=>by
  rw [hQ]; exact sumTo_bd (N:=6) (by omega) fun t ht=>(bP i t hi ht).mul (bP t j ht hj)
 have hdQ:det n Q = 1 ∨ det n Q = -1:=by
  rw [hQ,mulM_mul,Go.Det.det_mul,hdP]
  rcases hdU with e | e <;> rcases hdV with e' | e' <;> rw [e,e'] <;> decide
 rw [← hQ] at hQ10
 clear hQ
 have hE710:=hE8.trans (hE9.trans hE10)
 replace hX:=hX.trans hE710
 replace hA:=hA.ext hE710
 refine gh ?_
 refine R1_call2 (rcongruent_ok (N:=7) (N2:=15) (hA.mono (by decide)) (hQ10.rd bQ (Nat.le_refl _) (by omega) (by omega)) hn1 (by omega) (by decide) rfl) ?_
 rintro _ w11 ⟨hE11,g11,gs11,rfl,_,_,hB⟩
 replace hX:=hX.trans hE11
 have hdt:det n (fun i j=>Q j i) = 1 ∨ det n (fun i j=>Q j i) = -1:=by
  rw [show det n (fun i j=>Q j i) = det n Q from Go.Det.det_tr n Q]; exact hdQ
 obtain ⟨v1,v2⟩:=cong_val h0 hdt
 have bB:=gr_bd2 (N:=7) (by omega) (fun i j hi hj=>(bM i j hi hj).mono (show 5≤7 by decide)) bQ
 generalize gr n (fun i j=>Q j i) M = G at hB v1 v2 bB
 have hBr:MatE (EI 23) w11 _ n (fun _=>n) G:=hB.rd bB (by decide) (by omega) (by omega)
 have hdG:det n G≤10000:=by rw [v2]; exact hdet
 refine gh ?_
 refine R1_call2 (reduce_ok _ n 23 (fun _=>n) G w11 hBr (by decide) (by decide)) ?_
 rintro _ w12 ⟨hE12,⟨h1,_⟩ | ⟨_,h1,_⟩ | ⟨_,_,T,gO,gs,gT,gsT,rfl,hgO,hgs,hZ,_,_,hT,hF⟩⟩
 · exact absurd v1 h1
 · omega
 replace hX:=hX.trans hE12
 obtain ⟨K,hK⟩ : ∃ K,K = 15 * Nb 23 8 + 12:=⟨_,rfl⟩
 have hKl:K≤100000:=by rw [hK]; simp only [Nb]; omega
 have hK5:23≤K:=by rw [hK]; simp only [Nb]; omega
 rw [← hK] at hF
 have bT:∀ i j,i < n→j < n→Bd K (T j i):=fun i j hi hj=>hF.bd j i hj hi
 have hTr:=hT.rd bT (Nat.le_refl _) (by omega) (by omega)
 have hv:=ver_found v1 hdG hF
 refine gh ?_
 refine R1_call2 (rverify_ok _ _ _ n n n K (fun _=>n) (fun _=>n) (fun _=>n) G (gr n T G) (fun i j=>T j i) w12 ((hBr.ext hE12).mono hK5) (found_rd hF hZ hn8) hTr (by omega) (by omega)) ?_
 rintro _ w13 ⟨hE13,rfl⟩
 rw [hv]
 refine gh ?_
 refine R1_call2 (awake8_ok w13) ?_
 rintro _ w14 ⟨hE14,rfl⟩
 refine gh ?_
 exact ret1 (v:=.bool _) rfl rfl ⟨hX.trans (hE13.trans hE14),rfl⟩
end Go.Proofs.YtmkbpjoihdfpkaaGreat
