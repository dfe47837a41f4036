/- Joined: Lgd. -/
import Derived.Test.YtncbjgblcofddaaGreatDoorQok
import Derived.Test.YtncbjgblcofddaaGreatDoorQoo
import Derived.Test.YtncbjgblcofddaaGreatDoorQf
/- The law GramInvariants. -/
namespace Go.Proofs.YtncbjgblcofddaaGreatDoor
open Go Go.Eng Go.Num Go.Proofs
open Go.Det (det)
set_option maxHeartbeats 32000000 in
theorem lawGramInvariants {vx v1 v2:Value} {dm kd q m at':Nat} {ns ms:Nat→Int} {c:Int} {w:World} (hm:ML w)
 (hx:LatV w vx dm kd q ns m ms) (h1:ByteV v1 at') (h2:I8V v2 c) :
 Meets Tryz.prog 11 #[vx,v1,v2] w (Law w):=by
 obtain ⟨rfl,hat⟩:=h1
 obtain ⟨rfl,_,_⟩:=h2
 obtain ⟨A,cap,A',cap',rfl,hd,hk,hc,hc',hN,hN'⟩:=hx
 have hL:=LatV.agg hd hk hc hc' hN hN'
 have hdm:=Nat.mod_lt dm (show 0 < 4 by decide)
 obtain ⟨n,hn⟩ : ∃ n,n = 1 + dm % 4:=⟨_,rfl⟩
 have hn1:1≤n:=by omega
 have hn4:n≤4:=by omega
 have hn0:n < 9223372036854775808:=by omega
 refine fn_W (n:=85) Tryz.func11 rfl rfl (by kernel_rfl) (by simp) ?_
 have hX:Ext w w:=Ext.refl w
 refine gg ?_
 refine R1_box (v:=.agg _) (.inl rfl) rfl ?_
 intro w_1 hB0_ hE_ hs_
 have hX1:Blk w_1 w.heap.size 25 #[.int .u8 ((dm:Nat):Int),.int .u8 ((kd:Nat):Int),.slice A q cap,.slice A' m cap']:=hB0_
 obtain ⟨gX,hg_⟩ : ∃ g,g = w.heap.size:=⟨_,rfl⟩
 rw [← hg_] at hX1 ⊢
 have hfr_gX:w.heap.size≤gX:=by have:=hX.size; omega
 replace hX:=hX.trans hE_
 clear hB0_ hs_ hg_ hE_
 obtain ⟨x0,x1,x2,x3⟩:=blkQ hX1
 refine gg ?_
 refine R1_load4F (by decide) agg_Lat rfl x0 x1 x2 x3 ?_
 clear x0 x1 x2 x3
 refine gg ?_
 refine gg ?_
 refine R1_call2 (near_ok _ dm kd q m ns ms at' c w_1 (hL w_1 hX) hat) ?_
 rintro _ w_2 ⟨hE_,gB,gsB,MB,rfl,_,_,hOB,bB⟩
 replace hX1:=hX1.ext hE_
 replace hX:=hX.trans hE_
 clear hE_
 rw [← hn] at hOB bB ⊢
 have hK:Ext w_2 w_2:=Ext.refl _
 have hrd:∀ {u:World},Ext w_2 u→MatE (EI 6) u (.slice (some ⟨gB,0,none⟩) n n) n (fun _=>n) MB:=fun hE=>(hOB.ext hE).read bB hn0 hn0
 obtain ⟨e,he⟩ : ∃ e,e = valE n (fun _=>n) MB:=⟨_,rfl⟩
 have h5:e≤5:=by rw [he]; exact valE_le _ _ _
 have bD:Bd 111 (if e = 0 then det n MB else 0):=by
  split
  · rw [← detB_det]; exact (detB_bd (by decide) bB).mono (Nat.le_trans (Nb_le' 6 hn4) (by decide))
  · exact Bd.zero _
 have bC:Bd 6 (if e = 0 then ((gcdM n MB n:Nat):Int) else 0):=by
  split
  · exact gcdM_bd n bB
  · exact Bd.zero _
 refine gg ?_
 refine gg ?_
 refine R1_call2 (gdet_ok _ n 6 _ MB w_2 (hrd hK) (by decide) (by decide)) ?_
 rintro _ w_3 ⟨hE_,x1,y1,rfl,hc1⟩
 replace hK:=hK.trans hE_
 replace hX:=hX.trans hE_
 clear hE_
 rw [← he] at hc1 ⊢
 refine gg ?_
 refine gg ?_
 refine R1_alloc (.inl rfl) z_Int ?_
 intro w_4 hB0_ hE_ hs_
 have hD1:=Bx.zero (N:=1) true hB0_
 obtain ⟨g1,hg_⟩ : ∃ g,g = w_3.heap.size:=⟨_,rfl⟩
 rw [← hg_] at hD1 ⊢
 have hfr_g1:w.heap.size≤g1:=by have:=hX.size; omega
 have hfr_hK_g1:w_2.heap.size≤g1:=by have:=hK.size; omega
 replace hK:=hK.trans hE_
 replace hc1:=hc1.ext hE_
 replace hX:=hX.trans hE_
 clear hB0_ hs_ hg_ hE_
 refine gg ?_
 refine gg ?_
 refine R1_storeBx (by first | exact .inl rfl | exact .inr ⟨rfl,fun _ h=>h.mono fun b _ e=>by omega⟩) rfl rfl hD1 (hc1.ev true bD) ?_
 intro w_5 hD1 hC_ hk_ hs_
 replace hK:=hC_.ext_of hK (fun b hb=>by omega)
 replace hc1:=hc1.kp hk_
 replace hX:=hC_.ext_of hX (fun b hb=>by omega)
 clear hC_ hk_ hs_
 refine gg ?_
 refine gg ?_
 refine R1_call2 (rgdet_ok _ n 6 _ MB w_5 (hrd hK) (by decide) (by decide)) ?_
 rintro _ w_6 ⟨hE_,x2,y2,rfl,hc2⟩
 replace hK:=hK.trans hE_
 replace hc1:=hc1.ext hE_
 replace hD1:=hD1.ext hE_
 replace hX:=hX.trans hE_
 clear hE_
 rw [← he] at hc2 ⊢
 refine gg ?_
 refine gg ?_
 refine R1_alloc (.inl rfl) z_Int ?_
 intro w_7 hB0_ hE_ hs_
 have hD2:=Bx.zero (N:=1) true hB0_
 obtain ⟨g2,hg_⟩ : ∃ g,g = w_6.heap.size:=⟨_,rfl⟩
 rw [← hg_] at hD2 ⊢
 have hfr_g2:w.heap.size≤g2:=by have:=hX.size; omega
 have hfr_hK_g2:w_2.heap.size≤g2:=by have:=hK.size; omega
 have hne_g2_g1:g2 ≠ g1:=by have:=hD1.lt; omega
 replace hK:=hK.trans hE_
 replace hc1:=hc1.ext hE_
 replace hD1:=hD1.ext hE_
 replace hc2:=hc2.ext hE_
 replace hX:=hX.trans hE_
 clear hB0_ hs_ hg_ hE_
 refine gg ?_
 refine gg ?_
 refine R1_storeBx (by first | exact .inl rfl | exact .inr ⟨rfl,fun _ h=>h.mono fun b _ e=>by omega⟩) rfl rfl hD2 (hc2.ev true bD) ?_
 intro w_8 hD2 hC_ hk_ hs_
 replace hK:=hC_.ext_of hK (fun b hb=>by omega)
 replace hc1:=hc1.kp hk_
 replace hD1:=hD1.kp hk_ hC_ (by first | omega | assumption)
 replace hc2:=hc2.kp hk_
 replace hX:=hC_.ext_of hX (fun b hb=>by omega)
 clear hC_ hk_ hs_
 refine gg ?_
 refine gg ?_
 refine R1_call2 (content_ok _ n 6 _ MB w_8 (hrd hK) (by decide) (by decide)) ?_
 rintro _ w_9 ⟨hE_,x3,y3,rfl,hc3⟩
 replace hK:=hK.trans hE_
 replace hc1:=hc1.ext hE_
 replace hD1:=hD1.ext hE_
 replace hc2:=hc2.ext hE_
 replace hD2:=hD2.ext hE_
 replace hX:=hX.trans hE_
 clear hE_
 rw [← he] at hc3 ⊢
 refine gg ?_
 refine gg ?_
 refine R1_alloc (.inl rfl) z_Int ?_
 intro w_10 hB0_ hE_ hs_
 have hD3:=Bx.zero (N:=1) true hB0_
 obtain ⟨g3,hg_⟩ : ∃ g,g = w_9.heap.size:=⟨_,rfl⟩
 rw [← hg_] at hD3 ⊢
 have hfr_g3:w.heap.size≤g3:=by have:=hX.size; omega
 have hfr_hK_g3:w_2.heap.size≤g3:=by have:=hK.size; omega
 have hne_g3_g1:g3 ≠ g1:=by have:=hD1.lt; omega
 have hne_g3_g2:g3 ≠ g2:=by have:=hD2.lt; omega
 replace hK:=hK.trans hE_
 replace hc1:=hc1.ext hE_
 replace hD1:=hD1.ext hE_
 replace hc2:=hc2.ext hE_
 replace hD2:=hD2.ext hE_
 replace hc3:=hc3.ext hE_
 replace hX:=hX.trans hE_
 clear hB0_ hs_ hg_ hE_
 refine gg ?_
 refine gg ?_
 refine R1_storeBx (by first | exact .inl rfl | exact .inr ⟨rfl,fun _ h=>h.mono fun b _ e=>by omega⟩) rfl rfl hD3 (hc3.ev true bC) ?_
 intro w_11 hD3 hC_ hk_ hs_
 replace hK:=hC_.ext_of hK (fun b hb=>by omega)
 replace hc1:=hc1.kp hk_
 replace hD1:=hD1.kp hk_ hC_ (by first | omega | assumption)
 replace hc2:=hc2.kp hk_
 replace hD2:=hD2.kp hk_ hC_ (by first | omega | assumption)
 replace hc3:=hc3.kp hk_
 replace hX:=hC_.ext_of hX (fun b hb=>by omega)
 clear hC_ hk_ hs_
 refine gg ?_
 refine gg ?_
 refine R1_call2 (rcontent_ok _ n 6 _ MB w_11 (hrd hK) (by decide) (by decide)) ?_
 rintro _ w_12 ⟨hE_,x4,y4,rfl,hc4⟩
 replace hK:=hK.trans hE_
 replace hc1:=hc1.ext hE_
 replace hD1:=hD1.ext hE_
 replace hc2:=hc2.ext hE_
 replace hD2:=hD2.ext hE_
 replace hc3:=hc3.ext hE_
 replace hD3:=hD3.ext hE_
 replace hX:=hX.trans hE_
 clear hE_
 rw [← he] at hc4 ⊢
 refine gg ?_
 refine gg ?_
 refine R1_alloc (.inl rfl) z_Int ?_
 intro w_13 hB0_ hE_ hs_
 have hD4:=Bx.zero (N:=1) true hB0_
 obtain ⟨g4,hg_⟩ : ∃ g,g = w_12.heap.size:=⟨_,rfl⟩
 rw [← hg_] at hD4 ⊢
 have hfr_g4:w.heap.size≤g4:=by have:=hX.size; omega
 have hfr_hK_g4:w_2.heap.size≤g4:=by have:=hK.size; omega
 have hne_g4_g1:g4 ≠ g1:=by have:=hD1.lt; omega
 have hne_g4_g2:g4 ≠ g2:=by have:=hD2.lt; omega
 have hne_g4_g3:g4 ≠ g3:=by have:=hD3.lt; omega
 replace hK:=hK.trans hE_
 replace hc1:=hc1.ext hE_
 replace hD1:=hD1.ext hE_
 replace hc2:=hc2.ext hE_
 replace hD2:=hD2.ext hE_
 replace hc3:=hc3.ext hE_
 replace hD3:=hD3.ext hE_
 replace hc4:=hc4.ext hE_
 replace hX:=hX.trans hE_
 clear hB0_ hs_ hg_ hE_
 refine gg ?_
 refine gg ?_
 refine R1_storeBx (by first | exact .inl rfl | exact .inr ⟨rfl,fun _ h=>h.mono fun b _ e=>by omega⟩) rfl rfl hD4 (hc4.ev true bC) ?_
 intro w_14 hD4 hC_ hk_ hs_
 replace hK:=hC_.ext_of hK (fun b hb=>by omega)
 replace hc1:=hc1.kp hk_
 replace hD1:=hD1.kp hk_ hC_ (by first | omega | assumption)
 replace hc2:=hc2.kp hk_
 replace hD2:=hD2.kp hk_ hC_ (by first | omega | assumption)
 replace hc3:=hc3.kp hk_
 replace hD3:=hD3.kp hk_ hC_ (by first | omega | assumption)
 replace hc4:=hc4.kp hk_
 replace hX:=hC_.ext_of hX (fun b hb=>by omega)
 clear hC_ hk_ hs_
 refine gg ?_
 refine gg ?_
 refine R1_call2 (even_ok _ n 6 _ MB w_14 (hrd hK) (by decide) (by decide)) ?_
 rintro _ w_15 ⟨hE_,rfl⟩
 replace hK:=hK.trans hE_
 replace hc1:=hc1.ext hE_
 replace hD1:=hD1.ext hE_
 replace hc2:=hc2.ext hE_
 replace hD2:=hD2.ext hE_
 replace hc3:=hc3.ext hE_
 replace hD3:=hD3.ext hE_
 replace hc4:=hc4.ext hE_
 replace hD4:=hD4.ext hE_
 replace hX:=hX.trans hE_
 clear hE_
 rw [← he]
 refine gg ?_
 refine gg ?_
 refine R1_call2 (reven_ok _ n 6 _ MB w_15 (hrd hK) (by decide) (by decide)) ?_
 rintro _ w_16 ⟨hE_,rfl⟩
 replace hK:=hK.trans hE_
 replace hc1:=hc1.ext hE_
 replace hD1:=hD1.ext hE_
 replace hc2:=hc2.ext hE_
 replace hD2:=hD2.ext hE_
 replace hc3:=hc3.ext hE_
 replace hD3:=hD3.ext hE_
 replace hc4:=hc4.ext hE_
 replace hD4:=hD4.ext hE_
 replace hX:=hX.trans hE_
 clear hE_
 rw [← he]
 refine gg ?_
 obtain ⟨hD1_u,hD1_v,hD1_B,hD1_V⟩:=id hD1
 obtain ⟨hD1_0,hD1_1⟩:=blkP hD1_B
 obtain ⟨hD2_u,hD2_v,hD2_B,hD2_V⟩:=id hD2
 obtain ⟨hD2_0,hD2_1⟩:=blkP hD2_B
 refine gg ?_
 refine gg ?_
 refine R1_call2 (rsame_ok _ _ _ _ _ _ 111 111 w_16 (hD1_V.2 rfl) (hD2_V.2 rfl) (by decide) (by decide) bD bD) ?_
 rintro _ w_17 ⟨hE_,rfl⟩
 replace hK:=hK.trans hE_
 replace hc1:=hc1.ext hE_
 replace hD1:=hD1.ext hE_
 replace hc2:=hc2.ext hE_
 replace hD2:=hD2.ext hE_
 replace hc3:=hc3.ext hE_
 replace hD3:=hD3.ext hE_
 replace hc4:=hc4.ext hE_
 replace hD4:=hD4.ext hE_
 replace hX:=hX.trans hE_
 clear hE_
 rw [decide_eq_true (rfl:(if e = 0 then det n MB else 0) = _)]
 clear hD1_0 hD1_1 hD2_0 hD2_1
 refine gg ?_
 obtain ⟨hD3_u,hD3_v,hD3_B,hD3_V⟩:=id hD3
 obtain ⟨hD3_0,hD3_1⟩:=blkP hD3_B
 obtain ⟨hD4_u,hD4_v,hD4_B,hD4_V⟩:=id hD4
 obtain ⟨hD4_0,hD4_1⟩:=blkP hD4_B
 refine gg ?_
 refine gg ?_
 refine R1_call2 (rsame_ok _ _ _ _ _ _ 6 6 w_17 (hD3_V.2 rfl) (hD4_V.2 rfl) (by decide) (by decide) bC bC) ?_
 rintro _ w_18 ⟨hE_,rfl⟩
 replace hK:=hK.trans hE_
 replace hc1:=hc1.ext hE_
 replace hD1:=hD1.ext hE_
 replace hc2:=hc2.ext hE_
 replace hD2:=hD2.ext hE_
 replace hc3:=hc3.ext hE_
 replace hD3:=hD3.ext hE_
 replace hc4:=hc4.ext hE_
 replace hD4:=hD4.ext hE_
 replace hX:=hX.trans hE_
 clear hE_
 rw [decide_eq_true (rfl:(if e = 0 then ((gcdM n MB n:Nat):Int) else 0) = _)]
 refine gg ?_
 rw [beq_self_eq_true]
 refine gg ?_
 refine gg ?_
 refine R1_call2 (awake7_ok w_18 (hm.ext hX)) ?_
 rintro _ w_19 ⟨hE_,rfl⟩
 replace hK:=hK.trans hE_
 replace hc1:=hc1.ext hE_
 replace hD1:=hD1.ext hE_
 replace hc2:=hc2.ext hE_
 replace hD2:=hD2.ext hE_
 replace hc3:=hc3.ext hE_
 replace hD3:=hD3.ext hE_
 replace hc4:=hc4.ext hE_
 replace hD4:=hD4.ext hE_
 replace hX:=hX.trans hE_
 clear hE_
 refine gg ?_
 exact ret1 (v:=.bool _) rfl rfl ⟨hX,rfl⟩
end Go.Proofs.YtncbjgblcofddaaGreatDoor
