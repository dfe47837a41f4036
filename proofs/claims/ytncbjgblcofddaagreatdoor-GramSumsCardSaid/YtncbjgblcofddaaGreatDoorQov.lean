/- Joined: Lgh. -/
import Derived.Test.YtncbjgblcofddaaGreatDoorQok
import Derived.Test.YtncbjgblcofddaaGreatDoorQou
import Derived.Test.YtncbjgblcofddaaGreatDoorQf
import Derived.Test.YtncbjgblcofddaaGreatDoorQot
/- The law GramSums. -/
namespace Go.Proofs.YtncbjgblcofddaaGreatDoor
open Go Go.Eng Go.Num Go.Proofs
open Go.Det (det)
set_option maxHeartbeats 32000000 in
theorem lawGramSums {vx vy vc va v4 v5:Value} {dm kd q m dm2 kd2 q2 m2 nc ra at':Nat} {ns ms ns2 ms2:Nat→Int} {z k:Int} {lena:Nat→Nat} {Ma:Nat→Nat→Int} {La:Nat→Nat→Nat} {w:World} (hm:ML w)
 (hx:LatV w vx dm kd q ns m ms) (hy:LatV w vy dm2 kd2 q2 ns2 m2 ms2) (hc:IntV w vc nc z) (ha:MatL w va ra lena Ma La) (h4:ByteV v4 at') (h5:I8V v5 k) :
 Meets Tryz.prog 12 #[vx,vy,vc,va,v4,v5] w (Law w):=by
 obtain ⟨rfl,hat⟩:=h4
 obtain ⟨rfl,_,_⟩:=h5
 obtain ⟨A,cap,A',cap',rfl,hd,hk,hc1,hc1',hN,hN'⟩:=hx
 have hL:=LatV.agg hd hk hc1 hc1' hN hN'
 obtain ⟨A2,cap2,A2',cap2',rfl,hd2,hk2,hc2,hc2',hN2,hN2'⟩:=hy
 have hL2:=LatV.agg hd2 hk2 hc2 hc2' hN2 hN2'
 obtain ⟨cx,cy,rfl,hIV⟩:=hc
 have hIV0:=hIV
 obtain ⟨neg,Ac,lc,cc,rfl,rfl,hlc,hcc,hMg,hln,hn47,hzv⟩:=hIV
 have hdm:=Nat.mod_lt dm (show 0 < 4 by decide)
 have hdm2:=Nat.mod_lt dm2 (show 0 < 6 by decide)
 obtain ⟨n,hn⟩ : ∃ n,n = 1 + dm % 4:=⟨_,rfl⟩
 obtain ⟨n2,hn2⟩ : ∃ n,n = 1 + dm2 % 6:=⟨_,rfl⟩
 have hn1:1≤n:=by omega
 have hn4:n≤4:=by omega
 have hn0:n < 9223372036854775808:=by omega
 have hn20:n2 < 9223372036854775808:=by omega
 refine fn_W (n:=109) Tryz.func12 rfl rfl (by kernel_rfl) (by simp) ?_
 have hX:Ext w w:=Ext.refl w
 refine gg ?_
 refine R1_box (v:=.agg _) (.inl rfl) rfl ?_
 intro w_1 hB0_ hE_ hs_
 have hX1:Blk w_1 w.heap.size 25 #[.int .u8 ((dm:Nat):Int),.int .u8 ((kd:Nat):Int),.slice A q cap,.slice A' m cap']:=hB0_
 obtain ⟨gX,hg_⟩ : ∃ g,g = w.heap.size:=⟨_,rfl⟩
 rw [← hg_] at hX1 ⊢
 have hfr_gX:w.heap.size≤gX:=by have:=hX.size; omega
 replace hX:=hX.trans hE_
 clear hB0_ hs_ hg_ hE_
 refine gg ?_
 refine R1_box (v:=.agg _) (.inl rfl) rfl ?_
 intro w_2 hB0_ hE_ hs_
 have hY1:Blk w_2 w_1.heap.size 25 #[.int .u8 ((dm2:Nat):Int),.int .u8 ((kd2:Nat):Int),.slice A2 q2 cap2,.slice A2' m2 cap2']:=hB0_
 obtain ⟨gY,hg_⟩ : ∃ g,g = w_1.heap.size:=⟨_,rfl⟩
 rw [← hg_] at hY1 ⊢
 have hfr_gY:w.heap.size≤gY:=by have:=hX.size; omega
 have hne_gY_gX:gY ≠ gX:=by have:=hX1.lt; omega
 replace hX1:=hX1.ext hE_
 replace hX:=hX.trans hE_
 clear hB0_ hs_ hg_ hE_
 refine gg ?_
 refine R1_box (v:=.agg _) (.inl rfl) rfl ?_
 intro w_3 hB0_ hE_ hs_
 have hC1:Blk w_3 w_2.heap.size 41 #[.bool neg,.slice Ac lc.length cc]:=hB0_
 obtain ⟨gC,hg_⟩ : ∃ g,g = w_2.heap.size:=⟨_,rfl⟩
 rw [← hg_] at hC1 ⊢
 have hfr_gC:w.heap.size≤gC:=by have:=hX.size; omega
 have hne_gC_gX:gC ≠ gX:=by have:=hX1.lt; omega
 have hne_gC_gY:gC ≠ gY:=by have:=hY1.lt; omega
 replace hX1:=hX1.ext hE_
 replace hY1:=hY1.ext hE_
 replace hX:=hX.trans hE_
 clear hB0_ hs_ hg_ hE_
 refine gg ?_
 refine W_seq ?_
 refine gg ?_
 refine R1_call2 (large7_ok va ra lena Ma La w_3 (ha.ext hX)) ?_
 rintro _ _ ⟨rfl,b,rfl,hba⟩
 cases b with
 | true =>
  refine gg ?_
  refine R1_call2 (awake7_ok w_3 (hm.ext hX)) ?_
  rintro _ w5 ⟨hE5,rfl⟩
  refine gg ?_
  exact ret1 (v:=.bool _) rfl rfl ⟨hX.trans hE5,rfl⟩
 | false =>
 have hA:MatE (EI 100) w va ra lena Ma:=(hba rfl).e ha
 clear hba ha
 obtain ⟨c0,c1⟩:=blkP hC1
 refine gg ?_
 by_cases hl10:10 < lc.length
 · refine gg ?_
   refine R1_call2 (awake7_ok w_3 (hm.ext hX)) ?_
   rintro _ w5 ⟨hE5,rfl⟩
   refine gg ?_
   exact ret1 (v:=.bool _) rfl rfl ⟨hX.trans hE5,rfl⟩
 have hz:IV w 10 (.bool neg) (.slice Ac lc.length cc) z:=hIV0.iv (by omega)
 clear c0 c1
 refine gg ?_
 refine gg ?_
 refine W_seqD [(0,0),(1,3),(2,3),(4,0),(3,1),(5,1),(6,3),(7,3)] mixed (by kernel_rfl) (fun w_4 hE_ _=>?_)
 replace hX1:=hX1.ext hE_
 replace hY1:=hY1.ext hE_
 replace hC1:=hC1.ext hE_
 replace hX:=hX.trans hE_
 clear hE_
 obtain ⟨x0,x1,x2,x3⟩:=blkQ hX1
 refine gg ?_
 refine R1_load4E (by decide) agg_Lat rfl x0 x1 x2 x3 ?_
 clear x0 x1 x2 x3
 obtain ⟨x0,x1,x2,x3⟩:=blkQ hY1
 refine gg ?_
 refine R1_load4E (by decide) agg_Lat rfl x0 x1 x2 x3 ?_
 clear x0 x1 x2 x3
 refine gg ?_
 refine gg ?_
 refine R1_call1 (near_ok _ dm kd q m ns ms at' k w_4 (hL w_4 hX) hat) ?_
 rintro _ w_5 ⟨hE_,gB,gsB,MB,rfl,_,_,hOB,bB⟩
 refine ⟨hE_,?_⟩
 replace hX1:=hX1.ext hE_
 replace hY1:=hY1.ext hE_
 replace hC1:=hC1.ext hE_
 replace hX:=hX.trans hE_
 clear hE_
 rw [← hn] at hOB bB ⊢
 refine gg ?_
 refine gg ?_
 refine R1_call1 (latRaw_ok _ dm2 kd2 q2 m2 6 ns2 ms2 w_5 (hL2 w_5 hX) (by decide) (by decide)) ?_
 rintro _ w_6 ⟨hE_,gM,gsM,M,rfl,_,_,hOM,h0,_,bM⟩
 refine ⟨hE_,?_⟩
 replace hX1:=hX1.ext hE_
 replace hY1:=hY1.ext hE_
 replace hC1:=hC1.ext hE_
 replace hOB:=hOB.ext hE_
 replace hX:=hX.trans hE_
 clear hE_
 rw [← hn2] at hOM h0 bM ⊢
 clear h0
 have rB:∀ {u:World} (N:Nat),6≤N→Ext w_6 u→MatE (EI N) u (.slice (some ⟨gB,0,none⟩) n n) n (fun _=>n) MB:=fun N hN hE=>((hOB.ext hE).read bB hn0 hn0).mono hN
 have rM:∀ {u:World} (N:Nat),5≤N→Ext w_6 u→MatE (EI N) u (.slice (some ⟨gM,0,none⟩) n2 n2) n2 (fun _=>n2) M:=fun N hN hE=>((hOM.ext hE).read bM hn20 hn20).mono hN
 obtain ⟨e1,he1⟩ : ∃ e,e = scE n (fun _=>n) MB z:=⟨_,rfl⟩
 obtain ⟨e2,he2⟩ : ∃ e,e = osE n (fun _=>n) MB n2 (fun _=>n2) M:=⟨_,rfl⟩
 obtain ⟨e3,he3⟩ : ∃ e,e = osE n2 (fun _=>n2) M ra lena Ma:=⟨_,rfl⟩
 have l1:e1≤7:=by rw [he1]; have:=scE_le n (fun _=>n) MB z; omega
 have l2:e2≤7:=by rw [he2]; exact osE_le _ _ _ _ _ _
 have l3:e3≤7:=by rw [he3]; exact osE_le _ _ _ _ _ _
 have hK:Ext w_6 w_6:=Ext.refl _
 obtain ⟨c0,c1⟩:=blkP hC1
 refine gg ?_
 refine gg ?_
 refine R1_call2 (scaleR_ok _ _ _ n 10 _ MB z w_6 (rB 10 (by decide) hK) (hz.ext hX) (by decide) (by decide)) ?_
 rintro _ w_7 ⟨hE_,a1,m1',d1,rfl,hM1⟩
 replace hC1:=hC1.ext hE_
 replace hK:=hK.trans hE_
 replace hX:=hX.trans hE_
 clear hE_
 rw [← he1] at hM1 ⊢
 have hK1:Ext w_7 w_7:=Ext.refl _
 clear c0 c1
 obtain ⟨c0,c1⟩:=blkP hC1
 refine gg ?_
 refine gg ?_
 refine R1_call2 (rscaleR_ok _ _ _ n 10 _ MB z w_7 (rB 10 (by decide) hK) (hz.ext hX) (by decide) (by decide)) ?_
 rintro _ w_8 ⟨hE_,a2,m2',d2,rfl,hM2⟩
 replace hC1:=hC1.ext hE_
 replace hK:=hK.trans hE_
 replace hK1:=hK1.trans hE_
 replace hX:=hX.trans hE_
 clear hE_
 rw [← he1] at hM2 ⊢
 have hK2:Ext w_8 w_8:=Ext.refl _
 clear c0 c1
 refine gg ?_
 refine gg ?_
 refine R1_call2 (osumR_ok _ _ n n2 6 _ _ MB M w_8 (rB 6 (by decide) hK) (rM 6 (by decide) hK) (by decide) (by decide)) ?_
 rintro _ w_9 ⟨hE_,a3,m3',d3,rfl,hM3⟩
 replace hC1:=hC1.ext hE_
 replace hK:=hK.trans hE_
 replace hK1:=hK1.trans hE_
 replace hK2:=hK2.trans hE_
 replace hX:=hX.trans hE_
 clear hE_
 rw [← he2] at hM3 ⊢
 have hK3:Ext w_9 w_9:=Ext.refl _
 refine gg ?_
 refine gg ?_
 refine R1_call2 (rosumR_ok _ _ n n2 6 _ _ MB M w_9 (rB 6 (by decide) hK) (rM 6 (by decide) hK) (by decide) (by decide)) ?_
 rintro _ w_10 ⟨hE_,a4,m4',d4,rfl,hM4⟩
 replace hC1:=hC1.ext hE_
 replace hK:=hK.trans hE_
 replace hK1:=hK1.trans hE_
 replace hK2:=hK2.trans hE_
 replace hK3:=hK3.trans hE_
 replace hX:=hX.trans hE_
 clear hE_
 rw [← he2] at hM4 ⊢
 have hK4:Ext w_10 w_10:=Ext.refl _
 refine gg ?_
 refine gg ?_
 refine R1_call2 (osumR_ok _ _ n2 ra 100 _ _ M Ma w_10 (rM 100 (by decide) hK) (hA.ext hX) (by decide) (by decide)) ?_
 rintro _ w_11 ⟨hE_,a5,m5',d5,rfl,hM5⟩
 replace hC1:=hC1.ext hE_
 replace hK:=hK.trans hE_
 replace hK1:=hK1.trans hE_
 replace hK2:=hK2.trans hE_
 replace hK3:=hK3.trans hE_
 replace hK4:=hK4.trans hE_
 replace hX:=hX.trans hE_
 clear hE_
 rw [← he3] at hM5 ⊢
 have hK5:Ext w_11 w_11:=Ext.refl _
 refine gg ?_
 refine gg ?_
 refine R1_call2 (rosumR_ok _ _ n2 ra 100 _ _ M Ma w_11 (rM 100 (by decide) hK) (hA.ext hX) (by decide) (by decide)) ?_
 rintro _ w_12 ⟨hE_,a6,m6',d6,rfl,hM6⟩
 replace hC1:=hC1.ext hE_
 replace hK:=hK.trans hE_
 replace hK1:=hK1.trans hE_
 replace hK2:=hK2.trans hE_
 replace hK3:=hK3.trans hE_
 replace hK4:=hK4.trans hE_
 replace hK5:=hK5.trans hE_
 replace hX:=hX.trans hE_
 clear hE_
 rw [← he3] at hM6 ⊢
 have hK6:Ext w_12 w_12:=Ext.refl _
 refine gg ?_
 refine gg ?_
 refine R1_call2 (rsameM_ok _ _ _ _ (10 + 10) _ _ _ _ w_12 (hM1.extC hK1) (hM2.extC hK2) (by decide)) ?_
 rintro _ w_13 ⟨hE_,b,rfl,hb⟩
 replace hC1:=hC1.ext hE_
 replace hK:=hK.trans hE_
 replace hK1:=hK1.trans hE_
 replace hK2:=hK2.trans hE_
 replace hK3:=hK3.trans hE_
 replace hK4:=hK4.trans hE_
 replace hK5:=hK5.trans hE_
 replace hK6:=hK6.trans hE_
 replace hX:=hX.trans hE_
 clear hE_
 obtain rfl:b = true:=hb.2 ⟨rfl,fun i hi=>⟨rfl,fun j hj=>rfl⟩⟩
 clear hb
 refine gg ?_
 refine gg ?_
 refine R1_call2 (rsameM_ok _ _ _ _ 6 _ _ _ _ w_13 (hM3.extC hK3) (hM4.extC hK4) (by decide)) ?_
 rintro _ w_14 ⟨hE_,b,rfl,hb⟩
 replace hC1:=hC1.ext hE_
 replace hK:=hK.trans hE_
 replace hK1:=hK1.trans hE_
 replace hK2:=hK2.trans hE_
 replace hK3:=hK3.trans hE_
 replace hK4:=hK4.trans hE_
 replace hK5:=hK5.trans hE_
 replace hK6:=hK6.trans hE_
 replace hX:=hX.trans hE_
 clear hE_
 obtain rfl:b = true:=hb.2 ⟨rfl,fun i hi=>⟨rfl,fun j hj=>rfl⟩⟩
 clear hb
 refine gg ?_
 refine gg ?_
 refine R1_call2 (rsameM_ok _ _ _ _ 100 _ _ _ _ w_14 (hM5.extC hK5) (hM6.extC hK6) (by decide)) ?_
 rintro _ w_15 ⟨hE_,b,rfl,hb⟩
 replace hC1:=hC1.ext hE_
 replace hK:=hK.trans hE_
 replace hK1:=hK1.trans hE_
 replace hK2:=hK2.trans hE_
 replace hK3:=hK3.trans hE_
 replace hK4:=hK4.trans hE_
 replace hK5:=hK5.trans hE_
 replace hK6:=hK6.trans hE_
 replace hX:=hX.trans hE_
 clear hE_
 obtain rfl:b = true:=hb.2 ⟨rfl,fun i hi=>⟨rfl,fun j hj=>rfl⟩⟩
 clear hb
 refine gg ?_
 refine gg ?_
 refine R1_call2 (awake7_ok w_15 (hm.ext hX)) ?_
 rintro _ w_16 ⟨hE_,rfl⟩
 replace hC1:=hC1.ext hE_
 replace hK:=hK.trans hE_
 replace hK1:=hK1.trans hE_
 replace hK2:=hK2.trans hE_
 replace hK3:=hK3.trans hE_
 replace hK4:=hK4.trans hE_
 replace hK5:=hK5.trans hE_
 replace hK6:=hK6.trans hE_
 replace hX:=hX.trans hE_
 clear hE_
 refine gg ?_
 exact ret1 (v:=.bool _) rfl rfl ⟨hX,rfl⟩
end Go.Proofs.YtncbjgblcofddaaGreatDoor
