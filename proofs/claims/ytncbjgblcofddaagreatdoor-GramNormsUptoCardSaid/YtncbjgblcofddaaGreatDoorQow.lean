/- Joined: Inb, Lgi. -/
import Derived.Test.YtncbjgblcofddaaGreatDoorQoq
import Derived.Test.YtncbjgblcofddaaGreatDoorQoj
import Derived.Test.YtncbjgblcofddaaGreatDoorQf
/- gram.Inner,gram.Norm and the reference's,where the vectors may be longer than the matrix. -/
namespace Go.Proofs.YtncbjgblcofddaaGreatDoor
open Go Go.Eng Go.Num Go.Proofs
open Go.Det (det)
set_option maxHeartbeats 32000000 in
theorem inner2_ok (va vx vy:Value) (r cx cy N N2:Nat) (len:Nat→Nat) (M:Nat→Nat→Int) (X Y:Nat→Int) (w:World) (ha:MatE (EI N) w va r len M) (hx:RowE (EI N2) w vx cx X) (hy:RowE (EI N2) w vy cy Y) (hN1:1≤N) (hN:N < 1048576) (hNN:N≤N2) (hN2:N2 < 1073741824) :
 Meets Tryz.prog 39 #[va,vx,vy] w (RInn w (inE r len M cx cy) (inn r M X Y)):=by
 obtain ⟨Ax,cpx,rfl,hx1,hx2,hx3⟩:=id hx
 obtain ⟨Ay,cpy,rfl,hy1,hy2,hy3⟩:=id hy
 refine fn_W (n:=57) Tryz.func39 rfl rfl (by kernel_rfl) (by simp) ?_
 obtain ⟨Aa,capa,rfl,_⟩:=id ha
 have ha0:=ha
 have hX:Ext w w:=Ext.refl w
 refine gg ?_
 refine R1_alloc (.inl rfl) z_Int ?_
 intro w_1 hB0_ hE_ hs_
 have hR:=Bx.zero (N:=1) true hB0_
 obtain ⟨gR,hg_⟩ : ∃ g,g = w.heap.size:=⟨_,rfl⟩
 rw [← hg_] at hR ⊢
 have hfr_gR:w.heap.size≤gR:=by have:=hX.size; omega
 replace ha:=ha.ext hE_
 replace hX:=hX.trans hE_
 clear hB0_ hs_ hg_ hE_
 refine gg ?_
 refine W_seq ?_
 refine gg ?_
 refine gg ?_
 refine R1_call2 (validate_ok _ r N len M w_1 ha hN1 hN) ?_
 rintro _ w_2 ⟨hE_,rfl⟩
 replace ha:=ha.ext hE_
 replace hR:=hR.ext hE_
 replace hX:=hX.trans hE_
 clear hE_
 have h5:=valE_le r len M
 by_cases h0:valE r len M = 0
 rotate_left
 · have e0:inE r len M cx cy = valE r len M:=by unfold inE; rw [if_neg h0]
   refine gg ?_
   refine R1_bld0 b0_Int ?_
   refine gg ?_
   refine gg ?_
   refine R1_storeBx (by first | exact .inl rfl | exact .inr ⟨rfl,fun _ h=>h.mono fun b _ e=>by omega⟩) rfl rfl hR ((CV.zero w_2).ev true (Bd.zero 1)) ?_
   intro w_3 hR hC_ hk_ hs_
   clear ha
   replace hX:=hC_.ext_of hX (fun b hb=>by omega)
   clear hC_ hk_ hs_
   obtain ⟨u,v,hU,hV⟩:=hR
   refine gg ?_
   refine retCB (v:=.int _ _) rfl agg_Int rfl hU rfl ⟨hX,u,v,by rw [e0],?_⟩
   rw [if_neg (by rw [e0]; exact h0)]; exact hV.2 rfl
 obtain ⟨hok,h8,_⟩:=valE_zero.1 h0
 obtain ⟨hr1,hr2,hlen⟩:=okS_iff.1 hok
 have hM:=ha0.sq hlen
 have hM2:=hM.mono hNN
 have bM:∀ i j,i < r→j < r→Bd N2 (M i j):=fun i j hi hj=>hM2.bd hi hj
 refine gg ?_
 refine W_seq ?_
 by_cases hcx:cx = r
 rotate_left
 · have e0:inE r len M cx cy = 3:=by unfold inE; rw [if_pos h0,if_neg (fun h=>hcx h.1)]
   refine gg ?_
   refine R1_bld0 b0_Int ?_
   refine gg ?_
   refine gg ?_
   refine R1_storeBx (by first | exact .inl rfl | exact .inr ⟨rfl,fun _ h=>h.mono fun b _ e=>by omega⟩) rfl rfl hR ((CV.zero w_2).ev true (Bd.zero 1)) ?_
   intro w_4 hR hC_ hk_ hs_
   clear ha
   replace hX:=hC_.ext_of hX (fun b hb=>by omega)
   clear hC_ hk_ hs_
   obtain ⟨u,v,hU,hV⟩:=hR
   refine gg ?_
   refine retCB (v:=.int _ _) rfl agg_Int rfl hU rfl ⟨hX,u,v,by rw [e0],?_⟩
   rw [if_neg (by rw [e0]; decide)]; exact hV.2 rfl
 by_cases hcy:cy = r
 rotate_left
 · have e0:inE r len M cx cy = 3:=by unfold inE; rw [if_pos h0,if_neg (fun h=>hcy h.2)]
   refine gg ?_
   refine R1_bld0 b0_Int ?_
   refine gg ?_
   refine gg ?_
   refine R1_storeBx (by first | exact .inl rfl | exact .inr ⟨rfl,fun _ h=>h.mono fun b _ e=>by omega⟩) rfl rfl hR ((CV.zero w_2).ev true (Bd.zero 1)) ?_
   intro w_5 hR hC_ hk_ hs_
   clear ha
   replace hX:=hC_.ext_of hX (fun b hb=>by omega)
   clear hC_ hk_ hs_
   obtain ⟨u,v,hU,hV⟩:=hR
   refine gg ?_
   refine retCB (v:=.int _ _) rfl agg_Int rfl hU rfl ⟨hX,u,v,by rw [e0],?_⟩
   rw [if_neg (by rw [e0]; decide)]; exact hV.2 rfl
 have e0:inE r len M cx cy = 0:=by unfold inE; rw [if_pos h0,if_pos ⟨hcx,hcy⟩]
 subst hcx
 subst hcy
 rw [e0]
 have bX:∀ j,j < cy→Bd N2 (X j):=fun j hj=>hx.bd hj
 have bY:∀ j,j < cy→Bd N2 (Y j):=fun j hj=>hy.bd hj
 refine gg ?_
 refine gg ?_
 refine R1_call2 (applyS_ok _ _ cy N2 M Y w_2 (hM2.ext hX) (hy.ext hX) hr1 hr2 (by omega)) ?_
 rintro _ w_6 ⟨hE_,Az,mz,cpz,rfl,hz⟩
 replace ha:=ha.ext hE_
 replace hR:=hR.ext hE_
 replace hX:=hX.trans hE_
 clear hE_
 have hK:Ext w_6 w_6:=Ext.refl _
 obtain ⟨az,_,_,_,e1,_,_,_⟩:=hz.at (show 0 < cy by omega)
 cases e1
 obtain ⟨ax,_,_,_,e2,_,_,_⟩:=hx.at (show 0 < cy by omega)
 cases e2
 have bZ:∀ j,j < cy→Bd (N2 + N2 + 1) (appM cy M Y j):=fun j hj=>appM_bd' hr2 bM bY hj
 obtain ⟨NS,hNS⟩ : ∃ k,k = N2 + (N2 + N2 + 1) + 1:=⟨_,rfl⟩
 refine gg ?_
 refine R1_bld0 b0_Int ?_
 refine gg ?_
 refine gg ?_
 refine R1_alloc (.inl rfl) z_Int ?_
 intro w_7 hB0_ hE_ hs_
 have hS:=Bx.zero (N:=1) true hB0_
 obtain ⟨gS,hg_⟩ : ∃ g,g = w_6.heap.size:=⟨_,rfl⟩
 rw [← hg_] at hS ⊢
 have hfr_gS:w.heap.size≤gS:=by have:=hX.size; omega
 have hfr_hK_gS:w_6.heap.size≤gS:=by have:=hK.size; omega
 have hne_gS_gR:gS ≠ gR:=by have:=hR.lt; omega
 replace ha:=ha.ext hE_
 replace hR:=hR.ext hE_
 replace hK:=hK.trans hE_
 replace hX:=hX.trans hE_
 clear hB0_ hs_ hg_ hE_
 refine gg ?_
 refine gg ?_
 refine R1_storeBx (by first | exact .inl rfl | exact .inr ⟨rfl,fun _ h=>h.mono fun b _ e=>by omega⟩) rfl rfl hS ((CV.zero w_7).ev true (Bd.zero NS)) ?_
 intro w_8 hS hC_ hk_ hs_
 clear ha
 replace hR:=hR.kp hk_ hC_ (by first | omega | assumption)
 replace hK:=hC_.ext_of hK (fun b hb=>by omega)
 replace hX:=hC_.ext_of hX (fun b hb=>by omega)
 clear hC_ hk_ hs_
 refine gg ?_
 have fR:w.heap.size≤gR:=hfr_gR
 have fS:w.heap.size≤gS∧gR ≠ gS:=⟨hfr_gS,by omega⟩
 have fS2:=hfr_hK_gS
 refine W_seqM (fun f w'=>f 6 = .pointer (some ⟨gR,0,none⟩)∧f 11 = .pointer (some ⟨gS,0,none⟩)∧Ext w w'∧Bx w' gR 1 true 0∧Bx w' gS NS true (inn cy M X Y)) ?_ ?_
 · refine gg ?_
   refine W_loop (fun m f w'=>∃ i,m = cy - i∧i≤cy∧f 1 = .slice (some ax) cy cpx∧f 6 = .pointer (some ⟨gR,0,none⟩)∧f 11 = .pointer (some ⟨gS,0,none⟩)∧f 40 = .slice (some az) cy cpz∧f 41 = .int .i64 ((cy:Nat):Int)∧f 42 = .int .i64 ((i:Nat):Int)∧Ext w w'∧Ext w_6 w'∧Bx w' gR 1 true 0∧Bx w' gS NS true (sumTo i fun i=>X i * appM cy M Y i))
    cy ⟨0,rfl,Nat.zero_le _,rfl,rfl,rfl,rfl,rfl,rfl,hX,hK,hR,hS⟩ ?_
   clear hX hR hS hK
   rintro m f w' ⟨i,rfl,hi,hf1,hf6,hf11,hf40,hf41,hf42,hX,hK,hR,hS⟩
   rw [ui hf1,ui hf6,ui hf11,ui hf40,ui hf41,ui hf42]
   clear hf1 hf6 hf11 hf40 hf41 hf42
   by_cases hlt:i < cy
   · skip
     obtain ⟨_,_,x1,y1,e,hx1,hy1,hv1⟩:=hx.at hlt
     cases e
     obtain ⟨_,_,x2,y2,e,hx2,hy2,hv2,_⟩:=hz.at hlt
     cases e
     replace hx2:=cell_ext hK hx2
     replace hy2:=cell_ext hK hy2
     replace hv2:=hv2.ext hK
     refine gg ?_
     refine gg ?_
     refine R1_alloc (.inl rfl) z_Int ?_
     intro w_9 hB0_ hE_ hs_
     have h9:=Bx.zero (N:=1) true hB0_
     obtain ⟨g9,hg_⟩ : ∃ g,g = w'.heap.size:=⟨_,rfl⟩
     rw [← hg_] at h9 ⊢
     have hfr_g9:w.heap.size≤g9:=by have:=hX.size; omega
     have hfr_hK_g9:w_6.heap.size≤g9:=by have:=hK.size; omega
     have hne_g9_gR:g9 ≠ gR:=by have:=hR.lt; omega
     have hne_g9_gS:g9 ≠ gS:=by have:=hS.lt; omega
     replace hR:=hR.ext hE_
     replace hS:=hS.ext hE_
     replace hv2:=hv2.ext hE_
     replace hK:=hK.trans hE_
     replace hX:=hX.trans hE_
     clear hB0_ hs_ hg_ hE_
     refine gg ?_
     refine gg ?_
     refine R1_storeBx (by first | exact .inl rfl | exact .inr ⟨rfl,fun _ h=>h.mono fun b _ e=>by omega⟩) rfl rfl h9 (hv2.ev true (bZ i hlt)) ?_
     intro w_10 h9 hC_ hk_ hs_
     replace hR:=hR.kp hk_ hC_ (by first | omega | assumption)
     replace hS:=hS.kp hk_ hC_ (by first | omega | assumption)
     replace hv2:=hv2.kp hk_
     replace hK:=hC_.ext_of hK (fun b hb=>by omega)
     replace hX:=hC_.ext_of hX (fun b hb=>by omega)
     clear hC_ hk_ hs_
     refine gg ?_
     clear hx2 hy2
     refine gg ?_
     refine W_regD [(0,0),(1,3),(2,3),(3,3),(4,0),(5,0),(6,1),(7,1),(8,2)] mixed (by kernel_rfl) (fun w_11 hE_ _=>?_)
     replace hR:=hR.ext hE_
     replace hS:=hS.ext hE_
     replace hv2:=hv2.ext hE_
     replace hK:=hK.trans hE_
     replace h9:=h9.ext hE_
     replace hX:=hX.trans hE_
     clear hE_
     replace hx1:=cell_ext hX hx1
     replace hy1:=cell_ext hX hy1
     replace hv1:=hv1.ext hX
     obtain ⟨hS_u,hS_v,hS_B,hS_V⟩:=id hS
     obtain ⟨hS_0,hS_1⟩:=blkP hS_B
     obtain ⟨h9_u,h9_v,h9_B,h9_V⟩:=id h9
     obtain ⟨h9_0,h9_1⟩:=blkP h9_B
     have hSV:=hS_V.1
     refine gg ?_
     refine gg ?_
     refine R1_call1 (mul_ok _ _ _ _ _ _ (N2 + N2 + 1) w_11 (hv1.mono (by omega)) h9_V.1 (by omega)) ?_
     rintro _ w_12 ⟨hE_,a0,a1,rfl,hm⟩
     refine ⟨hE_,?_⟩
     replace hR:=hR.ext hE_
     replace hS:=hS.ext hE_
     replace hv2:=hv2.ext hE_
     replace hK:=hK.trans hE_
     replace h9:=h9.ext hE_
     replace hSV:=hSV.ext hE_
     replace hX:=hX.trans hE_
     clear hE_
     have bm:Bd (N2 + (N2 + N2 + 1)) (X i * appM cy M Y i):=(bX i hlt).mul (bZ i hlt)
     refine gg ?_
     refine gg ?_
     refine R1_call1 (add_ok _ _ _ _ _ _ NS w_12 hSV (hm.iv (bm.mono (by omega))) (by omega)) ?_
     rintro _ w_13 ⟨hE_,b0,b1,rfl,hs⟩
     refine ⟨hE_,?_⟩
     replace hR:=hR.ext hE_
     replace hS:=hS.ext hE_
     replace hv2:=hv2.ext hE_
     replace hK:=hK.trans hE_
     replace h9:=h9.ext hE_
     replace hSV:=hSV.ext hE_
     replace hm:=hm.ext hE_
     replace hX:=hX.trans hE_
     clear hE_
     have bs:Bd NS (sumTo i (fun i=>X i * appM cy M Y i) + X i * appM cy M Y i):=by
      rw [hNS]; exact inn_bd (k:=i + 1) hr2 hlt bM bX bY
     clear hx1 hy1 hS_0 hS_1 h9_0 h9_1
     refine gg ?_
     refine gg ?_
     refine R1_storeBx (by first | exact .inl rfl | exact .inr ⟨rfl,fun _ h=>h.mono fun b _ e=>by omega⟩) rfl rfl hS (hs.ev true bs) ?_
     intro w_14 hS hC_ hk_ hs_
     replace hR:=hR.kp hk_ hC_ (by first | omega | assumption)
     replace hv2:=hv2.kp hk_
     replace hK:=hC_.ext_of hK (fun b hb=>by omega)
     replace h9:=h9.kp hk_ hC_ (by first | omega | assumption)
     replace hSV:=hSV.kp hk_
     replace hm:=hm.kp hk_
     replace hs:=hs.kp hk_
     replace hX:=hC_.ext_of hX (fun b hb=>by omega)
     clear hC_ hk_ hs_
     refine gg ?_
     refine ⟨_,?_,i + 1,rfl,by omega,rfl,rfl,rfl,rfl,rfl,rfl,hX,hK,hR,hS⟩
     omega
   · refine gg ?_
     obtain rfl:i = cy:=by omega
     exact ⟨rfl,rfl,hX,hR,hS⟩
 clear hX hR hS hK
 rintro f w' ⟨hf6,hf11,hX,hR,hS⟩
 rw [ui hf6,ui hf11]
 clear hf6 hf11
 refine gg ?_
 obtain ⟨hS_u,hS_v,hS_B,hS_V⟩:=id hS
 obtain ⟨hS_0,hS_1⟩:=blkP hS_B
 refine gg ?_
 refine gg ?_
 refine R1_storeBx (by first | exact .inl rfl | exact .inr ⟨rfl,fun _ h=>h.mono fun b _ e=>by omega⟩) rfl rfl hR (hS_V) ?_
 intro w_15 hR hC_ hk_ hs_
 replace hS:=hS.kp hk_ hC_ (by first | omega | assumption)
 replace hX:=hC_.ext_of hX (fun b hb=>by omega)
 clear hC_ hk_ hs_
 obtain ⟨u,v,hU,hV⟩:=hR
 refine gg ?_
 refine retCB (v:=.int _ _) rfl agg_Int rfl hU rfl ⟨hX,u,v,rfl,?_⟩
 rw [if_pos rfl]; exact hV.2 rfl
set_option maxHeartbeats 32000000 in
theorem rinner2_ok (va vx vy:Value) (r cx cy N N2:Nat) (len:Nat→Nat) (M:Nat→Nat→Int) (X Y:Nat→Int) (w:World) (ha:MatE (EI N) w va r len M) (hx:RowE (EI N2) w vx cx X) (hy:RowE (EI N2) w vy cy Y) (hN1:1≤N) (hN:N < 1048576) (hNN:N≤N2) (hN2:N2 < 1073741824) :
 Meets Tryz.prog 40 #[va,vx,vy] w (RInn w (inE r len M cx cy) (inn r M X Y)):=by
 obtain ⟨Ax,cpx,rfl,hx1,hx2,hx3⟩:=id hx
 obtain ⟨Ay,cpy,rfl,hy1,hy2,hy3⟩:=id hy
 refine fn_W (n:=39) Tryz.func40 rfl rfl (by kernel_rfl) (by simp) ?_
 obtain ⟨Aa,capa,rfl,_⟩:=id ha
 have ha0:=ha
 have hX:Ext w w:=Ext.refl w
 refine gg ?_
 refine R1_alloc (.inl rfl) z_Int ?_
 intro w_1 hB0_ hE_ hs_
 have hR:=Bx.zero (N:=1) true hB0_
 obtain ⟨gR,hg_⟩ : ∃ g,g = w.heap.size:=⟨_,rfl⟩
 rw [← hg_] at hR ⊢
 have hfr_gR:w.heap.size≤gR:=by have:=hX.size; omega
 replace ha:=ha.ext hE_
 replace hX:=hX.trans hE_
 clear hB0_ hs_ hg_ hE_
 refine gg ?_
 refine W_seq ?_
 refine gg ?_
 refine gg ?_
 refine R1_call2 (rvalidate_ok _ r N len M w_1 ha hN1 hN) ?_
 rintro _ w_2 ⟨hE_,rfl⟩
 replace ha:=ha.ext hE_
 replace hR:=hR.ext hE_
 replace hX:=hX.trans hE_
 clear hE_
 have h5:=valE_le r len M
 by_cases h0:valE r len M = 0
 rotate_left
 · have e0:inE r len M cx cy = valE r len M:=by unfold inE; rw [if_neg h0]
   refine gg ?_
   refine R1_bld0 b0_Int ?_
   refine gg ?_
   refine gg ?_
   refine R1_storeBx (by first | exact .inl rfl | exact .inr ⟨rfl,fun _ h=>h.mono fun b _ e=>by omega⟩) rfl rfl hR ((CV.zero w_2).ev true (Bd.zero 1)) ?_
   intro w_3 hR hC_ hk_ hs_
   clear ha
   replace hX:=hC_.ext_of hX (fun b hb=>by omega)
   clear hC_ hk_ hs_
   obtain ⟨u,v,hU,hV⟩:=hR
   refine gg ?_
   refine retCB (v:=.int _ _) rfl agg_Int rfl hU rfl ⟨hX,u,v,by rw [e0],?_⟩
   rw [if_neg (by rw [e0]; exact h0)]; exact hV.2 rfl
 obtain ⟨hok,h8,_⟩:=valE_zero.1 h0
 obtain ⟨hr1,hr2,hlen⟩:=okS_iff.1 hok
 have hM:=ha0.sq hlen
 have hM2:=hM.mono hNN
 have bM:∀ i j,i < r→j < r→Bd N2 (M i j):=fun i j hi hj=>hM2.bd hi hj
 refine gg ?_
 refine W_seq ?_
 by_cases hcx:cx = r
 rotate_left
 · have e0:inE r len M cx cy = 3:=by unfold inE; rw [if_pos h0,if_neg (fun h=>hcx h.1)]
   refine gg ?_
   refine R1_bld0 b0_Int ?_
   refine gg ?_
   refine gg ?_
   refine R1_storeBx (by first | exact .inl rfl | exact .inr ⟨rfl,fun _ h=>h.mono fun b _ e=>by omega⟩) rfl rfl hR ((CV.zero w_2).ev true (Bd.zero 1)) ?_
   intro w_4 hR hC_ hk_ hs_
   clear ha
   replace hX:=hC_.ext_of hX (fun b hb=>by omega)
   clear hC_ hk_ hs_
   obtain ⟨u,v,hU,hV⟩:=hR
   refine gg ?_
   refine retCB (v:=.int _ _) rfl agg_Int rfl hU rfl ⟨hX,u,v,by rw [e0],?_⟩
   rw [if_neg (by rw [e0]; decide)]; exact hV.2 rfl
 by_cases hcy:cy = r
 rotate_left
 · have e0:inE r len M cx cy = 3:=by unfold inE; rw [if_pos h0,if_neg (fun h=>hcy h.2)]
   refine gg ?_
   refine R1_bld0 b0_Int ?_
   refine gg ?_
   refine gg ?_
   refine R1_storeBx (by first | exact .inl rfl | exact .inr ⟨rfl,fun _ h=>h.mono fun b _ e=>by omega⟩) rfl rfl hR ((CV.zero w_2).ev true (Bd.zero 1)) ?_
   intro w_5 hR hC_ hk_ hs_
   clear ha
   replace hX:=hC_.ext_of hX (fun b hb=>by omega)
   clear hC_ hk_ hs_
   obtain ⟨u,v,hU,hV⟩:=hR
   refine gg ?_
   refine retCB (v:=.int _ _) rfl agg_Int rfl hU rfl ⟨hX,u,v,by rw [e0],?_⟩
   rw [if_neg (by rw [e0]; decide)]; exact hV.2 rfl
 have e0:inE r len M cx cy = 0:=by unfold inE; rw [if_pos h0,if_pos ⟨hcx,hcy⟩]
 subst hcx
 subst hcy
 rw [e0]
 have bX:∀ j,j < cy→Bd N2 (X j):=fun j hj=>hx.bd hj
 have bY:∀ j,j < cy→Bd N2 (Y j):=fun j hj=>hy.bd hj
 refine gg ?_
 refine gg ?_
 refine R1_call2 (rapplyS_ok _ _ cy N2 M Y w_2 (hM2.ext hX) (hy.ext hX) hr1 hr2 (by omega)) ?_
 rintro _ w_6 ⟨hE_,Az,mz,cpz,rfl,hz⟩
 replace ha:=ha.ext hE_
 replace hR:=hR.ext hE_
 replace hX:=hX.trans hE_
 clear hE_
 refine gg ?_
 refine gg ?_
 refine R1_call2 (dot_ok _ _ cy (N2 + N2 + 1) X (appM cy M Y) w_6 ((hx.ext hX).mono (by omega)) (hz.ei) (by omega) (by omega)) ?_
 rintro _ w_7 ⟨hE_,a0,a1,rfl,hd⟩
 replace ha:=ha.ext hE_
 replace hR:=hR.ext hE_
 replace hX:=hX.trans hE_
 clear hE_
 refine gg ?_
 refine gg ?_
 refine R1_storeBx (by first | exact .inl rfl | exact .inr ⟨rfl,fun _ h=>h.mono fun b _ e=>by omega⟩) rfl rfl hR (hd.ev true (inn_bd (k:=cy) hr2 (Nat.le_refl _) bM bX bY)) ?_
 intro w_8 hR hC_ hk_ hs_
 clear ha
 replace hd:=hd.kp hk_
 replace hX:=hC_.ext_of hX (fun b hb=>by omega)
 clear hC_ hk_ hs_
 obtain ⟨u,v,hU,hV⟩:=hR
 refine gg ?_
 refine retCB (v:=.int _ _) rfl agg_Int rfl hU rfl ⟨hX,u,v,rfl,?_⟩
 rw [if_pos rfl]; exact hV.2 rfl
set_option maxHeartbeats 16000000 in
theorem norm2_ok (va vx:Value) (r cx N N2:Nat) (len:Nat→Nat) (M:Nat→Nat→Int) (X:Nat→Int) (w:World) (ha:MatE (EI N) w va r len M) (hx:RowE (EI N2) w vx cx X) (hN1:1≤N) (hN:N < 1048576) (hNN:N≤N2) (hN2:N2 < 1073741824) :
 Meets Tryz.prog 37 #[va,vx] w (RInn w (inE r len M cx cx) (inn r M X X)):=by
 refine fn_W (n:=12) Tryz.func37 rfl rfl (by kernel_rfl) (by simp) ?_
 obtain ⟨Ax,cpx,rfl,_⟩:=id hx
 obtain ⟨Aa,capa,rfl,_⟩:=id ha
 have hX:Ext w w:=Ext.refl w
 refine gg ?_
 refine R1_alloc (.inl rfl) z_Int ?_
 intro w_1 hB0_ hE_ hs_
 have hR:=Bx.zero (N:=1) true hB0_
 obtain ⟨gR,hg_⟩ : ∃ g,g = w.heap.size:=⟨_,rfl⟩
 rw [← hg_] at hR ⊢
 have hfr_gR:w.heap.size≤gR:=by have:=hX.size; omega
 replace hX:=hX.trans hE_
 clear hB0_ hs_ hg_ hE_
 refine gg ?_
 refine gg ?_
 refine R1_call2 (inner2_ok _ _ _ r cx cx N N2 len M X X w_1 (ha.ext hX) (hx.ext hX) (hx.ext hX) hN1 hN hNN hN2) ?_
 rintro _ w_2 ⟨hE_,a0,a1,rfl,hd⟩
 replace hR:=hR.ext hE_
 replace hX:=hX.trans hE_
 clear hE_
 obtain ⟨k,hk⟩:=Bd.ex (if inE r len M cx cx = 0 then inn r M X X else 0)
 refine gg ?_
 refine gg ?_
 refine R1_storeBx (by first | exact .inl rfl | exact .inr ⟨rfl,fun _ h=>h.mono fun b _ e=>by omega⟩) rfl rfl hR (hd.ev true hk) ?_
 intro w_3 hR hC_ hk_ hs_
 replace hd:=hd.kp hk_
 replace hX:=hC_.ext_of hX (fun b hb=>by omega)
 clear hC_ hk_ hs_
 obtain ⟨u,v,hU,hV⟩:=hR
 refine gg ?_
 exact retCB (v:=.int _ _) rfl agg_Int rfl hU rfl ⟨hX,u,v,rfl,hV.2 rfl⟩
set_option maxHeartbeats 16000000 in
theorem rnorm2_ok (va vx:Value) (r cx N N2:Nat) (len:Nat→Nat) (M:Nat→Nat→Int) (X:Nat→Int) (w:World) (ha:MatE (EI N) w va r len M) (hx:RowE (EI N2) w vx cx X) (hN1:1≤N) (hN:N < 1048576) (hNN:N≤N2) (hN2:N2 < 1073741824) :
 Meets Tryz.prog 38 #[va,vx] w (RInn w (inE r len M cx cx) (inn r M X X)):=by
 refine fn_W (n:=12) Tryz.func38 rfl rfl (by kernel_rfl) (by simp) ?_
 obtain ⟨Ax,cpx,rfl,_⟩:=id hx
 obtain ⟨Aa,capa,rfl,_⟩:=id ha
 have hX:Ext w w:=Ext.refl w
 refine gg ?_
 refine R1_alloc (.inl rfl) z_Int ?_
 intro w_1 hB0_ hE_ hs_
 have hR:=Bx.zero (N:=1) true hB0_
 obtain ⟨gR,hg_⟩ : ∃ g,g = w.heap.size:=⟨_,rfl⟩
 rw [← hg_] at hR ⊢
 have hfr_gR:w.heap.size≤gR:=by have:=hX.size; omega
 replace hX:=hX.trans hE_
 clear hB0_ hs_ hg_ hE_
 refine gg ?_
 refine gg ?_
 refine R1_call2 (rinner2_ok _ _ _ r cx cx N N2 len M X X w_1 (ha.ext hX) (hx.ext hX) (hx.ext hX) hN1 hN hNN hN2) ?_
 rintro _ w_2 ⟨hE_,a0,a1,rfl,hd⟩
 replace hR:=hR.ext hE_
 replace hX:=hX.trans hE_
 clear hE_
 obtain ⟨k,hk⟩:=Bd.ex (if inE r len M cx cx = 0 then inn r M X X else 0)
 refine gg ?_
 refine gg ?_
 refine R1_storeBx (by first | exact .inl rfl | exact .inr ⟨rfl,fun _ h=>h.mono fun b _ e=>by omega⟩) rfl rfl hR (hd.ev true hk) ?_
 intro w_3 hR hC_ hk_ hs_
 replace hd:=hd.kp hk_
 replace hX:=hC_.ext_of hX (fun b hb=>by omega)
 clear hC_ hk_ hs_
 obtain ⟨u,v,hU,hV⟩:=hR
 refine gg ?_
 exact retCB (v:=.int _ _) rfl agg_Int rfl hU rfl ⟨hX,u,v,rfl,hV.2 rfl⟩
end Go.Proofs.YtncbjgblcofddaaGreatDoor
namespace Go.Proofs.YtncbjgblcofddaaGreatDoor
open Go Go.Eng Go.Num Go.Proofs
open Go.Det (det)
theorem inE_bd {va vx vy:Value} {r cx cy N N2:Nat} {len:Nat→Nat} {M:Nat→Nat→Int} {X Y:Nat→Int} {w:World} (ha:MatE (EI N) w va r len M) (hx:RowE (EI N2) w vx cx X) (hy:RowE (EI N2) w vy cy Y) (hNN:N≤N2) :
 Bd (N2 + (N2 + N2 + 1) + 1) (if inE r len M cx cy = 0 then inn r M X Y else 0):=by
 by_cases h:inE r len M cx cy = 0
 · rw [if_pos h]
   unfold inE at h
   split at h
   · rename_i h0
     split at h
     · rename_i h1
       obtain ⟨rfl,rfl⟩:=h1
       obtain ⟨hok,h8,_⟩:=valE_zero.1 h0
       obtain ⟨hr1,hr2,hlen⟩:=okS_iff.1 hok
       exact inn_bd hr2 (Nat.le_refl _) (fun i j hi hj=>((ha.sq hlen).bd hi hj).mono hNN) (fun j hj=>hx.bd hj) (fun j hj=>hy.bd hj)
     · omega
   · exact absurd h (by assumption)
 · rw [if_neg h]; exact Bd.zero _
set_option maxHeartbeats 32000000 in
theorem lawGramNorms {vx v1 v2 va vy vw:Value} {dm kd q m n1 n2 ra cy cw:Nat} {ns ms ns1 ns2:Nat→Int} {lena:Nat→Nat} {Ma:Nat→Nat→Int} {La:Nat→Nat→Nat} {Y W:Nat→Int} {LY LW:Nat→Nat} {w:World} (hm:ML w)
 (hx:LatV w vx dm kd q ns m ms) (h1:NumsV w v1 n1 ns1) (h2:NumsV w v2 n2 ns2) (ha:MatL w va ra lena Ma La) (hy:RowL w vy cy Y LY∧∀ j,j < cy→LY j≤1048576) (hw:RowL w vw cw W LW∧∀ j,j < cw→LW j≤1048576) :
 Meets Tryz.prog 9 #[vx,v1,v2,va,vy,vw] w (Law w):=by
 obtain ⟨A1,cap1,rfl,hl1,hn1'⟩:=h1
 obtain ⟨A2,cap2,rfl,hl2,hn2'⟩:=h2
 have hY:RowE (EI 1048576) w vy cy Y:=hy.1.e hy.2
 have hW:RowE (EI 1048576) w vw cw W:=hw.1.e hw.2
 clear hy hw
 obtain ⟨Ay,capy,rfl,_,hcy,_⟩:=id hY
 obtain ⟨Aw,capw,rfl,_,hcw,_⟩:=id hW
 obtain ⟨A,cap,A',cap',rfl,hd,hk,hc,hc',hN,hN'⟩:=hx
 have hL:=LatV.agg hd hk hc hc' hN hN'
 have hdm:=Nat.mod_lt dm (show 0 < 5 by decide)
 obtain ⟨n,hn⟩ : ∃ n,n = 1 + dm % 5:=⟨_,rfl⟩
 have hn1:1≤n:=by omega
 have hn5:n≤5:=by omega
 have hn0:n < 9223372036854775808:=by omega
 refine fn_W (n:=140) Tryz.func9 rfl rfl (by kernel_rfl) (by simp) ?_
 have hX:Ext w w:=Ext.refl w
 refine gg ?_
 refine R1_box (v:=.agg _) (.inl rfl) rfl ?_
 intro w_1 hB0_ hE_ hs_
 have hX1:Blk w_1 w.heap.size 25 #[.int .u8 ((dm:Nat):Int),.int .u8 ((kd:Nat):Int),.slice A q cap,.slice A' m cap']:=hB0_
 obtain ⟨gX,hg_⟩ : ∃ g,g = w.heap.size:=⟨_,rfl⟩
 rw [← hg_] at hX1 ⊢
 have hfr_gX:w.heap.size≤gX:=by have:=hX.size; omega
 replace hX:=hX.trans hE_
 clear hB0_ hs_ hg_ hE_
 refine gg ?_
 refine W_seq ?_
 refine gg ?_
 refine R1_call2 (large7_ok va ra lena Ma La w_1 (ha.ext hX)) ?_
 rintro _ _ ⟨rfl,b,rfl,hba⟩
 cases b with
 | true =>
  refine gg ?_
  refine R1_call2 (awake7_ok w_1 (hm.ext hX)) ?_
  rintro _ w5 ⟨hE5,rfl⟩
  refine gg ?_
  exact ret1 (v:=.bool _) rfl rfl ⟨hX.trans hE5,rfl⟩
 | false =>
 have hA:MatE (EI 100) w va ra lena Ma:=(hba rfl).e ha
 clear hba ha
 by_cases hy20:20 < cy
 · refine gg ?_
   refine R1_call2 (awake7_ok w_1 (hm.ext hX)) ?_
   rintro _ w5 ⟨hE5,rfl⟩
   refine gg ?_
   exact ret1 (v:=.bool _) rfl rfl ⟨hX.trans hE5,rfl⟩
 by_cases hw20:20 < cw
 · refine gg ?_
   refine R1_call2 (awake7_ok w_1 (hm.ext hX)) ?_
   rintro _ w5 ⟨hE5,rfl⟩
   refine gg ?_
   exact ret1 (v:=.bool _) rfl rfl ⟨hX.trans hE5,rfl⟩
 obtain ⟨x0,x1,x2,x3⟩:=blkQ hX1
 refine gg ?_
 refine R1_load4F (by decide) agg_Lat rfl x0 x1 x2 x3 ?_
 clear x0 x1 x2 x3
 refine gg ?_
 refine gg ?_
 refine R1_call2 (latRaw_ok _ dm kd q m 5 ns ms w_1 (hL w_1 hX) (by decide) (by decide)) ?_
 rintro _ w_2 ⟨hE_,gA,gsA,M,rfl,_,_,hO,h0,hdet,bM⟩
 replace hX1:=hX1.ext hE_
 replace hX:=hX.trans hE_
 clear hE_
 rw [← hn] at hO h0 hdet bM ⊢
 clear hdet
 have hK0:Ext w_2 w_2:=Ext.refl _
 have rdM:∀ {u:World},Ext w_2 u→MatE (EI 5) u (.slice (some ⟨gA,0,none⟩) n n) n (fun _=>n) M:=fun hE=>(hO.ext hE).read bM hn0 hn0
 refine gg ?_
 refine gg ?_
 refine R1_call2 (column_ok A1 n1 cap1 n ns1 w_2 (hn1'.ext hX) (by omega)) ?_
 rintro u w_3 ⟨hE_,hU,_⟩
 replace hK0:=hK0.trans hE_
 replace hX:=hX.trans hE_
 clear hE_
 refine gg ?_
 refine gg ?_
 refine R1_call2 (column_ok A2 n2 cap2 n ns2 w_3 (hn2'.ext hX) (by omega)) ?_
 rintro v w_4 ⟨hE_,hV,_⟩
 replace hK0:=hK0.trans hE_
 replace hU:=hU.ext hE_
 replace hX:=hX.trans hE_
 clear hE_
 refine gg ?_
 obtain ⟨gU,cu,rfl,_⟩:=hU.rg hn1
 obtain ⟨gV,cv,rfl,_⟩:=hV.rg hn1
 obtain ⟨X,hXd⟩ : ∃ X,X = tp n1 ns1:=⟨_,rfl⟩
 obtain ⟨Z,hZd⟩ : ∃ Z,Z = tp n2 ns2:=⟨_,rfl⟩
 rw [← hXd] at hU
 rw [← hZd] at hV
 have rdU:∀ {u:World},Ext w_4 u→RowE (EI 5) u (.slice (some ⟨gU,0,none⟩) n cu) n X:=fun hE=>((hU.ext hE).rowE).mono (by decide)
 have rdV:∀ {u:World},Ext w_4 u→RowE (EI 5) u (.slice (some ⟨gV,0,none⟩) n cv) n Z:=fun hE=>((hV.ext hE).rowE).mono (by decide)
 obtain ⟨e1,he1⟩ : ∃ e,e = inE n (fun _=>n) M n n:=⟨_,rfl⟩
 obtain ⟨e2,he2⟩ : ∃ e,e = inE ra lena Ma cy cy:=⟨_,rfl⟩
 obtain ⟨e3,he3⟩ : ∃ e,e = inE n (fun _=>n) M cy cw:=⟨_,rfl⟩
 have l1:e1≤5:=by rw [he1]; exact inE_le _ _ _ _ _
 have l2:e2≤5:=by rw [he2]; exact inE_le _ _ _ _ _
 have l3:e3≤5:=by rw [he3]; exact inE_le _ _ _ _ _
 obtain ⟨z1,hz1⟩ : ∃ z,z = inn n M X X:=⟨_,rfl⟩
 obtain ⟨z2,hz2⟩ : ∃ z,z = inn n M X Z:=⟨_,rfl⟩
 obtain ⟨z3,hz3⟩ : ∃ z,z = inn ra Ma Y Y:=⟨_,rfl⟩
 obtain ⟨z4,hz4⟩ : ∃ z,z = inn n M Y W:=⟨_,rfl⟩
 have b1:Bd 3145730 (if e1 = 0 then z1 else 0):=by rw [he1,hz1]; exact (inE_bd (N:=5) (N2:=5) (rdM hK0) (rdU (Ext.refl _)) (rdU (Ext.refl _)) (by decide)).mono (by decide)
 have b2:Bd 3145730 (if e1 = 0 then z2 else 0):=by rw [he1,hz2]; exact (inE_bd (N:=5) (N2:=5) (rdM hK0) (rdU (Ext.refl _)) (rdV (Ext.refl _)) (by decide)).mono (by decide)
 have b3:Bd 3145730 (if e2 = 0 then z3 else 0):=by rw [he2,hz3]; exact (inE_bd (N:=100) (N2:=1048576) hA hY hY (by decide)).mono (by decide)
 have b4:Bd 3145730 (if e3 = 0 then z4 else 0):=by rw [he3,hz4]; exact (inE_bd (N:=5) (N2:=1048576) (rdM hK0) (hY.ext hX) (hW.ext hX) (by decide)).mono (by decide)
 have hK:Ext w_4 w_4:=Ext.refl _
 refine gg ?_
 refine gg ?_
 refine R1_call2 (norm_ok _ _ n n 5 _ M X w_4 (rdM hK0) (rdU hK) (by decide) (by decide)) ?_
 rintro _ w_5 ⟨hE_,x1,y1,rfl,hc1⟩
 replace hK0:=hK0.trans hE_
 replace hK:=hK.trans hE_
 replace hX:=hX.trans hE_
 clear hE_
 rw [← he1,← hz1] at hc1
 rw [← he1]
 refine gg ?_
 refine gg ?_
 refine R1_alloc (.inl rfl) z_Int ?_
 intro w_6 hB0_ hE_ hs_
 have hD1:=Bx.zero (N:=1) true hB0_
 obtain ⟨g1,hg_⟩ : ∃ g,g = w_5.heap.size:=⟨_,rfl⟩
 rw [← hg_] at hD1 ⊢
 have hfr_g1:w.heap.size≤g1:=by have:=hX.size; omega
 have hfr_hK0_g1:w_2.heap.size≤g1:=by have:=hK0.size; omega
 have hfr_hK_g1:w_4.heap.size≤g1:=by have:=hK.size; omega
 replace hK0:=hK0.trans hE_
 replace hK:=hK.trans hE_
 replace hc1:=hc1.ext hE_
 replace hX:=hX.trans hE_
 clear hB0_ hs_ hg_ hE_
 refine gg ?_
 refine gg ?_
 refine R1_storeBx (by first | exact .inl rfl | exact .inr ⟨rfl,fun _ h=>h.mono fun b _ e=>by omega⟩) rfl rfl hD1 (hc1.ev true b1) ?_
 intro w_7 hD1 hC_ hk_ hs_
 replace hK0:=hC_.ext_of hK0 (fun b hb=>by omega)
 replace hK:=hC_.ext_of hK (fun b hb=>by omega)
 replace hc1:=hc1.kp hk_
 replace hX:=hC_.ext_of hX (fun b hb=>by omega)
 clear hC_ hk_ hs_
 refine gg ?_
 refine gg ?_
 refine R1_call2 (rnorm_ok _ _ n n 5 _ M X w_7 (rdM hK0) (rdU hK) (by decide) (by decide)) ?_
 rintro _ w_8 ⟨hE_,x2,y2,rfl,hc2⟩
 replace hK0:=hK0.trans hE_
 replace hK:=hK.trans hE_
 replace hc1:=hc1.ext hE_
 replace hD1:=hD1.ext hE_
 replace hX:=hX.trans hE_
 clear hE_
 rw [← he1,← hz1] at hc2
 rw [← he1]
 refine gg ?_
 refine gg ?_
 refine R1_alloc (.inl rfl) z_Int ?_
 intro w_9 hB0_ hE_ hs_
 have hD2:=Bx.zero (N:=1) true hB0_
 obtain ⟨g2,hg_⟩ : ∃ g,g = w_8.heap.size:=⟨_,rfl⟩
 rw [← hg_] at hD2 ⊢
 have hfr_g2:w.heap.size≤g2:=by have:=hX.size; omega
 have hfr_hK0_g2:w_2.heap.size≤g2:=by have:=hK0.size; omega
 have hfr_hK_g2:w_4.heap.size≤g2:=by have:=hK.size; omega
 have hne_g2_g1:g2 ≠ g1:=by have:=hD1.lt; omega
 replace hK0:=hK0.trans hE_
 replace hK:=hK.trans hE_
 replace hc1:=hc1.ext hE_
 replace hD1:=hD1.ext hE_
 replace hc2:=hc2.ext hE_
 replace hX:=hX.trans hE_
 clear hB0_ hs_ hg_ hE_
 refine gg ?_
 refine gg ?_
 refine R1_storeBx (by first | exact .inl rfl | exact .inr ⟨rfl,fun _ h=>h.mono fun b _ e=>by omega⟩) rfl rfl hD2 (hc2.ev true b1) ?_
 intro w_10 hD2 hC_ hk_ hs_
 replace hK0:=hC_.ext_of hK0 (fun b hb=>by omega)
 replace hK:=hC_.ext_of hK (fun b hb=>by omega)
 replace hc1:=hc1.kp hk_
 replace hD1:=hD1.kp hk_ hC_ (by first | omega | assumption)
 replace hc2:=hc2.kp hk_
 replace hX:=hC_.ext_of hX (fun b hb=>by omega)
 clear hC_ hk_ hs_
 refine gg ?_
 refine gg ?_
 refine R1_call2 (inner_ok _ _ _ n n n 5 _ M X Z w_10 (rdM hK0) (rdU hK) (rdV hK) (by decide) (by decide)) ?_
 rintro _ w_11 ⟨hE_,x3,y3,rfl,hc3⟩
 replace hK0:=hK0.trans hE_
 replace hK:=hK.trans hE_
 replace hc1:=hc1.ext hE_
 replace hD1:=hD1.ext hE_
 replace hc2:=hc2.ext hE_
 replace hD2:=hD2.ext hE_
 replace hX:=hX.trans hE_
 clear hE_
 rw [← he1,← hz2] at hc3
 rw [← he1]
 refine gg ?_
 refine gg ?_
 refine R1_alloc (.inl rfl) z_Int ?_
 intro w_12 hB0_ hE_ hs_
 have hD3:=Bx.zero (N:=1) true hB0_
 obtain ⟨g3,hg_⟩ : ∃ g,g = w_11.heap.size:=⟨_,rfl⟩
 rw [← hg_] at hD3 ⊢
 have hfr_g3:w.heap.size≤g3:=by have:=hX.size; omega
 have hfr_hK0_g3:w_2.heap.size≤g3:=by have:=hK0.size; omega
 have hfr_hK_g3:w_4.heap.size≤g3:=by have:=hK.size; omega
 have hne_g3_g1:g3 ≠ g1:=by have:=hD1.lt; omega
 have hne_g3_g2:g3 ≠ g2:=by have:=hD2.lt; omega
 replace hK0:=hK0.trans hE_
 replace hK:=hK.trans hE_
 replace hc1:=hc1.ext hE_
 replace hD1:=hD1.ext hE_
 replace hc2:=hc2.ext hE_
 replace hD2:=hD2.ext hE_
 replace hc3:=hc3.ext hE_
 replace hX:=hX.trans hE_
 clear hB0_ hs_ hg_ hE_
 refine gg ?_
 refine gg ?_
 refine R1_storeBx (by first | exact .inl rfl | exact .inr ⟨rfl,fun _ h=>h.mono fun b _ e=>by omega⟩) rfl rfl hD3 (hc3.ev true b2) ?_
 intro w_13 hD3 hC_ hk_ hs_
 replace hK0:=hC_.ext_of hK0 (fun b hb=>by omega)
 replace hK:=hC_.ext_of hK (fun b hb=>by omega)
 replace hc1:=hc1.kp hk_
 replace hD1:=hD1.kp hk_ hC_ (by first | omega | assumption)
 replace hc2:=hc2.kp hk_
 replace hD2:=hD2.kp hk_ hC_ (by first | omega | assumption)
 replace hc3:=hc3.kp hk_
 replace hX:=hC_.ext_of hX (fun b hb=>by omega)
 clear hC_ hk_ hs_
 refine gg ?_
 refine gg ?_
 refine R1_call2 (rinner_ok _ _ _ n n n 5 _ M X Z w_13 (rdM hK0) (rdU hK) (rdV hK) (by decide) (by decide)) ?_
 rintro _ w_14 ⟨hE_,x4,y4,rfl,hc4⟩
 replace hK0:=hK0.trans hE_
 replace hK:=hK.trans hE_
 replace hc1:=hc1.ext hE_
 replace hD1:=hD1.ext hE_
 replace hc2:=hc2.ext hE_
 replace hD2:=hD2.ext hE_
 replace hc3:=hc3.ext hE_
 replace hD3:=hD3.ext hE_
 replace hX:=hX.trans hE_
 clear hE_
 rw [← he1,← hz2] at hc4
 rw [← he1]
 refine gg ?_
 refine gg ?_
 refine R1_alloc (.inl rfl) z_Int ?_
 intro w_15 hB0_ hE_ hs_
 have hD4:=Bx.zero (N:=1) true hB0_
 obtain ⟨g4,hg_⟩ : ∃ g,g = w_14.heap.size:=⟨_,rfl⟩
 rw [← hg_] at hD4 ⊢
 have hfr_g4:w.heap.size≤g4:=by have:=hX.size; omega
 have hfr_hK0_g4:w_2.heap.size≤g4:=by have:=hK0.size; omega
 have hfr_hK_g4:w_4.heap.size≤g4:=by have:=hK.size; omega
 have hne_g4_g1:g4 ≠ g1:=by have:=hD1.lt; omega
 have hne_g4_g2:g4 ≠ g2:=by have:=hD2.lt; omega
 have hne_g4_g3:g4 ≠ g3:=by have:=hD3.lt; omega
 replace hK0:=hK0.trans hE_
 replace hK:=hK.trans hE_
 replace hc1:=hc1.ext hE_
 replace hD1:=hD1.ext hE_
 replace hc2:=hc2.ext hE_
 replace hD2:=hD2.ext hE_
 replace hc3:=hc3.ext hE_
 replace hD3:=hD3.ext hE_
 replace hc4:=hc4.ext hE_
 replace hX:=hX.trans hE_
 clear hB0_ hs_ hg_ hE_
 refine gg ?_
 refine gg ?_
 refine R1_storeBx (by first | exact .inl rfl | exact .inr ⟨rfl,fun _ h=>h.mono fun b _ e=>by omega⟩) rfl rfl hD4 (hc4.ev true b2) ?_
 intro w_16 hD4 hC_ hk_ hs_
 replace hK0:=hC_.ext_of hK0 (fun b hb=>by omega)
 replace hK:=hC_.ext_of hK (fun b hb=>by omega)
 replace hc1:=hc1.kp hk_
 replace hD1:=hD1.kp hk_ hC_ (by first | omega | assumption)
 replace hc2:=hc2.kp hk_
 replace hD2:=hD2.kp hk_ hC_ (by first | omega | assumption)
 replace hc3:=hc3.kp hk_
 replace hD3:=hD3.kp hk_ hC_ (by first | omega | assumption)
 replace hc4:=hc4.kp hk_
 replace hX:=hC_.ext_of hX (fun b hb=>by omega)
 clear hC_ hk_ hs_
 refine gg ?_
 refine W_seq ?_
 refine gg ?_
 obtain ⟨hD1_u,hD1_v,hD1_B,hD1_V⟩:=id hD1
 obtain ⟨hD1_0,hD1_1⟩:=blkP hD1_B
 obtain ⟨hD2_u,hD2_v,hD2_B,hD2_V⟩:=id hD2
 obtain ⟨hD2_0,hD2_1⟩:=blkP hD2_B
 refine gg ?_
 refine gg ?_
 refine R1_call2 (rsame_ok _ _ _ _ _ _ 3145730 3145730 w_16 (hD1_V.2 rfl) (hD2_V.2 rfl) (by decide) (by decide) b1 b1) ?_
 rintro _ w_17 ⟨hE_,rfl⟩
 replace hK0:=hK0.trans hE_
 replace hK:=hK.trans hE_
 replace hc1:=hc1.ext hE_
 replace hD1:=hD1.ext hE_
 replace hc2:=hc2.ext hE_
 replace hD2:=hD2.ext hE_
 replace hc3:=hc3.ext hE_
 replace hD3:=hD3.ext hE_
 replace hc4:=hc4.ext hE_
 replace hD4:=hD4.ext hE_
 replace hX:=hX.trans hE_
 clear hE_
 rw [decide_eq_true (rfl:(if e1 = 0 then z1 else 0) = _)]
 clear hD1_0 hD2_0 hD1_1 hD2_1
 refine gg ?_
 obtain ⟨hD3_u,hD3_v,hD3_B,hD3_V⟩:=id hD3
 obtain ⟨hD3_0,hD3_1⟩:=blkP hD3_B
 obtain ⟨hD4_u,hD4_v,hD4_B,hD4_V⟩:=id hD4
 obtain ⟨hD4_0,hD4_1⟩:=blkP hD4_B
 refine gg ?_
 refine gg ?_
 refine R1_call2 (rsame_ok _ _ _ _ _ _ 3145730 3145730 w_17 (hD3_V.2 rfl) (hD4_V.2 rfl) (by decide) (by decide) b2 b2) ?_
 rintro _ w_18 ⟨hE_,rfl⟩
 replace hK0:=hK0.trans hE_
 replace hK:=hK.trans hE_
 replace hc1:=hc1.ext hE_
 replace hD1:=hD1.ext hE_
 replace hc2:=hc2.ext hE_
 replace hD2:=hD2.ext hE_
 replace hc3:=hc3.ext hE_
 replace hD3:=hD3.ext hE_
 replace hc4:=hc4.ext hE_
 replace hD4:=hD4.ext hE_
 replace hX:=hX.trans hE_
 clear hE_
 rw [decide_eq_true (rfl:(if e1 = 0 then z2 else 0) = _)]
 clear hD3_0 hD4_0 hD3_1 hD4_1
 refine gg ?_
 clear hc1 hc2 hc3 hc4
 refine gg ?_
 refine gg ?_
 refine R1_call2 (norm2_ok _ _ ra cy 100 1048576 lena Ma Y w_18 (hA.ext hX) (hY.ext hX) (by decide) (by decide) (by decide) (by decide)) ?_
 rintro _ w_19 ⟨hE_,x1',y1',rfl,hc1'⟩
 replace hK0:=hK0.trans hE_
 replace hK:=hK.trans hE_
 replace hD1:=hD1.ext hE_
 replace hD2:=hD2.ext hE_
 replace hD3:=hD3.ext hE_
 replace hD4:=hD4.ext hE_
 replace hX:=hX.trans hE_
 clear hE_
 rw [← he2,← hz3] at hc1'
 rw [← he2]
 refine gg ?_
 refine gg ?_
 refine R1_storeBx (by first | exact .inl rfl | exact .inr ⟨rfl,fun _ h=>h.mono fun b _ e=>by omega⟩) rfl rfl hD1 (hc1'.ev true b3) ?_
 intro w_20 hD1 hC_ hk_ hs_
 replace hK0:=hC_.ext_of hK0 (fun b hb=>by omega)
 replace hK:=hC_.ext_of hK (fun b hb=>by omega)
 replace hD2:=hD2.kp hk_ hC_ (by first | omega | assumption)
 replace hD3:=hD3.kp hk_ hC_ (by first | omega | assumption)
 replace hD4:=hD4.kp hk_ hC_ (by first | omega | assumption)
 replace hc1':=hc1'.kp hk_
 replace hX:=hC_.ext_of hX (fun b hb=>by omega)
 clear hC_ hk_ hs_
 refine gg ?_
 refine gg ?_
 refine R1_call2 (rnorm2_ok _ _ ra cy 100 1048576 lena Ma Y w_20 (hA.ext hX) (hY.ext hX) (by decide) (by decide) (by decide) (by decide)) ?_
 rintro _ w_21 ⟨hE_,x2',y2',rfl,hc2'⟩
 replace hK0:=hK0.trans hE_
 replace hK:=hK.trans hE_
 replace hD1:=hD1.ext hE_
 replace hD2:=hD2.ext hE_
 replace hD3:=hD3.ext hE_
 replace hD4:=hD4.ext hE_
 replace hc1':=hc1'.ext hE_
 replace hX:=hX.trans hE_
 clear hE_
 rw [← he2,← hz3] at hc2'
 rw [← he2]
 refine gg ?_
 refine gg ?_
 refine R1_storeBx (by first | exact .inl rfl | exact .inr ⟨rfl,fun _ h=>h.mono fun b _ e=>by omega⟩) rfl rfl hD2 (hc2'.ev true b3) ?_
 intro w_22 hD2 hC_ hk_ hs_
 replace hK0:=hC_.ext_of hK0 (fun b hb=>by omega)
 replace hK:=hC_.ext_of hK (fun b hb=>by omega)
 replace hD1:=hD1.kp hk_ hC_ (by first | omega | assumption)
 replace hD3:=hD3.kp hk_ hC_ (by first | omega | assumption)
 replace hD4:=hD4.kp hk_ hC_ (by first | omega | assumption)
 replace hc1':=hc1'.kp hk_
 replace hc2':=hc2'.kp hk_
 replace hX:=hC_.ext_of hX (fun b hb=>by omega)
 clear hC_ hk_ hs_
 refine gg ?_
 refine gg ?_
 refine R1_call2 (inner2_ok _ _ _ n cy cw 5 1048576 _ M Y W w_22 (rdM hK0) (hY.ext hX) (hW.ext hX) (by decide) (by decide) (by decide) (by decide)) ?_
 rintro _ w_23 ⟨hE_,x3',y3',rfl,hc3'⟩
 replace hK0:=hK0.trans hE_
 replace hK:=hK.trans hE_
 replace hD1:=hD1.ext hE_
 replace hD2:=hD2.ext hE_
 replace hD3:=hD3.ext hE_
 replace hD4:=hD4.ext hE_
 replace hc1':=hc1'.ext hE_
 replace hc2':=hc2'.ext hE_
 replace hX:=hX.trans hE_
 clear hE_
 rw [← he3,← hz4] at hc3'
 rw [← he3]
 refine gg ?_
 refine gg ?_
 refine R1_storeBx (by first | exact .inl rfl | exact .inr ⟨rfl,fun _ h=>h.mono fun b _ e=>by omega⟩) rfl rfl hD3 (hc3'.ev true b4) ?_
 intro w_24 hD3 hC_ hk_ hs_
 replace hK0:=hC_.ext_of hK0 (fun b hb=>by omega)
 replace hK:=hC_.ext_of hK (fun b hb=>by omega)
 replace hD1:=hD1.kp hk_ hC_ (by first | omega | assumption)
 replace hD2:=hD2.kp hk_ hC_ (by first | omega | assumption)
 replace hD4:=hD4.kp hk_ hC_ (by first | omega | assumption)
 replace hc1':=hc1'.kp hk_
 replace hc2':=hc2'.kp hk_
 replace hc3':=hc3'.kp hk_
 replace hX:=hC_.ext_of hX (fun b hb=>by omega)
 clear hC_ hk_ hs_
 refine gg ?_
 refine gg ?_
 refine R1_call2 (rinner2_ok _ _ _ n cy cw 5 1048576 _ M Y W w_24 (rdM hK0) (hY.ext hX) (hW.ext hX) (by decide) (by decide) (by decide) (by decide)) ?_
 rintro _ w_25 ⟨hE_,x4',y4',rfl,hc4'⟩
 replace hK0:=hK0.trans hE_
 replace hK:=hK.trans hE_
 replace hD1:=hD1.ext hE_
 replace hD2:=hD2.ext hE_
 replace hD3:=hD3.ext hE_
 replace hD4:=hD4.ext hE_
 replace hc1':=hc1'.ext hE_
 replace hc2':=hc2'.ext hE_
 replace hc3':=hc3'.ext hE_
 replace hX:=hX.trans hE_
 clear hE_
 rw [← he3,← hz4] at hc4'
 rw [← he3]
 refine gg ?_
 refine gg ?_
 refine R1_storeBx (by first | exact .inl rfl | exact .inr ⟨rfl,fun _ h=>h.mono fun b _ e=>by omega⟩) rfl rfl hD4 (hc4'.ev true b4) ?_
 intro w_26 hD4 hC_ hk_ hs_
 replace hK0:=hC_.ext_of hK0 (fun b hb=>by omega)
 replace hK:=hC_.ext_of hK (fun b hb=>by omega)
 replace hD1:=hD1.kp hk_ hC_ (by first | omega | assumption)
 replace hD2:=hD2.kp hk_ hC_ (by first | omega | assumption)
 replace hD3:=hD3.kp hk_ hC_ (by first | omega | assumption)
 replace hc1':=hc1'.kp hk_
 replace hc2':=hc2'.kp hk_
 replace hc3':=hc3'.kp hk_
 replace hc4':=hc4'.kp hk_
 replace hX:=hC_.ext_of hX (fun b hb=>by omega)
 clear hC_ hk_ hs_
 refine gg ?_
 obtain ⟨hD1_u,hD1_v,hD1_B,hD1_V⟩:=id hD1
 obtain ⟨hD1_0,hD1_1⟩:=blkP hD1_B
 obtain ⟨hD2_u,hD2_v,hD2_B,hD2_V⟩:=id hD2
 obtain ⟨hD2_0,hD2_1⟩:=blkP hD2_B
 refine gg ?_
 refine gg ?_
 refine R1_call2 (rsame_ok _ _ _ _ _ _ 3145730 3145730 w_26 (hD1_V.2 rfl) (hD2_V.2 rfl) (by decide) (by decide) b3 b3) ?_
 rintro _ w_27 ⟨hE_,rfl⟩
 replace hK0:=hK0.trans hE_
 replace hK:=hK.trans hE_
 replace hD1:=hD1.ext hE_
 replace hD2:=hD2.ext hE_
 replace hD3:=hD3.ext hE_
 replace hD4:=hD4.ext hE_
 replace hc1':=hc1'.ext hE_
 replace hc2':=hc2'.ext hE_
 replace hc3':=hc3'.ext hE_
 replace hc4':=hc4'.ext hE_
 replace hX:=hX.trans hE_
 clear hE_
 rw [decide_eq_true (rfl:(if e2 = 0 then z3 else 0) = _)]
 clear hD1_0 hD2_0 hD1_1 hD2_1
 refine gg ?_
 obtain ⟨hD3_u,hD3_v,hD3_B,hD3_V⟩:=id hD3
 obtain ⟨hD3_0,hD3_1⟩:=blkP hD3_B
 obtain ⟨hD4_u,hD4_v,hD4_B,hD4_V⟩:=id hD4
 obtain ⟨hD4_0,hD4_1⟩:=blkP hD4_B
 refine gg ?_
 refine gg ?_
 refine R1_call2 (rsame_ok _ _ _ _ _ _ 3145730 3145730 w_27 (hD3_V.2 rfl) (hD4_V.2 rfl) (by decide) (by decide) b4 b4) ?_
 rintro _ w_28 ⟨hE_,rfl⟩
 replace hK0:=hK0.trans hE_
 replace hK:=hK.trans hE_
 replace hD1:=hD1.ext hE_
 replace hD2:=hD2.ext hE_
 replace hD3:=hD3.ext hE_
 replace hD4:=hD4.ext hE_
 replace hc1':=hc1'.ext hE_
 replace hc2':=hc2'.ext hE_
 replace hc3':=hc3'.ext hE_
 replace hc4':=hc4'.ext hE_
 replace hX:=hX.trans hE_
 clear hE_
 rw [decide_eq_true (rfl:(if e3 = 0 then z4 else 0) = _)]
 clear hD3_0 hD4_0 hD3_1 hD4_1
 refine gg ?_
 refine gg ?_
 refine R1_call2 (awake7_ok w_28 (hm.ext hX)) ?_
 rintro _ w_29 ⟨hE_,rfl⟩
 replace hK0:=hK0.trans hE_
 replace hK:=hK.trans hE_
 replace hD1:=hD1.ext hE_
 replace hD2:=hD2.ext hE_
 replace hD3:=hD3.ext hE_
 replace hD4:=hD4.ext hE_
 replace hc1':=hc1'.ext hE_
 replace hc2':=hc2'.ext hE_
 replace hc3':=hc3'.ext hE_
 replace hc4':=hc4'.ext hE_
 replace hX:=hX.trans hE_
 clear hE_
 refine gg ?_
 exact ret1 (v:=.bool _) rfl rfl ⟨hX,rfl⟩
end Go.Proofs.YtncbjgblcofddaaGreatDoor
