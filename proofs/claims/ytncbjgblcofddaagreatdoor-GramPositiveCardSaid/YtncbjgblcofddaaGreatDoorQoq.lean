/- Joined: Inn, Lge. -/
import Derived.Test.YtncbjgblcofddaaGreatDoorQnh
import Derived.Test.YtncbjgblcofddaaGreatDoorQq
import Derived.Test.YtncbjgblcofddaaGreatDoorQf
import Derived.Test.YtncbjgblcofddaaGreatDoorQoo
import Derived.Test.YtncbjgblcofddaaGreatDoorQok
import Derived.Test.YtncbjgblcofddaaGreatDoorQoi
/- gram.Inner,gram.Norm and the reference's. -/
namespace Go.Proofs.YtncbjgblcofddaaGreatDoor
open Go Go.Eng Go.Num Go.Proofs
open Go.Det (det)
def inn (r:Nat) (M:Nat→Nat→Int) (X Y:Nat→Int):Int:=sumTo r fun i=>X i * appM r M Y i
open Classical in
noncomputable def inE (r:Nat) (len:Nat→Nat) (M:Nat→Nat→Int) (cx cy:Nat):Nat :=
 if valE r len M = 0 then (if cx = r∧cy = r then 0 else 3) else valE r len M
def RInn (w:World) (e:Nat) (z:Int) (v:Value) (w':World):Prop :=
 Ext w w'∧∃ x y,v = .tuple #[.agg #[x,y],.int .i64 ((e:Nat):Int)]∧CV w' x y (if e = 0 then z else 0)
theorem appM_bd' {r N:Nat} {M:Nat→Nat→Int} {Y:Nat→Int} (hr:r≤16) (hM:∀ i j,i < r→j < r→Bd N (M i j)) (hY:∀ j,j < r→Bd N (Y j)) {i:Nat} (hi:i < r):Bd (N + N + 1) (appM r M Y i) :=
 appM_bd (Nat.le_refl _) hr (fun j hj=>hM i j hi hj) hY
theorem inn_bd {r k N:Nat} {M:Nat→Nat→Int} {X Y:Nat→Int} (hr:r≤16) (hk:k≤r) (hM:∀ i j,i < r→j < r→Bd N (M i j)) (hX:∀ j,j < r→Bd N (X j)) (hY:∀ j,j < r→Bd N (Y j)):Bd (N + (N + N + 1) + 1) (sumTo k fun i=>X i * appM r M Y i) :=
 sumTo_bd (by omega) fun i hi=>(hX i (by omega)).mul (appM_bd' hr hM hY (by omega))
theorem RVB.yes {w:World} {r N:Nat} {g:Nat→Int} {v:Value} {w':World} {ok:Bool} (h:RVB w ok r N g v w') (hok:ok = true):Ext w w'∧∃ A m cp,v = .tuple #[.slice A m cp,.bool true]∧RowE (EC N) w' (.slice A m cp) r g:=by
 subst hok
 exact h
theorem applyS_ok (va vb:Value) (r N:Nat) (M:Nat→Nat→Int) (b:Nat→Int) (w:World) (ha:MatE (EI N) w va r (fun _=>r) M) (hb:RowE (EI N) w vb r b) (h1:1≤r) (h2:r≤16) (hN:N < 34359738368) :
 Meets Tryz.prog 92 #[va,vb] w fun v w'=>Ext w w'∧∃ A m cp,v = .tuple #[.slice A m cp,.bool true]∧RowE (EC (N + N + 1)) w' (.slice A m cp) r (appM r M b) :=
 (apply_ok va vb r r N _ M b w ha hb hN).mono fun _ _ h=>h.yes (by simp [okApp,okM_iff,h1,h2])
set_option maxHeartbeats 32000000 in
theorem inner_ok (va vx vy:Value) (r cx cy N:Nat) (len:Nat→Nat) (M:Nat→Nat→Int) (X Y:Nat→Int) (w:World) (ha:MatE (EI N) w va r len M) (hx:RowE (EI N) w vx cx X) (hy:RowE (EI N) w vy cy Y) (hN1:1≤N) (hN:N < 1048576) :
 Meets Tryz.prog 39 #[va,vx,vy] w (RInn w (inE r len M cx cy) (inn r M X Y)):=by
 obtain ⟨Ax,cpx,rfl,hx1,hx2,hx3⟩:=id hx
 obtain ⟨Ay,cpy,rfl,hy1,hy2,hy3⟩:=id hy
 refine fn_W (n:=57) Tryz.func39 rfl rfl (by kernel_rfl) (by simp) ?_
 obtain ⟨Aa,capa,rfl,_⟩:=id ha
 have ha0:=ha
 have hX:Ext w w:=Ext.refl w
 refine gg ?_
 refine R1_alloc (.inl rfl) z_Int ?_
 intro w_1 hB0_ hE_ hs_
 have hR:=Bx.zero (N:=1) true hB0_
 obtain ⟨gR,hg_⟩ : ∃ g,g = w.heap.size:=⟨_,rfl⟩
 rw [← hg_] at hR ⊢
 have hfr_gR:w.heap.size≤gR:=by have:=hX.size; omega
 replace ha:=ha.ext hE_
 replace hX:=hX.trans hE_
 clear hB0_ hs_ hg_ hE_
 refine gg ?_
 refine W_seq ?_
 refine gg ?_
 refine gg ?_
 refine R1_call2 (validate_ok _ r N len M w_1 ha hN1 hN) ?_
 rintro _ w_2 ⟨hE_,rfl⟩
 replace ha:=ha.ext hE_
 replace hR:=hR.ext hE_
 replace hX:=hX.trans hE_
 clear hE_
 have h5:=valE_le r len M
 by_cases h0:valE r len M = 0
 rotate_left
 · have e0:inE r len M cx cy = valE r len M:=by unfold inE; rw [if_neg h0]
   refine gg ?_
   refine R1_bld0 b0_Int ?_
   refine gg ?_
   refine gg ?_
   refine R1_storeBx (by first | exact .inl rfl | exact .inr ⟨rfl,fun _ h=>h.mono fun b _ e=>by omega⟩) rfl rfl hR ((CV.zero w_2).ev true (Bd.zero 1)) ?_
   intro w_3 hR hC_ hk_ hs_
   clear ha
   replace hX:=hC_.ext_of hX (fun b hb=>by omega)
   clear hC_ hk_ hs_
   obtain ⟨u,v,hU,hV⟩:=hR
   refine gg ?_
   refine retCB (v:=.int _ _) rfl agg_Int rfl hU rfl ⟨hX,u,v,by rw [e0],?_⟩
   rw [if_neg (by rw [e0]; exact h0)]; exact hV.2 rfl
 obtain ⟨hok,h8,_⟩:=valE_zero.1 h0
 obtain ⟨hr1,hr2,hlen⟩:=okS_iff.1 hok
 have hM:=ha0.sq hlen
 have bM:∀ i j,i < r→j < r→Bd N (M i j):=fun i j hi hj=>hM.bd hi hj
 refine gg ?_
 refine W_seq ?_
 by_cases hcx:cx = r
 rotate_left
 · have e0:inE r len M cx cy = 3:=by unfold inE; rw [if_pos h0,if_neg (fun h=>hcx h.1)]
   refine gg ?_
   refine R1_bld0 b0_Int ?_
   refine gg ?_
   refine gg ?_
   refine R1_storeBx (by first | exact .inl rfl | exact .inr ⟨rfl,fun _ h=>h.mono fun b _ e=>by omega⟩) rfl rfl hR ((CV.zero w_2).ev true (Bd.zero 1)) ?_
   intro w_4 hR hC_ hk_ hs_
   clear ha
   replace hX:=hC_.ext_of hX (fun b hb=>by omega)
   clear hC_ hk_ hs_
   obtain ⟨u,v,hU,hV⟩:=hR
   refine gg ?_
   refine retCB (v:=.int _ _) rfl agg_Int rfl hU rfl ⟨hX,u,v,by rw [e0],?_⟩
   rw [if_neg (by rw [e0]; decide)]; exact hV.2 rfl
 by_cases hcy:cy = r
 rotate_left
 · have e0:inE r len M cx cy = 3:=by unfold inE; rw [if_pos h0,if_neg (fun h=>hcy h.2)]
   refine gg ?_
   refine R1_bld0 b0_Int ?_
   refine gg ?_
   refine gg ?_
   refine R1_storeBx (by first | exact .inl rfl | exact .inr ⟨rfl,fun _ h=>h.mono fun b _ e=>by omega⟩) rfl rfl hR ((CV.zero w_2).ev true (Bd.zero 1)) ?_
   intro w_5 hR hC_ hk_ hs_
   clear ha
   replace hX:=hC_.ext_of hX (fun b hb=>by omega)
   clear hC_ hk_ hs_
   obtain ⟨u,v,hU,hV⟩:=hR
   refine gg ?_
   refine retCB (v:=.int _ _) rfl agg_Int rfl hU rfl ⟨hX,u,v,by rw [e0],?_⟩
   rw [if_neg (by rw [e0]; decide)]; exact hV.2 rfl
 have e0:inE r len M cx cy = 0:=by unfold inE; rw [if_pos h0,if_pos ⟨hcx,hcy⟩]
 subst hcx
 subst hcy
 rw [e0]
 have bX:∀ j,j < cy→Bd N (X j):=fun j hj=>hx.bd hj
 have bY:∀ j,j < cy→Bd N (Y j):=fun j hj=>hy.bd hj
 refine gg ?_
 refine gg ?_
 refine R1_call2 (applyS_ok _ _ cy N M Y w_2 (hM.ext hX) (hy.ext hX) hr1 hr2 (by omega)) ?_
 rintro _ w_6 ⟨hE_,Az,mz,cpz,rfl,hz⟩
 replace ha:=ha.ext hE_
 replace hR:=hR.ext hE_
 replace hX:=hX.trans hE_
 clear hE_
 have hK:Ext w_6 w_6:=Ext.refl _
 obtain ⟨az,_,_,_,e1,_,_,_⟩:=hz.at (show 0 < cy by omega)
 cases e1
 obtain ⟨ax,_,_,_,e2,_,_,_⟩:=hx.at (show 0 < cy by omega)
 cases e2
 have bZ:∀ j,j < cy→Bd (N + N + 1) (appM cy M Y j):=fun j hj=>appM_bd' hr2 bM bY hj
 obtain ⟨NS,hNS⟩ : ∃ k,k = N + (N + N + 1) + 1:=⟨_,rfl⟩
 refine gg ?_
 refine R1_bld0 b0_Int ?_
 refine gg ?_
 refine gg ?_
 refine R1_alloc (.inl rfl) z_Int ?_
 intro w_7 hB0_ hE_ hs_
 have hS:=Bx.zero (N:=1) true hB0_
 obtain ⟨gS,hg_⟩ : ∃ g,g = w_6.heap.size:=⟨_,rfl⟩
 rw [← hg_] at hS ⊢
 have hfr_gS:w.heap.size≤gS:=by have:=hX.size; omega
 have hfr_hK_gS:w_6.heap.size≤gS:=by have:=hK.size; omega
 have hne_gS_gR:gS ≠ gR:=by have:=hR.lt; omega
 replace ha:=ha.ext hE_
 replace hR:=hR.ext hE_
 replace hK:=hK.trans hE_
 replace hX:=hX.trans hE_
 clear hB0_ hs_ hg_ hE_
 refine gg ?_
 refine gg ?_
 refine R1_storeBx (by first | exact .inl rfl | exact .inr ⟨rfl,fun _ h=>h.mono fun b _ e=>by omega⟩) rfl rfl hS ((CV.zero w_7).ev true (Bd.zero NS)) ?_
 intro w_8 hS hC_ hk_ hs_
 clear ha
 replace hR:=hR.kp hk_ hC_ (by first | omega | assumption)
 replace hK:=hC_.ext_of hK (fun b hb=>by omega)
 replace hX:=hC_.ext_of hX (fun b hb=>by omega)
 clear hC_ hk_ hs_
 refine gg ?_
 have fR:w.heap.size≤gR:=hfr_gR
 have fS:w.heap.size≤gS∧gR ≠ gS:=⟨hfr_gS,by omega⟩
 have fS2:=hfr_hK_gS
 refine W_seqM (fun f w'=>f 6 = .pointer (some ⟨gR,0,none⟩)∧f 11 = .pointer (some ⟨gS,0,none⟩)∧Ext w w'∧Bx w' gR 1 true 0∧Bx w' gS NS true (inn cy M X Y)) ?_ ?_
 · refine gg ?_
   refine W_loop (fun m f w'=>∃ i,m = cy - i∧i≤cy∧f 1 = .slice (some ax) cy cpx∧f 6 = .pointer (some ⟨gR,0,none⟩)∧f 11 = .pointer (some ⟨gS,0,none⟩)∧f 40 = .slice (some az) cy cpz∧f 41 = .int .i64 ((cy:Nat):Int)∧f 42 = .int .i64 ((i:Nat):Int)∧Ext w w'∧Ext w_6 w'∧Bx w' gR 1 true 0∧Bx w' gS NS true (sumTo i fun i=>X i * appM cy M Y i))
    cy ⟨0,rfl,Nat.zero_le _,rfl,rfl,rfl,rfl,rfl,rfl,hX,hK,hR,hS⟩ ?_
   clear hX hR hS hK
   rintro m f w' ⟨i,rfl,hi,hf1,hf6,hf11,hf40,hf41,hf42,hX,hK,hR,hS⟩
   rw [ui hf1,ui hf6,ui hf11,ui hf40,ui hf41,ui hf42]
   clear hf1 hf6 hf11 hf40 hf41 hf42
   by_cases hlt:i < cy
   · skip
     obtain ⟨_,_,x1,y1,e,hx1,hy1,hv1⟩:=hx.at hlt
     cases e
     obtain ⟨_,_,x2,y2,e,hx2,hy2,hv2,_⟩:=hz.at hlt
     cases e
     replace hx2:=cell_ext hK hx2
     replace hy2:=cell_ext hK hy2
     replace hv2:=hv2.ext hK
     refine gg ?_
     refine gg ?_
     refine R1_alloc (.inl rfl) z_Int ?_
     intro w_9 hB0_ hE_ hs_
     have h9:=Bx.zero (N:=1) true hB0_
     obtain ⟨g9,hg_⟩ : ∃ g,g = w'.heap.size:=⟨_,rfl⟩
     rw [← hg_] at h9 ⊢
     have hfr_g9:w.heap.size≤g9:=by have:=hX.size; omega
     have hfr_hK_g9:w_6.heap.size≤g9:=by have:=hK.size; omega
     have hne_g9_gR:g9 ≠ gR:=by have:=hR.lt; omega
     have hne_g9_gS:g9 ≠ gS:=by have:=hS.lt; omega
     replace hR:=hR.ext hE_
     replace hS:=hS.ext hE_
     replace hv2:=hv2.ext hE_
     replace hK:=hK.trans hE_
     replace hX:=hX.trans hE_
     clear hB0_ hs_ hg_ hE_
     refine gg ?_
     refine gg ?_
     refine R1_storeBx (by first | exact .inl rfl | exact .inr ⟨rfl,fun _ h=>h.mono fun b _ e=>by omega⟩) rfl rfl h9 (hv2.ev true (bZ i hlt)) ?_
     intro w_10 h9 hC_ hk_ hs_
     replace hR:=hR.kp hk_ hC_ (by first | omega | assumption)
     replace hS:=hS.kp hk_ hC_ (by first | omega | assumption)
     replace hv2:=hv2.kp hk_
     replace hK:=hC_.ext_of hK (fun b hb=>by omega)
     replace hX:=hC_.ext_of hX (fun b hb=>by omega)
     clear hC_ hk_ hs_
     refine gg ?_
     clear hx2 hy2
     refine gg ?_
     refine W_regD [(0,0),(1,3),(2,3),(3,3),(4,0),(5,0),(6,1),(7,1),(8,2)] mixed (by kernel_rfl) (fun w_11 hE_ _=>?_)
     replace hR:=hR.ext hE_
     replace hS:=hS.ext hE_
     replace hv2:=hv2.ext hE_
     replace hK:=hK.trans hE_
     replace h9:=h9.ext hE_
     replace hX:=hX.trans hE_
     clear hE_
     replace hx1:=cell_ext hX hx1
     replace hy1:=cell_ext hX hy1
     replace hv1:=hv1.ext hX
     obtain ⟨hS_u,hS_v,hS_B,hS_V⟩:=id hS
     obtain ⟨hS_0,hS_1⟩:=blkP hS_B
     obtain ⟨h9_u,h9_v,h9_B,h9_V⟩:=id h9
     obtain ⟨h9_0,h9_1⟩:=blkP h9_B
     have hSV:=hS_V.1
     refine gg ?_
     refine gg ?_
     refine R1_call1 (mul_ok _ _ _ _ _ _ (N + N + 1) w_11 (hv1.mono (by omega)) h9_V.1 (by omega)) ?_
     rintro _ w_12 ⟨hE_,a0,a1,rfl,hm⟩
     refine ⟨hE_,?_⟩
     replace hR:=hR.ext hE_
     replace hS:=hS.ext hE_
     replace hv2:=hv2.ext hE_
     replace hK:=hK.trans hE_
     replace h9:=h9.ext hE_
     replace hSV:=hSV.ext hE_
     replace hX:=hX.trans hE_
     clear hE_
     have bm:Bd (N + (N + N + 1)) (X i * appM cy M Y i):=(bX i hlt).mul (bZ i hlt)
     refine gg ?_
     refine gg ?_
     refine R1_call1 (add_ok _ _ _ _ _ _ NS w_12 hSV (hm.iv (bm.mono (by omega))) (by omega)) ?_
     rintro _ w_13 ⟨hE_,b0,b1,rfl,hs⟩
     refine ⟨hE_,?_⟩
     replace hR:=hR.ext hE_
     replace hS:=hS.ext hE_
     replace hv2:=hv2.ext hE_
     replace hK:=hK.trans hE_
     replace h9:=h9.ext hE_
     replace hSV:=hSV.ext hE_
     replace hm:=hm.ext hE_
     replace hX:=hX.trans hE_
     clear hE_
     have bs:Bd NS (sumTo i (fun i=>X i * appM cy M Y i) + X i * appM cy M Y i):=by
      rw [hNS]; exact inn_bd (k:=i + 1) hr2 hlt bM bX bY
     clear hx1 hy1 hS_0 hS_1 h9_0 h9_1
     refine gg ?_
     refine gg ?_
     refine R1_storeBx (by first | exact .inl rfl | exact .inr ⟨rfl,fun _ h=>h.mono fun b _ e=>by omega⟩) rfl rfl hS (hs.ev true bs) ?_
     intro w_14 hS hC_ hk_ hs_
     replace hR:=hR.kp hk_ hC_ (by first | omega | assumption)
     replace hv2:=hv2.kp hk_
     replace hK:=hC_.ext_of hK (fun b hb=>by omega)
     replace h9:=h9.kp hk_ hC_ (by first | omega | assumption)
     replace hSV:=hSV.kp hk_
     replace hm:=hm.kp hk_
     replace hs:=hs.kp hk_
     replace hX:=hC_.ext_of hX (fun b hb=>by omega)
     clear hC_ hk_ hs_
     refine gg ?_
     refine ⟨_,?_,i + 1,rfl,by omega,rfl,rfl,rfl,rfl,rfl,rfl,hX,hK,hR,hS⟩
     omega
   · refine gg ?_
     obtain rfl:i = cy:=by omega
     exact ⟨rfl,rfl,hX,hR,hS⟩
 clear hX hR hS hK
 rintro f w' ⟨hf6,hf11,hX,hR,hS⟩
 rw [ui hf6,ui hf11]
 clear hf6 hf11
 refine gg ?_
 obtain ⟨hS_u,hS_v,hS_B,hS_V⟩:=id hS
 obtain ⟨hS_0,hS_1⟩:=blkP hS_B
 refine gg ?_
 refine gg ?_
 refine R1_storeBx (by first | exact .inl rfl | exact .inr ⟨rfl,fun _ h=>h.mono fun b _ e=>by omega⟩) rfl rfl hR (hS_V) ?_
 intro w_15 hR hC_ hk_ hs_
 replace hS:=hS.kp hk_ hC_ (by first | omega | assumption)
 replace hX:=hC_.ext_of hX (fun b hb=>by omega)
 clear hC_ hk_ hs_
 obtain ⟨u,v,hU,hV⟩:=hR
 refine gg ?_
 refine retCB (v:=.int _ _) rfl agg_Int rfl hU rfl ⟨hX,u,v,rfl,?_⟩
 rw [if_pos rfl]; exact hV.2 rfl
theorem Bd.ex (z:Int):∃ k,Bd k z:=⟨z.natAbs,Nat.lt_pow_self (by decide)⟩
set_option maxHeartbeats 16000000 in
theorem norm_ok (va vx:Value) (r cx N:Nat) (len:Nat→Nat) (M:Nat→Nat→Int) (X:Nat→Int) (w:World) (ha:MatE (EI N) w va r len M) (hx:RowE (EI N) w vx cx X) (hN1:1≤N) (hN:N < 1048576) :
 Meets Tryz.prog 37 #[va,vx] w (RInn w (inE r len M cx cx) (inn r M X X)):=by
 refine fn_W (n:=12) Tryz.func37 rfl rfl (by kernel_rfl) (by simp) ?_
 obtain ⟨Ax,cpx,rfl,_⟩:=id hx
 obtain ⟨Aa,capa,rfl,_⟩:=id ha
 have hX:Ext w w:=Ext.refl w
 refine gg ?_
 refine R1_alloc (.inl rfl) z_Int ?_
 intro w_1 hB0_ hE_ hs_
 have hR:=Bx.zero (N:=1) true hB0_
 obtain ⟨gR,hg_⟩ : ∃ g,g = w.heap.size:=⟨_,rfl⟩
 rw [← hg_] at hR ⊢
 have hfr_gR:w.heap.size≤gR:=by have:=hX.size; omega
 replace hX:=hX.trans hE_
 clear hB0_ hs_ hg_ hE_
 refine gg ?_
 refine gg ?_
 refine R1_call2 (inner_ok _ _ _ r cx cx N len M X X w_1 (ha.ext hX) (hx.ext hX) (hx.ext hX) hN1 hN) ?_
 rintro _ w_2 ⟨hE_,a0,a1,rfl,hd⟩
 replace hR:=hR.ext hE_
 replace hX:=hX.trans hE_
 clear hE_
 obtain ⟨k,hk⟩:=Bd.ex (if inE r len M cx cx = 0 then inn r M X X else 0)
 refine gg ?_
 refine gg ?_
 refine R1_storeBx (by first | exact .inl rfl | exact .inr ⟨rfl,fun _ h=>h.mono fun b _ e=>by omega⟩) rfl rfl hR (hd.ev true hk) ?_
 intro w_3 hR hC_ hk_ hs_
 replace hd:=hd.kp hk_
 replace hX:=hC_.ext_of hX (fun b hb=>by omega)
 clear hC_ hk_ hs_
 obtain ⟨u,v,hU,hV⟩:=hR
 refine gg ?_
 exact retCB (v:=.int _ _) rfl agg_Int rfl hU rfl ⟨hX,u,v,rfl,hV.2 rfl⟩
end Go.Proofs.YtncbjgblcofddaaGreatDoor
namespace Go.Proofs.YtncbjgblcofddaaGreatDoor
open Go Go.Eng Go.Num Go.Proofs
open Go.Det (det bil PM Sy sm)
theorem inn_bil (n:Nat) (M:Nat→Nat→Int) (X Y:Nat→Int):inn n M X Y = bil n M X Y:=by
 unfold inn bil
 rw [sumTo_sm]
 exact Go.Det.sm_congr fun i _=>by unfold appM; rw [sumTo_sm]
theorem inE_0 {n:Nat} {M:Nat→Nat→Int} (h:valE n (fun _=>n) M = 0):inE n (fun _=>n) M n n = 0:=by unfold inE; rw [if_pos h,if_pos ⟨rfl,rfl⟩]
theorem pos_law {n:Nat} {M:Nat→Nat→Int} {X:Nat→Int} {bz:Bool} (h:valE n (fun _=>n) M = 0) (hz:bz = true ↔ ∀ k,k < n→X k = 0):(decide (0 < (inn n M X X).sign) == !bz) = true:=by
 obtain ⟨hp,hs⟩:=val_pm h
 rw [inn_bil]
 by_cases h0:∀ k,k < n→X k = 0
 · have e:bil n M X X = 0:=by
    unfold bil
    exact Go.Det.sm_zero fun i hi=>by rw [h0 i hi,Int.zero_mul]
   rw [hz.2 h0,e]; rfl
 · obtain ⟨i,hi⟩:=Classical.not_forall.1 h0
   have hi':i < n:=Classical.byContradiction fun h=>hi fun h'=>absurd h' h
   have hz':X i ≠ 0:=fun h=>hi fun _=>h
   have:=Go.Det.bil_posS hs hp X ⟨i,hi',hz'⟩
   have e:bz = false:=by
    cases hb:bz
    · rfl
    · exact absurd (hz.1 hb) h0
   rw [e,decide_eq_true (by rw [Int.sign_eq_one_of_pos this]; decide)]; rfl
theorem sum_law {n:Nat} {M:Nat→Nat→Int} (h:valE n (fun _=>n) M = 0) (X Y:Nat→Int):inn n M (fun i=>X i + Y i) (fun i=>X i + Y i) = inn n M X X + inn n M Y Y + (inn n M X Y + inn n M X Y):=by
 obtain ⟨hp,hs⟩:=val_pm h
 rw [inn_bil,inn_bil,inn_bil,inn_bil]
 exact Go.Det.bil_sum hs X Y
theorem R1_load2A {P:Program} {n:Nat} {k:Nat} {K:Fr→World→Prop} {f:Fr} {w:World} {d ty t:Nat} {x:Operand} {pos:String} {aft:Array Edge} {gd:Option (Nat × Bool)} {M:Nat→Prop} {p:Addr} {u v:Value} (h3:k ≠ 3) (ht:aggTy P t 2 = true) (hx:ev n f x = .pointer (some p)) (hu:w.cell? p = some u) (hv:w.cell? (p.add 1) = some v) (hn:¬ M p.block) (h:K (upd f d (.agg #[u,v])) w) :
 R1 P n (Ch M) k ⟨some d,.load t x,ty,pos,aft,gd⟩ K f w:=by
 refine R1_read h3 (v:=.agg #[u,v]) (fun w' hw=>?_) h
 have e:w'.cell? p = some u∧w'.cell? (p.add 1) = some v:=by
  rcases hw with hw | rfl
  · exact ⟨(cell_ch hw (World.block_lt_of_cell? w _ hu) hn).trans hu,(cell_ch hw (World.block_lt_of_cell? w _ hv) hn).trans hv⟩
  · exact ⟨hu,hv⟩
 simp only [execOp,hx,Sem.run_bind,run_load_two ht e.1 e.2,Result.andThen_ok,Sem.run_pure]
set_option maxHeartbeats 32000000 in
theorem lawGramPositive {vx v1 v2:Value} {dm kd q m n1 n2:Nat} {ns ms ns1 ns2:Nat→Int} {w:World} (hm:ML w)
 (hx:LatV w vx dm kd q ns m ms) (h1:NumsV w v1 n1 ns1) (h2:NumsV w v2 n2 ns2) :
 Meets Tryz.prog 10 #[vx,v1,v2] w (Law w):=by
 obtain ⟨A1,cap1,rfl,hl1,hn1'⟩:=h1
 obtain ⟨A2,cap2,rfl,hl2,hn2'⟩:=h2
 obtain ⟨A,cap,A',cap',rfl,hd,hk,hc,hc',hN,hN'⟩:=hx
 have hL:=LatV.agg hd hk hc hc' hN hN'
 have hdm:=Nat.mod_lt dm (show 0 < 5 by decide)
 obtain ⟨n,hn⟩ : ∃ n,n = 1 + dm % 5:=⟨_,rfl⟩
 have hn1:1≤n:=by omega
 have hn5:n≤5:=by omega
 have hn0:n < 9223372036854775808:=by omega
 refine fn_W (n:=120) Tryz.func10 rfl rfl (by kernel_rfl) (by simp) ?_
 have hX:Ext w w:=Ext.refl w
 refine gg ?_
 refine R1_box (v:=.agg _) (.inl rfl) rfl ?_
 intro w_1 hB0_ hE_ hs_
 have hX1:Blk w_1 w.heap.size 25 #[.int .u8 ((dm:Nat):Int),.int .u8 ((kd:Nat):Int),.slice A q cap,.slice A' m cap']:=hB0_
 obtain ⟨gX,hg_⟩ : ∃ g,g = w.heap.size:=⟨_,rfl⟩
 rw [← hg_] at hX1 ⊢
 have hfr_gX:w.heap.size≤gX:=by have:=hX.size; omega
 replace hX:=hX.trans hE_
 clear hB0_ hs_ hg_ hE_
 obtain ⟨x0,x1,x2,x3⟩:=blkQ hX1
 refine gg ?_
 refine R1_load4F (by decide) agg_Lat rfl x0 x1 x2 x3 ?_
 clear x0 x1 x2 x3
 refine gg ?_
 refine gg ?_
 refine R1_call2 (latRaw_ok _ dm kd q m 5 ns ms w_1 (hL w_1 hX) (by decide) (by decide)) ?_
 rintro _ w_2 ⟨hE_,gA,gsA,M,rfl,_,_,hO,h0,hdet,bM⟩
 replace hX1:=hX1.ext hE_
 replace hX:=hX.trans hE_
 clear hE_
 rw [← hn] at hO h0 hdet bM ⊢
 have hK0:Ext w_2 w_2:=Ext.refl _
 refine gg ?_
 refine gg ?_
 refine R1_call2 (column_ok A1 n1 cap1 n ns1 w_2 (hn1'.ext hX) (by omega)) ?_
 rintro u w_3 ⟨hE_,hU,_⟩
 replace hK0:=hK0.trans hE_
 replace hX:=hX.trans hE_
 clear hE_
 refine gg ?_
 refine gg ?_
 refine R1_call2 (column_ok A2 n2 cap2 n ns2 w_3 (hn2'.ext hX) (by omega)) ?_
 rintro v w_4 ⟨hE_,hV,_⟩
 replace hK0:=hK0.trans hE_
 replace hU:=hU.ext hE_
 replace hX:=hX.trans hE_
 clear hE_
 have hK:Ext w_4 w_4:=Ext.refl _
 refine gg ?_
 obtain ⟨gU,cu,rfl,hRU⟩:=hU.rg hn1
 obtain ⟨gV,cv,rfl,hRV⟩:=hV.rg hn1
 have hlU:=hRU.lt
 have hlV:=hRV.lt
 obtain ⟨X,hXd⟩ : ∃ X,X = tp n1 ns1:=⟨_,rfl⟩
 obtain ⟨Y,hYd⟩ : ∃ Y,Y = tp n2 ns2:=⟨_,rfl⟩
 rw [← hXd] at hRU hU
 rw [← hYd] at hRV hV
 have rdU:∀ {u:World},Ext w_4 u→RowE (EI 1) u (.slice (some ⟨gU,0,none⟩) n cu) n X:=fun hE=>(hU.ext hE).rowE
 have rdV:∀ {u:World},Ext w_4 u→RowE (EI 1) u (.slice (some ⟨gV,0,none⟩) n cv) n Y:=fun hE=>(hV.ext hE).rowE
 have bX:∀ j,j < n→Bd 1 (X j):=fun j hj=>(rdU (Ext.refl _)).bd hj
 have bY:∀ j,j < n→Bd 1 (Y j):=fun j hj=>(rdV (Ext.refl _)).bd hj
 refine W_seqM (fun f w'=>∃ vS bz,f 7 = .slice (some ⟨gA,0,none⟩) n n∧f 8 = .slice (some ⟨gU,0,none⟩) n cu∧f 9 = .slice (some ⟨gV,0,none⟩) n cv∧f 10 = vS∧f 11 = .bool (bz)∧Ext w w'∧Ext w_2 w'∧Ext w_4 w'∧GrowB w' vS n true 2 (fun i=>X i + Y i)∧(bz = true ↔ ∀ k,k < n→X k = 0)) ?_ ?_
 · refine gg ?_
   refine W_loop (fun m f w'=>∃ i vS bz,m = n - i∧i≤n∧f 7 = .slice (some ⟨gA,0,none⟩) n n∧f 8 = .slice (some ⟨gU,0,none⟩) n cu∧f 9 = .slice (some ⟨gV,0,none⟩) n cv∧f 10 = vS∧f 11 = .bool (bz)∧f 32 = .int .i64 ((n:Nat):Int)∧f 33 = .int .i64 ((i:Nat):Int)∧Ext w w'∧Ext w_2 w'∧Ext w_4 w'∧GrowB w' vS i true 2 (fun i=>X i + Y i)∧(∀ b,some b = vS.ownBlock→(w_4).heap.size≤b)∧(bz = true ↔ ∀ k,k < i→X k = 0))
    n ⟨0,.slice none 0 0,true,rfl,Nat.zero_le _,rfl,rfl,rfl,rfl,rfl,rfl,rfl,hX,hK0,hK,GrowB.nil,(fun b hb=>by cases hb),⟨fun _ k hk=>absurd hk (by omega),fun _=>rfl⟩⟩ ?_
   have hwz0:=hX.size
   have hwz1:=hK0.size
   clear hX hK hK0 hU hV
   rintro m' f w' ⟨i,vS,bz,rfl,hi,hf7,hf8,hf9,hf10,hf11,hf32,hf33,hX,hK0,hK,hG,hown,hz⟩
   rw [ui hf7,ui hf8,ui hf9,ui hf10,ui hf11,ui hf32,ui hf33]
   clear hf7 hf8 hf9 hf10 hf11 hf32 hf33
   by_cases hlt:i < n
   · refine gg ?_
     refine W_seqDM (fun b=>some b = vS.ownBlock) [(0,3),(1,3),(2,3),(3,3),(4,0),(5,3),(6,3),(7,3),(8,0),(9,1),(10,2),(11,1),(12,3)] mixed (by kernel_rfl) (fun w4 hE4 _=>?_)
     obtain ⟨x1,y1,e1,e2,hv1⟩:=(hRU.ext (hK.trans hE4)).at hlt
     obtain ⟨x2,y2,f1,f2,hv2⟩:=(hRV.ext (hK.trans hE4)).at hlt
     refine gg ?_
     refine R1_load2A (by decide) agg_Int rfl e1 e2 (fun hb=>by have:=hown gU hb; omega) ?_
     refine gg ?_
     refine R1_load2A (by decide) agg_Int rfl f1 f2 (fun hb=>by have:=hown gV hb; omega) ?_
     refine gg ?_
     refine R1_callS (radd_ok _ _ _ _ _ _ 1 w4 hv1.1 hv2.1 (by decide)) ?_
     rintro _ w5 ⟨hE5,x',y',rfl,hcv⟩
     refine ⟨hE5.ch,?_⟩
     refine gg ?_
     refine R1_sliceE1 (.inl rfl) rfl ?_
     intro w6 hB6 hE6 hs6
     have hE46:=hE4.trans (hE5.trans hE6)
     obtain ⟨p1,p2⟩:=blkP hB6
     have bS:Bd 2 (X i + Y i):=Bd.add (bX i hlt) (bY i hlt)
     refine gg ?_
     refine R1_appE (.inr ⟨rfl,fun _ h=>h⟩) rfl rfl (hG.ext hE46) p1 p2 ((hcv.ext hE6).ev true bS) (by omega) ?_
     intro vS' w7 hG7 hk7 hC7 hv7
     replace hG7:GrowB w7 vS' (i + 1) true 2 (fun i=>X i + Y i):=hG7.congr fun q _=>by
      split
      · rename_i e; rw [e]
      · rfl
     have hs6':=hE46.size
     have hKs:=hK.size
     have hK7:=hC7.ext_of (hK.trans hE46) (fun b hb=>by have:=hown b hb; omega)
     have hK07:=hC7.ext_of (hK0.trans hE46) (fun b hb=>by have:=hown b hb; omega)
     have hX7:=hC7.ext_of (hX.trans hE46) (fun b hb=>by have:=hown b hb; omega)
     have hown7:∀ b,some b = vS'.ownBlock→(w_4).heap.size≤b:=fun b hb=>by
      rcases hv7 with e | e
      · rw [e] at hb; exact hown b hb
      · rw [e] at hb; injection hb with hb; omega
     clear e1 e2 f1 f2 hv1 hv2 p1 p2
     refine gg ?_
     cases bz with
     | false =>
      refine gg ?_
      refine ⟨_,?_,i + 1,vS',false,rfl,by omega,rfl,rfl,rfl,rfl,rfl,rfl,rfl,hX7,hK07,hK7,hG7,hown7,⟨fun h=>(Bool.noConfusion h),fun h=>hz.2 fun k hk=>h k (by omega)⟩⟩
      omega
     | true =>
      obtain ⟨x1,y1,e1,e2,hv1⟩:=(hRU.ext hK7).at hlt
      refine gg ?_
      refine R1_call2 (rsign_ok _ _ _ _ w7 hv1.1 (by decide)) ?_
      rintro _ w8 ⟨hE8,rfl⟩
      have hz':=hz.1 rfl
      refine gg ?_
      refine ⟨_,?_,i + 1,vS',decide ((X i).sign = 0),rfl,by omega,rfl,rfl,rfl,rfl,rfl,rfl,rfl,hX7.trans hE8,hK07.trans hE8,hK7.trans hE8,hG7.ext hE8,hown7,⟨fun h k hk=>?_,fun h=>decide_eq_true (by rw [h i (by omega)]; rfl)⟩⟩
      · omega
      · by_cases e:k = i
        · subst e; exact Int.sign_eq_zero_iff_zero.1 (of_decide_eq_true h)
        · exact hz' k (by omega)
   · refine gg ?_
     obtain rfl:i = n:=by omega
     exact ⟨vS,bz,rfl,rfl,rfl,rfl,rfl,hX,hK0,hK,hG,hz⟩
 clear hX hK hK0 hU hV
 rintro f w' ⟨vS,bz,hf7,hf8,hf9,hf10,hf11,hX,hK0,hK,hG,hz⟩
 rw [ui hf7,ui hf8,ui hf9,ui hf10,ui hf11]
 clear hf7 hf8 hf9 hf10 hf11
 obtain ⟨gS,cs,rfl,_⟩:=hG.rg hn1
 have rdS:∀ {u:World},Ext w' u→RowE (EI 2) u (.slice (some ⟨gS,0,none⟩) n cs) n (fun i=>X i + Y i):=fun hE=>(hG.ext hE).rowE
 have bS:∀ j,j < n→Bd 5 (X j + Y j):=fun j hj=>(Bd.add (bX j hj) (bY j hj)).mono (by decide)
 have rdM:∀ {u:World},Ext w_2 u→MatE (EI 5) u (.slice (some ⟨gA,0,none⟩) n n) n (fun _=>n) M:=fun hE=>(hO.ext hE).read bM hn0 hn0
 have hK1:Ext w' w':=Ext.refl _
 have he:=inE_0 h0
 have bX5:∀ j,j < n→Bd 5 (X j):=fun j hj=>(bX j hj).mono (by decide)
 have bY5:∀ j,j < n→Bd 5 (Y j):=fun j hj=>(bY j hj).mono (by decide)
 have bXX:Bd 17 (inn n M X X):=(inn_bd (N:=5) (k:=n) (by omega) (Nat.le_refl _) bM bX5 bX5).mono (by decide)
 have bYY:Bd 17 (inn n M Y Y):=(inn_bd (N:=5) (k:=n) (by omega) (Nat.le_refl _) bM bY5 bY5).mono (by decide)
 have bXY:Bd 17 (inn n M X Y):=(inn_bd (N:=5) (k:=n) (by omega) (Nat.le_refl _) bM bX5 bY5).mono (by decide)
 have bSS:Bd 17 (inn n M (fun i=>X i + Y i) (fun i=>X i + Y i)):=(inn_bd (N:=5) (k:=n) (by omega) (Nat.le_refl _) bM bS bS).mono (by decide)
 refine gg ?_
 refine gg ?_
 refine R1_call2 (norm_ok _ _ n n 5 _ M X w' (rdM hK0) ((rdU hK).mono (by decide)) (by decide) (by decide)) ?_
 rintro _ w_5 ⟨hE_,a0,a1,rfl,hc1⟩
 replace hK0:=hK0.trans hE_
 replace hK:=hK.trans hE_
 replace hK1:=hK1.trans hE_
 replace hX:=hX.trans hE_
 clear hE_
 rw [he,if_pos rfl] at hc1
 rw [he]
 refine gg ?_
 refine gg ?_
 refine R1_alloc (.inl rfl) z_Int ?_
 intro w_6 hB0_ hE_ hs_
 have hD1:=Bx.zero (N:=1) true hB0_
 obtain ⟨g1,hg_⟩ : ∃ g,g = w_5.heap.size:=⟨_,rfl⟩
 rw [← hg_] at hD1 ⊢
 have hfr_g1:w.heap.size≤g1:=by have:=hX.size; omega
 have hfr_hK0_g1:w_2.heap.size≤g1:=by have:=hK0.size; omega
 have hfr_hK_g1:w_4.heap.size≤g1:=by have:=hK.size; omega
 have hfr_hK1_g1:w'.heap.size≤g1:=by have:=hK1.size; omega
 replace hK0:=hK0.trans hE_
 replace hK:=hK.trans hE_
 replace hK1:=hK1.trans hE_
 replace hc1:=hc1.ext hE_
 replace hX:=hX.trans hE_
 clear hB0_ hs_ hg_ hE_
 refine gg ?_
 refine gg ?_
 refine R1_storeBx (by first | exact .inl rfl | exact .inr ⟨rfl,fun _ h=>h.mono fun b _ e=>by omega⟩) rfl rfl hD1 (hc1.ev true bXX) ?_
 intro w_7 hD1 hC_ hk_ hs_
 replace hK0:=hC_.ext_of hK0 (fun b hb=>by omega)
 replace hK:=hC_.ext_of hK (fun b hb=>by omega)
 replace hK1:=hC_.ext_of hK1 (fun b hb=>by omega)
 replace hc1:=hc1.kp hk_
 replace hX:=hC_.ext_of hX (fun b hb=>by omega)
 clear hC_ hk_ hs_
 refine gg ?_
 refine gg ?_
 refine R1_call2 (norm_ok _ _ n n 5 _ M Y w_7 (rdM hK0) ((rdV hK).mono (by decide)) (by decide) (by decide)) ?_
 rintro _ w_8 ⟨hE_,b0,b1,rfl,hc2⟩
 replace hK0:=hK0.trans hE_
 replace hK:=hK.trans hE_
 replace hK1:=hK1.trans hE_
 replace hc1:=hc1.ext hE_
 replace hD1:=hD1.ext hE_
 replace hX:=hX.trans hE_
 clear hE_
 rw [he,if_pos rfl] at hc2
 rw [he]
 refine gg ?_
 refine gg ?_
 refine R1_alloc (.inl rfl) z_Int ?_
 intro w_9 hB0_ hE_ hs_
 have hD2:=Bx.zero (N:=1) true hB0_
 obtain ⟨g2,hg_⟩ : ∃ g,g = w_8.heap.size:=⟨_,rfl⟩
 rw [← hg_] at hD2 ⊢
 have hfr_g2:w.heap.size≤g2:=by have:=hX.size; omega
 have hfr_hK0_g2:w_2.heap.size≤g2:=by have:=hK0.size; omega
 have hfr_hK_g2:w_4.heap.size≤g2:=by have:=hK.size; omega
 have hfr_hK1_g2:w'.heap.size≤g2:=by have:=hK1.size; omega
 have hne_g2_g1:g2 ≠ g1:=by have:=hD1.lt; omega
 replace hK0:=hK0.trans hE_
 replace hK:=hK.trans hE_
 replace hK1:=hK1.trans hE_
 replace hc1:=hc1.ext hE_
 replace hD1:=hD1.ext hE_
 replace hc2:=hc2.ext hE_
 replace hX:=hX.trans hE_
 clear hB0_ hs_ hg_ hE_
 refine gg ?_
 refine gg ?_
 refine R1_storeBx (by first | exact .inl rfl | exact .inr ⟨rfl,fun _ h=>h.mono fun b _ e=>by omega⟩) rfl rfl hD2 (hc2.ev true bYY) ?_
 intro w_10 hD2 hC_ hk_ hs_
 replace hK0:=hC_.ext_of hK0 (fun b hb=>by omega)
 replace hK:=hC_.ext_of hK (fun b hb=>by omega)
 replace hK1:=hC_.ext_of hK1 (fun b hb=>by omega)
 replace hc1:=hc1.kp hk_
 replace hD1:=hD1.kp hk_ hC_ (by first | omega | assumption)
 replace hc2:=hc2.kp hk_
 replace hX:=hC_.ext_of hX (fun b hb=>by omega)
 clear hC_ hk_ hs_
 refine gg ?_
 refine gg ?_
 refine R1_call2 (norm_ok _ _ n n 5 _ M _ w_10 (rdM hK0) ((rdS hK1).mono (by decide)) (by decide) (by decide)) ?_
 rintro _ w_11 ⟨hE_,c0,c1,rfl,hc3⟩
 replace hK0:=hK0.trans hE_
 replace hK:=hK.trans hE_
 replace hK1:=hK1.trans hE_
 replace hc1:=hc1.ext hE_
 replace hD1:=hD1.ext hE_
 replace hc2:=hc2.ext hE_
 replace hD2:=hD2.ext hE_
 replace hX:=hX.trans hE_
 clear hE_
 rw [he,if_pos rfl] at hc3
 rw [he]
 refine gg ?_
 refine gg ?_
 refine R1_alloc (.inl rfl) z_Int ?_
 intro w_12 hB0_ hE_ hs_
 have hD3:=Bx.zero (N:=1) true hB0_
 obtain ⟨g3,hg_⟩ : ∃ g,g = w_11.heap.size:=⟨_,rfl⟩
 rw [← hg_] at hD3 ⊢
 have hfr_g3:w.heap.size≤g3:=by have:=hX.size; omega
 have hfr_hK0_g3:w_2.heap.size≤g3:=by have:=hK0.size; omega
 have hfr_hK_g3:w_4.heap.size≤g3:=by have:=hK.size; omega
 have hfr_hK1_g3:w'.heap.size≤g3:=by have:=hK1.size; omega
 have hne_g3_g1:g3 ≠ g1:=by have:=hD1.lt; omega
 have hne_g3_g2:g3 ≠ g2:=by have:=hD2.lt; omega
 replace hK0:=hK0.trans hE_
 replace hK:=hK.trans hE_
 replace hK1:=hK1.trans hE_
 replace hc1:=hc1.ext hE_
 replace hD1:=hD1.ext hE_
 replace hc2:=hc2.ext hE_
 replace hD2:=hD2.ext hE_
 replace hc3:=hc3.ext hE_
 replace hX:=hX.trans hE_
 clear hB0_ hs_ hg_ hE_
 refine gg ?_
 refine gg ?_
 refine R1_storeBx (by first | exact .inl rfl | exact .inr ⟨rfl,fun _ h=>h.mono fun b _ e=>by omega⟩) rfl rfl hD3 (hc3.ev true bSS) ?_
 intro w_13 hD3 hC_ hk_ hs_
 replace hK0:=hC_.ext_of hK0 (fun b hb=>by omega)
 replace hK:=hC_.ext_of hK (fun b hb=>by omega)
 replace hK1:=hC_.ext_of hK1 (fun b hb=>by omega)
 replace hc1:=hc1.kp hk_
 replace hD1:=hD1.kp hk_ hC_ (by first | omega | assumption)
 replace hc2:=hc2.kp hk_
 replace hD2:=hD2.kp hk_ hC_ (by first | omega | assumption)
 replace hc3:=hc3.kp hk_
 replace hX:=hC_.ext_of hX (fun b hb=>by omega)
 clear hC_ hk_ hs_
 refine gg ?_
 refine gg ?_
 refine R1_call2 (inner_ok _ _ _ n n n 5 _ M X Y w_13 (rdM hK0) ((rdU hK).mono (by decide)) ((rdV hK).mono (by decide)) (by decide) (by decide)) ?_
 rintro _ w_14 ⟨hE_,d0,d1,rfl,hc4⟩
 replace hK0:=hK0.trans hE_
 replace hK:=hK.trans hE_
 replace hK1:=hK1.trans hE_
 replace hc1:=hc1.ext hE_
 replace hD1:=hD1.ext hE_
 replace hc2:=hc2.ext hE_
 replace hD2:=hD2.ext hE_
 replace hc3:=hc3.ext hE_
 replace hD3:=hD3.ext hE_
 replace hX:=hX.trans hE_
 clear hE_
 rw [he,if_pos rfl] at hc4
 rw [he]
 refine gg ?_
 refine gg ?_
 refine R1_alloc (.inl rfl) z_Int ?_
 intro w_15 hB0_ hE_ hs_
 have hD4:=Bx.zero (N:=1) true hB0_
 obtain ⟨g4,hg_⟩ : ∃ g,g = w_14.heap.size:=⟨_,rfl⟩
 rw [← hg_] at hD4 ⊢
 have hfr_g4:w.heap.size≤g4:=by have:=hX.size; omega
 have hfr_hK0_g4:w_2.heap.size≤g4:=by have:=hK0.size; omega
 have hfr_hK_g4:w_4.heap.size≤g4:=by have:=hK.size; omega
 have hfr_hK1_g4:w'.heap.size≤g4:=by have:=hK1.size; omega
 have hne_g4_g1:g4 ≠ g1:=by have:=hD1.lt; omega
 have hne_g4_g2:g4 ≠ g2:=by have:=hD2.lt; omega
 have hne_g4_g3:g4 ≠ g3:=by have:=hD3.lt; omega
 replace hK0:=hK0.trans hE_
 replace hK:=hK.trans hE_
 replace hK1:=hK1.trans hE_
 replace hc1:=hc1.ext hE_
 replace hD1:=hD1.ext hE_
 replace hc2:=hc2.ext hE_
 replace hD2:=hD2.ext hE_
 replace hc3:=hc3.ext hE_
 replace hD3:=hD3.ext hE_
 replace hc4:=hc4.ext hE_
 replace hX:=hX.trans hE_
 clear hB0_ hs_ hg_ hE_
 refine gg ?_
 refine gg ?_
 refine R1_storeBx (by first | exact .inl rfl | exact .inr ⟨rfl,fun _ h=>h.mono fun b _ e=>by omega⟩) rfl rfl hD4 (hc4.ev true bXY) ?_
 intro w_16 hD4 hC_ hk_ hs_
 replace hK0:=hC_.ext_of hK0 (fun b hb=>by omega)
 replace hK:=hC_.ext_of hK (fun b hb=>by omega)
 replace hK1:=hC_.ext_of hK1 (fun b hb=>by omega)
 replace hc1:=hc1.kp hk_
 replace hD1:=hD1.kp hk_ hC_ (by first | omega | assumption)
 replace hc2:=hc2.kp hk_
 replace hD2:=hD2.kp hk_ hC_ (by first | omega | assumption)
 replace hc3:=hc3.kp hk_
 replace hD3:=hD3.kp hk_ hC_ (by first | omega | assumption)
 replace hc4:=hc4.kp hk_
 replace hX:=hC_.ext_of hX (fun b hb=>by omega)
 clear hC_ hk_ hs_
 refine gg ?_
 refine gg ?_
 refine W_seqD [(0,3),(1,3),(2,3),(3,3),(4,3),(5,3),(6,3),(7,3),(8,3),(9,3),(10,3),(11,3),(12,3),(13,3),(14,3),(15,0),(18,3),(19,3),(16,1),(17,3),(20,3),(21,3),(22,3),(23,0),(24,0),(25,0),(27,0),(28,0),(26,1),(29,1),(30,1),(31,1),(32,3),(33,3),(34,3),(35,1),(36,3),(37,3)] mixed (by kernel_rfl) (fun w_17 hE_ _=>?_)
 replace hD1:=hD1.ext hE_
 replace hD2:=hD2.ext hE_
 replace hD3:=hD3.ext hE_
 replace hD4:=hD4.ext hE_
 replace hX:=hX.trans hE_
 clear hE_
 obtain ⟨hD1_u,hD1_v,hD1_B,hD1_V⟩:=id hD1
 obtain ⟨hD1_0,hD1_1⟩:=blkP hD1_B
 obtain ⟨hD2_u,hD2_v,hD2_B,hD2_V⟩:=id hD2
 obtain ⟨hD2_0,hD2_1⟩:=blkP hD2_B
 obtain ⟨hD3_u,hD3_v,hD3_B,hD3_V⟩:=id hD3
 obtain ⟨hD3_0,hD3_1⟩:=blkP hD3_B
 obtain ⟨hD4_u,hD4_v,hD4_B,hD4_V⟩:=id hD4
 obtain ⟨hD4_0,hD4_1⟩:=blkP hD4_B
 have q1:=hD1_V.1
 refine gg ?_
 refine gg ?_
 refine R1_call1 (rsign_ok _ _ _ _ w_17 q1 (by decide)) ?_
 rintro _ w_18 ⟨hE_,rfl⟩
 refine ⟨hE_,?_⟩
 replace hD1:=hD1.ext hE_
 replace hD2:=hD2.ext hE_
 replace hD3:=hD3.ext hE_
 replace hD4:=hD4.ext hE_
 replace q1:=q1.ext hE_
 replace hX:=hX.trans hE_
 clear hE_
 refine gg ?_
 rw [pos_law h0 hz]
 clear q1 hD1_0 hD1_1 hD2_0 hD2_1 hD3_0 hD3_1 hD4_0 hD4_1
 obtain ⟨hD1_u,hD1_v,hD1_B,hD1_V⟩:=id hD1
 obtain ⟨hD1_0,hD1_1⟩:=blkP hD1_B
 obtain ⟨hD2_u,hD2_v,hD2_B,hD2_V⟩:=id hD2
 obtain ⟨hD2_0,hD2_1⟩:=blkP hD2_B
 obtain ⟨hD3_u,hD3_v,hD3_B,hD3_V⟩:=id hD3
 obtain ⟨hD3_0,hD3_1⟩:=blkP hD3_B
 obtain ⟨hD4_u,hD4_v,hD4_B,hD4_V⟩:=id hD4
 obtain ⟨hD4_0,hD4_1⟩:=blkP hD4_B
 refine gg ?_
 have bs1:=bXX.add bYY
 have bs2:=bXY.add bXY
 have bs3:=bs1.add bs2
 clear hD1_0 hD1_1 hD2_0 hD2_1 hD3_0 hD3_1 hD4_0 hD4_1
 have q1:=hD1_V.1
 have q2:=hD2_V.1
 have q3:=hD3_V.1
 have q4:=hD4_V.1
 refine gg ?_
 refine R1_call1 (radd_ok _ _ _ _ _ _ 17 w_18 q1 q2 (by decide)) ?_
 rintro _ w_19 ⟨hE_,s0,s1,rfl,ha1⟩
 refine ⟨hE_,?_⟩
 replace hD1:=hD1.ext hE_
 replace hD2:=hD2.ext hE_
 replace hD3:=hD3.ext hE_
 replace hD4:=hD4.ext hE_
 replace q1:=q1.ext hE_
 replace q2:=q2.ext hE_
 replace q3:=q3.ext hE_
 replace q4:=q4.ext hE_
 replace hX:=hX.trans hE_
 clear hE_
 refine gg ?_
 refine gg ?_
 refine R1_call1 (radd_ok _ _ _ _ _ _ 17 w_19 q4 q4 (by decide)) ?_
 rintro _ w_20 ⟨hE_,s2,s3,rfl,ha2⟩
 refine ⟨hE_,?_⟩
 replace hD1:=hD1.ext hE_
 replace hD2:=hD2.ext hE_
 replace hD3:=hD3.ext hE_
 replace hD4:=hD4.ext hE_
 replace q1:=q1.ext hE_
 replace q2:=q2.ext hE_
 replace q3:=q3.ext hE_
 replace q4:=q4.ext hE_
 replace ha1:=ha1.ext hE_
 replace hX:=hX.trans hE_
 clear hE_
 refine gg ?_
 refine gg ?_
 refine R1_call1 (radd_ok _ _ _ _ _ _ 18 w_20 (ha1.iv bs1) (ha2.iv bs2) (by decide)) ?_
 rintro _ w_21 ⟨hE_,s4,s5,rfl,ha3⟩
 refine ⟨hE_,?_⟩
 replace hD1:=hD1.ext hE_
 replace hD2:=hD2.ext hE_
 replace hD3:=hD3.ext hE_
 replace hD4:=hD4.ext hE_
 replace q1:=q1.ext hE_
 replace q2:=q2.ext hE_
 replace q3:=q3.ext hE_
 replace q4:=q4.ext hE_
 replace ha1:=ha1.ext hE_
 replace ha2:=ha2.ext hE_
 replace hX:=hX.trans hE_
 clear hE_
 refine gg ?_
 refine gg ?_
 refine R1_call1 (rcmpI_ok _ _ _ _ _ _ 19 w_21 (q3.mono (by decide)) (ha3.iv bs3) (by decide)) ?_
 rintro _ w_22 ⟨hE_,rfl⟩
 refine ⟨hE_,?_⟩
 replace hD1:=hD1.ext hE_
 replace hD2:=hD2.ext hE_
 replace hD3:=hD3.ext hE_
 replace hD4:=hD4.ext hE_
 replace q1:=q1.ext hE_
 replace q2:=q2.ext hE_
 replace q3:=q3.ext hE_
 replace q4:=q4.ext hE_
 replace ha1:=ha1.ext hE_
 replace ha2:=ha2.ext hE_
 replace ha3:=ha3.ext hE_
 replace hX:=hX.trans hE_
 clear hE_
 rw [show cmpI (inn n M (fun i=>X i + Y i) (fun i=>X i + Y i)) (inn n M X X + inn n M Y Y + (inn n M X Y + inn n M X Y)) = 0 from by
  rw [sum_law h0]; unfold cmpI; rw [if_neg (by omega),if_neg (by omega)]]
 refine gg ?_
 refine gg ?_
 refine R1_call1 (awake7_ok w_22 (hm.ext hX)) ?_
 rintro _ w_23 ⟨hE_,rfl⟩
 refine ⟨hE_,?_⟩
 replace hD1:=hD1.ext hE_
 replace hD2:=hD2.ext hE_
 replace hD3:=hD3.ext hE_
 replace hD4:=hD4.ext hE_
 replace q1:=q1.ext hE_
 replace q2:=q2.ext hE_
 replace q3:=q3.ext hE_
 replace q4:=q4.ext hE_
 replace ha1:=ha1.ext hE_
 replace ha2:=ha2.ext hE_
 replace ha3:=ha3.ext hE_
 replace hX:=hX.trans hE_
 clear hE_
 refine gg ?_
 exact ret1 (v:=.bool _) rfl rfl ⟨hX,rfl⟩
end Go.Proofs.YtncbjgblcofddaaGreatDoor
