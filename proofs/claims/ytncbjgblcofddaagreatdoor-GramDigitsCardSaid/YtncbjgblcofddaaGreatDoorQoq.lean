/- Joined: Inn, Lge. -/
import Derived.Test.YtncbjgblcofddaaGreatDoorQnh
import Derived.Test.YtncbjgblcofddaaGreatDoorQq
import Derived.Test.YtncbjgblcofddaaGreatDoorQf
import Derived.Test.YtncbjgblcofddaaGreatDoorQoo
import Derived.Test.YtncbjgblcofddaaGreatDoorQoj
import Derived.Test.YtncbjgblcofddaaGreatDoorQoh
/- gram.Inner,gram.Norm and the reference's. -/
namespace Go.Proofs.YtncbjgblcofddaaGreatDoor
open Go Go.Eng Go.Num Go.Proofs
open Go.Det (det)
def inn (r:Nat) (M:Nat→Nat→Int) (X Y:Nat→Int):Int:=sumTo r fun i=>X i * appM r M Y i
open Classical in
noncomputable def inE (r:Nat) (len:Nat→Nat) (M:Nat→Nat→Int) (cx cy:Nat):Nat :=
 if valE r len M = 0 then (if cx = r∧cy = r then 0 else 3) else valE r len M
theorem inE_le (r:Nat) (len:Nat→Nat) (M:Nat→Nat→Int) (cx cy:Nat):inE r len M cx cy≤5:=by
 have:=valE_le r len M
 unfold inE
 split
 · split <;> omega
 · exact this
def RInn (w:World) (e:Nat) (z:Int) (v:Value) (w':World):Prop :=
 Ext w w'∧∃ x y,v = .tuple #[.agg #[x,y],.int .i64 ((e:Nat):Int)]∧CV w' x y (if e = 0 then z else 0)
theorem appM_bd' {r N:Nat} {M:Nat→Nat→Int} {Y:Nat→Int} (hr:r≤16) (hM:∀ i j,i < r→j < r→Bd N (M i j)) (hY:∀ j,j < r→Bd N (Y j)) {i:Nat} (hi:i < r):Bd (N + N + 1) (appM r M Y i) :=
 appM_bd (Nat.le_refl _) hr (fun j hj=>hM i j hi hj) hY
theorem inn_bd {r k N:Nat} {M:Nat→Nat→Int} {X Y:Nat→Int} (hr:r≤16) (hk:k≤r) (hM:∀ i j,i < r→j < r→Bd N (M i j)) (hX:∀ j,j < r→Bd N (X j)) (hY:∀ j,j < r→Bd N (Y j)):Bd (N + (N + N + 1) + 1) (sumTo k fun i=>X i * appM r M Y i) :=
 sumTo_bd (by omega) fun i hi=>(hX i (by omega)).mul (appM_bd' hr hM hY (by omega))
theorem RVB.yes {w:World} {r N:Nat} {g:Nat→Int} {v:Value} {w':World} {ok:Bool} (h:RVB w ok r N g v w') (hok:ok = true):Ext w w'∧∃ A m cp,v = .tuple #[.slice A m cp,.bool true]∧RowE (EC N) w' (.slice A m cp) r g:=by
 subst hok
 exact h
theorem applyS_ok (va vb:Value) (r N:Nat) (M:Nat→Nat→Int) (b:Nat→Int) (w:World) (ha:MatE (EI N) w va r (fun _=>r) M) (hb:RowE (EI N) w vb r b) (h1:1≤r) (h2:r≤16) (hN:N < 34359738368) :
 Meets Tryz.prog 92 #[va,vb] w fun v w'=>Ext w w'∧∃ A m cp,v = .tuple #[.slice A m cp,.bool true]∧RowE (EC (N + N + 1)) w' (.slice A m cp) r (appM r M b) :=
 (apply_ok va vb r r N _ M b w ha hb hN).mono fun _ _ h=>h.yes (by simp [okApp,okM_iff,h1,h2])
theorem rapplyS_ok (va vb:Value) (r N:Nat) (M:Nat→Nat→Int) (b:Nat→Int) (w:World) (ha:MatE (EI N) w va r (fun _=>r) M) (hb:RowE (EI N) w vb r b) (h1:1≤r) (h2:r≤16) (hN:N < 34359738368) :
 Meets Tryz.prog 95 #[va,vb] w fun v w'=>Ext w w'∧∃ A m cp,v = .tuple #[.slice A m cp,.bool true]∧RowE (EC (N + N + 1)) w' (.slice A m cp) r (appM r M b) :=
 (rapply_ok va vb r r N _ M b w ha hb hN).mono fun _ _ h=>h.yes (by simp [okApp,okM_iff,h1,h2])
set_option maxHeartbeats 32000000 in
theorem inner_ok (va vx vy:Value) (r cx cy N:Nat) (len:Nat→Nat) (M:Nat→Nat→Int) (X Y:Nat→Int) (w:World) (ha:MatE (EI N) w va r len M) (hx:RowE (EI N) w vx cx X) (hy:RowE (EI N) w vy cy Y) (hN1:1≤N) (hN:N < 1048576) :
 Meets Tryz.prog 39 #[va,vx,vy] w (RInn w (inE r len M cx cy) (inn r M X Y)):=by
 obtain ⟨Ax,cpx,rfl,hx1,hx2,hx3⟩:=id hx
 obtain ⟨Ay,cpy,rfl,hy1,hy2,hy3⟩:=id hy
 refine fn_W (n:=57) Tryz.func39 rfl rfl (by kernel_rfl) (by simp) ?_
 obtain ⟨Aa,capa,rfl,_⟩:=id ha
 have ha0:=ha
 have hX:Ext w w:=Ext.refl w
 refine gg ?_
 refine R1_alloc (.inl rfl) z_Int ?_
 intro w_1 hB0_ hE_ hs_
 have hR:=Bx.zero (N:=1) true hB0_
 obtain ⟨gR,hg_⟩ : ∃ g,g = w.heap.size:=⟨_,rfl⟩
 rw [← hg_] at hR ⊢
 have hfr_gR:w.heap.size≤gR:=by have:=hX.size; omega
 replace ha:=ha.ext hE_
 replace hX:=hX.trans hE_
 clear hB0_ hs_ hg_ hE_
 refine gg ?_
 refine W_seq ?_
 refine gg ?_
 refine gg ?_
 refine R1_call2 (validate_ok _ r N len M w_1 ha hN1 hN) ?_
 rintro _ w_2 ⟨hE_,rfl⟩
 replace ha:=ha.ext hE_
 replace hR:=hR.ext hE_
 replace hX:=hX.trans hE_
 clear hE_
 have h5:=valE_le r len M
 by_cases h0:valE r len M = 0
 rotate_left
 · have e0:inE r len M cx cy = valE r len M:=by unfold inE; rw [if_neg h0]
   refine gg ?_
   refine R1_bld0 b0_Int ?_
   refine gg ?_
   refine gg ?_
   refine R1_storeBx (by first | exact .inl rfl | exact .inr ⟨rfl,fun _ h=>h.mono fun b _ e=>by omega⟩) rfl rfl hR ((CV.zero w_2).ev true (Bd.zero 1)) ?_
   intro w_3 hR hC_ hk_ hs_
   clear ha
   replace hX:=hC_.ext_of hX (fun b hb=>by omega)
   clear hC_ hk_ hs_
   obtain ⟨u,v,hU,hV⟩:=hR
   refine gg ?_
   refine retCB (v:=.int _ _) rfl agg_Int rfl hU rfl ⟨hX,u,v,by rw [e0],?_⟩
   rw [if_neg (by rw [e0]; exact h0)]; exact hV.2 rfl
 obtain ⟨hok,h8,_⟩:=valE_zero.1 h0
 obtain ⟨hr1,hr2,hlen⟩:=okS_iff.1 hok
 have hM:=ha0.sq hlen
 have bM:∀ i j,i < r→j < r→Bd N (M i j):=fun i j hi hj=>hM.bd hi hj
 refine gg ?_
 refine W_seq ?_
 by_cases hcx:cx = r
 rotate_left
 · have e0:inE r len M cx cy = 3:=by unfold inE; rw [if_pos h0,if_neg (fun h=>hcx h.1)]
   refine gg ?_
   refine R1_bld0 b0_Int ?_
   refine gg ?_
   refine gg ?_
   refine R1_storeBx (by first | exact .inl rfl | exact .inr ⟨rfl,fun _ h=>h.mono fun b _ e=>by omega⟩) rfl rfl hR ((CV.zero w_2).ev true (Bd.zero 1)) ?_
   intro w_4 hR hC_ hk_ hs_
   clear ha
   replace hX:=hC_.ext_of hX (fun b hb=>by omega)
   clear hC_ hk_ hs_
   obtain ⟨u,v,hU,hV⟩:=hR
   refine gg ?_
   refine retCB (v:=.int _ _) rfl agg_Int rfl hU rfl ⟨hX,u,v,by rw [e0],?_⟩
   rw [if_neg (by rw [e0]; decide)]; exact hV.2 rfl
 by_cases hcy:cy = r
 rotate_left
 · have e0:inE r len M cx cy = 3:=by unfold inE; rw [if_pos h0,if_neg (fun h=>hcy h.2)]
   refine gg ?_
   refine R1_bld0 b0_Int ?_
   refine gg ?_
   refine gg ?_
   refine R1_storeBx (by first | exact .inl rfl | exact .inr ⟨rfl,fun _ h=>h.mono fun b _ e=>by omega⟩) rfl rfl hR ((CV.zero w_2).ev true (Bd.zero 1)) ?_
   intro w_5 hR hC_ hk_ hs_
   clear ha
   replace hX:=hC_.ext_of hX (fun b hb=>by omega)
   clear hC_ hk_ hs_
   obtain ⟨u,v,hU,hV⟩:=hR
   refine gg ?_
   refine retCB (v:=.int _ _) rfl agg_Int rfl hU rfl ⟨hX,u,v,by rw [e0],?_⟩
   rw [if_neg (by rw [e0]; decide)]; exact hV.2 rfl
 have e0:inE r len M cx cy = 0:=by unfold inE; rw [if_pos h0,if_pos ⟨hcx,hcy⟩]
 subst hcx
 subst hcy
 rw [e0]
 have bX:∀ j,j < cy→Bd N (X j):=fun j hj=>hx.bd hj
 have bY:∀ j,j < cy→Bd N (Y j):=fun j hj=>hy.bd hj
 refine gg ?_
 refine gg ?_
 refine R1_call2 (applyS_ok _ _ cy N M Y w_2 (hM.ext hX) (hy.ext hX) hr1 hr2 (by omega)) ?_
 rintro _ w_6 ⟨hE_,Az,mz,cpz,rfl,hz⟩
 replace ha:=ha.ext hE_
 replace hR:=hR.ext hE_
 replace hX:=hX.trans hE_
 clear hE_
 have hK:Ext w_6 w_6:=Ext.refl _
 obtain ⟨az,_,_,_,e1,_,_,_⟩:=hz.at (show 0 < cy by omega)
 cases e1
 obtain ⟨ax,_,_,_,e2,_,_,_⟩:=hx.at (show 0 < cy by omega)
 cases e2
 have bZ:∀ j,j < cy→Bd (N + N + 1) (appM cy M Y j):=fun j hj=>appM_bd' hr2 bM bY hj
 obtain ⟨NS,hNS⟩ : ∃ k,k = N + (N + N + 1) + 1:=⟨_,rfl⟩
 refine gg ?_
 refine R1_bld0 b0_Int ?_
 refine gg ?_
 refine gg ?_
 refine R1_alloc (.inl rfl) z_Int ?_
 intro w_7 hB0_ hE_ hs_
 have hS:=Bx.zero (N:=1) true hB0_
 obtain ⟨gS,hg_⟩ : ∃ g,g = w_6.heap.size:=⟨_,rfl⟩
 rw [← hg_] at hS ⊢
 have hfr_gS:w.heap.size≤gS:=by have:=hX.size; omega
 have hfr_hK_gS:w_6.heap.size≤gS:=by have:=hK.size; omega
 have hne_gS_gR:gS ≠ gR:=by have:=hR.lt; omega
 replace ha:=ha.ext hE_
 replace hR:=hR.ext hE_
 replace hK:=hK.trans hE_
 replace hX:=hX.trans hE_
 clear hB0_ hs_ hg_ hE_
 refine gg ?_
 refine gg ?_
 refine R1_storeBx (by first | exact .inl rfl | exact .inr ⟨rfl,fun _ h=>h.mono fun b _ e=>by omega⟩) rfl rfl hS ((CV.zero w_7).ev true (Bd.zero NS)) ?_
 intro w_8 hS hC_ hk_ hs_
 clear ha
 replace hR:=hR.kp hk_ hC_ (by first | omega | assumption)
 replace hK:=hC_.ext_of hK (fun b hb=>by omega)
 replace hX:=hC_.ext_of hX (fun b hb=>by omega)
 clear hC_ hk_ hs_
 refine gg ?_
 have fR:w.heap.size≤gR:=hfr_gR
 have fS:w.heap.size≤gS∧gR ≠ gS:=⟨hfr_gS,by omega⟩
 have fS2:=hfr_hK_gS
 refine W_seqM (fun f w'=>f 6 = .pointer (some ⟨gR,0,none⟩)∧f 11 = .pointer (some ⟨gS,0,none⟩)∧Ext w w'∧Bx w' gR 1 true 0∧Bx w' gS NS true (inn cy M X Y)) ?_ ?_
 · refine gg ?_
   refine W_loop (fun m f w'=>∃ i,m = cy - i∧i≤cy∧f 1 = .slice (some ax) cy cpx∧f 6 = .pointer (some ⟨gR,0,none⟩)∧f 11 = .pointer (some ⟨gS,0,none⟩)∧f 40 = .slice (some az) cy cpz∧f 41 = .int .i64 ((cy:Nat):Int)∧f 42 = .int .i64 ((i:Nat):Int)∧Ext w w'∧Ext w_6 w'∧Bx w' gR 1 true 0∧Bx w' gS NS true (sumTo i fun i=>X i * appM cy M Y i))
    cy ⟨0,rfl,Nat.zero_le _,rfl,rfl,rfl,rfl,rfl,rfl,hX,hK,hR,hS⟩ ?_
   clear hX hR hS hK
   rintro m f w' ⟨i,rfl,hi,hf1,hf6,hf11,hf40,hf41,hf42,hX,hK,hR,hS⟩
   rw [ui hf1,ui hf6,ui hf11,ui hf40,ui hf41,ui hf42]
   clear hf1 hf6 hf11 hf40 hf41 hf42
   by_cases hlt:i < cy
   · skip
     obtain ⟨_,_,x1,y1,e,hx1,hy1,hv1⟩:=hx.at hlt
     cases e
     obtain ⟨_,_,x2,y2,e,hx2,hy2,hv2,_⟩:=hz.at hlt
     cases e
     replace hx2:=cell_ext hK hx2
     replace hy2:=cell_ext hK hy2
     replace hv2:=hv2.ext hK
     refine gg ?_
     refine gg ?_
     refine R1_alloc (.inl rfl) z_Int ?_
     intro w_9 hB0_ hE_ hs_
     have h9:=Bx.zero (N:=1) true hB0_
     obtain ⟨g9,hg_⟩ : ∃ g,g = w'.heap.size:=⟨_,rfl⟩
     rw [← hg_] at h9 ⊢
     have hfr_g9:w.heap.size≤g9:=by have:=hX.size; omega
     have hfr_hK_g9:w_6.heap.size≤g9:=by have:=hK.size; omega
     have hne_g9_gR:g9 ≠ gR:=by have:=hR.lt; omega
     have hne_g9_gS:g9 ≠ gS:=by have:=hS.lt; omega
     replace hR:=hR.ext hE_
     replace hS:=hS.ext hE_
     replace hv2:=hv2.ext hE_
     replace hK:=hK.trans hE_
     replace hX:=hX.trans hE_
     clear hB0_ hs_ hg_ hE_
     refine gg ?_
     refine gg ?_
     refine R1_storeBx (by first | exact .inl rfl | exact .inr ⟨rfl,fun _ h=>h.mono fun b _ e=>by omega⟩) rfl rfl h9 (hv2.ev true (bZ i hlt)) ?_
     intro w_10 h9 hC_ hk_ hs_
     replace hR:=hR.kp hk_ hC_ (by first | omega | assumption)
     replace hS:=hS.kp hk_ hC_ (by first | omega | assumption)
     replace hv2:=hv2.kp hk_
     replace hK:=hC_.ext_of hK (fun b hb=>by omega)
     replace hX:=hC_.ext_of hX (fun b hb=>by omega)
     clear hC_ hk_ hs_
     refine gg ?_
     clear hx2 hy2
     refine gg ?_
     refine W_regD [(0,0),(1,3),(2,3),(3,3),(4,0),(5,0),(6,1),(7,1),(8,2)] mixed (by kernel_rfl) (fun w_11 hE_ _=>?_)
     replace hR:=hR.ext hE_
     replace hS:=hS.ext hE_
     replace hv2:=hv2.ext hE_
     replace hK:=hK.trans hE_
     replace h9:=h9.ext hE_
     replace hX:=hX.trans hE_
     clear hE_
     replace hx1:=cell_ext hX hx1
     replace hy1:=cell_ext hX hy1
     replace hv1:=hv1.ext hX
     obtain ⟨hS_u,hS_v,hS_B,hS_V⟩:=id hS
     obtain ⟨hS_0,hS_1⟩:=blkP hS_B
     obtain ⟨h9_u,h9_v,h9_B,h9_V⟩:=id h9
     obtain ⟨h9_0,h9_1⟩:=blkP h9_B
     have hSV:=hS_V.1
     refine gg ?_
     refine gg ?_
     refine R1_call1 (mul_ok _ _ _ _ _ _ (N + N + 1) w_11 (hv1.mono (by omega)) h9_V.1 (by omega)) ?_
     rintro _ w_12 ⟨hE_,a0,a1,rfl,hm⟩
     refine ⟨hE_,?_⟩
     replace hR:=hR.ext hE_
     replace hS:=hS.ext hE_
     replace hv2:=hv2.ext hE_
     replace hK:=hK.trans hE_
     replace h9:=h9.ext hE_
     replace hSV:=hSV.ext hE_
     replace hX:=hX.trans hE_
     clear hE_
     have bm:Bd (N + (N + N + 1)) (X i * appM cy M Y i):=(bX i hlt).mul (bZ i hlt)
     refine gg ?_
     refine gg ?_
     refine R1_call1 (add_ok _ _ _ _ _ _ NS w_12 hSV (hm.iv (bm.mono (by omega))) (by omega)) ?_
     rintro _ w_13 ⟨hE_,b0,b1,rfl,hs⟩
     refine ⟨hE_,?_⟩
     replace hR:=hR.ext hE_
     replace hS:=hS.ext hE_
     replace hv2:=hv2.ext hE_
     replace hK:=hK.trans hE_
     replace h9:=h9.ext hE_
     replace hSV:=hSV.ext hE_
     replace hm:=hm.ext hE_
     replace hX:=hX.trans hE_
     clear hE_
     have bs:Bd NS (sumTo i (fun i=>X i * appM cy M Y i) + X i * appM cy M Y i):=by
      rw [hNS]; exact inn_bd (k:=i + 1) hr2 hlt bM bX bY
     clear hx1 hy1 hS_0 hS_1 h9_0 h9_1
     refine gg ?_
     refine gg ?_
     refine R1_storeBx (by first | exact .inl rfl | exact .inr ⟨rfl,fun _ h=>h.mono fun b _ e=>by omega⟩) rfl rfl hS (hs.ev true bs) ?_
     intro w_14 hS hC_ hk_ hs_
     replace hR:=hR.kp hk_ hC_ (by first | omega | assumption)
     replace hv2:=hv2.kp hk_
     replace hK:=hC_.ext_of hK (fun b hb=>by omega)
     replace h9:=h9.kp hk_ hC_ (by first | omega | assumption)
     replace hSV:=hSV.kp hk_
     replace hm:=hm.kp hk_
     replace hs:=hs.kp hk_
     replace hX:=hC_.ext_of hX (fun b hb=>by omega)
     clear hC_ hk_ hs_
     refine gg ?_
     refine ⟨_,?_,i + 1,rfl,by omega,rfl,rfl,rfl,rfl,rfl,rfl,hX,hK,hR,hS⟩
     omega
   · refine gg ?_
     obtain rfl:i = cy:=by omega
     exact ⟨rfl,rfl,hX,hR,hS⟩
 clear hX hR hS hK
 rintro f w' ⟨hf6,hf11,hX,hR,hS⟩
 rw [ui hf6,ui hf11]
 clear hf6 hf11
 refine gg ?_
 obtain ⟨hS_u,hS_v,hS_B,hS_V⟩:=id hS
 obtain ⟨hS_0,hS_1⟩:=blkP hS_B
 refine gg ?_
 refine gg ?_
 refine R1_storeBx (by first | exact .inl rfl | exact .inr ⟨rfl,fun _ h=>h.mono fun b _ e=>by omega⟩) rfl rfl hR (hS_V) ?_
 intro w_15 hR hC_ hk_ hs_
 replace hS:=hS.kp hk_ hC_ (by first | omega | assumption)
 replace hX:=hC_.ext_of hX (fun b hb=>by omega)
 clear hC_ hk_ hs_
 obtain ⟨u,v,hU,hV⟩:=hR
 refine gg ?_
 refine retCB (v:=.int _ _) rfl agg_Int rfl hU rfl ⟨hX,u,v,rfl,?_⟩
 rw [if_pos rfl]; exact hV.2 rfl
set_option maxHeartbeats 32000000 in
theorem rinner_ok (va vx vy:Value) (r cx cy N:Nat) (len:Nat→Nat) (M:Nat→Nat→Int) (X Y:Nat→Int) (w:World) (ha:MatE (EI N) w va r len M) (hx:RowE (EI N) w vx cx X) (hy:RowE (EI N) w vy cy Y) (hN1:1≤N) (hN:N < 1048576) :
 Meets Tryz.prog 40 #[va,vx,vy] w (RInn w (inE r len M cx cy) (inn r M X Y)):=by
 obtain ⟨Ax,cpx,rfl,hx1,hx2,hx3⟩:=id hx
 obtain ⟨Ay,cpy,rfl,hy1,hy2,hy3⟩:=id hy
 refine fn_W (n:=39) Tryz.func40 rfl rfl (by kernel_rfl) (by simp) ?_
 obtain ⟨Aa,capa,rfl,_⟩:=id ha
 have ha0:=ha
 have hX:Ext w w:=Ext.refl w
 refine gg ?_
 refine R1_alloc (.inl rfl) z_Int ?_
 intro w_1 hB0_ hE_ hs_
 have hR:=Bx.zero (N:=1) true hB0_
 obtain ⟨gR,hg_⟩ : ∃ g,g = w.heap.size:=⟨_,rfl⟩
 rw [← hg_] at hR ⊢
 have hfr_gR:w.heap.size≤gR:=by have:=hX.size; omega
 replace ha:=ha.ext hE_
 replace hX:=hX.trans hE_
 clear hB0_ hs_ hg_ hE_
 refine gg ?_
 refine W_seq ?_
 refine gg ?_
 refine gg ?_
 refine R1_call2 (rvalidate_ok _ r N len M w_1 ha hN1 hN) ?_
 rintro _ w_2 ⟨hE_,rfl⟩
 replace ha:=ha.ext hE_
 replace hR:=hR.ext hE_
 replace hX:=hX.trans hE_
 clear hE_
 have h5:=valE_le r len M
 by_cases h0:valE r len M = 0
 rotate_left
 · have e0:inE r len M cx cy = valE r len M:=by unfold inE; rw [if_neg h0]
   refine gg ?_
   refine R1_bld0 b0_Int ?_
   refine gg ?_
   refine gg ?_
   refine R1_storeBx (by first | exact .inl rfl | exact .inr ⟨rfl,fun _ h=>h.mono fun b _ e=>by omega⟩) rfl rfl hR ((CV.zero w_2).ev true (Bd.zero 1)) ?_
   intro w_3 hR hC_ hk_ hs_
   clear ha
   replace hX:=hC_.ext_of hX (fun b hb=>by omega)
   clear hC_ hk_ hs_
   obtain ⟨u,v,hU,hV⟩:=hR
   refine gg ?_
   refine retCB (v:=.int _ _) rfl agg_Int rfl hU rfl ⟨hX,u,v,by rw [e0],?_⟩
   rw [if_neg (by rw [e0]; exact h0)]; exact hV.2 rfl
 obtain ⟨hok,h8,_⟩:=valE_zero.1 h0
 obtain ⟨hr1,hr2,hlen⟩:=okS_iff.1 hok
 have hM:=ha0.sq hlen
 have bM:∀ i j,i < r→j < r→Bd N (M i j):=fun i j hi hj=>hM.bd hi hj
 refine gg ?_
 refine W_seq ?_
 by_cases hcx:cx = r
 rotate_left
 · have e0:inE r len M cx cy = 3:=by unfold inE; rw [if_pos h0,if_neg (fun h=>hcx h.1)]
   refine gg ?_
   refine R1_bld0 b0_Int ?_
   refine gg ?_
   refine gg ?_
   refine R1_storeBx (by first | exact .inl rfl | exact .inr ⟨rfl,fun _ h=>h.mono fun b _ e=>by omega⟩) rfl rfl hR ((CV.zero w_2).ev true (Bd.zero 1)) ?_
   intro w_4 hR hC_ hk_ hs_
   clear ha
   replace hX:=hC_.ext_of hX (fun b hb=>by omega)
   clear hC_ hk_ hs_
   obtain ⟨u,v,hU,hV⟩:=hR
   refine gg ?_
   refine retCB (v:=.int _ _) rfl agg_Int rfl hU rfl ⟨hX,u,v,by rw [e0],?_⟩
   rw [if_neg (by rw [e0]; decide)]; exact hV.2 rfl
 by_cases hcy:cy = r
 rotate_left
 · have e0:inE r len M cx cy = 3:=by unfold inE; rw [if_pos h0,if_neg (fun h=>hcy h.2)]
   refine gg ?_
   refine R1_bld0 b0_Int ?_
   refine gg ?_
   refine gg ?_
   refine R1_storeBx (by first | exact .inl rfl | exact .inr ⟨rfl,fun _ h=>h.mono fun b _ e=>by omega⟩) rfl rfl hR ((CV.zero w_2).ev true (Bd.zero 1)) ?_
   intro w_5 hR hC_ hk_ hs_
   clear ha
   replace hX:=hC_.ext_of hX (fun b hb=>by omega)
   clear hC_ hk_ hs_
   obtain ⟨u,v,hU,hV⟩:=hR
   refine gg ?_
   refine retCB (v:=.int _ _) rfl agg_Int rfl hU rfl ⟨hX,u,v,by rw [e0],?_⟩
   rw [if_neg (by rw [e0]; decide)]; exact hV.2 rfl
 have e0:inE r len M cx cy = 0:=by unfold inE; rw [if_pos h0,if_pos ⟨hcx,hcy⟩]
 subst hcx
 subst hcy
 rw [e0]
 have bX:∀ j,j < cy→Bd N (X j):=fun j hj=>hx.bd hj
 have bY:∀ j,j < cy→Bd N (Y j):=fun j hj=>hy.bd hj
 refine gg ?_
 refine gg ?_
 refine R1_call2 (rapplyS_ok _ _ cy N M Y w_2 (hM.ext hX) (hy.ext hX) hr1 hr2 (by omega)) ?_
 rintro _ w_6 ⟨hE_,Az,mz,cpz,rfl,hz⟩
 replace ha:=ha.ext hE_
 replace hR:=hR.ext hE_
 replace hX:=hX.trans hE_
 clear hE_
 refine gg ?_
 refine gg ?_
 refine R1_call2 (dot_ok _ _ cy (N + N + 1) X (appM cy M Y) w_6 ((hx.ext hX).mono (by omega)) (hz.ei) (by omega) (by omega)) ?_
 rintro _ w_7 ⟨hE_,a0,a1,rfl,hd⟩
 replace ha:=ha.ext hE_
 replace hR:=hR.ext hE_
 replace hX:=hX.trans hE_
 clear hE_
 refine gg ?_
 refine gg ?_
 refine R1_storeBx (by first | exact .inl rfl | exact .inr ⟨rfl,fun _ h=>h.mono fun b _ e=>by omega⟩) rfl rfl hR (hd.ev true (inn_bd (k:=cy) hr2 (Nat.le_refl _) bM bX bY)) ?_
 intro w_8 hR hC_ hk_ hs_
 clear ha
 replace hd:=hd.kp hk_
 replace hX:=hC_.ext_of hX (fun b hb=>by omega)
 clear hC_ hk_ hs_
 obtain ⟨u,v,hU,hV⟩:=hR
 refine gg ?_
 refine retCB (v:=.int _ _) rfl agg_Int rfl hU rfl ⟨hX,u,v,rfl,?_⟩
 rw [if_pos rfl]; exact hV.2 rfl
theorem Bd.ex (z:Int):∃ k,Bd k z:=⟨z.natAbs,Nat.lt_pow_self (by decide)⟩
set_option maxHeartbeats 16000000 in
theorem norm_ok (va vx:Value) (r cx N:Nat) (len:Nat→Nat) (M:Nat→Nat→Int) (X:Nat→Int) (w:World) (ha:MatE (EI N) w va r len M) (hx:RowE (EI N) w vx cx X) (hN1:1≤N) (hN:N < 1048576) :
 Meets Tryz.prog 37 #[va,vx] w (RInn w (inE r len M cx cx) (inn r M X X)):=by
 refine fn_W (n:=12) Tryz.func37 rfl rfl (by kernel_rfl) (by simp) ?_
 obtain ⟨Ax,cpx,rfl,_⟩:=id hx
 obtain ⟨Aa,capa,rfl,_⟩:=id ha
 have hX:Ext w w:=Ext.refl w
 refine gg ?_
 refine R1_alloc (.inl rfl) z_Int ?_
 intro w_1 hB0_ hE_ hs_
 have hR:=Bx.zero (N:=1) true hB0_
 obtain ⟨gR,hg_⟩ : ∃ g,g = w.heap.size:=⟨_,rfl⟩
 rw [← hg_] at hR ⊢
 have hfr_gR:w.heap.size≤gR:=by have:=hX.size; omega
 replace hX:=hX.trans hE_
 clear hB0_ hs_ hg_ hE_
 refine gg ?_
 refine gg ?_
 refine R1_call2 (inner_ok _ _ _ r cx cx N len M X X w_1 (ha.ext hX) (hx.ext hX) (hx.ext hX) hN1 hN) ?_
 rintro _ w_2 ⟨hE_,a0,a1,rfl,hd⟩
 replace hR:=hR.ext hE_
 replace hX:=hX.trans hE_
 clear hE_
 obtain ⟨k,hk⟩:=Bd.ex (if inE r len M cx cx = 0 then inn r M X X else 0)
 refine gg ?_
 refine gg ?_
 refine R1_storeBx (by first | exact .inl rfl | exact .inr ⟨rfl,fun _ h=>h.mono fun b _ e=>by omega⟩) rfl rfl hR (hd.ev true hk) ?_
 intro w_3 hR hC_ hk_ hs_
 replace hd:=hd.kp hk_
 replace hX:=hC_.ext_of hX (fun b hb=>by omega)
 clear hC_ hk_ hs_
 obtain ⟨u,v,hU,hV⟩:=hR
 refine gg ?_
 exact retCB (v:=.int _ _) rfl agg_Int rfl hU rfl ⟨hX,u,v,rfl,hV.2 rfl⟩
set_option maxHeartbeats 16000000 in
theorem rnorm_ok (va vx:Value) (r cx N:Nat) (len:Nat→Nat) (M:Nat→Nat→Int) (X:Nat→Int) (w:World) (ha:MatE (EI N) w va r len M) (hx:RowE (EI N) w vx cx X) (hN1:1≤N) (hN:N < 1048576) :
 Meets Tryz.prog 38 #[va,vx] w (RInn w (inE r len M cx cx) (inn r M X X)):=by
 refine fn_W (n:=12) Tryz.func38 rfl rfl (by kernel_rfl) (by simp) ?_
 obtain ⟨Ax,cpx,rfl,_⟩:=id hx
 obtain ⟨Aa,capa,rfl,_⟩:=id ha
 have hX:Ext w w:=Ext.refl w
 refine gg ?_
 refine R1_alloc (.inl rfl) z_Int ?_
 intro w_1 hB0_ hE_ hs_
 have hR:=Bx.zero (N:=1) true hB0_
 obtain ⟨gR,hg_⟩ : ∃ g,g = w.heap.size:=⟨_,rfl⟩
 rw [← hg_] at hR ⊢
 have hfr_gR:w.heap.size≤gR:=by have:=hX.size; omega
 replace hX:=hX.trans hE_
 clear hB0_ hs_ hg_ hE_
 refine gg ?_
 refine gg ?_
 refine R1_call2 (rinner_ok _ _ _ r cx cx N len M X X w_1 (ha.ext hX) (hx.ext hX) (hx.ext hX) hN1 hN) ?_
 rintro _ w_2 ⟨hE_,a0,a1,rfl,hd⟩
 replace hR:=hR.ext hE_
 replace hX:=hX.trans hE_
 clear hE_
 obtain ⟨k,hk⟩:=Bd.ex (if inE r len M cx cx = 0 then inn r M X X else 0)
 refine gg ?_
 refine gg ?_
 refine R1_storeBx (by first | exact .inl rfl | exact .inr ⟨rfl,fun _ h=>h.mono fun b _ e=>by omega⟩) rfl rfl hR (hd.ev true hk) ?_
 intro w_3 hR hC_ hk_ hs_
 replace hd:=hd.kp hk_
 replace hX:=hC_.ext_of hX (fun b hb=>by omega)
 clear hC_ hk_ hs_
 obtain ⟨u,v,hU,hV⟩:=hR
 refine gg ?_
 exact retCB (v:=.int _ _) rfl agg_Int rfl hU rfl ⟨hX,u,v,rfl,hV.2 rfl⟩
end Go.Proofs.YtncbjgblcofddaaGreatDoor
