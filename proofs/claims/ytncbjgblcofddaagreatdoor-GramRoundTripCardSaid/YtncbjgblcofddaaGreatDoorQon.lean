/- Joined: Rdu, Lgc. -/
import Derived.Test.YtncbjgblcofddaaGreatDoorQoi
import Derived.Test.YtncbjgblcofddaaGreatDoorQn
import Derived.Test.YtncbjgblcofddaaGreatDoorQf
import Derived.Test.YtncbjgblcofddaaGreatDoorQok
/- The reference's Dual and Pow. -/
namespace Go.Proofs.YtncbjgblcofddaaGreatDoor
open Go Go.Eng Go.Num Go.Proofs
open Go.Det (det)
theorem radjS_ok (v:Value) (r N:Nat) (len:Nat→Nat) (M:Nat→Nat→Int) (w:World) (h:MatE (EI N) w v r len M) (hN1:1≤N) (hN:N < 1048576) (hok:okS r len = true) :
 Meets Tryz.prog 85 #[v] w fun v w'=>Ext w w'∧∃ gO gs,v = .tuple #[.slice (some ⟨gO,0,none⟩) r r,.bool true]∧w.heap.size≤gO∧(∀ i,i < r→w.heap.size≤gs i)∧OMat w' gO gs r r (adjF r M) :=
 (radjugate_ok v r N len M w h hN1 hN).mono fun _ _ h=>by
  obtain ⟨u,rfl,hE,gO,gs,rfl,ha,hb,hO⟩:=h.get hok
  exact ⟨hE,gO,gs,rfl,ha,hb,hO.congr fun i j hi hj=>radjF_eq r M i j hi hj⟩
set_option maxHeartbeats 16000000 in
theorem rdual_ok (va:Value) (r N:Nat) (len:Nat→Nat) (M:Nat→Nat→Int) (w:World) (ha:MatE (EI N) w va r len M) (hN1:1≤N) (hN:N < 1048576) :
 Meets Tryz.prog 31 #[va] w (RDu w (valE r len M) r (adjF r M) (det r M)):=by
 refine fn_W (n:=22) Tryz.func31 rfl rfl (by kernel_rfl) (by simp) ?_
 have ha0:=ha
 have hX:Ext w w:=Ext.refl w
 refine gg ?_
 refine gg ?_
 refine R1_alloc (.inl rfl) z_Int ?_
 intro w_1 hB0_ hE_ hs_
 have hR:=Bx.zero (N:=1) true hB0_
 obtain ⟨gR,hg_⟩ : ∃ g,g = w.heap.size:=⟨_,rfl⟩
 rw [← hg_] at hR ⊢
 have hfr_gR:w.heap.size≤gR:=by have:=hX.size; omega
 replace ha:=ha.ext hE_
 replace hX:=hX.trans hE_
 clear hB0_ hs_ hg_ hE_
 refine gg ?_
 refine W_seq ?_
 refine gg ?_
 refine gg ?_
 refine R1_call2 (rvalidate_ok va r N len M w_1 ha hN1 hN) ?_
 rintro _ w_2 ⟨hE_,rfl⟩
 replace ha:=ha.ext hE_
 replace hR:=hR.ext hE_
 replace hX:=hX.trans hE_
 clear hE_
 have h5:=valE_le r len M
 by_cases h0:valE r len M = 0
 rotate_left
 · refine gg ?_
   refine R1_bld0 b0_Int ?_
   refine gg ?_
   refine gg ?_
   refine R1_storeBx (by first | exact .inl rfl | exact .inr ⟨rfl,fun _ h=>h.mono fun b _ e=>by omega⟩) rfl rfl hR ((CV.zero w_2).ev true (Bd.zero 1)) ?_
   intro w_3 hR hC_ hk_ hs_
   clear ha
   replace hX:=hC_.ext_of hX (fun b hb=>by omega)
   clear hC_ hk_ hs_
   obtain ⟨u,v,hU,hV⟩:=hR
   refine gg ?_
   refine retTCT (v:=.slice none 0 0) (v':=.int _ _) rfl agg_Int rfl rfl hU rfl ⟨hX,_,u,v,rfl,?_,.inl ⟨h0,rfl⟩⟩
   rw [if_neg h0]; exact hV.2 rfl
 obtain ⟨hok,h8,_⟩:=valE_zero.1 h0
 obtain ⟨hr1,hr2,hlen⟩:=okS_iff.1 hok
 have hbd:Bd (Nb N r) (detB r M):=detB_bd hN1 fun i j hi hj=>(ha0.sq hlen).bd hi hj
 rw [h0]
 refine gg ?_
 have hsz:=hX.size
 have hRl:=hR.lt
 refine gg ?_
 refine R1_call2 (radjS_ok va r N len M w_2 ha hN1 hN hok) ?_
 rintro _ w_4 ⟨hE_,gO,gs,rfl,hgO,hgs,hO⟩
 replace ha:=ha.ext hE_
 replace hR:=hR.ext hE_
 replace hX:=hX.trans hE_
 clear hE_
 refine gg ?_
 refine gg ?_
 refine R1_call2 (rdet_ok va r N M w_4 ((ha0.sq hlen).ext hX) hr2 hN1 hN) ?_
 rintro _ w_5 ⟨hE_,x,y,rfl,hcv⟩
 replace ha:=ha.ext hE_
 replace hR:=hR.ext hE_
 replace hO:=hO.ext hE_
 replace hX:=hX.trans hE_
 clear hE_
 refine gg ?_
 refine R1_storeBx (.inl rfl) rfl rfl hR (hcv.ev true hbd) ?_
 intro w10 hR10 hC10 hk10 hs10
 have hO10:=hO.kp hk10 hC10 (by omega) (fun i hi=>by have:=hgs i hi; omega)
 have hX10:=hC10.ext_of hX (fun q e=>by omega)
 obtain ⟨u,v,hU,hV⟩:=hR10
 refine gg ?_
 refine retTCT (v:=.slice (some ⟨gO,0,none⟩) r r) (v':=.int .i64 ((0:Nat):Int)) rfl agg_Int rfl rfl hU rfl ⟨hX10,_,u,v,rfl,?_,.inr ⟨rfl,gO,gs,rfl,by omega,fun i hi=>by have:=hgs i hi; omega,hO10⟩⟩
 rw [if_pos rfl,← detB_det]; exact hV.2 rfl
theorem pow_bd {z:Int} {N i n:Nat} (h:Bd N z) (hi:i < n) (hn:n≤64):Bd (N * 65 + 1) (z ^ i * z):=by
 have h1:∀ k,Bd (N * k + 1) (z ^ k):=by
  intro k
  induction k with
  | zero=>rw [Int.pow_zero]; exact (show Bd 1 1 from by unfold Bd; decide).mono (by omega)
  | succ k ih=>rw [Int.pow_succ]; exact (ih.mul h).mono (by rw [Nat.mul_succ]; omega)
 have:=(h1 i).mul h
 refine this.mono ?_
 have:N * i≤N * 64:=Nat.mul_le_mul_left _ (by omega)
 omega
set_option maxHeartbeats 16000000 in
theorem rpow_ok (x y:Value) (z:Int) (N n:Nat) (w:World) (hx:IV w N x y z) (hn:n≤64) (hN:N < 1048576) :
 Meets Tryz.prog 33 #[.agg #[x,y],.int .i64 ((n:Nat):Int)] w (RIB w true (z ^ n)):=by
 refine fn_W (n:=25) Tryz.func33 rfl rfl (by kernel_rfl) (by simp) ?_
 have hX:Ext w w:=Ext.refl w
 refine gg ?_
 refine R1_box (v:=.agg _) (.inl rfl) rfl ?_
 intro w_1 hB0_ hE_ hs_
 have hX0:Blk w_1 w.heap.size 41 #[x,y]:=hB0_
 obtain ⟨gX,hg_⟩ : ∃ g,g = w.heap.size:=⟨_,rfl⟩
 rw [← hg_] at hX0 ⊢
 have hfr_gX:w.heap.size≤gX:=by have:=hX.size; omega
 replace hX:=hX.trans hE_
 clear hB0_ hs_ hg_ hE_
 refine gg ?_
 refine gg ?_
 refine R1_alloc (.inl rfl) z_Int ?_
 intro w_2 hB0_ hE_ hs_
 have hR:=Bx.zero (N:=1) true hB0_
 obtain ⟨gR,hg_⟩ : ∃ g,g = w_1.heap.size:=⟨_,rfl⟩
 rw [← hg_] at hR ⊢
 have hfr_gR:w.heap.size≤gR:=by have:=hX.size; omega
 have hne_gR_gX:gR ≠ gX:=by have:=hX0.lt; omega
 replace hX0:=hX0.ext hE_
 replace hX:=hX.trans hE_
 clear hB0_ hs_ hg_ hE_
 refine gg ?_
 refine W_seq ?_
 refine gg ?_
 refine gg ?_
 refine R1_call2 (rsmall_ok 1 w_2 (by decide) (by decide)) ?_
 rintro _ w_3 ⟨hE_,tx,ty,rfl,hct⟩
 replace hX0:=hX0.ext hE_
 replace hR:=hR.ext hE_
 replace hX:=hX.trans hE_
 clear hE_
 refine gg ?_
 refine gg ?_
 refine R1_alloc (.inl rfl) z_Int ?_
 intro w_4 hB0_ hE_ hs_
 have hA:=Bx.zero (N:=1) true hB0_
 obtain ⟨gA,hg_⟩ : ∃ g,g = w_3.heap.size:=⟨_,rfl⟩
 rw [← hg_] at hA ⊢
 have hfr_gA:w.heap.size≤gA:=by have:=hX.size; omega
 have hne_gA_gX:gA ≠ gX:=by have:=hX0.lt; omega
 have hne_gA_gR:gA ≠ gR:=by have:=hR.lt; omega
 replace hX0:=hX0.ext hE_
 replace hR:=hR.ext hE_
 replace hct:=hct.ext hE_
 replace hX:=hX.trans hE_
 clear hB0_ hs_ hg_ hE_
 refine gg ?_
 refine gg ?_
 refine R1_storeBx (by first | exact .inl rfl | exact .inr ⟨rfl,fun _ h=>h.mono fun b _ e=>by omega⟩) rfl rfl hA (hct.ev true (Bd.mono (N:=1) (by unfold Bd; decide) (show 1≤N * 65 + 1 by omega))) ?_
 intro w_5 hA hC_ hk_ hs_
 replace hX0:=hX0.ch hC_ (by omega)
 replace hR:=hR.kp hk_ hC_ (by first | omega | assumption)
 replace hct:=hct.kp hk_
 replace hX:=hC_.ext_of hX (fun b hb=>by omega)
 clear hC_ hk_ hs_
 refine gg ?_
 have hXb:Bx w_5 gX N false z:=⟨x,y,hX0,hx.ext hX,fun e=>by cases e⟩
 clear hct
 have hlX:=hX0.lt
 have hlR:=hR.lt
 have hlA:=hA.lt
 have fX:w.heap.size≤gX:=hfr_gX
 have fR:w.heap.size≤gR∧gX ≠ gR:=⟨hfr_gR,by omega⟩
 have fA:w.heap.size≤gA∧gX ≠ gA∧gR ≠ gA:=⟨hfr_gA,by omega,by omega⟩
 refine W_seqM (fun f w'=>f 4 = .pointer (some ⟨gR,0,none⟩)∧f 6 = .pointer (some ⟨gA,0,none⟩)∧Ext w w'∧Bx w' gR 1 true 0∧Bx w' gA (N * 65 + 1) true (z ^ n)) ?_ ?_
 · refine gg ?_
   refine W_loop (fun m f w'=>∃ i,m = n - i∧i≤n∧f 1 = .int .i64 ((n:Nat):Int)∧f 2 = .pointer (some ⟨gX,0,none⟩)∧f 4 = .pointer (some ⟨gR,0,none⟩)∧f 6 = .pointer (some ⟨gA,0,none⟩)∧f 7 = .int .i64 ((i:Nat):Int)∧Ext w w'∧Bx w' gX N false z∧Bx w' gR 1 true 0∧Bx w' gA (N * 65 + 1) true (z ^ i))
    n ⟨0,rfl,Nat.zero_le _,rfl,rfl,rfl,rfl,rfl,hX,hXb,hR,by rw [Int.pow_zero]; exact hA⟩ ?_
   clear hX hX0 hXb hR hA
   rintro m f w' ⟨i,rfl,hi,hf1,hf2,hf4,hf6,hf7,hX,hXb,hR,hA⟩
   rw [ui hf1,ui hf2,ui hf4,ui hf6,ui hf7]
   clear hf1 hf2 hf4 hf6 hf7
   refine W_seq ?_
   by_cases hlt:i < n
   · refine gg ?_
     obtain ⟨hA_u,hA_v,hA_B,hA_V⟩:=id hA
     obtain ⟨hA_0,hA_1⟩:=blkP hA_B
     obtain ⟨hXb_u,hXb_v,hXb_B,hXb_V⟩:=id hXb
     obtain ⟨hXb_0,hXb_1⟩:=blkP hXb_B
     refine gg ?_
     refine gg ?_
     refine R1_call2 (rmul_ok _ _ _ _ _ _ (N * 65 + 1) w' hA_V.1 (hXb_V.1.mono (by omega)) (by omega)) ?_
     rintro _ w_6 ⟨hE_,px,py,rfl,hcp⟩
     replace hXb:=hXb.ext hE_
     replace hR:=hR.ext hE_
     replace hA:=hA.ext hE_
     replace hX:=hX.trans hE_
     clear hE_
     refine gg ?_
     refine gg ?_
     refine R1_storeBx (by first | exact .inl rfl | exact .inr ⟨rfl,fun _ h=>h.mono fun b _ e=>by omega⟩) rfl rfl hA (hcp.ev true (pow_bd hx.bd hlt hn)) ?_
     intro w_7 hA hC_ hk_ hs_
     replace hXb:=hXb.kp hk_ hC_ (by first | omega | assumption)
     replace hR:=hR.kp hk_ hC_ (by first | omega | assumption)
     replace hcp:=hcp.kp hk_
     replace hX:=hC_.ext_of hX (fun b hb=>by omega)
     clear hC_ hk_ hs_
     refine gg ?_
     refine ⟨_,?_,i + 1,rfl,by omega,rfl,rfl,rfl,rfl,rfl,hX,hXb,hR,?_⟩
     · omega
     · rw [Int.pow_succ]; exact hA
   · refine gg ?_
     have:i = n:=by omega
     subst this
     exact ⟨rfl,rfl,hX,hR,hA⟩
 clear hX hX0 hXb hR hA
 rintro f w' ⟨hf4,hf6,hX,hR,hA⟩
 rw [ui hf4,ui hf6]
 clear hf4 hf6
 obtain ⟨hA_u,hA_v,hA_B,hA_V⟩:=id hA
 obtain ⟨hA_0,hA_1⟩:=blkP hA_B
 refine gg ?_
 refine gg ?_
 refine R1_storeBx (by first | exact .inl rfl | exact .inr ⟨rfl,fun _ h=>h.mono fun b _ e=>by omega⟩) rfl rfl hR (hA_V) ?_
 intro w_8 hR hC_ hk_ hs_
 replace hA:=hA.kp hk_ hC_ (by first | omega | assumption)
 replace hX:=hC_.ext_of hX (fun b hb=>by omega)
 clear hC_ hk_ hs_
 obtain ⟨u,v,hU,hV⟩:=hR
 refine gg ?_
 refine retCB (v:=.bool true) rfl agg_Int rfl hU rfl ⟨hX,u,v,rfl,?_⟩
 exact hV.2 rfl
end Go.Proofs.YtncbjgblcofddaaGreatDoor
namespace Go.Proofs.YtncbjgblcofddaaGreatDoor
open Go Go.Eng Go.Num Go.Proofs
open Go.Det (det adj PM Sy)
theorem dual_val {n:Nat} {M:Nat→Nat→Int} (h:valE n (fun _=>n) M = 0):valE n (fun _=>n) (adjF n M) = 0:=by
 obtain ⟨hok,h8,_,_⟩:=valE_zero.1 h
 obtain ⟨hp,hs⟩:=val_pm h
 have hn1:=(okS_iff.1 hok).1
 obtain ⟨k,rfl⟩ : ∃ k,n = k + 1:=⟨n - 1,by omega⟩
 have hp':=Go.Det.PM_adj hs hp
 have hs':=Go.Det.adj_sy hs
 refine valE_0 ⟨hok,h8⟩ (fun i j hi hj=>?_) fun q hq=>?_
 · rw [adjF_adj k M i j hi (by omega),adjF_adj k M j i (by omega) hi]
   exact hs' i j hi (by omega)
 · rw [Go.Det.det_congr (C:=adj k M) fun i j hi hj=>adjF_adj k M i j (by omega) (by omega)]
   exact hp' (q + 1) (by omega)
theorem dual_dual {n:Nat} {M:Nat→Nat→Int} (h:valE n (fun _=>n) M = 0) (h2:2≤n):∀ i j,i < n→j < n→adjF n (adjF n M) i j = det n M ^ (n - 2) * M i j:=by
 intro i j hi hj
 obtain ⟨hp,hs⟩:=val_pm h
 obtain ⟨k,rfl⟩ : ∃ k,n = k + 2:=⟨n - 2,by omega⟩
 rw [adjF_adj (k + 1) _ i j hi hj,Go.Det.adj_congr (C:=adj (k + 1) M) (fun a b ha hb=>adjF_adj (k + 1) M a b ha hb) hi hj]
 exact Go.Det.adj_adj k M (by have:=hp (k + 2) (Nat.le_refl _); omega) hi hj
theorem RDu.rd {w:World} {e r N:Nat} {A:Nat→Nat→Int} {d:Int} {v:Value} {w':World} (h:RDu w e r A d v w') (hA:∀ i j,i < r→j < r→Bd N (A i j)) (hr:r < 9223372036854775808) :
 Ext w w'∧∃ a m c x y,v = .tuple #[.slice a m c,.agg #[x,y],.int .i64 ((e:Nat):Int)]∧CV w' x y (if e = 0 then d else 0)∧MatE (EC N) w' (.slice a m c) (if e = 0 then r else 0) (fun _=>r) A:=by
 obtain ⟨hE,u,x,y,rfl,hcv,⟨h0,rfl⟩ | ⟨h0,gO,gs,rfl,_,_,hO⟩⟩:=h
 · exact ⟨hE,_,_,_,x,y,rfl,hcv,by rw [if_neg h0]; exact matC_nil _ _ _ _⟩
 · exact ⟨hE,_,_,_,x,y,rfl,hcv,by rw [if_pos h0]; exact hO.readC hA hr hr⟩
theorem gdualR_ok (va:Value) (r N N2:Nat) (len:Nat→Nat) (M:Nat→Nat→Int) (w:World) (ha:MatE (EI N) w va r len M) (hN1:1≤N) (hN:N < 1048576) (hA:∀ i j,i < r→j < r→Bd N2 (adjF r M i j)) (hr:r < 9223372036854775808) :
 Meets Tryz.prog 30 #[va] w fun v w'=>Ext w w'∧∃ a m c x y,v = .tuple #[.slice a m c,.agg #[x,y],.int .i64 ((valE r len M:Nat):Int)]∧CV w' x y (if valE r len M = 0 then det r M else 0)∧MatE (EC N2) w' (.slice a m c) (if valE r len M = 0 then r else 0) (fun _=>r) (adjF r M) :=
 (gdual_ok va r N len M w ha hN1 hN).mono fun _ _ h=>h.rd hA hr
theorem rdualR_ok (va:Value) (r N N2:Nat) (len:Nat→Nat) (M:Nat→Nat→Int) (w:World) (ha:MatE (EI N) w va r len M) (hN1:1≤N) (hN:N < 1048576) (hA:∀ i j,i < r→j < r→Bd N2 (adjF r M i j)) (hr:r < 9223372036854775808) :
 Meets Tryz.prog 31 #[va] w fun v w'=>Ext w w'∧∃ a m c x y,v = .tuple #[.slice a m c,.agg #[x,y],.int .i64 ((valE r len M:Nat):Int)]∧CV w' x y (if valE r len M = 0 then det r M else 0)∧MatE (EC N2) w' (.slice a m c) (if valE r len M = 0 then r else 0) (fun _=>r) (adjF r M) :=
 (rdual_ok va r N len M w ha hN1 hN).mono fun _ _ h=>h.rd hA hr
theorem MatE.monoC {w:World} {N N' r:Nat} {len:Nat→Nat} {v:Value} {M:Nat→Nat→Int} (h:MatE (EC N) w v r len M) (hN:N≤N'):MatE (EC N') w v r len M :=
 h.imp (fun _ _ hp=>hp) fun _ _ _ hc=>⟨hc.1,hc.2.mono hN⟩
set_option maxHeartbeats 32000000 in
theorem lawGramDuals {vx v1 v2:Value} {dm kd q m at':Nat} {ns ms:Nat→Int} {c:Int} {w:World} (hm:ML w)
 (hx:LatV w vx dm kd q ns m ms) (h1:ByteV v1 at') (h2:I8V v2 c) :
 Meets Tryz.prog 7 #[vx,v1,v2] w (Law w):=by
 obtain ⟨rfl,hat⟩:=h1
 obtain ⟨rfl,_,_⟩:=h2
 obtain ⟨A,cap,A',cap',rfl,hd,hk,hc,hc',hN,hN'⟩:=hx
 have hL:=LatV.agg hd hk hc hc' hN hN'
 have hdm:=Nat.mod_lt dm (show 0 < 4 by decide)
 obtain ⟨n,hn⟩ : ∃ n,n = 1 + dm % 4:=⟨_,rfl⟩
 have hn1:1≤n:=by omega
 have hn4:n≤4:=by omega
 have hn0:n < 9223372036854775808:=by omega
 refine fn_W (n:=96) Tryz.func7 rfl rfl (by kernel_rfl) (by simp) ?_
 have hX:Ext w w:=Ext.refl w
 refine gg ?_
 refine R1_box (v:=.agg _) (.inl rfl) rfl ?_
 intro w_1 hB0_ hE_ hs_
 have hX1:Blk w_1 w.heap.size 25 #[.int .u8 ((dm:Nat):Int),.int .u8 ((kd:Nat):Int),.slice A q cap,.slice A' m cap']:=hB0_
 obtain ⟨gX,hg_⟩ : ∃ g,g = w.heap.size:=⟨_,rfl⟩
 rw [← hg_] at hX1 ⊢
 have hfr_gX:w.heap.size≤gX:=by have:=hX.size; omega
 replace hX:=hX.trans hE_
 clear hB0_ hs_ hg_ hE_
 obtain ⟨x0,x1,x2,x3⟩:=blkQ hX1
 refine gg ?_
 refine R1_load4F (by decide) agg_Lat rfl x0 x1 x2 x3 ?_
 clear x0 x1 x2 x3
 refine gg ?_
 refine gg ?_
 refine R1_call2 (near_ok _ dm kd q m ns ms at' c w_1 (hL w_1 hX) hat) ?_
 rintro _ w_2 ⟨hE_,gB,gsB,MB,rfl,_,_,hOB,bB⟩
 replace hX1:=hX1.ext hE_
 replace hX:=hX.trans hE_
 clear hE_
 have hK0:Ext w_2 w_2:=Ext.refl _
 rw [← hn] at hOB bB ⊢
 obtain ⟨e,he⟩ : ∃ e,e = valE n (fun _=>n) MB:=⟨_,rfl⟩
 have h5:e≤5:=by rw [he]; exact valE_le _ _ _
 have bA:∀ i j,i < n→j < n→Bd 28 (adjF n MB i j):=fun i j hi hj=>(adjF_bd (by omega) bB i j hi hj).mono (by omega)
 have bD:Bd 111 (if e = 0 then det n MB else 0):=by
  split
  · rw [← detB_det]; exact (detB_bd (by decide) bB).mono (Nat.le_trans (Nb_le' 6 hn4) (by decide))
  · exact Bd.zero _
 refine gg ?_
 have hr:=hOB.read bB hn0 hn0
 refine gg ?_
 refine R1_call2 (gdualR_ok _ n 6 28 _ MB w_2 hr (by decide) (by decide) bA hn0) ?_
 rintro _ w_3 ⟨hE_,a1,m1,c1,x1,y1,rfl,hcv1,hM1⟩
 replace hX1:=hX1.ext hE_
 replace hK0:=hK0.trans hE_
 replace hX:=hX.trans hE_
 clear hE_
 have hK:Ext w_3 w_3:=Ext.refl _
 rw [← he] at hcv1 hM1 ⊢
 refine gg ?_
 refine gg ?_
 refine R1_alloc (.inl rfl) z_Int ?_
 intro w_4 hB0_ hE_ hs_
 have hD:=Bx.zero (N:=1) true hB0_
 obtain ⟨gD,hg_⟩ : ∃ g,g = w_3.heap.size:=⟨_,rfl⟩
 rw [← hg_] at hD ⊢
 have hfr_gD:w.heap.size≤gD:=by have:=hX.size; omega
 have hfr_hK0_gD:w_2.heap.size≤gD:=by have:=hK0.size; omega
 have hfr_hK_gD:w_3.heap.size≤gD:=by have:=hK.size; omega
 have hne_gD_gX:gD ≠ gX:=by have:=hX1.lt; omega
 replace hX1:=hX1.ext hE_
 replace hK0:=hK0.trans hE_
 replace hcv1:=hcv1.ext hE_
 replace hK:=hK.trans hE_
 replace hX:=hX.trans hE_
 clear hB0_ hs_ hg_ hE_
 refine gg ?_
 refine gg ?_
 refine R1_storeBx (by first | exact .inl rfl | exact .inr ⟨rfl,fun _ h=>h.mono fun b _ e=>by omega⟩) rfl rfl hD (hcv1.ev true bD) ?_
 intro w_5 hD hC_ hk_ hs_
 replace hX1:=hX1.ch hC_ (by omega)
 replace hK0:=hC_.ext_of hK0 (fun b hb=>by omega)
 replace hcv1:=hcv1.kp hk_
 replace hK:=hC_.ext_of hK (fun b hb=>by omega)
 replace hX:=hC_.ext_of hX (fun b hb=>by omega)
 clear hC_ hk_ hs_
 refine gg ?_
 have hr:=(hOB.ext hK0).read bB hn0 hn0
 refine gg ?_
 refine R1_call2 (rdualR_ok _ n 6 28 _ MB w_5 hr (by decide) (by decide) bA hn0) ?_
 rintro _ w_6 ⟨hE_,a2,m2,c2,x2,y2,rfl,hcv2,hM2⟩
 replace hX1:=hX1.ext hE_
 replace hK0:=hK0.trans hE_
 replace hcv1:=hcv1.ext hE_
 replace hK:=hK.trans hE_
 replace hD:=hD.ext hE_
 replace hX:=hX.trans hE_
 clear hE_
 have hK2:Ext w_6 w_6:=Ext.refl _
 rw [← he] at hcv2 hM2 ⊢
 refine gg ?_
 refine gg ?_
 refine R1_alloc (.inl rfl) z_Int ?_
 intro w_7 hB0_ hE_ hs_
 have hE:=Bx.zero (N:=1) true hB0_
 obtain ⟨gE,hg_⟩ : ∃ g,g = w_6.heap.size:=⟨_,rfl⟩
 rw [← hg_] at hE ⊢
 have hfr_gE:w.heap.size≤gE:=by have:=hX.size; omega
 have hfr_hK0_gE:w_2.heap.size≤gE:=by have:=hK0.size; omega
 have hfr_hK_gE:w_3.heap.size≤gE:=by have:=hK.size; omega
 have hfr_hK2_gE:w_6.heap.size≤gE:=by have:=hK2.size; omega
 have hne_gE_gX:gE ≠ gX:=by have:=hX1.lt; omega
 have hne_gE_gD:gE ≠ gD:=by have:=hD.lt; omega
 replace hX1:=hX1.ext hE_
 replace hK0:=hK0.trans hE_
 replace hcv1:=hcv1.ext hE_
 replace hK:=hK.trans hE_
 replace hD:=hD.ext hE_
 replace hcv2:=hcv2.ext hE_
 replace hK2:=hK2.trans hE_
 replace hX:=hX.trans hE_
 clear hB0_ hs_ hg_ hE_
 refine gg ?_
 refine gg ?_
 refine R1_storeBx (by first | exact .inl rfl | exact .inr ⟨rfl,fun _ h=>h.mono fun b _ e=>by omega⟩) rfl rfl hE (hcv2.ev true bD) ?_
 intro w_8 hE hC_ hk_ hs_
 replace hX1:=hX1.ch hC_ (by omega)
 replace hK0:=hC_.ext_of hK0 (fun b hb=>by omega)
 replace hcv1:=hcv1.kp hk_
 replace hK:=hC_.ext_of hK (fun b hb=>by omega)
 replace hD:=hD.kp hk_ hC_ (by first | omega | assumption)
 replace hcv2:=hcv2.kp hk_
 replace hK2:=hC_.ext_of hK2 (fun b hb=>by omega)
 replace hX:=hC_.ext_of hX (fun b hb=>by omega)
 clear hC_ hk_ hs_
 refine gg ?_
 refine W_seq ?_
 refine gg ?_
 refine gg ?_
 refine R1_call2 (rsameM_ok _ _ _ _ 28 _ _ _ _ w_8 (hM1.extC hK) (hM2.extC hK2) (by decide)) ?_
 rintro _ w_9 ⟨hE_,b,rfl,hb⟩
 replace hX1:=hX1.ext hE_
 replace hK0:=hK0.trans hE_
 replace hcv1:=hcv1.ext hE_
 replace hK:=hK.trans hE_
 replace hD:=hD.ext hE_
 replace hcv2:=hcv2.ext hE_
 replace hK2:=hK2.trans hE_
 replace hE:=hE.ext hE_
 replace hX:=hX.trans hE_
 clear hE_
 obtain rfl:b = true:=hb.2 ⟨rfl,fun i hi=>⟨rfl,fun j hj=>rfl⟩⟩
 clear hb
 refine gg ?_
 obtain ⟨hD_u,hD_v,hD_B,hD_V⟩:=id hD
 obtain ⟨hD_0,hD_1⟩:=blkP hD_B
 obtain ⟨hE_u,hE_v,hE_B,hE_V⟩:=id hE
 obtain ⟨hE_0,hE_1⟩:=blkP hE_B
 refine gg ?_
 refine gg ?_
 refine R1_call2 (rsame_ok _ _ _ _ _ _ 111 111 w_9 (hD_V.2 rfl) (hE_V.2 rfl) (by decide) (by decide) bD bD) ?_
 rintro _ w_10 ⟨hE_,rfl⟩
 replace hX1:=hX1.ext hE_
 replace hK0:=hK0.trans hE_
 replace hcv1:=hcv1.ext hE_
 replace hK:=hK.trans hE_
 replace hD:=hD.ext hE_
 replace hcv2:=hcv2.ext hE_
 replace hK2:=hK2.trans hE_
 replace hE:=hE.ext hE_
 replace hX:=hX.trans hE_
 clear hE_
 rw [decide_eq_true (rfl:(if e = 0 then det n MB else 0) = _)]
 refine gg ?_
 rw [show decide (¬ e = e) = false from decide_eq_false (fun h=>h rfl)]
 refine gg ?_
 obtain ⟨x0,x1,x2,x3⟩:=blkQ hX1
 refine gg ?_
 refine R1_load4F (by decide) agg_Lat rfl x0 x1 x2 x3 ?_
 clear x0 x1 x2 x3
 refine gg ?_
 refine gg ?_
 refine R1_call2 (latRaw_ok _ dm kd q m 4 ns ms w_10 (hL w_10 hX) (by decide) (by decide)) ?_
 rintro _ w_11 ⟨hE_,gA,gsA,M,rfl,_,_,hO,h0,hdet,bM⟩
 replace hX1:=hX1.ext hE_
 replace hcv1:=hcv1.ext hE_
 replace hD:=hD.ext hE_
 replace hcv2:=hcv2.ext hE_
 replace hE:=hE.ext hE_
 replace hX:=hX.trans hE_
 clear hE_
 have hK3:Ext w_11 w_11:=Ext.refl _
 rw [← hn] at hO h0 hdet bM ⊢
 have hdet0:0 < det n M:=(val_pm h0).1 n (Nat.le_refl _)
 have bDM:Bd 1 (det n M):=by unfold Bd; exact Nat.lt_of_le_of_lt (show (det n M).natAbs≤10000 by omega) (by decide)
 have bA1:∀ i j,i < n→j < n→Bd 28 (adjF n M i j):=fun i j hi hj=>(adjF_bd (by omega) bM i j hi hj).mono (by omega)
 have bA2:∀ i j,i < n→j < n→Bd 94 (adjF n (adjF n M) i j):=fun i j hi hj=>(adjF_bd (by omega) bA1 i j hi hj).mono (by omega)
 have v1:=dual_val h0
 have bD2:Bd 464 (det n (adjF n M)):=by rw [← detB_det]; exact (detB_bd (by decide) bA1).mono (Nat.le_trans (Nb_le' 28 hn4) (by decide))
 refine gg ?_
 have hr:=(hO.ext hK3).read bM hn0 hn0
 refine gg ?_
 refine R1_call2 (gdualR_ok _ n 5 28 _ M w_11 hr (by decide) (by decide) bA1 hn0) ?_
 rintro _ w_12 ⟨hE_,a3,m3,c3,x3,y3,rfl,hcv3,hM3⟩
 replace hX1:=hX1.ext hE_
 replace hcv1:=hcv1.ext hE_
 replace hD:=hD.ext hE_
 replace hcv2:=hcv2.ext hE_
 replace hE:=hE.ext hE_
 replace hK3:=hK3.trans hE_
 replace hX:=hX.trans hE_
 clear hE_
 have hK4:Ext w_12 w_12:=Ext.refl _
 rw [h0,if_pos rfl] at hcv3 hM3
 rw [h0]
 refine gg ?_
 refine gg ?_
 refine R1_alloc (.inl rfl) z_Int ?_
 intro w_13 hB0_ hE_ hs_
 have hF:=Bx.zero (N:=1) true hB0_
 obtain ⟨gF,hg_⟩ : ∃ g,g = w_12.heap.size:=⟨_,rfl⟩
 rw [← hg_] at hF ⊢
 have hfr_gF:w.heap.size≤gF:=by have:=hX.size; omega
 have hfr_hK3_gF:w_11.heap.size≤gF:=by have:=hK3.size; omega
 have hfr_hK4_gF:w_12.heap.size≤gF:=by have:=hK4.size; omega
 have hne_gF_gX:gF ≠ gX:=by have:=hX1.lt; omega
 have hne_gF_gD:gF ≠ gD:=by have:=hD.lt; omega
 have hne_gF_gE:gF ≠ gE:=by have:=hE.lt; omega
 replace hX1:=hX1.ext hE_
 replace hcv1:=hcv1.ext hE_
 replace hD:=hD.ext hE_
 replace hcv2:=hcv2.ext hE_
 replace hE:=hE.ext hE_
 replace hK3:=hK3.trans hE_
 replace hcv3:=hcv3.ext hE_
 replace hK4:=hK4.trans hE_
 replace hX:=hX.trans hE_
 clear hB0_ hs_ hg_ hE_
 refine gg ?_
 refine gg ?_
 refine R1_storeBx (by first | exact .inl rfl | exact .inr ⟨rfl,fun _ h=>h.mono fun b _ e=>by omega⟩) rfl rfl hF (hcv3.ev true bDM) ?_
 intro w_14 hF hC_ hk_ hs_
 replace hX1:=hX1.ch hC_ (by omega)
 replace hcv1:=hcv1.kp hk_
 replace hD:=hD.kp hk_ hC_ (by first | omega | assumption)
 replace hcv2:=hcv2.kp hk_
 replace hE:=hE.kp hk_ hC_ (by first | omega | assumption)
 replace hK3:=hC_.ext_of hK3 (fun b hb=>by omega)
 replace hcv3:=hcv3.kp hk_
 replace hK4:=hC_.ext_of hK4 (fun b hb=>by omega)
 replace hX:=hC_.ext_of hX (fun b hb=>by omega)
 clear hC_ hk_ hs_
 refine gg ?_
 have hr:=(hM3.extC hK4).ei
 refine gg ?_
 refine R1_call2 (gdualR_ok _ n 28 94 _ _ w_14 hr (by decide) (by decide) bA2 hn0) ?_
 rintro _ w_15 ⟨hE_,a4,m4,c4,x4,y4,rfl,hcv4,hM4⟩
 replace hX1:=hX1.ext hE_
 replace hcv1:=hcv1.ext hE_
 replace hD:=hD.ext hE_
 replace hcv2:=hcv2.ext hE_
 replace hE:=hE.ext hE_
 replace hK3:=hK3.trans hE_
 replace hcv3:=hcv3.ext hE_
 replace hK4:=hK4.trans hE_
 replace hF:=hF.ext hE_
 replace hX:=hX.trans hE_
 clear hE_
 have hK5:Ext w_15 w_15:=Ext.refl _
 rw [v1,if_pos rfl] at hcv4 hM4
 rw [v1]
 refine gg ?_
 refine gg ?_
 refine R1_alloc (.inl rfl) z_Int ?_
 intro w_16 hB0_ hE_ hs_
 have hG:=Bx.zero (N:=1) true hB0_
 obtain ⟨gG,hg_⟩ : ∃ g,g = w_15.heap.size:=⟨_,rfl⟩
 rw [← hg_] at hG ⊢
 have hfr_gG:w.heap.size≤gG:=by have:=hX.size; omega
 have hfr_hK3_gG:w_11.heap.size≤gG:=by have:=hK3.size; omega
 have hfr_hK4_gG:w_12.heap.size≤gG:=by have:=hK4.size; omega
 have hfr_hK5_gG:w_15.heap.size≤gG:=by have:=hK5.size; omega
 have hne_gG_gX:gG ≠ gX:=by have:=hX1.lt; omega
 have hne_gG_gD:gG ≠ gD:=by have:=hD.lt; omega
 have hne_gG_gE:gG ≠ gE:=by have:=hE.lt; omega
 have hne_gG_gF:gG ≠ gF:=by have:=hF.lt; omega
 replace hX1:=hX1.ext hE_
 replace hcv1:=hcv1.ext hE_
 replace hD:=hD.ext hE_
 replace hcv2:=hcv2.ext hE_
 replace hE:=hE.ext hE_
 replace hK3:=hK3.trans hE_
 replace hcv3:=hcv3.ext hE_
 replace hK4:=hK4.trans hE_
 replace hF:=hF.ext hE_
 replace hcv4:=hcv4.ext hE_
 replace hK5:=hK5.trans hE_
 replace hX:=hX.trans hE_
 clear hB0_ hs_ hg_ hE_
 refine gg ?_
 refine gg ?_
 refine R1_storeBx (by first | exact .inl rfl | exact .inr ⟨rfl,fun _ h=>h.mono fun b _ e=>by omega⟩) rfl rfl hG (hcv4.ev true bD2) ?_
 intro w_17 hG hC_ hk_ hs_
 replace hX1:=hX1.ch hC_ (by omega)
 replace hcv1:=hcv1.kp hk_
 replace hD:=hD.kp hk_ hC_ (by first | omega | assumption)
 replace hcv2:=hcv2.kp hk_
 replace hE:=hE.kp hk_ hC_ (by first | omega | assumption)
 replace hK3:=hC_.ext_of hK3 (fun b hb=>by omega)
 replace hcv3:=hcv3.kp hk_
 replace hK4:=hC_.ext_of hK4 (fun b hb=>by omega)
 replace hF:=hF.kp hk_ hC_ (by first | omega | assumption)
 replace hcv4:=hcv4.kp hk_
 replace hK5:=hC_.ext_of hK5 (fun b hb=>by omega)
 replace hX:=hC_.ext_of hX (fun b hb=>by omega)
 clear hC_ hk_ hs_
 refine gg ?_
 refine W_seq ?_
 refine gg ?_
 by_cases h2:n < 2
 · refine gg ?_
   refine gg ?_
   refine R1_call2 (awake7_ok w_17 (hm.ext hX)) ?_
   rintro _ w_18 ⟨hE_,rfl⟩
   replace hX1:=hX1.ext hE_
   replace hcv1:=hcv1.ext hE_
   replace hD:=hD.ext hE_
   replace hcv2:=hcv2.ext hE_
   replace hE:=hE.ext hE_
   replace hK3:=hK3.trans hE_
   replace hcv3:=hcv3.ext hE_
   replace hK4:=hK4.trans hE_
   replace hF:=hF.ext hE_
   replace hcv4:=hcv4.ext hE_
   replace hK5:=hK5.trans hE_
   replace hG:=hG.ext hE_
   replace hX:=hX.trans hE_
   clear hE_
   refine gg ?_
   exact ret1 (v:=.bool _) rfl rfl ⟨hX,rfl⟩
 refine gg ?_
 have h2':2≤n:=by omega
 obtain ⟨hF_u,hF_v,hF_B,hF_V⟩:=id hF
 obtain ⟨hF_0,hF_1⟩:=blkP hF_B
 refine gg ?_
 have hsz:=hX.size
 have b1:Bd 5 (det n M):=bDM.mono (by decide)
 refine gg ?_
 refine R1_call2 (rpow_ok _ _ _ 1 (n - 2) w_17 hF_V.1 (by omega) (by decide)) ?_
 rintro _ w_19 ⟨hE_,px,py,rfl,hcp⟩
 replace hX1:=hX1.ext hE_
 replace hcv1:=hcv1.ext hE_
 replace hD:=hD.ext hE_
 replace hcv2:=hcv2.ext hE_
 replace hE:=hE.ext hE_
 replace hK3:=hK3.trans hE_
 replace hcv3:=hcv3.ext hE_
 replace hK4:=hK4.trans hE_
 replace hF:=hF.ext hE_
 replace hcv4:=hcv4.ext hE_
 replace hK5:=hK5.trans hE_
 replace hG:=hG.ext hE_
 replace hX:=hX.trans hE_
 clear hE_
 have bP:Bd 5 (det n M ^ (n - 2)):=by
  rcases (show n - 2 = 0 ∨ n - 2 = 1 ∨ n - 2 = 2 by omega) with e' | e' | e' <;> rw [e']
  · rw [Int.pow_zero]; unfold Bd; decide
  · rw [Int.pow_succ,Int.pow_zero,Int.one_mul]; exact b1
  · rw [Int.pow_succ,Int.pow_succ,Int.pow_zero,Int.one_mul]; exact (bDM.mul bDM).mono (by decide)
 refine gg ?_
 refine gg ?_
 refine R1_alloc (.inl rfl) z_Int ?_
 intro w_20 hB0_ hE_ hs_
 have hP:=Bx.zero (N:=1) true hB0_
 obtain ⟨gP,hg_⟩ : ∃ g,g = w_19.heap.size:=⟨_,rfl⟩
 rw [← hg_] at hP ⊢
 have hfr_gP:w.heap.size≤gP:=by have:=hX.size; omega
 have hfr_hK3_gP:w_11.heap.size≤gP:=by have:=hK3.size; omega
 have hfr_hK4_gP:w_12.heap.size≤gP:=by have:=hK4.size; omega
 have hfr_hK5_gP:w_15.heap.size≤gP:=by have:=hK5.size; omega
 have hne_gP_gX:gP ≠ gX:=by have:=hX1.lt; omega
 have hne_gP_gD:gP ≠ gD:=by have:=hD.lt; omega
 have hne_gP_gE:gP ≠ gE:=by have:=hE.lt; omega
 have hne_gP_gF:gP ≠ gF:=by have:=hF.lt; omega
 have hne_gP_gG:gP ≠ gG:=by have:=hG.lt; omega
 replace hX1:=hX1.ext hE_
 replace hcv1:=hcv1.ext hE_
 replace hD:=hD.ext hE_
 replace hcv2:=hcv2.ext hE_
 replace hE:=hE.ext hE_
 replace hK3:=hK3.trans hE_
 replace hcv3:=hcv3.ext hE_
 replace hK4:=hK4.trans hE_
 replace hF:=hF.ext hE_
 replace hcv4:=hcv4.ext hE_
 replace hK5:=hK5.trans hE_
 replace hG:=hG.ext hE_
 replace hcp:=hcp.ext hE_
 replace hX:=hX.trans hE_
 clear hB0_ hs_ hg_ hE_
 refine gg ?_
 refine gg ?_
 refine R1_storeBx (by first | exact .inl rfl | exact .inr ⟨rfl,fun _ h=>h.mono fun b _ e=>by omega⟩) rfl rfl hP (hcp.ev true bP) ?_
 intro w_21 hP hC_ hk_ hs_
 replace hX1:=hX1.ch hC_ (by omega)
 replace hcv1:=hcv1.kp hk_
 replace hD:=hD.kp hk_ hC_ (by first | omega | assumption)
 replace hcv2:=hcv2.kp hk_
 replace hE:=hE.kp hk_ hC_ (by first | omega | assumption)
 replace hK3:=hC_.ext_of hK3 (fun b hb=>by omega)
 replace hcv3:=hcv3.kp hk_
 replace hK4:=hC_.ext_of hK4 (fun b hb=>by omega)
 replace hF:=hF.kp hk_ hC_ (by first | omega | assumption)
 replace hcv4:=hcv4.kp hk_
 replace hK5:=hC_.ext_of hK5 (fun b hb=>by omega)
 replace hG:=hG.kp hk_ hC_ (by first | omega | assumption)
 replace hcp:=hcp.kp hk_
 replace hX:=hC_.ext_of hX (fun b hb=>by omega)
 clear hC_ hk_ hs_
 refine gg ?_
 obtain ⟨hP_u,hP_v,hP_B,hP_V⟩:=id hP
 obtain ⟨hP_0,hP_1⟩:=blkP hP_B
 refine gg ?_
 refine gg ?_
 refine R1_call2 (rtimes_ok _ _ _ _ n n 5 M w_21 hP_V.1 ((hO.ext hK3).read bM hn0 hn0) (by omega) hn1 (by omega) (by decide)) ?_
 rintro _ w_22 ⟨hE_,gT,gsT,cpT,rfl,_,_,_,hGT⟩
 replace hX1:=hX1.ext hE_
 replace hcv1:=hcv1.ext hE_
 replace hD:=hD.ext hE_
 replace hcv2:=hcv2.ext hE_
 replace hE:=hE.ext hE_
 replace hK3:=hK3.trans hE_
 replace hcv3:=hcv3.ext hE_
 replace hK4:=hK4.trans hE_
 replace hF:=hF.ext hE_
 replace hcv4:=hcv4.ext hE_
 replace hK5:=hK5.trans hE_
 replace hG:=hG.ext hE_
 replace hcp:=hcp.ext hE_
 replace hP:=hP.ext hE_
 replace hX:=hX.trans hE_
 clear hE_
 refine gg ?_
 have hT:=(hGT.readC hn0).monoC (show 5 + 5≤94 by decide)
 refine gg ?_
 refine R1_call2 (rsameM_ok _ _ _ _ 94 _ _ _ _ w_22 (hM4.extC hK5) hT (by decide)) ?_
 rintro _ w_23 ⟨hE_,b,rfl,hb⟩
 replace hX1:=hX1.ext hE_
 replace hcv1:=hcv1.ext hE_
 replace hD:=hD.ext hE_
 replace hcv2:=hcv2.ext hE_
 replace hE:=hE.ext hE_
 replace hK3:=hK3.trans hE_
 replace hcv3:=hcv3.ext hE_
 replace hK4:=hK4.trans hE_
 replace hF:=hF.ext hE_
 replace hcv4:=hcv4.ext hE_
 replace hK5:=hK5.trans hE_
 replace hG:=hG.ext hE_
 replace hcp:=hcp.ext hE_
 replace hP:=hP.ext hE_
 replace hX:=hX.trans hE_
 clear hE_
 obtain rfl:b = true:=hb.2 ⟨rfl,fun i hi=>⟨rfl,fun j hj=>dual_dual h0 h2' i j hi hj⟩⟩
 refine gg ?_
 refine gg ?_
 refine R1_call2 (awake7_ok w_23 (hm.ext hX)) ?_
 rintro _ w_24 ⟨hE_,rfl⟩
 replace hX1:=hX1.ext hE_
 replace hcv1:=hcv1.ext hE_
 replace hD:=hD.ext hE_
 replace hcv2:=hcv2.ext hE_
 replace hE:=hE.ext hE_
 replace hK3:=hK3.trans hE_
 replace hcv3:=hcv3.ext hE_
 replace hK4:=hK4.trans hE_
 replace hF:=hF.ext hE_
 replace hcv4:=hcv4.ext hE_
 replace hK5:=hK5.trans hE_
 replace hG:=hG.ext hE_
 replace hcp:=hcp.ext hE_
 replace hP:=hP.ext hE_
 replace hX:=hX.trans hE_
 clear hE_
 refine gg ?_
 exact ret1 (v:=.bool _) rfl rfl ⟨hX,rfl⟩
end Go.Proofs.YtncbjgblcofddaaGreatDoor
