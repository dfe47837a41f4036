/- Joined: Llh, Lli, Llj. -/
import Derived.Test.YtmkbpjoihdfpkaaGreatQnc
/- lll: subtractNearest. -/
namespace Go.Proofs.YtmkbpjoihdfpkaaGreat
open Go Go.Eng Go.Num Go.Proofs
open Go.Det (nearZ)
set_option maxHeartbeats 32000000 in
theorem subtractNearest_ok (I:Ids) (n N i j gS:Nat) (d:Nat→Int) (l T:Nat→Nat→Int) (w:World) (hS:StB w I n N d l T) (hI:I.ok n) (hgS:I.gS = gS) (hi:i < n) (hj:j < i) (hn:n≤8) (hN:N < 10000000) (hd:0 < d (j + 1))
 (hbT:¬ (2 * l i j≤d (j + 1)∧-(2 * l i j)≤d (j + 1))→∀ c,c < n→Bd N (T i c - nearZ (l i j) (d (j + 1)) * T j c))
 (hbL:¬ (2 * l i j≤d (j + 1)∧-(2 * l i j)≤d (j + 1))→∀ c,c < i→Bd N (subLam d l (nearZ (l i j) (d (j + 1))) i j i c)) :
 Meets Tryz.prog 101 #[.pointer (some ⟨gS,0,none⟩),.int .i64 ((i:Nat):Int),.int .i64 ((j:Nat):Int)] w fun v w'=>v = .tuple #[]∧Ch (StMod I n) w w'∧Kp w w' ∧
  (if 2 * l i j≤d (j + 1)∧-(2 * l i j)≤d (j + 1) then StB w' I n N d l T else StB w' I n N d (subLam d l (nearZ (l i j) (d (j + 1))) i j) (subRow T (nearZ (l i j) (d (j + 1))) i j)):=by
 refine fn_W (n:=137) Tryz.func101 rfl rfl (by kernel_rfl) (by simp) ?_
 subst hgS
 have hltS:∀ b,StBlk I n b→b < w.heap.size:=fun b hb=>hS.blk hb
 have hX:Ext w w:=Ext.refl w
 refine gh ?_
 refine W_seqGN [(0,3),(1,3),(2,3),(3,0),(4,3),(5,3),(6,0),(7,3),(8,3),(9,0),(10,3),(11,3),(12,3),(13,0),(14,3),(15,3),(16,3),(17,0)] [(18,[],[]),(19,[],[])] [(20,1),(21,2)] mixed (by kernel_rfl) (fun w_1 hE_ _=>?_)
 replace hS:=hS.ext hE_
 replace hX:=hX.trans hE_
 clear hE_
 have e0:=hS.c0
 have e1:=hS.c1
 have e2:=hS.lrow hi
 obtain ⟨x0,y0,p0,p0',v0⟩:=(hS.la i hi).at hj
 obtain ⟨x1,y1,p1,p1',v1⟩:=hS.mi.at (j:=j + 1) (by omega)
 refine gh ?_
 refine Rg_floatN [] [fA 18 6 47 (.agg #[.bool false,.slice none 0 0]),fA 19 7 47 (.agg #[.bool false,.slice none 0 0])] [6,7] (by kernel_rfl) (by kernel_rfl) (fun a ha f' w' _ _=>by
  rcases List.mem_cons.1 ha with rfl | ha
  · exact flt_alloc z_Int rfl f' w'
  · skip
    rcases List.mem_singleton.1 ha with rfl
    exact flt_alloc z_Int rfl f' w') ?_
 have hszq:=hX.size
 clear e0 e1 e2 p0 p0' p1 p1'
 refine Rc_nil (fun w_2 hE_ bs hbs hdis=>?_)
 replace hS:=hS.ext hE_
 replace v0:=v0.ext hE_
 replace v1:=v1.ext hE_
 replace hX:=hX.trans hE_
 clear hE_
 obtain ⟨hge_g6,hB_g6⟩:=hbs _ List.mem_cons_self
 have hge_g6:w_1.heap.size≤bs 6:=hge_g6
 have h6:Bx w_2 (bs 6) 1 true 0:=Bx.zero true hB_g6
 obtain ⟨hge_g7,hB_g7⟩:=hbs _ (List.mem_cons_of_mem _ List.mem_cons_self)
 have hge_g7:w_1.heap.size≤bs 7:=hge_g7
 have h7:Bx w_2 (bs 7) 1 true 0:=Bx.zero true hB_g7
 have hne_g7_g6:bs 7 ≠ bs 6:=hdis _ _ (List.mem_cons_of_mem _ List.mem_cons_self) List.mem_cons_self (show (7:Nat) ≠ 6 by decide)
 show Ro _ _ _ _ _ _ (upd (upd _ 7 (.pointer (some ⟨bs 7,0,none⟩))) 6 (.pointer (some ⟨bs 6,0,none⟩))) _
 generalize bs 6 = g6 at *
 generalize bs 7 = g7 at *
 have hfr_g6:w.heap.size≤g6:=by omega
 have hfr_g7:w.heap.size≤g7:=by omega
 clear hbs hdis hszq hB_g6 hB_g7
 refine gh ?_
 refine R1_storeBx (by first | exact .inl rfl | exact .inr ⟨rfl,fun _ h=>h.mono fun b _ e=>by omega⟩) rfl rfl h6 (v0) ?_
 intro w_3 h6 hC_ hk_ hs_
 replace hS:=hS.kp hk_ hC_ (fun b hb h=>by have:=hltS b h; omega)
 replace v0:=v0.kp hk_
 replace v1:=v1.kp hk_
 replace h7:=h7.kp hk_ hC_ (by first | omega | assumption)
 replace hX:=hC_.ext_of hX (fun b hb=>by omega)
 clear hC_ hk_ hs_
 refine gh ?_
 refine R1_storeBx (by first | exact .inl rfl | exact .inr ⟨rfl,fun _ h=>h.mono fun b _ e=>by omega⟩) rfl rfl h7 (v1) ?_
 intro w_4 h7 hC_ hk_ hs_
 replace hS:=hS.kp hk_ hC_ (fun b hb h=>by have:=hltS b h; omega)
 replace v0:=v0.kp hk_
 replace v1:=v1.kp hk_
 replace h6:=h6.kp hk_ hC_ (by first | omega | assumption)
 replace hX:=hC_.ext_of hX (fun b hb=>by omega)
 clear hC_ hk_ hs_
 have bl:Bd N (l i j):=v0.bd
 have bd1:Bd N (d (j + 1)):=v1.bd
 clear v0 v1
 obtain ⟨h6_u,h6_v,h6_B,h6_V⟩:=id h6
 obtain ⟨h6_0,h6_1⟩:=blkP h6_B
 obtain ⟨h7_u,h7_v,h7_B,h7_V⟩:=id h7
 obtain ⟨h7_0,h7_1⟩:=blkP h7_B
 refine gh ?_
 refine R1_call2 (add_ok _ _ _ _ _ _ N w_4 h6_V.1 h6_V.1 (by omega)) ?_
 rintro _ w_5 ⟨hE_,a0,a1,rfl,hc1⟩
 replace hS:=hS.ext hE_
 replace h6:=h6.ext hE_
 replace h7:=h7.ext hE_
 replace hX:=hX.trans hE_
 clear hE_
 clear h6_0 h6_1 h7_0 h7_1
 refine gh ?_
 refine R1_alloc (.inl rfl) z_Int ?_
 intro w_6 hB0_ hE_ hs_
 have h8:=Bx.zero (N:=1) true hB0_
 obtain ⟨g8,hg_⟩ : ∃ g,g = w_5.heap.size:=⟨_,rfl⟩
 rw [← hg_] at h8 ⊢
 have hfr_g8:w.heap.size≤g8:=by have:=hX.size; omega
 have hne_g8_g6:g8 ≠ g6:=by have:=h6.lt; omega
 have hne_g8_g7:g8 ≠ g7:=by have:=h7.lt; omega
 replace hS:=hS.ext hE_
 replace h6:=h6.ext hE_
 replace h7:=h7.ext hE_
 replace hc1:=hc1.ext hE_
 replace hX:=hX.trans hE_
 clear hB0_ hs_ hg_ hE_
 refine gh ?_
 refine R1_storeBx (by first | exact .inl rfl | exact .inr ⟨rfl,fun _ h=>h.mono fun b _ e=>by omega⟩) rfl rfl h8 (hc1.ev true (bl.add bl)) ?_
 intro w_7 h8 hC_ hk_ hs_
 replace hS:=hS.kp hk_ hC_ (fun b hb h=>by have:=hltS b h; omega)
 replace h6:=h6.kp hk_ hC_ (by first | omega | assumption)
 replace h7:=h7.kp hk_ hC_ (by first | omega | assumption)
 replace hc1:=hc1.kp hk_
 replace hX:=hC_.ext_of hX (fun b hb=>by omega)
 clear hC_ hk_ hs_
 refine gh ?_
 obtain ⟨q,hq⟩ : ∃ q,q = nearZ (l i j) (d (j + 1)):=⟨_,rfl⟩
 rw [← hq] at hbT hbL ⊢
 refine W_seqM (fun f w'=>¬ (2 * l i j≤d (j + 1)∧-(2 * l i j)≤d (j + 1))∧f 0 = .pointer (some ⟨I.gS,0,none⟩)∧f 1 = .int .i64 ((i:Nat):Int)∧f 2 = .int .i64 ((j:Nat):Int)∧f 6 = .pointer (some ⟨g6,0,none⟩)∧f 7 = .pointer (some ⟨g7,0,none⟩)∧Ext w w'∧StB w' I n N d l T∧Bx w' g6 N true (l i j)∧Bx w' g7 N true (d (j + 1))) ?_ ?_
 · refine gh ?_
   refine W_seqD [(0,0),(1,0),(2,2),(3,3),(4,3),(5,0),(7,0),(6,1),(8,1),(9,3),(10,3)] mixed (by kernel_rfl) (fun w_8 hE_ _=>?_)
   replace hS:=hS.ext hE_
   replace h6:=h6.ext hE_
   replace h7:=h7.ext hE_
   replace h8:=h8.ext hE_
   replace hX:=hX.trans hE_
   clear hE_
   obtain ⟨h7_u,h7_v,h7_B,h7_V⟩:=id h7
   obtain ⟨h7_0,h7_1⟩:=blkP h7_B
   obtain ⟨h8_u,h8_v,h8_B,h8_V⟩:=id h8
   obtain ⟨h8_0,h8_1⟩:=blkP h8_B
   refine gh ?_
   refine R1_call2 (cmp_ok _ _ _ _ _ _ (N + 1) w_8 h8_V.1 (h7_V.1.mono (by omega)) (by omega)) ?_
   rintro _ w_9 ⟨hE_,rfl⟩
   replace hS:=hS.ext hE_
   replace h6:=h6.ext hE_
   replace h7:=h7.ext hE_
   replace h8:=h8.ext hE_
   replace hX:=hX.trans hE_
   clear hE_
   clear h7_0 h7_1 h8_0 h8_1
   by_cases k1:cmpI (l i j + l i j) (d (j + 1))≤0
   rotate_left
   · refine gh ?_
     exact ⟨fun h=>k1 (cmpI_le.2 (by omega)),rfl,rfl,rfl,rfl,rfl,hX,hS,h6,h7⟩
   obtain ⟨h7_u,h7_v,h7_B,h7_V⟩:=id h7
   obtain ⟨h7_0,h7_1⟩:=blkP h7_B
   obtain ⟨h8_u,h8_v,h8_B,h8_V⟩:=id h8
   obtain ⟨h8_0,h8_1⟩:=blkP h8_B
   have w7:=h7_V.1
   have w8:=h8_V.1
   refine gh ?_
   refine R1_call1 (neg_ok _ _ _ (N + 1) w_9 w8 (by omega)) ?_
   rintro _ w_10 ⟨hE_,a2,a3,rfl,hcn⟩
   refine ⟨hE_,?_⟩
   replace hS:=hS.ext hE_
   replace h6:=h6.ext hE_
   replace h7:=h7.ext hE_
   replace h8:=h8.ext hE_
   replace w7:=w7.ext hE_
   replace w8:=w8.ext hE_
   replace hX:=hX.trans hE_
   clear hE_
   clear h7_0 h7_1 h8_0 h8_1
   refine gh ?_
   refine R1_call1 (cmp_ok _ _ _ _ _ _ (N + 1) w_10 (hcn.iv (bl.add bl).neg') (w7.mono (by omega)) (by omega)) ?_
   rintro _ w_11 ⟨hE_,rfl⟩
   refine ⟨hE_,?_⟩
   replace hS:=hS.ext hE_
   replace h6:=h6.ext hE_
   replace h7:=h7.ext hE_
   replace h8:=h8.ext hE_
   replace w7:=w7.ext hE_
   replace w8:=w8.ext hE_
   replace hcn:=hcn.ext hE_
   replace hX:=hX.trans hE_
   clear hE_
   by_cases k2:cmpI (-(l i j + l i j)) (d (j + 1))≤0
   · refine gh ?_
     refine ret0R rfl ⟨rfl,hX.mono fun _ _ h=>h.elim,kp_ext hX,?_⟩
     rw [if_pos ⟨by have:=cmpI_le.1 k1; omega,by have:=cmpI_le.1 k2; omega⟩]
     exact hS
   · refine gh ?_
     exact ⟨fun h=>k2 (cmpI_le.2 (by omega)),rfl,rfl,rfl,rfl,rfl,hX,hS,h6,h7⟩
 clear hX hS h6 h7 h8
 rintro f w1 ⟨hnz,hf0,hf1,hf2,hf6,hf7,hX,hS,h6,h7⟩
 rw [ui hf0,ui hf1,ui hf2,ui hf6,ui hf7]
 clear hf0 hf1 hf2 hf6 hf7
 replace hbT:=hbT hnz
 replace hbL:=hbL hnz
 have hij:∀ c,c < n→Bd N (T j c):=fun c hc=>by
  obtain ⟨_,_,_,_,hv⟩:=(hS.ba.row j (by omega)).at hc
  exact hv.bd
 have hljc:∀ c,c < j→Bd N (l j c):=fun c hc=>by
  obtain ⟨_,_,_,_,hv⟩:=(hS.la j (by omega)).at hc
  exact hv.bd
 have hX:Ext w w1:=hX
 obtain ⟨h6_u,h6_v,h6_B,h6_V⟩:=id h6
 obtain ⟨h6_0,h6_1⟩:=blkP h6_B
 obtain ⟨h7_u,h7_v,h7_B,h7_V⟩:=id h7
 obtain ⟨h7_0,h7_1⟩:=blkP h7_B
 refine gh ?_
 refine R1_call2 (nearest_ok _ _ _ _ _ _ N w1 h6_V.1 h7_V.1 (by omega) hd) ?_
 rintro _ w_12 ⟨hE_,a4,a5,rfl,hcq⟩
 replace hS:=hS.ext hE_
 replace h6:=h6.ext hE_
 replace h7:=h7.ext hE_
 replace hX:=hX.trans hE_
 clear hE_
 clear h6_0 h6_1 h7_0 h7_1
 have bq:Bd (N + 1) q:=by rw [hq]; exact nearZ_bd bl hd
 rw [← hq] at hcq
 refine gh ?_
 refine R1_alloc (.inl rfl) z_Int ?_
 intro w_13 hB0_ hE_ hs_
 have h9:=Bx.zero (N:=1) true hB0_
 obtain ⟨g9,hg_⟩ : ∃ g,g = w_12.heap.size:=⟨_,rfl⟩
 rw [← hg_] at h9 ⊢
 have hfr_g9:w.heap.size≤g9:=by have:=hX.size; omega
 have hne_g9_g6:g9 ≠ g6:=by have:=h6.lt; omega
 have hne_g9_g7:g9 ≠ g7:=by have:=h7.lt; omega
 replace hS:=hS.ext hE_
 replace h6:=h6.ext hE_
 replace h7:=h7.ext hE_
 replace hcq:=hcq.ext hE_
 replace hX:=hX.trans hE_
 clear hB0_ hs_ hg_ hE_
 refine gh ?_
 refine R1_storeBx (by first | exact .inl rfl | exact .inr ⟨rfl,fun _ h=>h.mono fun b _ e=>by omega⟩) rfl rfl h9 (hcq.ev true bq) ?_
 intro w_14 h9 hC_ hk_ hs_
 replace hS:=hS.kp hk_ hC_ (fun b hb h=>by have:=hltS b h; omega)
 replace h6:=h6.kp hk_ hC_ (by first | omega | assumption)
 replace h7:=h7.kp hk_ hC_ (by first | omega | assumption)
 replace hcq:=hcq.kp hk_
 replace hX:=hC_.ext_of hX (fun b hb=>by omega)
 clear hC_ hk_ hs_
 have hn6:¬ StMod I n g6:=fun h=>by have:=hltS _ h.blk; omega
 have hn7:¬ StMod I n g7:=fun h=>by have:=hltS _ h.blk; omega
 have hn9:¬ StMod I n g9:=fun h=>by have:=hltS _ h.blk; omega
 have hM:Ch (StMod I n) w w_14:=hX.mono fun _ _ h=>h.elim
 have hK:Kp w w_14:=kp_ext hX
 clear hcq hq
 refine gh ?_
 refine W_seqM (fun f w'=>f 0 = .pointer (some ⟨I.gS,0,none⟩)∧f 1 = .int .i64 ((i:Nat):Int)∧f 2 = .int .i64 ((j:Nat):Int)∧f 6 = .pointer (some ⟨g6,0,none⟩)∧f 7 = .pointer (some ⟨g7,0,none⟩)∧f 9 = .pointer (some ⟨g9,0,none⟩)∧Ch (StMod I n) w w'∧Kp w w'∧StB w' I n N d l (subRow T q i j)∧Bx w' g6 N true (l i j)∧Bx w' g7 N true (d (j + 1))∧Bx w' g9 (N + 1) true q) ?_ ?_
 · have e2:=hS.c2
   have e3:=hS.ba.at (show j < n by omega)
   refine gh ?_
   refine W_loop (fun m f w'=>∃ c,m = n - c∧c≤n∧f 0 = .pointer (some ⟨I.gS,0,none⟩)∧f 1 = .int .i64 ((i:Nat):Int)∧f 2 = .int .i64 ((j:Nat):Int)∧f 6 = .pointer (some ⟨g6,0,none⟩)∧f 7 = .pointer (some ⟨g7,0,none⟩)∧f 9 = .pointer (some ⟨g9,0,none⟩)∧f 55 = .slice (some ⟨I.gb j,0,none⟩) n n∧f 56 = .int .i64 ((n:Nat):Int)∧f 57 = .int .i64 ((c:Nat):Int)∧Ch (StMod I n) w w'∧Kp w w'∧StB w' I n N d l (fun a b=>if a = i∧b < c then T i b - q * T j b else T a b)∧Bx w' g6 N true (l i j)∧Bx w' g7 N true (d (j + 1))∧Bx w' g9 (N + 1) true q)
    n ⟨0,rfl,Nat.zero_le _,rfl,rfl,rfl,rfl,rfl,rfl,rfl,rfl,rfl,hM,hK,hS.congr (Nat.le_refl _) (fun _ _=>rfl) (fun _ _ _ _=>rfl) (fun a b _ _=>by rw [if_neg (by omega)]),h6,h7,h9⟩ ?_
   clear hX hS h6 h7 h9 hM hK e2 e3
   rintro m f w2 ⟨c,rfl,hc,hf0,hf1,hf2,hf6,hf7,hf9,hf55,hf56,hf57,hM,hK,hS,h6,h7,h9⟩
   rw [ui hf0,ui hf1,ui hf2,ui hf6,ui hf7,ui hf9,ui hf55,ui hf56,ui hf57]
   clear hf0 hf1 hf2 hf6 hf7 hf9 hf55 hf56 hf57
   by_cases hcl:c < n
   rotate_left
   · refine gh ?_
     refine ⟨rfl,rfl,rfl,rfl,rfl,rfl,hM,hK,hS.congr (Nat.le_refl _) (fun _ _=>rfl) (fun _ _ _ _=>rfl) (fun a b _ hb=>?_),h6,h7,h9⟩
     unfold subRow
     by_cases e:a = i
     · rw [if_pos ⟨e,by omega⟩,if_pos e]
     · rw [if_neg (fun h=>e h.1),if_neg e]
   have hsz:=hM.size
   obtain ⟨x0,y0,p0,p0',v0⟩:=(hS.ba.row j (by omega)).at hcl
   rw [if_neg (by omega)] at v0
   have hX:Ext w2 w2:=Ext.refl w2
   refine gh ?_
   refine R1_alloc (.inl rfl) z_Int ?_
   intro w_15 hB0_ hE_ hs_
   have hE:=Bx.zero (N:=1) true hB0_
   obtain ⟨gE,hg_⟩ : ∃ g,g = w2.heap.size:=⟨_,rfl⟩
   rw [← hg_] at hE ⊢
   have hfr_gE:w2.heap.size≤gE:=by have:=hX.size; omega
   have hne_gE_g6:gE ≠ g6:=by have:=h6.lt; omega
   have hne_gE_g7:gE ≠ g7:=by have:=h7.lt; omega
   have hne_gE_g9:gE ≠ g9:=by have:=h9.lt; omega
   replace hS:=hS.ext hE_
   replace h6:=h6.ext hE_
   replace h7:=h7.ext hE_
   replace h9:=h9.ext hE_
   replace v0:=v0.ext hE_
   replace hX:=hX.trans hE_
   clear hB0_ hs_ hg_ hE_
   refine gh ?_
   refine R1_storeBx (by first | exact .inl rfl | exact .inr ⟨rfl,fun _ h=>h.mono fun b _ e=>by omega⟩) rfl rfl hE (v0) ?_
   intro w_16 hE hC_ hk_ hs_
   replace hS:=hS.kp hk_ hC_ (fun b hb h=>by have:=hltS b h; omega)
   replace h6:=h6.kp hk_ hC_ (by first | omega | assumption)
   replace h7:=h7.kp hk_ hC_ (by first | omega | assumption)
   replace h9:=h9.kp hk_ hC_ (by first | omega | assumption)
   replace v0:=v0.kp hk_
   replace hX:=hC_.ext_of hX (fun b hb=>by omega)
   clear hC_ hk_ hs_
   clear p0 p0'
   refine gh ?_
   refine W_regD [(0,3),(1,3),(2,3),(3,0),(4,3),(5,3),(6,0),(7,3),(8,3),(9,3),(10,3),(11,0),(12,3),(13,3),(14,0),(15,3),(16,3),(17,0),(18,0),(19,0),(20,1),(21,1),(22,3),(23,2)] mixed (by kernel_rfl) (fun w_17 hE_ _=>?_)
   replace hS:=hS.ext hE_
   replace h6:=h6.ext hE_
   replace h7:=h7.ext hE_
   replace h9:=h9.ext hE_
   replace hE:=hE.ext hE_
   replace hX:=hX.trans hE_
   clear hE_
   have e2:=hS.c2
   have e3:=hS.ba.at hi
   obtain ⟨x1,y1,p1,p1',v1⟩:=(hS.ba.row i hi).at hcl
   rw [if_neg (by omega)] at v1
   obtain ⟨h9_u,h9_v,h9_B,h9_V⟩:=id h9
   obtain ⟨h9_0,h9_1⟩:=blkP h9_B
   obtain ⟨hE_u,hE_v,hE_B,hE_V⟩:=id hE
   obtain ⟨hE_0,hE_1⟩:=blkP hE_B
   have w1':=v1.1
   have w9:=h9_V.1
   have wE:=hE_V.1
   refine gh ?_
   refine R1_call1 (mul_ok _ _ _ _ _ _ (N + 1) w_17 w9 (wE.mono (by omega)) (by omega)) ?_
   rintro _ w_18 ⟨hE_,a6,a7,rfl,hm⟩
   refine ⟨hE_,?_⟩
   replace hS:=hS.ext hE_
   replace h6:=h6.ext hE_
   replace h7:=h7.ext hE_
   replace h9:=h9.ext hE_
   replace hE:=hE.ext hE_
   replace w1':=w1'.ext hE_
   replace w9:=w9.ext hE_
   replace wE:=wE.ext hE_
   replace hX:=hX.trans hE_
   clear hE_
   clear e2 e3 p1 p1' h9_0 h9_1 hE_0 hE_1
   have bT:=IV.bd w1'
   refine gh ?_
   refine R1_call1 (sub_ok _ _ _ _ _ _ (N + 1 + N) w_18 (w1'.mono (by omega)) (hm.iv (bq.mul (hij c hcl))) (by omega)) ?_
   rintro _ w_19 ⟨hE_,a8,a9,rfl,hs⟩
   refine ⟨hE_,?_⟩
   replace hS:=hS.ext hE_
   replace h6:=h6.ext hE_
   replace h7:=h7.ext hE_
   replace h9:=h9.ext hE_
   replace hE:=hE.ext hE_
   replace w1':=w1'.ext hE_
   replace w9:=w9.ext hE_
   replace wE:=wE.ext hE_
   replace hm:=hm.ext hE_
   replace hX:=hX.trans hE_
   clear hE_
   refine gh ?_
   refine gh ?_
   refine R1_storeSB (.inl rfl) rfl rfl hS hI hi hcl (hs.ev true (hbT c hcl)) ?_
   intro w_20 hS hC_ hk_ hs_
   replace h6:=h6.kp hk_ hC_ (by first | omega | assumption)
   replace h7:=h7.kp hk_ hC_ (by first | omega | assumption)
   replace h9:=h9.kp hk_ hC_ (by first | omega | assumption)
   replace hM:=(hM.add hX).trans hC_
   replace hK:=(hK.trans (kp_ext hX)).trans hk_
   refine gh ?_
   refine ⟨_,?_,c + 1,rfl,hcl,rfl,rfl,rfl,rfl,rfl,rfl,rfl,rfl,rfl,hM,hK,hS.congr (Nat.le_refl _) (fun _ _=>rfl) (fun _ _ _ _=>rfl) (fun a b _ _=>?_),h6,h7,h9⟩
   · omega
   · simp only [set2]
     by_cases e:a = i∧b = c
     · rw [if_pos e,if_pos ⟨e.1,by omega⟩,e.2]
     · rw [if_neg e]
       by_cases h:a = i∧b < c
       · rw [if_pos h,if_pos ⟨h.1,by omega⟩]
       · rw [if_neg h,if_neg (by omega)]
 clear hX hS h6 h7 h9 hM hK
 rintro f w2 ⟨hf0,hf1,hf2,hf6,hf7,hf9,hM,hK,hS,h6,h7,h9⟩
 rw [ui hf0,ui hf1,ui hf2,ui hf6,ui hf7,ui hf9]
 clear hf0 hf1 hf2 hf6 hf7 hf9
 refine W_seqM (fun f w'=>f 0 = .pointer (some ⟨I.gS,0,none⟩)∧f 1 = .int .i64 ((i:Nat):Int)∧f 2 = .int .i64 ((j:Nat):Int)∧f 6 = .pointer (some ⟨g6,0,none⟩)∧f 7 = .pointer (some ⟨g7,0,none⟩)∧f 9 = .pointer (some ⟨g9,0,none⟩)∧Ch (StMod I n) w w'∧Kp w w'∧StB w' I n N d (fun a b=>if a = i∧b < j then l i b - q * l j b else l a b) (subRow T q i j)∧Bx w' g6 N true (l i j)∧Bx w' g7 N true (d (j + 1))∧Bx w' g9 (N + 1) true q) ?_ ?_
 · have e1:=hS.c1
   have e3:=hS.lrow (show j < n by omega)
   refine gh ?_
   refine W_loop (fun m f w'=>∃ c,m = j - c∧c≤j∧f 0 = .pointer (some ⟨I.gS,0,none⟩)∧f 1 = .int .i64 ((i:Nat):Int)∧f 2 = .int .i64 ((j:Nat):Int)∧f 6 = .pointer (some ⟨g6,0,none⟩)∧f 7 = .pointer (some ⟨g7,0,none⟩)∧f 9 = .pointer (some ⟨g9,0,none⟩)∧f 92 = .slice (some ⟨I.gl j,0,none⟩) j j∧f 93 = .int .i64 ((j:Nat):Int)∧f 94 = .int .i64 ((c:Nat):Int)∧Ch (StMod I n) w w'∧Kp w w'∧StB w' I n N d (fun a b=>if a = i∧b < c then l i b - q * l j b else l a b) (subRow T q i j)∧Bx w' g6 N true (l i j)∧Bx w' g7 N true (d (j + 1))∧Bx w' g9 (N + 1) true q)
    j ⟨0,rfl,Nat.zero_le _,rfl,rfl,rfl,rfl,rfl,rfl,rfl,rfl,rfl,hM,hK,hS.congr (Nat.le_refl _) (fun _ _=>rfl) (fun a b _ _=>by rw [if_neg (by omega)]) (fun _ _ _ _=>rfl),h6,h7,h9⟩ ?_
   clear hS h6 h7 h9 hM hK e1 e3
   rintro m f w3 ⟨c,rfl,hc,hf0,hf1,hf2,hf6,hf7,hf9,hf92,hf93,hf94,hM,hK,hS,h6,h7,h9⟩
   rw [ui hf0,ui hf1,ui hf2,ui hf6,ui hf7,ui hf9,ui hf92,ui hf93,ui hf94]
   clear hf0 hf1 hf2 hf6 hf7 hf9 hf92 hf93 hf94
   by_cases hcl:c < j
   rotate_left
   · obtain rfl:c = j:=by omega
     refine gh ?_
     exact ⟨rfl,rfl,rfl,rfl,rfl,rfl,hM,hK,hS,h6,h7,h9⟩
   have hsz:=hM.size
   obtain ⟨x0,y0,p0,p0',v0⟩:=(hS.la j (by omega)).at hcl
   rw [if_neg (by omega)] at v0
   have hX:Ext w3 w3:=Ext.refl w3
   refine gh ?_
   refine R1_alloc (.inl rfl) z_Int ?_
   intro w_21 hB0_ hE_ hs_
   have hE:=Bx.zero (N:=1) true hB0_
   obtain ⟨gE,hg_⟩ : ∃ g,g = w3.heap.size:=⟨_,rfl⟩
   rw [← hg_] at hE ⊢
   have hfr_gE:w3.heap.size≤gE:=by have:=hX.size; omega
   have hne_gE_g6:gE ≠ g6:=by have:=h6.lt; omega
   have hne_gE_g7:gE ≠ g7:=by have:=h7.lt; omega
   have hne_gE_g9:gE ≠ g9:=by have:=h9.lt; omega
   replace hS:=hS.ext hE_
   replace h6:=h6.ext hE_
   replace h7:=h7.ext hE_
   replace h9:=h9.ext hE_
   replace v0:=v0.ext hE_
   replace hX:=hX.trans hE_
   clear hB0_ hs_ hg_ hE_
   refine gh ?_
   refine R1_storeBx (by first | exact .inl rfl | exact .inr ⟨rfl,fun _ h=>h.mono fun b _ e=>by omega⟩) rfl rfl hE (v0) ?_
   intro w_22 hE hC_ hk_ hs_
   replace hS:=hS.kp hk_ hC_ (fun b hb h=>by have:=hltS b h; omega)
   replace h6:=h6.kp hk_ hC_ (by first | omega | assumption)
   replace h7:=h7.kp hk_ hC_ (by first | omega | assumption)
   replace h9:=h9.kp hk_ hC_ (by first | omega | assumption)
   replace v0:=v0.kp hk_
   replace hX:=hC_.ext_of hX (fun b hb=>by omega)
   clear hC_ hk_ hs_
   clear p0 p0'
   refine gh ?_
   refine W_regD [(0,3),(1,3),(2,3),(3,0),(4,3),(5,3),(6,0),(7,3),(8,3),(9,3),(10,3),(11,0),(12,3),(13,3),(14,0),(15,3),(16,3),(17,0),(18,0),(19,0),(20,1),(21,1),(22,3),(23,2)] mixed (by kernel_rfl) (fun w_23 hE_ _=>?_)
   replace hS:=hS.ext hE_
   replace h6:=h6.ext hE_
   replace h7:=h7.ext hE_
   replace h9:=h9.ext hE_
   replace hE:=hE.ext hE_
   replace hX:=hX.trans hE_
   clear hE_
   have e1:=hS.c1
   have e3:=hS.lrow hi
   obtain ⟨x1,y1,p1,p1',v1⟩:=(hS.la i hi).at (show c < i by omega)
   rw [if_neg (by omega)] at v1
   obtain ⟨h9_u,h9_v,h9_B,h9_V⟩:=id h9
   obtain ⟨h9_0,h9_1⟩:=blkP h9_B
   obtain ⟨hE_u,hE_v,hE_B,hE_V⟩:=id hE
   obtain ⟨hE_0,hE_1⟩:=blkP hE_B
   have w1':=v1.1
   have w9:=h9_V.1
   have wE:=hE_V.1
   refine gh ?_
   refine R1_call1 (mul_ok _ _ _ _ _ _ (N + 1) w_23 w9 (wE.mono (by omega)) (by omega)) ?_
   rintro _ w_24 ⟨hE_,a6,a7,rfl,hm⟩
   refine ⟨hE_,?_⟩
   replace hS:=hS.ext hE_
   replace h6:=h6.ext hE_
   replace h7:=h7.ext hE_
   replace h9:=h9.ext hE_
   replace hE:=hE.ext hE_
   replace w1':=w1'.ext hE_
   replace w9:=w9.ext hE_
   replace wE:=wE.ext hE_
   replace hX:=hX.trans hE_
   clear hE_
   clear e1 e3 p1 p1' h9_0 h9_1 hE_0 hE_1
   refine gh ?_
   refine R1_call1 (sub_ok _ _ _ _ _ _ (N + 1 + N) w_24 (w1'.mono (by omega)) (hm.iv (bq.mul (hljc c hcl))) (by omega)) ?_
   rintro _ w_25 ⟨hE_,a8,a9,rfl,hs⟩
   refine ⟨hE_,?_⟩
   replace hS:=hS.ext hE_
   replace h6:=h6.ext hE_
   replace h7:=h7.ext hE_
   replace h9:=h9.ext hE_
   replace hE:=hE.ext hE_
   replace w1':=w1'.ext hE_
   replace w9:=w9.ext hE_
   replace wE:=wE.ext hE_
   replace hm:=hm.ext hE_
   replace hX:=hX.trans hE_
   clear hE_
   have hb:=hbL c (by omega)
   unfold subLam at hb
   rw [if_pos rfl,if_pos hcl] at hb
   refine gh ?_
   refine gh ?_
   refine R1_storeSL (.inl rfl) rfl rfl hS hI hi (show c < i by omega) (hs.ev true hb) ?_
   intro w_26 hS hC_ hk_ hs_
   replace h6:=h6.kp hk_ hC_ (by first | omega | assumption)
   replace h7:=h7.kp hk_ hC_ (by first | omega | assumption)
   replace h9:=h9.kp hk_ hC_ (by first | omega | assumption)
   replace hM:=(hM.add hX).trans hC_
   replace hK:=(hK.trans (kp_ext hX)).trans hk_
   refine gh ?_
   refine ⟨_,?_,c + 1,rfl,hcl,rfl,rfl,rfl,rfl,rfl,rfl,rfl,rfl,rfl,hM,hK,hS.congr (Nat.le_refl _) (fun _ _=>rfl) (fun a b _ _=>?_) (fun _ _ _ _=>rfl),h6,h7,h9⟩
   · omega
   · simp only [set2]
     by_cases e:a = i∧b = c
     · rw [if_pos e,if_pos ⟨e.1,by omega⟩,e.2]
     · rw [if_neg e]
       by_cases h:a = i∧b < c
       · rw [if_pos h,if_pos ⟨h.1,by omega⟩]
       · rw [if_neg h,if_neg (by omega)]
 clear hS h6 h7 h9 hM hK
 rintro f w3 ⟨hf0,hf1,hf2,hf6,hf7,hf9,hM,hK,hS,h6,h7,h9⟩
 rw [ui hf0,ui hf1,ui hf2,ui hf6,ui hf7,ui hf9]
 clear hf0 hf1 hf2 hf6 hf7 hf9
 have hsz:=hM.size
 have hX:Ext w3 w3:=Ext.refl w3
 refine gh ?_
 refine W_regD [(0,3),(1,3),(2,3),(3,0),(4,3),(5,3),(6,0),(7,3),(8,0),(9,0),(10,0),(11,1),(12,1),(13,3),(14,2)] mixed (by kernel_rfl) (fun w_27 hE_ _=>?_)
 replace hS:=hS.ext hE_
 replace h6:=h6.ext hE_
 replace h7:=h7.ext hE_
 replace h9:=h9.ext hE_
 replace hX:=hX.trans hE_
 clear hE_
 have e1:=hS.c1
 have e3:=hS.lrow hi
 obtain ⟨h6_u,h6_v,h6_B,h6_V⟩:=id h6
 obtain ⟨h6_0,h6_1⟩:=blkP h6_B
 obtain ⟨h7_u,h7_v,h7_B,h7_V⟩:=id h7
 obtain ⟨h7_0,h7_1⟩:=blkP h7_B
 obtain ⟨h9_u,h9_v,h9_B,h9_V⟩:=id h9
 obtain ⟨h9_0,h9_1⟩:=blkP h9_B
 have w6:=h6_V.1
 have w7:=h7_V.1
 have w9:=h9_V.1
 refine gh ?_
 refine R1_call1 (mul_ok _ _ _ _ _ _ (N + 1) w_27 w9 (w7.mono (by omega)) (by omega)) ?_
 rintro _ w_28 ⟨hE_,a6,a7,rfl,hm⟩
 refine ⟨hE_,?_⟩
 replace hS:=hS.ext hE_
 replace h6:=h6.ext hE_
 replace h7:=h7.ext hE_
 replace h9:=h9.ext hE_
 replace w6:=w6.ext hE_
 replace w7:=w7.ext hE_
 replace w9:=w9.ext hE_
 replace hX:=hX.trans hE_
 clear hE_
 clear e1 e3 h6_0 h6_1 h7_0 h7_1 h9_0 h9_1
 refine gh ?_
 refine R1_call1 (sub_ok _ _ _ _ _ _ (N + 1 + N) w_28 (w6.mono (by omega)) (hm.iv (bq.mul bd1)) (by omega)) ?_
 rintro _ w_29 ⟨hE_,a8,a9,rfl,hs⟩
 refine ⟨hE_,?_⟩
 replace hS:=hS.ext hE_
 replace h6:=h6.ext hE_
 replace h7:=h7.ext hE_
 replace h9:=h9.ext hE_
 replace w6:=w6.ext hE_
 replace w7:=w7.ext hE_
 replace w9:=w9.ext hE_
 replace hm:=hm.ext hE_
 replace hX:=hX.trans hE_
 clear hE_
 have hb:=hbL j hj
 unfold subLam at hb
 rw [if_pos rfl,if_neg (Nat.lt_irrefl j),if_pos rfl] at hb
 refine gh ?_
 refine gh ?_
 refine R1_storeSL (.inl rfl) rfl rfl hS hI hi hj (hs.ev true hb) ?_
 intro w_30 hS hC_ hk_ hs_
 replace h6:=h6.kp hk_ hC_ (by first | omega | assumption)
 replace h7:=h7.kp hk_ hC_ (by first | omega | assumption)
 replace h9:=h9.kp hk_ hC_ (by first | omega | assumption)
 refine gh ?_
 refine ret0 rfl ⟨rfl,(hM.add hX).trans hC_,(hK.trans (kp_ext hX)).trans hk_,?_⟩
 rw [if_neg hnz]
 refine hS.congr (Nat.le_refl _) (fun _ _=>rfl) (fun a b _ _=>?_) (fun _ _ _ _=>rfl)
 simp only [set2,subLam]
 by_cases e:a = i
 · subst e
   rw [if_pos rfl]
   by_cases e2:b = j
   · subst e2
     rw [if_pos ⟨rfl,rfl⟩,if_neg (Nat.lt_irrefl b),if_pos rfl]
   · rw [if_neg (fun h=>e2 h.2)]
     by_cases h:b < j
     · rw [if_pos ⟨rfl,h⟩,if_pos h]
     · rw [if_neg (fun q=>h q.2),if_neg h,if_neg e2]
 · rw [if_neg (fun h=>e h.1),if_neg (fun h=>e h.1),if_neg e]
end Go.Proofs.YtmkbpjoihdfpkaaGreat
namespace Go.Eng
open Go
def setL (cs:Array Value) (i:Nat):List Value→Array Value
 | []=>cs
 | v :: r=>setL (cs.setIfInBounds i v) (i + 1) r
theorem setL_size (cs:Array Value) (i:Nat) (vs:List Value):(setL cs i vs).size = cs.size:=by
 induction vs generalizing cs i with
 | nil=>rfl
 | cons v r ih=>simp only [setL]; rw [ih]; simp
theorem setL_at (vs:List Value):∀ (cs:Array Value) (i k:Nat),k < cs.size→(setL cs i vs)[k]? = if i≤k∧k < i + vs.length then vs[k - i]? else cs[k]?:=by
 induction vs with
 | nil=>intro cs i k _; rw [if_neg (by simp only [List.length_nil]; omega)]; rfl
 | cons v r ih =>
  intro cs i k hk
  simp only [setL]
  rw [ih _ _ k (by simpa using hk)]
  by_cases e:k = i
  · subst e
    rw [if_neg (by omega),if_pos (by simp),Nat.sub_self,Array.getElem?_setIfInBounds_self_of_lt hk]; rfl
  · rw [Array.getElem?_setIfInBounds_ne (Ne.symm e)]
    by_cases h:i + 1≤k∧k < i + 1 + r.length
    · rw [if_pos h,if_pos (by simp only [List.length_cons]; omega),show k - i = (k - (i + 1)) + 1 by omega]; rfl
    · rw [if_neg h,if_neg (by simp only [List.length_cons]; omega)]
theorem setL_all {cs:Array Value} {vs:List Value} (h:vs.length = cs.size):setL cs 0 vs = vs.toArray:=by
 apply Array.ext_getElem?
 intro k
 by_cases hk:k < cs.size
 · rw [setL_at vs cs 0 k hk,if_pos (by omega)]; simp
 · have h1:=setL_size cs 0 vs
   rw [Array.getElem?_eq_none (by omega),Array.getElem?_eq_none (by simp; omega)]
section
variable {P:Program} {w:World} {g T:Nat}
theorem run_storeCells:∀ (vs:List Value) (cs:Array Value) (i:Nat) (w:World),Blk w g T cs→i + vs.length≤cs.size→(∀ v ∈ vs,v.oneCell' = true) →
 ∃ w',(storeCells ⟨g,0,none⟩ vs i).run P w = .ok () w'∧Blk w' g T (setL cs i vs)∧Ch (fun b=>b = g) w w'∧w'.heap.size = w.heap.size
 | [],cs,i,w,hb,_,_=>⟨w,rfl,hb,Ch.refl _ _,rfl⟩
 | v :: r,cs,i,w,hb,hl,ho=>by
  simp only [List.length_cons] at hl
  have hc:w.cell? ⟨g,i,none⟩ = some (cs[i]'(by omega)):=by rw [hb.cell]; simp
  have h1:=run_store1 (P:=P) (ho v List.mem_cons_self) hc (hb.frozen i)
  obtain ⟨w',h2,h3,h4,h5⟩:=run_storeCells r _ (i + 1) _ (hb.set i v) (by simp; omega) (fun u hu=>ho u (List.mem_cons_of_mem _ hu))
  refine ⟨w',?_,h3,(ch_setCell w ⟨g,i,none⟩ v).trans h4,by rw [h5,size_setCell]⟩
  unfold storeCells
  simp only [Sem.run_bind,add_lit,Nat.zero_add,h1,Result.andThen_ok]
  exact h2
theorem run_loadCells:∀ (m i:Nat) (acc cs:Array Value),Blk w g T cs→i + m≤cs.size→(loadCellsFrom ⟨g,0,none⟩ i m acc).run P w = .ok (acc ++ cs.extract i (i + m)) w
 | 0,i,acc,cs,hb,hl=>by
  unfold loadCellsFrom
  rw [show cs.extract i (i + 0) = #[] by apply Array.ext'; simp,Array.append_empty]; rfl
 | m + 1,i,acc,cs,hb,hl=>by
  have hc:w.cell? ⟨g,i,none⟩ = some (cs[i]'(by omega)):=by rw [hb.cell]; simp
  unfold loadCellsFrom
  have h1:(load (⟨g,i,none⟩ : Addr)).run P w = .ok (cs[i]'(by omega)) w:=by simp [load,Sem.run,hc]
  simp only [Sem.run_bind,add_lit,Nat.zero_add,h1,Result.andThen_ok]
  rw [run_loadCells m (i + 1) _ cs hb (by omega)]
  congr 1
  apply Array.ext'
  simp only [Array.toList_append,Array.toList_push,Array.toList_extract,List.append_assoc]
  congr 1
  rw [List.extract_eq_take_drop,List.extract_eq_take_drop,show i + (m + 1) - i = m + 1 by omega,show i + 1 + m - (i + 1) = m by omega]
  have hi:i < cs.toList.length:=by simpa using (by omega:i < cs.size)
  rw [show List.take (m + 1) (List.drop i cs.toList) = cs.toList[i] :: List.take m (List.drop (i + 1) cs.toList) by rw [List.drop_eq_getElem_cons hi,List.take_succ_cons]]
  rfl
theorem run_loadAll {t m:Nat} {cs:Array Value} (ht:aggTy P t m = true) (hb:Blk w g T cs) (hm:cs.size = m):(Instr.loadAt t (.pointer (some ⟨g,0,none⟩))).run P w = .ok (.agg cs) w:=by
 have:=run_loadCells (P:=P) m 0 #[] cs hb (by omega)
 subst hm
 rw [Nat.zero_add,Array.extract_size,Array.empty_append] at this
 simp [Instr.loadAt,Instr.sureAddr,loadVar,run_isAgg_agg ht,size_agg ht,loadCells,this]
end
section
variable {P:Program} {n:Nat} {S:World→World→Prop} {k:Nat} {K:Fr→World→Prop} {f:Fr} {w:World} {d ty t:Nat} {x y:Operand} {pos:String} {aft:Array Edge} {gd:Option (Nat × Bool)}
theorem R1_storeAll {m g T:Nat} {cs vs:Array Value} (ht:aggTy P t m = true) (h0:k = 2 ∨ k = 1∧∀ w',Ch (fun b=>b = g) w w'→S w w') (hx:ev n f x = .pointer (some ⟨g,0,none⟩)) (hy:ev n f y = .agg vs) (ho:∀ v ∈ vs.toList,v.oneCell' = true) (hb:Blk w g T cs) (h1:cs.size = m) (h2:vs.size = m)
 (h:∀ w',Blk w' g T vs→Ch (fun b=>b = g) w w'→w'.heap.size = w.heap.size→K f w'):R1 P n S k ⟨none,.store t x y,ty,pos,aft,gd⟩ K f w:=by
 obtain ⟨w',hr,hB,hC,hs⟩:=run_storeCells (P:=P) vs.toList cs 0 w hb (by simp; omega) ho
 rw [setL_all (by simp; omega)] at hB
 refine R1_skip (w':=w') (h0.imp id fun h=>⟨h.1,h.2 _ hC⟩) rfl ?_ (h w' (by simpa using hB) hC hs)
 simp only [execOp,hx,hy,Sem.run_bind,Instr.storeAt,Instr.sureAddr,Sem.run_pure,Result.andThen_ok,storeVar,size_agg ht,Value.cells]
 rw [if_neg (by simp [h2])]
 simp only [Result.andThen_ok,hr]
theorem R1_loadAllF {m g T:Nat} {cs:Array Value} (h3:k ≠ 3) (ht:aggTy P t m = true) (hx:ev n f x = .pointer (some ⟨g,0,none⟩)) (hb:Blk w g T cs) (hm:cs.size = m) (h:K (upd f d (.agg cs)) w):R1 P n (fun _ _=>False) k ⟨some d,.load t x,ty,pos,aft,gd⟩ K f w:=by
 refine R1_read h3 (v:=.agg cs) (fun w' hw=>?_) h
 obtain rfl:=hw.resolve_left id
 simp only [execOp,hx,Sem.run_bind,run_loadAll ht hb hm,Result.andThen_ok,Sem.run_pure]
theorem retAll {fn:Func} {tt:Tmp} {T G m:Nat} {cs:Array Value} {post:Value→World→Prop} (hr:fn.results = #[.cell tt T]) (hT:aggTy P T m = true) (hv:ev n f (.tmp tt) = .pointer (some ⟨G,0,none⟩)) (hb:Blk w G T cs) (hm:cs.size = m) (h:post (.agg cs) w):bodyPost P fn (Ret post) .ret (act n f) w:=by
 refine bodyPost_ret (v:=.agg cs) ?_ rfl ⟨_,rfl,h⟩
 have e':=congrFun (act_eval n f) (.tmp tt)
 simp only [Act.eval] at e'
 have hl:=run_loadAll (P:=P) hT hb hm
 simp only [Instr.loadAt,Instr.sureAddr,Sem.run_bind,Sem.run_pure,Result.andThen_ok] at hl
 have e2:(act n f).tmps[tt]?.getD undef = .pointer (some ⟨G,0,none⟩):=by rw [← hv,← e']; simp
 simp [results,hr,e2,asAddr,hl]
end
end Go.Eng
namespace Go.Proofs.YtmkbpjoihdfpkaaGreat
open Go Go.Eng Go.Num Go.Proofs
open Go.Det (nearZ)
def z14:Array Value:=#[.bool false,.slice none 0 0,.bool false,.slice none 0 0,.bool false,.slice none 0 0,.bool false,.slice none 0 0,.bool false,.slice none 0 0,.bool false,.slice none 0 0,.bool false,.slice none 0 0]
theorem z_Plane:ZeroTy Tryz.prog 117 (.agg z14):=by unfold ZeroTy z14; kernel_rfl
section
variable {n:Nat} {S:World→World→Prop} {k:Nat} {K:Fr→World→Prop} {f:Fr} {w:World} {d ty t t2:Nat} {x y:Operand} {pos:String} {aft:Array Edge} {gd:Option (Nat × Bool)}
theorem R1_bldArr {a b c e:Value} (hx:ev n f x = .agg #[a,b]) (hy:ev n f y = .agg #[c,e]) (h:K (upd f d (.agg #[a,b,c,e])) w) :
 R1 Tryz.prog n S k ⟨some d,.build 115 #[(0,x),(1,y)],ty,pos,aft,gd⟩ K f w:=by
 refine R1_pure (v:=.agg #[a,b,c,e]) (fun w=>?_) h
 have e1:(#[(0,x),(1,y)]:Array (Nat × Operand)).map (fun (i,x)=>(i,ev n f x)) = #[(0,.agg #[a,b]),(1,.agg #[c,e])]:=by simp [hx,hy]
 simp [execOp,e1,Instr.build,run_underlying Tryz.underlying115,Instr.fill,Value.cells,size_agg agg_Int]
theorem R1_bldPlane {a0 a1 b0 b1 c0 c1 f0 f1 f2 f3 g0 g1 g2 g3:Value} {x0 x1 x2 x3 x4:Operand} (h0:ev n f x0 = .agg #[a0,a1]) (h1:ev n f x1 = .agg #[b0,b1]) (h2:ev n f x2 = .agg #[c0,c1]) (h3:ev n f x3 = .agg #[f0,f1,f2,f3]) (h4:ev n f x4 = .agg #[g0,g1,g2,g3])
 (h:K (upd f d (.agg #[a0,a1,b0,b1,c0,c1,f0,f1,f2,f3,g0,g1,g2,g3])) w) :
 R1 Tryz.prog n S k ⟨some d,.build 117 #[(0,x0),(1,x1),(2,x2),(3,x3),(4,x4)],ty,pos,aft,gd⟩ K f w:=by
 refine R1_pure (v:=.agg #[a0,a1,b0,b1,c0,c1,f0,f1,f2,f3,g0,g1,g2,g3]) (fun w=>?_) h
 have e1:(#[(0,x0),(1,x1),(2,x2),(3,x3),(4,x4)]:Array (Nat × Operand)).map (fun (i,x)=>(i,ev n f x)) = #[(0,.agg #[a0,a1]),(1,.agg #[b0,b1]),(2,.agg #[c0,c1]),(3,.agg #[f0,f1,f2,f3]),(4,.agg #[g0,g1,g2,g3])]:=by simp [h0,h1,h2,h3,h4]
 simp [execOp,e1,Instr.build,run_underlying Tryz.underlying117,Instr.fill,Value.cells,size_agg agg_Int,size_agg agg_Arr]
end
def PlV (w:World) (v:Value) (N:Nat) (z:Nat→Int):Prop:=∃ h,v = .agg (arr 14 h)∧∀ j,j < 7→EV w N true (h (j * 2)) (h (j * 2 + 1)) (z j)
theorem PlV.ext {w w':World} {v:Value} {N:Nat} {z:Nat→Int} (h:PlV w v N z) (hE:Ext w w'):PlV w' v N z:=by
 obtain ⟨h,e,hc⟩:=h
 exact ⟨h,e,fun j hj=>(hc j hj).ext hE⟩
theorem plv_of {w:World} {N:Nat} {a0 a1 b0 b1 c0 c1 f0 f1 f2 f3 g0 g1 g2 g3:Value} {a b c u v x y:Int} (h0:EV w N true a0 a1 a) (h1:EV w N true b0 b1 b) (h2:EV w N true c0 c1 c) (h3:EV w N true f0 f1 u) (h4:EV w N true f2 f3 v) (h5:EV w N true g0 g1 x) (h6:EV w N true g2 g3 y) :
 PlV w (.agg #[a0,a1,b0,b1,c0,c1,f0,f1,f2,f3,g0,g1,g2,g3]) N (pz a b c u v x y):=by
 refine ⟨_,congrArg Value.agg (arr_of (cs:=#[a0,a1,b0,b1,c0,c1,f0,f1,f2,f3,g0,g1,g2,g3]) rfl),fun j hj=>?_⟩
 have:j = 0 ∨ j = 1 ∨ j = 2 ∨ j = 3 ∨ j = 4 ∨ j = 5 ∨ j = 6:=by omega
 rcases this with rfl | rfl | rfl | rfl | rfl | rfl | rfl
 · exact h0
 · exact h1
 · exact h2
 · exact h3
 · exact h4
 · exact h5
 · exact h6
theorem PlV.one {w:World} {N:Nat} {z:Nat→Int} {h:Nat→Value} (hc:∀ j,j < 7→EV w N true (h (j * 2)) (h (j * 2 + 1)) (z j)):∀ v ∈ (arr 14 h).toList,v.oneCell' = true:=by
 intro v hv
 obtain ⟨i,hi⟩:=List.mem_iff_getElem?.1 hv
 rw [Array.getElem?_toList] at hi
 by_cases hl:i < 14
 · rw [arr_at hl] at hi
   have e:=Option.some.inj hi
   have h1:=hc (i / 2) (by omega)
   by_cases h2:i % 2 = 0
   · rw [← e,show i = i / 2 * 2 by omega]; exact h1.1.one0
   · rw [← e,show i = i / 2 * 2 + 1 by omega]; exact h1.1.one1
 · rw [Array.getElem?_eq_none (by rw [arr_size]; omega)] at hi
   cases hi
section
variable {n:Nat} {S:World→World→Prop} {k:Nat} {K:Fr→World→Prop} {f:Fr} {w:World} {d ty t t2:Nat} {x y:Operand} {pos:String} {aft:Array Edge} {gd:Option (Nat × Bool)}
theorem R1_storePl {g N:Nat} {cs:Array Value} {z:Nat→Int} {v:Value} (h0:k = 2 ∨ k = 1∧∀ w',Ch (fun b=>b = g) w w'→S w w') (hx:ev n f x = .pointer (some ⟨g,0,none⟩)) (hy:ev n f y = v) (hv:PlV w v N z) (hb:Blk w g 117 cs) (hs:cs.size = 14) (hn:NoU cs)
 (h:∀ w',PlB w' g N z→Ch (fun b=>b = g) w w'→Kp w w'→w'.heap.size = w.heap.size→K f w') :
 R1 Tryz.prog n S k ⟨none,.store 117 x y,ty,pos,aft,gd⟩ K f w:=by
 obtain ⟨hh,rfl,hc⟩:=hv
 refine R1_storeAll agg_Plane h0 hx hy (PlV.one hc) hb hs (arr_size 14 hh) ?_
 intro w' hB hC hsz
 have hk:=kp_ch hb hn hC
 exact h w' ⟨hh,hB,fun j hj=>(hc j hj).kp hk⟩ hC hk hsz
theorem z14_noU:NoU z14:=by
 intro i z h
 have:i < 14:=by
  refine Classical.byContradiction fun hc=>?_
  rw [Array.getElem?_eq_none (by unfold z14; simp; omega)] at h
  cases h
 have:i = 0 ∨ i = 1 ∨ i = 2 ∨ i = 3 ∨ i = 4 ∨ i = 5 ∨ i = 6 ∨ i = 7 ∨ i = 8 ∨ i = 9 ∨ i = 10 ∨ i = 11 ∨ i = 12 ∨ i = 13:=by omega
 rcases this with rfl | rfl | rfl | rfl | rfl | rfl | rfl | rfl | rfl | rfl | rfl | rfl | rfl | rfl <;> cases h
end
set_option maxHeartbeats 32000000 in
theorem project_ok (I:Ids) (n N k gS:Nat) (d:Nat→Int) (l T:Nat→Nat→Int) (w:World) (hS:StB w I n N d l T) (hgS:I.gS = gS) (hk1:1≤k) (hk:k < n) (hn:n≤8) (hN1:1≤N) (hN:N < 10000000) (hd:d k ≠ 0) :
 Meets Tryz.prog 102 #[.pointer (some ⟨gS,0,none⟩),.int .i64 ((k:Nat):Int)] w fun v w'=>Ext w w'∧PlV w' v (N + N + 1) (pz (d k) (l k (k - 1)) ((d (k - 1) * d (k + 1) + l k (k - 1) * l k (k - 1)) / d k) 1 0 0 1):=by
 refine fn_W (n:=67) Tryz.func102 rfl rfl (by kernel_rfl) (by simp) ?_
 subst hgS
 have hltS:∀ b,StBlk I n b→b < w.heap.size:=fun b hb=>hS.blk hb
 have hX:Ext w w:=Ext.refl w
 refine gh ?_
 refine R1_alloc (.inl rfl) z_Plane ?_
 intro wA hB0 hE0 hs0
 have hPl:Blk wA w.heap.size 117 z14:=hB0
 obtain ⟨gP,hgP⟩ : ∃ g,g = w.heap.size:=⟨_,rfl⟩
 rw [← hgP] at hPl ⊢
 have hfr_gP:w.heap.size≤gP:=by omega
 replace hS:=hS.ext hE0
 replace hX:=hX.trans hE0
 clear hB0 hE0 hs0 hgP
 refine gh ?_
 refine W_seqGN [(0,3),(1,3),(2,3),(3,0),(4,3),(5,3),(6,0),(7,3),(8,3),(9,3),(10,0),(11,3),(12,3),(13,0),(14,3),(15,3),(16,3),(17,0)] [(18,[],[]),(19,[],[])] [(20,1),(21,2)] mixed (by kernel_rfl) (fun w_1 hE_ _=>?_)
 replace hS:=hS.ext hE_
 replace hPl:=hPl.ext hE_
 replace hX:=hX.trans hE_
 clear hE_
 have e0:=hS.c0
 have e1:=hS.c1
 have e2:=hS.lrow hk
 obtain ⟨x0,y0,p0,p0',v0⟩:=hS.mi.at (j:=k) (by omega)
 obtain ⟨x1,y1,p1,p1',v1⟩:=(hS.la k hk).at (j:=k - 1) (by omega)
 refine gh ?_
 refine Rg_floatN [] [fA 18 5 47 (.agg #[.bool false,.slice none 0 0]),fA 19 6 47 (.agg #[.bool false,.slice none 0 0])] [5,6] (by kernel_rfl) (by kernel_rfl) (fun a ha f' w' _ _=>by
  rcases List.mem_cons.1 ha with rfl | ha
  · exact flt_alloc z_Int rfl f' w'
  · skip
    rcases List.mem_singleton.1 ha with rfl
    exact flt_alloc z_Int rfl f' w') ?_
 have hltq_gP:=hPl.lt
 have hszq:=hX.size
 clear e0 e1 e2 p0 p0' p1 p1'
 refine Rc_nil (fun w_2 hE_ bs hbs hdis=>?_)
 replace hS:=hS.ext hE_
 replace hPl:=hPl.ext hE_
 replace v0:=v0.ext hE_
 replace v1:=v1.ext hE_
 replace hX:=hX.trans hE_
 clear hE_
 obtain ⟨hge_g5,hB_g5⟩:=hbs _ List.mem_cons_self
 have hge_g5:w_1.heap.size≤bs 5:=hge_g5
 have h5:Bx w_2 (bs 5) 1 true 0:=Bx.zero true hB_g5
 obtain ⟨hge_g6,hB_g6⟩:=hbs _ (List.mem_cons_of_mem _ List.mem_cons_self)
 have hge_g6:w_1.heap.size≤bs 6:=hge_g6
 have h6:Bx w_2 (bs 6) 1 true 0:=Bx.zero true hB_g6
 have hne_g6_g5:bs 6 ≠ bs 5:=hdis _ _ (List.mem_cons_of_mem _ List.mem_cons_self) List.mem_cons_self (show (6:Nat) ≠ 5 by decide)
 show Ro _ _ _ _ _ _ (upd (upd _ 6 (.pointer (some ⟨bs 6,0,none⟩))) 5 (.pointer (some ⟨bs 5,0,none⟩))) _
 generalize bs 5 = g5 at *
 generalize bs 6 = g6 at *
 have hfr_g5:w.heap.size≤g5:=by omega
 have hne_g5_gP:g5 ≠ gP:=by omega
 have hfr_g6:w.heap.size≤g6:=by omega
 have hne_g6_gP:g6 ≠ gP:=by omega
 clear hbs hdis hszq hB_g5 hB_g6 hltq_gP
 refine gh ?_
 refine R1_storeBx (by first | exact .inl rfl | exact .inr ⟨rfl,fun _ h=>h.mono fun b _ e=>by omega⟩) rfl rfl h5 (v0) ?_
 intro w_3 h5 hC_ hk_ hs_
 replace hS:=hS.kp hk_ hC_ (fun b hb h=>by have:=hltS b h; omega)
 replace hPl:=hPl.ch hC_ (by omega)
 replace v0:=v0.kp hk_
 replace v1:=v1.kp hk_
 replace h6:=h6.kp hk_ hC_ (by first | omega | assumption)
 replace hX:=hC_.ext_of hX (fun b hb=>by omega)
 clear hC_ hk_ hs_
 refine gh ?_
 refine R1_storeBx (by first | exact .inl rfl | exact .inr ⟨rfl,fun _ h=>h.mono fun b _ e=>by omega⟩) rfl rfl h6 (v1) ?_
 intro w_4 h6 hC_ hk_ hs_
 replace hS:=hS.kp hk_ hC_ (fun b hb h=>by have:=hltS b h; omega)
 replace hPl:=hPl.ch hC_ (by omega)
 replace v0:=v0.kp hk_
 replace v1:=v1.kp hk_
 replace h5:=h5.kp hk_ hC_ (by first | omega | assumption)
 replace hX:=hC_.ext_of hX (fun b hb=>by omega)
 clear hC_ hk_ hs_
 have bA:=v0.bd
 have bB:=v1.bd
 clear v0 v1
 refine gh ?_
 refine W_seqG [(0,3),(1,3),(2,3),(3,0),(4,3),(5,3),(6,3),(7,0),(8,3),(9,3),(10,3),(11,0),(12,3),(13,3),(14,3),(15,0),(17,0),(18,0)] [(16,[],[]),(21,[],[]),(19,[],[16]),(20,[],[16,19])] [(22,2)] mixed (by kernel_rfl) (fun w_5 hE_ _=>?_)
 replace hS:=hS.ext hE_
 replace hPl:=hPl.ext hE_
 replace h5:=h5.ext hE_
 replace h6:=h6.ext hE_
 replace hX:=hX.trans hE_
 clear hE_
 have e0:=hS.c0
 obtain ⟨x0,y0,p0,p0',v0⟩:=hS.mi.at (j:=k - 1) (by omega)
 obtain ⟨x1,y1,p1,p1',v1⟩:=hS.mi.at (j:=k + 1) (by omega)
 obtain ⟨h6_u,h6_v,h6_B,h6_V⟩:=id h6
 obtain ⟨h6_0,h6_1⟩:=blkP h6_B
 have u0:=v0.1
 have u1:=v1.1
 have u6:=h6_V.1
 refine gh ?_
 refine Rg_float [(16,[]),(19,[]),(20,[])] [fA 21 7 47 (.agg #[.bool false,.slice none 0 0])] [45,48,49,7] (by kernel_rfl) (fun a ha f' w' _ _=>by
  rcases List.mem_singleton.1 ha with rfl
  exact flt_alloc z_Int rfl f' w') ?_
 have hltq_gP:=hPl.lt
 have hltq_g5:=h5.lt
 have hltq_g6:=h6.lt
 have hszq:=hX.size
 clear e0 p0 p0' p1 p1' h6_0 h6_1
 have b0:=IV.bd u0
 have b1:=IV.bd u1
 refine gh ?_
 refine Rc_cons (fun w_6 hE_=>?_)
 replace hS:=hS.ext hE_
 replace hPl:=hPl.ext hE_
 replace h5:=h5.ext hE_
 replace h6:=h6.ext hE_
 replace u0:=u0.ext hE_
 replace u1:=u1.ext hE_
 replace u6:=u6.ext hE_
 replace hX:=hX.trans hE_
 clear hE_
 refine gh ?_
 refine R1_call1 (mul_ok _ _ _ _ _ _ N w_6 u0 u1 (by omega)) ?_
 rintro _ w_7 ⟨hE_,a0,a1,rfl,hm1⟩
 refine ⟨hE_,?_⟩
 replace hS:=hS.ext hE_
 replace hPl:=hPl.ext hE_
 replace h5:=h5.ext hE_
 replace h6:=h6.ext hE_
 replace u0:=u0.ext hE_
 replace u1:=u1.ext hE_
 replace u6:=u6.ext hE_
 replace hX:=hX.trans hE_
 clear hE_
 refine gh ?_
 refine Rc_cons (fun w_8 hE_=>?_)
 replace hS:=hS.ext hE_
 replace hPl:=hPl.ext hE_
 replace h5:=h5.ext hE_
 replace h6:=h6.ext hE_
 replace u0:=u0.ext hE_
 replace u1:=u1.ext hE_
 replace u6:=u6.ext hE_
 replace hm1:=hm1.ext hE_
 replace hX:=hX.trans hE_
 clear hE_
 refine gh ?_
 refine R1_call1 (mul_ok _ _ _ _ _ _ N w_8 u6 u6 (by omega)) ?_
 rintro _ w_9 ⟨hE_,a2,a3,rfl,hm2⟩
 refine ⟨hE_,?_⟩
 replace hS:=hS.ext hE_
 replace hPl:=hPl.ext hE_
 replace h5:=h5.ext hE_
 replace h6:=h6.ext hE_
 replace u0:=u0.ext hE_
 replace u1:=u1.ext hE_
 replace u6:=u6.ext hE_
 replace hm1:=hm1.ext hE_
 replace hX:=hX.trans hE_
 clear hE_
 refine gh ?_
 refine Rc_cons (fun w_10 hE_=>?_)
 replace hS:=hS.ext hE_
 replace hPl:=hPl.ext hE_
 replace h5:=h5.ext hE_
 replace h6:=h6.ext hE_
 replace u0:=u0.ext hE_
 replace u1:=u1.ext hE_
 replace u6:=u6.ext hE_
 replace hm1:=hm1.ext hE_
 replace hm2:=hm2.ext hE_
 replace hX:=hX.trans hE_
 clear hE_
 refine gh ?_
 refine R1_call1 (add_ok _ _ _ _ _ _ (N + N) w_10 (hm1.iv (b0.mul b1)) (hm2.iv (bB.mul bB)) (by omega)) ?_
 rintro _ w_11 ⟨hE_,a4,a5,rfl,hm3⟩
 refine ⟨hE_,?_⟩
 replace hS:=hS.ext hE_
 replace hPl:=hPl.ext hE_
 replace h5:=h5.ext hE_
 replace h6:=h6.ext hE_
 replace u0:=u0.ext hE_
 replace u1:=u1.ext hE_
 replace u6:=u6.ext hE_
 replace hm1:=hm1.ext hE_
 replace hm2:=hm2.ext hE_
 replace hX:=hX.trans hE_
 clear hE_
 refine gh ?_
 refine Rc_nil (fun w_12 hE_ bs hbs hdis=>?_)
 replace hS:=hS.ext hE_
 replace hPl:=hPl.ext hE_
 replace h5:=h5.ext hE_
 replace h6:=h6.ext hE_
 replace u0:=u0.ext hE_
 replace u1:=u1.ext hE_
 replace u6:=u6.ext hE_
 replace hm1:=hm1.ext hE_
 replace hm2:=hm2.ext hE_
 replace hm3:=hm3.ext hE_
 replace hX:=hX.trans hE_
 clear hE_
 obtain ⟨hge_g7,hB_g7⟩:=hbs _ List.mem_cons_self
 have hge_g7:w_5.heap.size≤bs 7:=hge_g7
 have h7:Bx w_12 (bs 7) 1 true 0:=Bx.zero true hB_g7
 show Ro _ _ _ _ _ _ (upd _ 7 (.pointer (some ⟨bs 7,0,none⟩))) _
 generalize bs 7 = g7 at *
 have hfr_g7:w.heap.size≤g7:=by omega
 have hne_g7_gP:g7 ≠ gP:=by omega
 have hne_g7_g5:g7 ≠ g5:=by omega
 have hne_g7_g6:g7 ≠ g6:=by omega
 clear hbs hdis hszq hB_g7 hge_g7 hltq_gP hltq_g5 hltq_g6
 have bS:=(b0.mul b1).add (bB.mul bB)
 refine gh ?_
 refine R1_storeBx (by first | exact .inl rfl | exact .inr ⟨rfl,fun _ h=>h.mono fun b _ e=>by omega⟩) rfl rfl h7 (hm3.ev true bS) ?_
 intro w_13 h7 hC_ hk_ hs_
 replace hS:=hS.kp hk_ hC_ (fun b hb h=>by have:=hltS b h; omega)
 replace hPl:=hPl.ch hC_ (by omega)
 replace h5:=h5.kp hk_ hC_ (by first | omega | assumption)
 replace h6:=h6.kp hk_ hC_ (by first | omega | assumption)
 replace u0:=u0.kp hk_
 replace u1:=u1.kp hk_
 replace u6:=u6.kp hk_
 replace hm1:=hm1.kp hk_
 replace hm2:=hm2.kp hk_
 replace hm3:=hm3.kp hk_
 replace hX:=hC_.ext_of hX (fun b hb=>by omega)
 clear hC_ hk_ hs_
 obtain ⟨h7_u,h7_v,h7_B,h7_V⟩:=id h7
 obtain ⟨h7_0,h7_1⟩:=blkP h7_B
 obtain ⟨h5_u,h5_v,h5_B,h5_V⟩:=id h5
 obtain ⟨h5_0,h5_1⟩:=blkP h5_B
 refine gh ?_
 refine R1_call2 (divMod_ok _ _ _ _ _ _ (N + N + 1) w_13 h7_V.1 (h5_V.1.mono (by omega)) (by omega) hd) ?_
 rintro _ w_14 ⟨hE_,d0,d1,d2,d3,rfl,hq,hr⟩
 replace hS:=hS.ext hE_
 replace hPl:=hPl.ext hE_
 replace h5:=h5.ext hE_
 replace h6:=h6.ext hE_
 replace h7:=h7.ext hE_
 replace hX:=hX.trans hE_
 clear hE_
 clear h7_0 h7_1 h5_0 h5_1
 refine gh ?_
 refine R1_alloc (.inl rfl) z_Int ?_
 intro w_15 hB0_ hE_ hs_
 have h8:=Bx.zero (N:=1) true hB0_
 obtain ⟨g8,hg_⟩ : ∃ g,g = w_14.heap.size:=⟨_,rfl⟩
 rw [← hg_] at h8 ⊢
 have hfr_g8:w.heap.size≤g8:=by have:=hX.size; omega
 have hne_g8_gP:g8 ≠ gP:=by have:=hPl.lt; omega
 have hne_g8_g5:g8 ≠ g5:=by have:=h5.lt; omega
 have hne_g8_g6:g8 ≠ g6:=by have:=h6.lt; omega
 have hne_g8_g7:g8 ≠ g7:=by have:=h7.lt; omega
 replace hS:=hS.ext hE_
 replace hPl:=hPl.ext hE_
 replace h5:=h5.ext hE_
 replace h6:=h6.ext hE_
 replace h7:=h7.ext hE_
 replace hq:=hq.ext hE_
 replace hr:=hr.ext hE_
 replace hX:=hX.trans hE_
 clear hB0_ hs_ hg_ hE_
 refine gh ?_
 refine R1_alloc (.inl rfl) z_Int ?_
 intro w_16 hB0_ hE_ hs_
 have h9:=Bx.zero (N:=1) true hB0_
 obtain ⟨g9,hg_⟩ : ∃ g,g = w_15.heap.size:=⟨_,rfl⟩
 rw [← hg_] at h9 ⊢
 have hfr_g9:w.heap.size≤g9:=by have:=hX.size; omega
 have hne_g9_gP:g9 ≠ gP:=by have:=hPl.lt; omega
 have hne_g9_g5:g9 ≠ g5:=by have:=h5.lt; omega
 have hne_g9_g6:g9 ≠ g6:=by have:=h6.lt; omega
 have hne_g9_g7:g9 ≠ g7:=by have:=h7.lt; omega
 have hne_g9_g8:g9 ≠ g8:=by have:=h8.lt; omega
 replace hS:=hS.ext hE_
 replace hPl:=hPl.ext hE_
 replace h5:=h5.ext hE_
 replace h6:=h6.ext hE_
 replace h7:=h7.ext hE_
 replace hq:=hq.ext hE_
 replace hr:=hr.ext hE_
 replace h8:=h8.ext hE_
 replace hX:=hX.trans hE_
 clear hB0_ hs_ hg_ hE_
 refine gh ?_
 refine R1_storeBx (by first | exact .inl rfl | exact .inr ⟨rfl,fun _ h=>h.mono fun b _ e=>by omega⟩) rfl rfl h8 (hq.ev true bS.ediv) ?_
 intro w_17 h8 hC_ hk_ hs_
 replace hS:=hS.kp hk_ hC_ (fun b hb h=>by have:=hltS b h; omega)
 replace hPl:=hPl.ch hC_ (by omega)
 replace h5:=h5.kp hk_ hC_ (by first | omega | assumption)
 replace h6:=h6.kp hk_ hC_ (by first | omega | assumption)
 replace h7:=h7.kp hk_ hC_ (by first | omega | assumption)
 replace hq:=hq.kp hk_
 replace hr:=hr.kp hk_
 replace h9:=h9.kp hk_ hC_ (by first | omega | assumption)
 replace hX:=hC_.ext_of hX (fun b hb=>by omega)
 clear hC_ hk_ hs_
 refine gh ?_
 refine R1_storeBx (by first | exact .inl rfl | exact .inr ⟨rfl,fun _ h=>h.mono fun b _ e=>by omega⟩) rfl rfl h9 (hr.ev true (Bd.emod (bA.mono (show N≤N + N + 1 by omega)) hd)) ?_
 intro w_18 h9 hC_ hk_ hs_
 replace hS:=hS.kp hk_ hC_ (fun b hb h=>by have:=hltS b h; omega)
 replace hPl:=hPl.ch hC_ (by omega)
 replace h5:=h5.kp hk_ hC_ (by first | omega | assumption)
 replace h6:=h6.kp hk_ hC_ (by first | omega | assumption)
 replace h7:=h7.kp hk_ hC_ (by first | omega | assumption)
 replace hq:=hq.kp hk_
 replace hr:=hr.kp hk_
 replace h8:=h8.kp hk_ hC_ (by first | omega | assumption)
 replace hX:=hC_.ext_of hX (fun b hb=>by omega)
 clear hC_ hk_ hs_
 refine gh ?_
 refine W_seqD [(0,0),(1,0),(2,0),(4,3),(6,3),(3,1),(5,3),(7,1),(8,3),(9,3),(10,2)] mixed (by kernel_rfl) (fun w_19 hE_ _=>?_)
 replace hS:=hS.ext hE_
 replace hPl:=hPl.ext hE_
 replace h5:=h5.ext hE_
 replace h6:=h6.ext hE_
 replace h7:=h7.ext hE_
 replace h8:=h8.ext hE_
 replace h9:=h9.ext hE_
 replace hX:=hX.trans hE_
 clear hE_
 obtain ⟨h5_u,h5_v,h5_B,h5_V⟩:=id h5
 obtain ⟨h5_0,h5_1⟩:=blkP h5_B
 obtain ⟨h6_u,h6_v,h6_B,h6_V⟩:=id h6
 obtain ⟨h6_0,h6_1⟩:=blkP h6_B
 obtain ⟨h8_u,h8_v,h8_B,h8_V⟩:=id h8
 obtain ⟨h8_0,h8_1⟩:=blkP h8_B
 have u5:=h5_V.mono (show N≤N + N + 1 by omega)
 have u6:=h6_V.mono (show N≤N + N + 1 by omega)
 have u8:=h8_V
 refine gh ?_
 refine R1_bld0 b0_Int ?_
 refine gh ?_
 refine R1_bld0 b0_Int ?_
 refine gh ?_
 refine R1_call1 (small_ok 1 w_19 (by decide) (by decide)) ?_
 rintro _ w_20 ⟨hE_,s0,s1,rfl,hs1⟩
 refine ⟨hE_,?_⟩
 replace hS:=hS.ext hE_
 replace hPl:=hPl.ext hE_
 replace h5:=h5.ext hE_
 replace h6:=h6.ext hE_
 replace h7:=h7.ext hE_
 replace h8:=h8.ext hE_
 replace h9:=h9.ext hE_
 replace u5:=u5.ext hE_
 replace u6:=u6.ext hE_
 replace u8:=u8.ext hE_
 replace hX:=hX.trans hE_
 clear hE_
 clear h5_0 h5_1 h6_0 h6_1 h8_0 h8_1
 refine gh ?_
 refine R1_bldArr rfl rfl ?_
 refine gh ?_
 refine R1_call1 (small_ok 1 w_20 (by decide) (by decide)) ?_
 rintro _ w_21 ⟨hE_,s2,s3,rfl,hs2⟩
 refine ⟨hE_,?_⟩
 replace hS:=hS.ext hE_
 replace hPl:=hPl.ext hE_
 replace h5:=h5.ext hE_
 replace h6:=h6.ext hE_
 replace h7:=h7.ext hE_
 replace h8:=h8.ext hE_
 replace h9:=h9.ext hE_
 replace u5:=u5.ext hE_
 replace u6:=u6.ext hE_
 replace u8:=u8.ext hE_
 replace hs1:=hs1.ext hE_
 replace hX:=hX.trans hE_
 clear hE_
 refine gh ?_
 refine R1_bldArr rfl rfl ?_
 refine gh ?_
 refine R1_bldPlane rfl rfl rfl rfl rfl ?_
 refine gh ?_
 have b11:Bd (N + N + 1) 1:=(show Bd 1 1 by unfold Bd; decide).mono (by omega)
 have hpv:=plv_of u5 u6 u8 (hs1.ev true b11) ((CV.zero w_21).ev true (Bd.zero (N + N + 1))) ((CV.zero w_21).ev true (Bd.zero (N + N + 1))) (hs2.ev true b11)
 refine R1_storePl (.inl rfl) rfl rfl hpv hPl rfl z14_noU ?_
 intro wZ hPB hC_ hk_ hs_
 obtain ⟨hh,hB,hc⟩:=hPB
 refine gh ?_
 exact retAll rfl agg_Plane rfl hB (arr_size 14 hh) ⟨hC_.ext_of hX (fun b hb=>by omega),hh,rfl,hc⟩
end Go.Proofs.YtmkbpjoihdfpkaaGreat
