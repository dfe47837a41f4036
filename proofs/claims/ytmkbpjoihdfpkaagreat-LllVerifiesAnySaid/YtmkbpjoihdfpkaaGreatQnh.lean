/- Joined: Rlb, Cgr, Rcg, Gdt, Llp, Awl. -/
import Derived.Test.YtmkbpjoihdfpkaaGreatQnd
import Derived.Test.YtmkbpjoihdfpkaaGreatQng
import Derived.Test.YtmkbpjoihdfpkaaGreatQnb
import Derived.Test.YtmkbpjoihdfpkaaGreatQm
import Derived.Test.YtmkbpjoihdfpkaaGreatQr
import Derived.Test.YtmkbpjoihdfpkaaGreatQi
import Derived.Test.YtmkbpjoihdfpkaaGreatQze
/- quadformref08: Sized,Lovasz,small,reduced,IsReduced. -/
namespace Go.Proofs.YtmkbpjoihdfpkaaGreat
open Go Go.Eng Go.Num Go.Proofs
open Go.Det (gr bm det Sy PM Red SzF LvF)
theorem natAbs2 {a b:Int}:2 * (a.natAbs:Int)≤b ↔ 2 * a≤b∧-(2 * a)≤b:=by omega
set_option maxHeartbeats 8000000 in
theorem sized_ok (va vd:Value) (n N i j:Nat) (M:Nat→Nat→Int) (w:World) (ha:MatE (EI N) w va n (fun _=>n) M) (hd:RowE (EC (Nb N 16)) w vd n (fun k=>det (k + 1) M)) (hi:i < n) (hj:j < i) (hn:n≤16) (hN1:1≤N) (hN:N < 1048576) :
 Meets Tryz.prog 92 #[va,vd,.int .i64 ((i:Nat):Int),.int .i64 ((j:Nat):Int)] w (REq w (2 * bm j M i j≤det (j + 1) M∧-(2 * bm j M i j)≤det (j + 1) M)):=by
 refine fn_W (n:=22) Tryz.func92 rfl rfl (by kernel_rfl) (by simp) ?_
 have hbM:∀ i j,i < n→j < n→Bd N (M i j):=fun i j hi hj=>ha.bd hi hj
 have hb1:=bm_bd hN1 hi (show j < n by omega) hn hbM
 have hb2:=det_bdL hN1 (show j + 1≤n by omega) hn hbM
 have hNb:=Nb_big hN (Nat.le_refl 16)
 have hK1:1≤Nb N 16:=Nat.le_trans hN1 (Nb_le' N (Nat.zero_le 16))
 have hX:Ext w w:=Ext.refl w
 replace hd:∀ w',Ext w w'→RowE (EC (Nb N 16)) w' vd n (fun k=>det (k + 1) M):=fun w' h=>hd.extC h
 refine gh ?_
 refine R1_call2 (rsmall_ok 2 w (by decide) (by decide)) ?_
 rintro _ w_1 ⟨hE_,x0,x1,rfl,h0⟩
 replace ha:=ha.ext hE_
 replace hX:=hX.trans hE_
 clear hE_
 refine gh ?_
 refine R1_call2 (lambda_ok va n N i j M w_1 ha hi (by omega) hn hN1 hN) ?_
 rintro _ w_2 ⟨hE_,x2,x3,rfl,h1⟩
 replace ha:=ha.ext hE_
 replace h0:=h0.ext hE_
 replace hX:=hX.trans hE_
 clear hE_
 refine gh ?_
 refine R1_call2 (rabs_ok _ _ _ (Nb N 16) w_2 (h1.iv hb1) (by omega)) ?_
 rintro _ w_3 ⟨hE_,x4,x5,rfl,h2⟩
 replace ha:=ha.ext hE_
 replace h0:=h0.ext hE_
 replace h1:=h1.ext hE_
 replace hX:=hX.trans hE_
 clear hE_
 have hb3:Bd (Nb N 16) ((bm j M i j).natAbs:Int):=by unfold Bd at *; omega
 have hb0:Bd (Nb N 16) 2:=(show Bd 1 2 by unfold Bd B; decide).mono hK1
 refine gh ?_
 refine R1_call2 (rmul_ok _ _ _ _ _ _ (Nb N 16) w_3 (h0.iv hb0) (h2.iv hb3) (by omega)) ?_
 rintro _ w_4 ⟨hE_,x6,x7,rfl,h3⟩
 replace ha:=ha.ext hE_
 replace h0:=h0.ext hE_
 replace h1:=h1.ext hE_
 replace h2:=h2.ext hE_
 replace hX:=hX.trans hE_
 clear hE_
 refine gh ?_
 refine R1_call2 (rminor_ok vd n (Nb N 16) (j + 1) M w_4 (hd w_4 hX) (by omega) hn hK1) ?_
 rintro _ w_5 ⟨hE_,x8,x9,rfl,h4⟩
 replace ha:=ha.ext hE_
 replace h0:=h0.ext hE_
 replace h1:=h1.ext hE_
 replace h2:=h2.ext hE_
 replace h3:=h3.ext hE_
 replace hX:=hX.trans hE_
 clear hE_
 refine gh ?_
 refine R1_call2 (rcmpI_ok _ _ _ _ _ _ (Nb N 16 + Nb N 16) w_5 (h3.iv (hb0.mul hb3)) (h4.iv (hb2.mono (by omega))) (by omega)) ?_
 rintro _ w_6 ⟨hE_,rfl⟩
 replace ha:=ha.ext hE_
 replace h0:=h0.ext hE_
 replace h1:=h1.ext hE_
 replace h2:=h2.ext hE_
 replace h3:=h3.ext hE_
 replace h4:=h4.ext hE_
 replace hX:=hX.trans hE_
 clear hE_
 refine gh ?_
 refine ret1 (v:=.bool _) rfl rfl ⟨hX,_,rfl,?_⟩
 rw [decide_eq_true_iff,cmpI_le,natAbs2]
set_option maxHeartbeats 8000000 in
theorem lovasz_ok (va vd:Value) (n N p:Nat) (M:Nat→Nat→Int) (w:World) (ha:MatE (EI N) w va n (fun _=>n) M) (hd:RowE (EC (Nb N 16)) w vd n (fun k=>det (k + 1) M)) (hp:p + 1 < n) (hn:n≤16) (hN1:1≤N) (hN':N < 262144) :
 Meets Tryz.prog 93 #[va,vd,.int .i64 ((p + 1:Nat):Int)] w (REq w (LvF M p)):=by
 refine fn_W (n:=41) Tryz.func93 rfl rfl (by kernel_rfl) (by simp) ?_
 have hbM:∀ i j,i < n→j < n→Bd N (M i j):=fun i j hi hj=>ha.bd hi hj
 have hb1:=bm_bd hN1 (show p + 1 < n by omega) (show p < n by omega) hn hbM
 have bd0:=det_bdL hN1 (show p≤n by omega) hn hbM
 have bd1:=det_bdL hN1 (show p + 1≤n by omega) hn hbM
 have bd2:=det_bdL hN1 (show p + 2≤n by omega) hn hbM
 have hN:N < 1048576:=by omega
 have hNb:Nb N 16 < 17179934720:=by simp only [Nb]; omega
 have hK1:1≤Nb N 16:=Nat.le_trans hN1 (Nb_le' N (Nat.zero_le 16))
 obtain ⟨K,hK⟩ : ∃ K,K = Nb N 16:=⟨_,rfl⟩
 have hX:Ext w w:=Ext.refl w
 replace hd:∀ w',Ext w w'→RowE (EC (Nb N 16)) w' vd n (fun k=>det (k + 1) M):=fun w' h=>hd.extC h
 rw [← hK] at hd hb1 bd0 bd1 bd2 hNb hK1
 refine gh ?_
 rw [show p + 1 - OfNat.ofNat 1 = p from rfl]
 refine gh ?_
 refine R1_call2 (lambda_ok va n N (p + 1) p M w ha (by omega) (by omega) hn hN1 hN) ?_
 rintro _ w_1 ⟨hE_,x2,x3,rfl,h1⟩
 replace ha:=ha.ext hE_
 replace hX:=hX.trans hE_
 clear hE_
 refine gh ?_
 refine R1_alloc (.inl rfl) z_Int ?_
 intro w_2 hB0_ hE_ hs_
 have h7:=Bx.zero (N:=1) true hB0_
 obtain ⟨g7,hg_⟩ : ∃ g,g = w_1.heap.size:=⟨_,rfl⟩
 rw [← hg_] at h7 ⊢
 have hfr_g7:w.heap.size≤g7:=by have:=hX.size; omega
 replace ha:=ha.ext hE_
 replace h1:=h1.ext hE_
 replace hX:=hX.trans hE_
 clear hB0_ hs_ hg_ hE_
 refine gh ?_
 refine R1_storeBx (by first | exact .inl rfl | exact .inr ⟨rfl,fun _ h=>h.mono fun b _ e=>by omega⟩) rfl rfl h7 (h1.ev true hb1) ?_
 intro w_3 h7 hC_ hk_ hs_
 clear ha
 replace h1:=h1.kp hk_
 replace hX:=hC_.ext_of hX (fun b hb=>by omega)
 clear hC_ hk_ hs_
 refine gh ?_
 refine W_seqG [(1,3),(2,3),(3,3),(5,3),(6,3),(7,3),(10,0),(11,0)] [(0,[],[]),(15,[],[]),(4,[],[0]),(8,[],[4]),(9,[],[4,8]),(12,[],[9]),(13,[],[9,12]),(14,[],[0,13])] [(16,2)] mixed (by kernel_rfl) (fun w_4 hE_ _=>?_)
 replace h7:=h7.ext hE_
 replace hX:=hX.trans hE_
 clear hE_
 obtain ⟨h7_u,h7_v,h7_B,h7_V⟩:=id h7
 obtain ⟨h7_0,h7_1⟩:=blkP h7_B
 have u7:=h7_V.1
 refine gh ?_
 refine Rg_float [(0,[]),(4,[]),(8,[]),(9,[]),(12,[]),(13,[]),(14,[])] [fA 15 8 47 (.agg #[.bool false,.slice none 0 0])] [14,18,22,23,26,27,28,8] (by kernel_rfl) (fun a ha f' w' _ _=>by
  rcases List.mem_singleton.1 ha with rfl
  exact flt_alloc z_Int rfl f' w') ?_
 have hltq_g7:=h7.lt
 have hszq:=hX.size
 clear h7_0 h7_1
 have b7:=IV.bd u7
 refine gh ?_
 refine Rc_cons (fun w_5 hE_=>?_)
 replace h7:=h7.ext hE_
 replace u7:=u7.ext hE_
 replace hX:=hX.trans hE_
 clear hE_
 refine gh ?_
 refine R1_call1 (rsmall_ok 4 w_5 (by decide) (by decide)) ?_
 rintro _ w_6 ⟨hE_,x0,x1,rfl,h0⟩
 refine ⟨hE_,?_⟩
 replace h7:=h7.ext hE_
 replace u7:=u7.ext hE_
 replace hX:=hX.trans hE_
 clear hE_
 refine gh ?_
 refine gh ?_
 refine Rc_cons (fun w_7 hE_=>?_)
 replace h7:=h7.ext hE_
 replace u7:=u7.ext hE_
 replace h0:=h0.ext hE_
 replace hX:=hX.trans hE_
 clear hE_
 refine gh ?_
 refine R1_call1 (rminor_ok vd n K p M w_7 (hd w_7 hX) (by omega) hn hK1) ?_
 rintro _ w_8 ⟨hE_,x4,x5,rfl,h2⟩
 refine ⟨hE_,?_⟩
 replace h7:=h7.ext hE_
 replace u7:=u7.ext hE_
 replace h0:=h0.ext hE_
 replace hX:=hX.trans hE_
 clear hE_
 refine gh ?_
 refine gh ?_
 refine Rc_cons (fun w_9 hE_=>?_)
 replace h7:=h7.ext hE_
 replace u7:=u7.ext hE_
 replace h0:=h0.ext hE_
 replace h2:=h2.ext hE_
 replace hX:=hX.trans hE_
 clear hE_
 refine gh ?_
 refine R1_call1 (rminor_ok vd n K (p + 2) M w_9 (hd w_9 hX) (by omega) hn hK1) ?_
 rintro _ w_10 ⟨hE_,x6,x7,rfl,h3⟩
 refine ⟨hE_,?_⟩
 replace h7:=h7.ext hE_
 replace u7:=u7.ext hE_
 replace h0:=h0.ext hE_
 replace h2:=h2.ext hE_
 replace hX:=hX.trans hE_
 clear hE_
 refine gh ?_
 refine gh ?_
 refine Rc_cons (fun w_11 hE_=>?_)
 replace h7:=h7.ext hE_
 replace u7:=u7.ext hE_
 replace h0:=h0.ext hE_
 replace h2:=h2.ext hE_
 replace h3:=h3.ext hE_
 replace hX:=hX.trans hE_
 clear hE_
 refine gh ?_
 refine R1_call1 (rmul_ok _ _ _ _ _ _ K w_11 (h2.iv bd0) (h3.iv bd2) (by omega)) ?_
 rintro _ w_12 ⟨hE_,x8,x9,rfl,h4⟩
 refine ⟨hE_,?_⟩
 replace h7:=h7.ext hE_
 replace u7:=u7.ext hE_
 replace h0:=h0.ext hE_
 replace h2:=h2.ext hE_
 replace h3:=h3.ext hE_
 replace hX:=hX.trans hE_
 clear hE_
 refine gh ?_
 refine gh ?_
 refine Rc_cons (fun w_13 hE_=>?_)
 replace h7:=h7.ext hE_
 replace u7:=u7.ext hE_
 replace h0:=h0.ext hE_
 replace h2:=h2.ext hE_
 replace h3:=h3.ext hE_
 replace h4:=h4.ext hE_
 replace hX:=hX.trans hE_
 clear hE_
 refine gh ?_
 refine R1_call1 (rmul_ok _ _ _ _ _ _ K w_13 u7 u7 (by omega)) ?_
 rintro _ w_14 ⟨hE_,y0,y1,rfl,h5⟩
 refine ⟨hE_,?_⟩
 replace h7:=h7.ext hE_
 replace u7:=u7.ext hE_
 replace h0:=h0.ext hE_
 replace h2:=h2.ext hE_
 replace h3:=h3.ext hE_
 replace h4:=h4.ext hE_
 replace hX:=hX.trans hE_
 clear hE_
 refine gh ?_
 refine gh ?_
 refine Rc_cons (fun w_15 hE_=>?_)
 replace h7:=h7.ext hE_
 replace u7:=u7.ext hE_
 replace h0:=h0.ext hE_
 replace h2:=h2.ext hE_
 replace h3:=h3.ext hE_
 replace h4:=h4.ext hE_
 replace h5:=h5.ext hE_
 replace hX:=hX.trans hE_
 clear hE_
 refine gh ?_
 refine R1_call1 (radd_ok _ _ _ _ _ _ (K + K) w_15 (h4.iv (bd0.mul bd2)) (h5.iv (b7.mul b7)) (by omega)) ?_
 rintro _ w_16 ⟨hE_,y2,y3,rfl,h6⟩
 refine ⟨hE_,?_⟩
 replace h7:=h7.ext hE_
 replace u7:=u7.ext hE_
 replace h0:=h0.ext hE_
 replace h2:=h2.ext hE_
 replace h3:=h3.ext hE_
 replace h4:=h4.ext hE_
 replace h5:=h5.ext hE_
 replace hX:=hX.trans hE_
 clear hE_
 have bS:=(bd0.mul bd2).add (b7.mul b7)
 have b4:Bd (K + K + 1) 4:=(show Bd 1 4 by unfold Bd B; decide).mono (by omega)
 refine gh ?_
 refine gh ?_
 refine Rc_cons (fun w_17 hE_=>?_)
 replace h7:=h7.ext hE_
 replace u7:=u7.ext hE_
 replace h0:=h0.ext hE_
 replace h2:=h2.ext hE_
 replace h3:=h3.ext hE_
 replace h4:=h4.ext hE_
 replace h5:=h5.ext hE_
 replace h6:=h6.ext hE_
 replace hX:=hX.trans hE_
 clear hE_
 refine gh ?_
 refine R1_call1 (rmul_ok _ _ _ _ _ _ (K + K + 1) w_17 (h0.iv b4) (h6.iv bS) (by omega)) ?_
 rintro _ w_18 ⟨hE_,y4,y5,rfl,h9⟩
 refine ⟨hE_,?_⟩
 replace h7:=h7.ext hE_
 replace u7:=u7.ext hE_
 replace h0:=h0.ext hE_
 replace h2:=h2.ext hE_
 replace h3:=h3.ext hE_
 replace h4:=h4.ext hE_
 replace h5:=h5.ext hE_
 replace h6:=h6.ext hE_
 replace hX:=hX.trans hE_
 clear hE_
 have bT:=b4.mul bS
 refine gh ?_
 refine Rc_nil (fun w_19 hE_ bs hbs hdis=>?_)
 replace h7:=h7.ext hE_
 replace u7:=u7.ext hE_
 replace h0:=h0.ext hE_
 replace h2:=h2.ext hE_
 replace h3:=h3.ext hE_
 replace h4:=h4.ext hE_
 replace h5:=h5.ext hE_
 replace h6:=h6.ext hE_
 replace h9:=h9.ext hE_
 replace hX:=hX.trans hE_
 clear hE_
 obtain ⟨hge_g8,hB_g8⟩:=hbs _ List.mem_cons_self
 have hge_g8:w_4.heap.size≤bs 8:=hge_g8
 have h8:Bx w_19 (bs 8) 1 true 0:=Bx.zero true hB_g8
 show Ro _ _ _ _ _ _ (upd _ 8 (.pointer (some ⟨bs 8,0,none⟩))) _
 generalize bs 8 = g8 at *
 have hfr_g8:w.heap.size≤g8:=by omega
 have hne_g8_g7:g8 ≠ g7:=by omega
 clear hbs hdis hszq hB_g8 hge_g8 hltq_g7
 refine gh ?_
 refine R1_storeBx (by first | exact .inl rfl | exact .inr ⟨rfl,fun _ h=>h.mono fun b _ e=>by omega⟩) rfl rfl h8 (h9.ev true bT) ?_
 intro w_20 h8 hC_ hk_ hs_
 replace h7:=h7.kp hk_ hC_ (by first | omega | assumption)
 replace u7:=u7.kp hk_
 replace h0:=h0.kp hk_
 replace h2:=h2.kp hk_
 replace h3:=h3.kp hk_
 replace h4:=h4.kp hk_
 replace h5:=h5.kp hk_
 replace h6:=h6.kp hk_
 replace h9:=h9.kp hk_
 replace hX:=hC_.ext_of hX (fun b hb=>by omega)
 clear hC_ hk_ hs_
 refine gh ?_
 refine W_seqD [(0,0),(2,3),(3,3),(5,3),(6,3),(1,1),(4,1),(7,1),(8,1),(9,1),(10,1),(11,3),(12,3)] mixed (by kernel_rfl) (fun w_21 hE_ _=>?_)
 replace h7:=h7.ext hE_
 replace h8:=h8.ext hE_
 replace hX:=hX.trans hE_
 clear hE_
 obtain ⟨h8_u,h8_v,h8_B,h8_V⟩:=id h8
 obtain ⟨h8_0,h8_1⟩:=blkP h8_B
 have u8:=h8_V
 refine gh ?_
 clear h8_0 h8_1
 refine gh ?_
 refine R1_call1 (rsmall_ok 3 w_21 (by decide) (by decide)) ?_
 rintro _ w_22 ⟨hE_,z0,z1,rfl,h0⟩
 refine ⟨hE_,?_⟩
 replace h7:=h7.ext hE_
 replace h8:=h8.ext hE_
 replace u8:=u8.ext hE_
 replace hX:=hX.trans hE_
 clear hE_
 refine gh ?_
 refine R1_call1 (rminor_ok vd n K (p + 1) M w_22 (hd w_22 hX) (by omega) hn hK1) ?_
 rintro _ w_23 ⟨hE_,z2,z3,rfl,h2⟩
 refine ⟨hE_,?_⟩
 replace h7:=h7.ext hE_
 replace h8:=h8.ext hE_
 replace u8:=u8.ext hE_
 replace h0:=h0.ext hE_
 replace hX:=hX.trans hE_
 clear hE_
 refine gh ?_
 refine R1_call1 (rminor_ok vd n K (p + 1) M w_23 (hd w_23 hX) (by omega) hn hK1) ?_
 rintro _ w_24 ⟨hE_,z4,z5,rfl,h3⟩
 refine ⟨hE_,?_⟩
 replace h7:=h7.ext hE_
 replace h8:=h8.ext hE_
 replace u8:=u8.ext hE_
 replace h0:=h0.ext hE_
 replace h2:=h2.ext hE_
 replace hX:=hX.trans hE_
 clear hE_
 refine gh ?_
 refine R1_call1 (rmul_ok _ _ _ _ _ _ K w_24 (h2.iv bd1) (h3.iv bd1) (by omega)) ?_
 rintro _ w_25 ⟨hE_,z6,z7,rfl,h4⟩
 refine ⟨hE_,?_⟩
 replace h7:=h7.ext hE_
 replace h8:=h8.ext hE_
 replace u8:=u8.ext hE_
 replace h0:=h0.ext hE_
 replace h2:=h2.ext hE_
 replace h3:=h3.ext hE_
 replace hX:=hX.trans hE_
 clear hE_
 have b3:Bd (K + K) 3:=(show Bd 1 3 by unfold Bd B; decide).mono (by omega)
 refine gh ?_
 refine R1_call1 (rmul_ok _ _ _ _ _ _ (K + K) w_25 (h0.iv b3) (h4.iv (bd1.mul bd1)) (by omega)) ?_
 rintro _ w_26 ⟨hE_,z8,z9,rfl,h5⟩
 refine ⟨hE_,?_⟩
 replace h7:=h7.ext hE_
 replace h8:=h8.ext hE_
 replace u8:=u8.ext hE_
 replace h0:=h0.ext hE_
 replace h2:=h2.ext hE_
 replace h3:=h3.ext hE_
 replace h4:=h4.ext hE_
 replace hX:=hX.trans hE_
 clear hE_
 have bU:=b3.mul (bd1.mul bd1)
 refine gh ?_
 refine R1_call1 (rcmpI_ok _ _ _ _ _ _ (K + K + 1 + (K + K + 1)) w_26 u8.1 (h5.iv (bU.mono (by omega))) (by omega)) ?_
 rintro _ w_27 ⟨hE_,rfl⟩
 refine ⟨hE_,?_⟩
 replace h7:=h7.ext hE_
 replace h8:=h8.ext hE_
 replace u8:=u8.ext hE_
 replace h0:=h0.ext hE_
 replace h2:=h2.ext hE_
 replace h3:=h3.ext hE_
 replace h4:=h4.ext hE_
 replace h5:=h5.ext hE_
 replace hX:=hX.trans hE_
 clear hE_
 refine gh ?_
 refine ret1 (v:=.bool _) rfl rfl ⟨hX,_,rfl,?_⟩
 rw [decide_eq_true_iff]
 unfold LvF cmpI
 constructor
 · intro h
   split at h
   · omega
   · omega
 · intro h
   rw [if_neg (by omega)]
   split <;> decide
set_option maxHeartbeats 8000000 in
theorem rsmallM_ok (va:Value) (n N:Nat) (M:Nat→Nat→Int) (w:World) (ha:MatE (EI N) w va n (fun _=>n) M) (hn:n≤16) (hN1:1≤N) (hN:N < 1048576) :
 Meets Tryz.prog 46 #[va] w (REq w (det n M≤10000)):=by
 refine fn_W (n:=8) Tryz.func46 rfl rfl (by kernel_rfl) (by simp) ?_
 have hbM:∀ i j,i < n→j < n→Bd N (M i j):=fun i j hi hj=>ha.bd hi hj
 have hb2:=det_bdL hN1 (Nat.le_refl n) hn hbM
 have hNb:=Nb_big hN (Nat.le_refl 16)
 have hK1:1≤Nb N 16:=Nat.le_trans hN1 (Nb_le' N (Nat.zero_le 16))
 have hb1:Bd (Nb N 16) 10000:=(show Bd 1 10000 by unfold Bd B; decide).mono hK1
 have hX:Ext w w:=Ext.refl w
 refine gh ?_
 refine R1_call2 (rdet_ok va n N M w ha hn hN1 hN) ?_
 rintro _ w_1 ⟨hE_,x,y,rfl,h1⟩
 replace hX:=hX.trans hE_
 clear hE_
 rw [detB_det] at h1
 refine gh ?_
 refine R1_call2 (rsmall_ok 10000 w_1 (by decide) (by decide)) ?_
 rintro _ w_2 ⟨hE_,x0,x1,rfl,h0⟩
 replace h1:=h1.ext hE_
 replace hX:=hX.trans hE_
 clear hE_
 refine gh ?_
 refine R1_call2 (rcmpI_ok _ _ _ _ _ _ (Nb N 16) w_2 (h1.iv hb2) (h0.iv hb1) (by omega)) ?_
 rintro _ w_3 ⟨hE_,rfl⟩
 replace h1:=h1.ext hE_
 replace h0:=h0.ext hE_
 replace hX:=hX.trans hE_
 clear hE_
 refine gh ?_
 refine ret1 (v:=.bool _) rfl rfl ⟨hX,_,rfl,?_⟩
 rw [decide_eq_true_iff,cmpI_le]
set_option maxHeartbeats 16000000 in
theorem rreduced_ok (va:Value) (n N:Nat) (M:Nat→Nat→Int) (w:World) (ha:MatE (EI N) w va n (fun _=>n) M) (hn1:1≤n) (hn:n≤16) (hN1:1≤N) (hN':N < 262144) :
 Meets Tryz.prog 47 #[va] w (REq w (Red n M)):=by
 refine fn_W (n:=38) Tryz.func47 rfl rfl (by kernel_rfl) (by simp) ?_
 have hN:N < 1048576:=by omega
 have hokS:okS n (fun _=>n) = true:=okS_iff.2 ⟨hn1,hn,fun _ _=>rfl⟩
 refine gh ?_
 refine R1_call2 (rleading_ok va n N (fun _=>n) M w ha hN1 hN) ?_
 rintro _ w1 ⟨hE1,⟨hok,rfl⟩ | ⟨_,u,rfl,hG⟩⟩
 · rw [hokS] at hok; cases hok
 have hd:RowE (EC (Nb N 16)) w1 u n (fun k=>det (k + 1) M):=hG.rowC
 have ha1:=ha.ext hE1
 obtain ⟨Aa,capa,rfl,_⟩:=id ha
 clear hG
 refine gh ?_
 refine W_seqM (fun f w'=>Ext w w'∧Red n M) ?_ ?_
 · refine gh ?_
   refine W_loop (fun m f w'=>∃ i,m = n - i∧i≤n∧f 0 = .slice Aa n capa∧f 3 = u∧f 13 = .int .i64 ((n:Nat):Int)∧f 14 = .int .i64 ((i:Nat):Int)∧Ext w1 w'∧Red i M)
    n ⟨0,rfl,Nat.zero_le _,rfl,rfl,rfl,rfl,Ext.refl _,Go.Det.Red.zero M⟩ ?_
   rintro m f w2 ⟨i,rfl,hi,hf0,hf3,hf13,hf14,hE,hR⟩
   rw [ui hf0,ui hf3,ui hf13,ui hf14]
   clear hf0 hf3 hf13 hf14
   by_cases hlt:i < n
   · refine gh ?_
     refine W_seqM (fun f w'=>f 0 = .slice Aa n capa∧f 3 = u∧f 13 = .int .i64 ((n:Nat):Int)∧f 14 = .int .i64 ((i:Nat):Int)∧f 5 = .int .i64 ((i:Nat):Int)∧Ext w1 w'∧SzF M i 0) ?_ ?_
     · refine gh ?_
       refine W_loop (fun m f w'=>∃ j,m = i - j∧j≤i∧f 0 = .slice Aa n capa∧f 3 = u∧f 5 = .int .i64 ((i:Nat):Int)∧f 6 = .int .i64 ((j:Nat):Int)∧f 13 = .int .i64 ((n:Nat):Int)∧f 14 = .int .i64 ((i:Nat):Int)∧Ext w1 w'∧∀ c,c < j→2 * bm c M i c≤det (c + 1) M∧-(2 * bm c M i c)≤det (c + 1) M)
        i ⟨0,rfl,Nat.zero_le _,rfl,rfl,rfl,rfl,rfl,rfl,hE,fun c h=>absurd h (by omega)⟩ ?_
       clear hE
       rintro m f w3 ⟨j,rfl,hj,hf0,hf3,hf5,hf6,hf13,hf14,hE,hall⟩
       rw [ui hf0,ui hf3,ui hf5,ui hf6,ui hf13,ui hf14]
       clear hf0 hf3 hf5 hf6 hf13 hf14
       refine W_seq ?_
       by_cases hjl:j < i
       · refine gh ?_
         refine R1_call2 (sized_ok _ u n N i j M w3 (ha1.ext hE) (hd.extC hE) hlt hjl hn hN1 hN) ?_
         rintro _ w4 ⟨hE4,b,rfl,hb⟩
         cases b with
         | true =>
          refine gh ?_
          refine ⟨_,?_,j + 1,rfl,by omega,rfl,rfl,rfl,rfl,rfl,rfl,hE.trans hE4,fun c hc=>?_⟩
          · omega
          · by_cases e:c = j
            · subst e; exact hb.1 rfl
            · exact hall c (by omega)
         | false =>
          refine gh ?_
          refine ret1 (v:=.bool _) rfl rfl ⟨hE1.trans (hE.trans hE4),false,rfl,(fun h=>by cases h),fun h=>?_⟩
          exact hb.2 (h.sized i j hjl hlt)
       · refine gh ?_
         exact ⟨rfl,rfl,rfl,rfl,rfl,hE,fun c _ hc=>hall c (by omega)⟩
     clear hE
     rintro f w3 ⟨hf0,hf3,hf13,hf14,hf5,hE,hz⟩
     rw [ui hf5]
     clear hf5
     rw [ui hf0,ui hf3,ui hf13,ui hf14]
     clear hf0 hf3 hf13 hf14
     refine W_seq ?_
     by_cases h0:i = 0
     · subst h0
       refine gh ?_
       refine ⟨_,?_,1,rfl,by omega,rfl,rfl,rfl,rfl,hE,Go.Det.Red.one M⟩
       omega
     obtain ⟨p,rfl⟩ : ∃ p,i = p + 1:=⟨i - 1,by omega⟩
     refine gh ?_
     refine R1_call2 (lovasz_ok _ u n N p M w3 (ha1.ext hE) (hd.extC hE) hlt hn hN1 hN') ?_
     rintro _ w4 ⟨hE4,b,rfl,hb⟩
     cases b with
     | true =>
      refine gh ?_
      refine ⟨_,?_,p + 1 + 1,rfl,by omega,rfl,rfl,rfl,rfl,hE.trans hE4,⟨fun a c hc ha=>?_,fun a ha=>?_⟩⟩
      · omega
      · by_cases e:a = p + 1
        · subst e; exact hz c (Nat.zero_le _) hc
        · exact hR.sized a c hc (by omega)
      · by_cases e:a = p
        · subst e; exact hb.1 rfl
        · exact hR.lov a (by omega)
     | false =>
      refine gh ?_
      refine ret1 (v:=.bool _) rfl rfl ⟨hE1.trans (hE.trans hE4),false,rfl,(fun h=>by cases h),fun h=>?_⟩
      exact hb.2 (h.lov p hlt)
   · refine gh ?_
     obtain rfl:i = n:=by omega
     exact ⟨hE1.trans hE,hR⟩
 rintro f w2 ⟨hE,hR⟩
 refine gh ?_
 exact ret1 (v:=.bool _) rfl rfl ⟨hE,true,rfl,fun _=>hR,fun _=>rfl⟩
end Go.Proofs.YtmkbpjoihdfpkaaGreat
namespace Go.Det
open Go Go.Proofs.YtmkbpjoihdfpkaaGreat
theorem sm_ext' {m n:Nat} {f:Nat→Int} (h:m≤n) (hz:∀ i,m≤i→i < n→f i = 0):sm n f = sm m f:=by
 induction n with
 | zero=>rw [show m = 0 by omega]
 | succ n ih =>
  by_cases e:m = n + 1
  · rw [e]
  · simp only [sm]
    rw [ih (by omega) fun i h1 h2=>hz i h1 (by omega),hz n (by omega) (by omega),Int.add_zero]
variable {n:Nat} {G T:Mt}
def ed (d:Nat):Nat→Int:=fun x=>if x = d then 1 else 0
theorem bil_ed {u:Nat→Int} {d:Nat} (hd:d < n):bil n G u (ed d) = sm n fun a=>u a * G a d:=by
 unfold bil
 refine sm_congr fun a ha=>?_
 congr 1
 rw [sm_one (c:=d) hd fun b _ hb=>by simp only [ed]; rw [if_neg hb,Int.mul_zero]]
 simp only [ed,if_true,Int.mul_one]
theorem bil_ed2 {i d:Nat} (hi:i < n) (hd:d < n):bil n G (ed i) (ed d) = G i d:=by
 rw [bil_ed hd,sm_one (c:=i) hi fun b _ hb=>by simp only [ed]; rw [if_neg hb,Int.zero_mul]]
 simp only [ed,if_true,Int.one_mul]
theorem bil_one (_hG:Sy n G) (u v:Nat→Int):bil n (gr n one G) u v = bil n G u v:=by
 unfold bil
 exact sm_congr fun a ha=>by rw [sm_congr fun b hb=>by rw [gr_one ha hb]]
theorem cauchyS (hG:Sy n G) (hp:PM n G) (x y:Nat→Int) (hy:0 < bil n G y y):bil n G x y * bil n G x y≤bil n G x x * bil n G y y:=by
 have hp':PM n (gr n one G):=fun m hm=>by rw [gr_one_det hm]; exact hp m hm
 have:=cauchy (n:=n) (H:=gr n one G) (gr_tr hG) hp' x y (by rw [bil_one hG]; exact hy)
 rwa [bil_one hG,bil_one hG,bil_one hG] at this
theorem bil_nonnegS (hG:Sy n G) (hp:PM n G) (x:Nat→Int):0≤bil n G x x:=by
 have hp':PM n (gr n one G):=fun m hm=>by rw [gr_one_det hm]; exact hp m hm
 have:=bil_nonneg (n:=n) (H:=gr n one G) (gr_tr hG) hp' x
 rwa [bil_one hG] at this
theorem diag_posS (hG:Sy n G) (hp:PM n G) {d:Nat} (hd:d < n):0 < G d d:=by
 have hp':PM n (gr n one G):=fun m hm=>by rw [gr_one_det hm]; exact hp m hm
 have:=diag_pos (H:=gr n one G) (gr_tr hG) hp' hd d 0 (by omega)
 rw [bm_zero',gr_one hd hd] at this
 exact this
theorem bil_posS (hG:Sy n G) (hp:PM n G) (z:Nat→Int) (hz:∃ i,i < n∧z i ≠ 0):0 < bil n G z z:=by
 have h0:=bil_nonnegS hG hp z
 refine Classical.byContradiction fun hn=>?_
 have e:0 = bil n G z z:=by omega
 obtain ⟨i,hi,hzi⟩:=hz
 refine hzi (uniq n (tr G) z (by rw [det_tr]; have:=hp n (Nat.le_refl _); omega) (fun d hd=>?_) i hi)
 have hc:=cauchyS hG hp z (ed d) (by rw [bil_ed2 hd hd]; exact diag_posS hG hp hd)
 rw [← e,Int.zero_mul] at hc
 have h1:bil n G z (ed d) = 0:=by
  have h2:=sq_nonneg (bil n G z (ed d))
  have h3:bil n G z (ed d) * bil n G z (ed d) = 0:=by omega
  rcases Int.mul_eq_zero.1 h3 with h | h <;> exact h
 rw [bil_ed hd] at h1
 rw [← h1]
 exact sm_congr fun c _=>Int.mul_comm _ _
theorem bil_gr2 (m:Nat) (x y:Nat→Int):bil m (gr n T G) x y = bil n G (fun c=>sm m fun i=>x i * T i c) (fun c=>sm m fun i=>y i * T i c):=by
 have h1:∀ (k:Nat) (z:Nat→Int) ,bil n G (fun c=>sm k fun i=>x i * T i c) z = sm k fun i=>x i * bil n G (T i) z:=by
  intro k z
  induction k with
  | zero=>simp only [sm,bil]; exact sm_zero fun a _=>by rw [Int.zero_mul]
  | succ k ih =>
   simp only [sm]
   have:=bil_lin_left n G (fun c=>sm k fun i=>x i * T i c) (T k) z 1 (x k)
   simp only [Int.one_mul] at this
   rw [this,ih]
 have h2:∀ (k:Nat) (z:Nat→Int) ,bil n G z (fun c=>sm k fun i=>y i * T i c) = sm k fun i=>y i * bil n G z (T i):=by
  intro k z
  induction k with
  | zero=>simp only [sm,bil]; exact sm_zero fun a _=>by rw [sm_zero fun b _=>by rw [Int.mul_zero],Int.mul_zero]
  | succ k ih =>
   simp only [sm]
   have:=bil_lin_right n G (fun c=>sm k fun i=>y i * T i c) (T k) z 1 (y k)
   simp only [Int.one_mul] at this
   rw [this,ih]
 rw [h1]
 unfold bil
 refine sm_congr fun i _=>?_
 congr 1
 have:=h2 m (T i)
 unfold bil at this
 rw [this]
 refine sm_congr fun j _=>?_
 rw [Int.mul_comm]; rfl
theorem bil_gr (m:Nat) (y:Nat→Int):bil m (gr n T G) y y = bil n G (fun c=>sm m fun i=>y i * T i c) (fun c=>sm m fun i=>y i * T i c):=bil_gr2 m y y
theorem gr_step {U T':Mt} (h:∀ a b,a < n→b < n→(sm n fun k=>U k a * T k b) = T' a b) {i j:Nat} (hi:i < n) (hj:j < n):gr n (fun i j=>U j i) (gr n T G) i j = gr n T' G i j:=by
 show bil n (gr n T G) (fun k=>U k i) (fun k=>U k j) = bil n G (T' i) (T' j)
 rw [bil_gr2]
 exact bil_congr (fun c hc=>h i c hi hc) (fun c hc=>h j c hj hc)
theorem step_rop {i c:Nat} (q:Int) (hi:i < n) (hc:c < i) {a b:Nat} (ha:a < n) (_hb:b < n):(sm n fun k=>set2 one c i (-q) k a * T k b) = rop q i c T a b:=by
 unfold rop setR
 by_cases e:a = i
 · subst e
   rw [if_pos rfl]
   have:(fun k=>set2 one c a (-q) k a * T k b) = fun k=>1 * ((if k = a then 1 else 0) * T k b) + (-q) * ((if k = c then 1 else 0) * T k b):=by
    funext k
    unfold set2 one
    by_cases e1:k = c
    · subst e1
      rw [if_pos ⟨rfl,rfl⟩,if_neg (by omega),if_pos rfl]; grind
    · rw [if_neg (fun h=>e1 h.1),if_neg e1]; grind
   rw [this,sm_lin,sm_one (c:=a) ha fun k _ hk=>by rw [if_neg hk,Int.zero_mul],sm_one (c:=c) (by omega) fun k _ hk=>by rw [if_neg hk,Int.zero_mul],if_pos rfl,if_pos rfl]
   grind
 · rw [if_neg e,sm_one (c:=a) ha fun k _ hk=>by
    unfold set2 one
    rw [if_neg (fun h=>e h.2),if_neg hk,Int.zero_mul]]
   unfold set2 one
   rw [if_neg (fun h=>e h.2),if_pos rfl,Int.one_mul]
theorem step_swp {p:Nat} (hp:p + 1 < n) {a b:Nat} (ha:a < n) (_hb:b < n):(sm n fun k=>swp (p + 1) p one k a * T k b) = swp2 p (p + 1) T a b:=by
 have key:∀ k,swp (p + 1) p one k a = if k = sw p (p + 1) a then 1 else 0:=fun k=>by
  unfold swp one sw
  by_cases e1:k = p + 1
  · subst e1
    rw [if_pos rfl]
    by_cases e2:a = p
    · subst e2; rw [if_pos rfl,if_pos rfl,if_pos rfl]
    · rw [if_neg (Ne.symm e2),if_neg e2]
      by_cases e3:a = p + 1
      · rw [if_pos e3,if_neg (by omega)]
      · rw [if_neg e3,if_neg (Ne.symm e3)]
  · rw [if_neg e1]
    by_cases e4:k = p
    · subst e4
      rw [if_pos rfl]
      by_cases e2:a = k
      · subst e2; rw [if_pos rfl,if_neg (by omega),if_neg (by omega)]
      · rw [if_neg e2]
        by_cases e3:a = k + 1
        · subst e3; rw [if_pos rfl,if_pos rfl,if_pos rfl]
        · rw [if_neg e3,if_neg (Ne.symm e3),if_neg (Ne.symm e2)]
    · rw [if_neg e4]
      by_cases e2:a = p
      · subst e2; rw [if_pos rfl,if_neg e4,if_neg e1]
      · rw [if_neg e2]
        by_cases e3:a = p + 1
        · subst e3; rw [if_pos rfl,if_neg e1,if_neg e4]
        · rw [if_neg e3]
 have hs:sw p (p + 1) a < n:=by unfold sw; split <;> (try split) <;> omega
 rw [sm_one (c:=sw p (p + 1) a) hs fun k _ hk=>by rw [key,if_neg hk,Int.zero_mul],key,if_pos rfl,Int.one_mul]
 unfold sw swp2
 by_cases e2:a = p
 · rw [if_pos e2,if_pos e2]
 · rw [if_neg e2,if_neg e2]
   by_cases e3:a = p + 1
   · rw [if_pos e3,if_pos e3]
   · rw [if_neg e3,if_neg e3]
theorem PM.cong (hG:Sy n G) (hp:PM n G) (hT:det n T ≠ 0):PM n (gr n T G):=by
 refine minors_pos n _ fun m y hm hy=>?_
 rw [gr_tr hG]
 show 0 < bil m (gr n T G) y y
 rw [bil_gr]
 refine bil_posS hG hp _ (Classical.byContradiction fun hno=>?_)
 have h0:∀ c,c < n→(sm m fun i=>y i * T i c) = 0:=fun c hc=>Classical.byContradiction fun h=>hno ⟨c,hc,h⟩
 obtain ⟨i,hi,hyi⟩:=hy
 have:=uniq n (tr T) (fun i=>if i < m then y i else 0) (by rw [det_tr]; exact hT) (fun c hc=>by
  rw [sm_ext' hm fun i h1 h2=>by rw [if_neg (by omega),Int.mul_zero],← h0 c hc]
  exact sm_congr fun i hi=>by rw [if_pos hi,Int.mul_comm]; rfl) i (by omega)
 rw [if_pos hi] at this
 exact hyi this
theorem gr_entry (hG:Sy n G) (hp:PM n G) {C:Int} {i j:Nat} (hi:0 < gr n T G i i) (hj:0 < gr n T G j j) (h1:gr n T G i i≤C) (h2:gr n T G j j≤C):(gr n T G i j).natAbs≤C.natAbs:=by
 have hc:=cauchyS hG hp (T i) (T j) hj
 have h3:gr n T G i i * gr n T G j j≤C * C:=Int.mul_le_mul h1 h2 (by omega) (by omega)
 have h4:gr n T G i j * gr n T G i j≤C * C:=Int.le_trans hc h3
 exact nat_le_of_sq (by omega) h4
end Go.Det
namespace Go.Proofs.YtmkbpjoihdfpkaaGreat
open Go Go.Eng Go.Num Go.Proofs
open Go.Det (gr bm det Sy PM Red LI one RRb pw2_le)
theorem rrB {n N0:Nat} {G:Nat→Nat→Int} (hG:Sy n G) (hn1:1≤n) (hn:n≤8) (hN1:1≤N0) (bG:∀ i j,i < n→j < n→Bd N0 (G i j)) (hp:PM n G) :
 RRb n (15 * Nb N0 8 + 12) G (pw (Nb N0 8)) (pw (5 * Nb N0 8 + 3)) (pw (13 * Nb N0 8 + 9))∧LI n 1 G one (pw (Nb N0 8)) (pw (5 * Nb N0 8 + 3)):=by
 obtain ⟨h,hL⟩:=runB hG hn1 hn hN1 bG hp
 refine ⟨⟨hG,h.B9,h.Bl,h.Bu,h.bT,fun k T hL i c hi hc=>?_,fun z hz=>bd_pw hz (by omega)⟩,hL⟩
 exact bd_pw (Go.Det.gr_entry hG hp (hL.npos hG hi) (hL.npos hG hc) (hL.nle i hi) (hL.nle c hc)) (by omega)
end Go.Proofs.YtmkbpjoihdfpkaaGreat
namespace Go.Proofs.YtmkbpjoihdfpkaaGreat
open Go Go.Eng Go.Num Go.Proofs
open Go.Det (gr bm det Sy PM Red)
theorem gr_mulM2 (n:Nat) (T G:Nat→Nat→Int):mulM n (mulM n (fun i j=>T j i) G) T = gr n (fun i j=>T j i) G:=by
 have:mulM n (mulM n (fun i j=>T j i) G) T = mulM n (fun i j=>T j i) (mulM n G T):=by
  funext i j; exact mulM_assoc n _ _ _ i j
 rw [this,Go.Det.gr_mul,mulM_mul,mulM_mul]; rfl
theorem rcongruent_ok {va vt:Value} {n N N2:Nat} {G T:Nat→Nat→Int} {w:World} (ha:MatE (EI N) w va n (fun _=>n) G) (ht:MatE (EI N) w vt n (fun _=>n) T) (hn1:1≤n) (hn:n≤16) (hN:N < 34359738) (_hN2:N2 = N + N + 1) :
 Meets Tryz.prog 24 #[va,vt] w (RM w n n (gr n (fun i j=>T j i) G)):=by
 refine fn_W (n:=17) Tryz.func24 rfl rfl (by kernel_rfl) (by simp) ?_
 have bG:∀ i j,i < n→j < n→Bd N (G i j):=fun i j hi hj=>ha.bd hi hj
 have bT:∀ i j,i < n→j < n→Bd N (T i j):=fun i j hi hj=>ht.bd hi hj
 have hnb:n < 9223372036854775808:=by omega
 have hX:Ext w w:=Ext.refl w
 refine gh ?_
 refine R1_call2 (rtranspose_ok vt n N (fun _=>n) T w ht (by omega)) ?_
 intro u w3 hu
 obtain ⟨_,rfl,hE3,gt,gst,rfl,_,_,hOt⟩:=hu.get (okM_iff.2 ⟨⟨hn1,hn,hn1,hn⟩,fun _ _=>rfl⟩)
 clear hu
 replace ha:=ha.ext hE3
 replace ht:=ht.ext hE3
 replace hX:=hX.trans hE3
 refine gh ?_
 refine R1_call2 (rproductT_ok (N:=N) (hOt.rd (fun i j hi hj=>bT j i hj hi) (Nat.le_refl _) hnb hnb) ha (by omega) hn1 hn hn1 hn hn1 hn) ?_
 rintro _ w4 ⟨hE4,g4,gs4,rfl,_,_,hO4⟩
 replace ht:=ht.ext hE4
 replace hX:=hX.trans hE4
 have b4:∀ i j,i < n→j < n→Bd (N + N + 1) (mulM n (fun i j=>T j i) G i j):=fun i j hi hj=>by
  exact sumTo_bd (N:=N + N) (by omega) fun t ht=>(bT t i ht hi).mul (bG t j ht hj)
 refine gh ?_
 refine R1_call2 (rproductT_ok (N:=N + N + 1) (hO4.rd b4 (Nat.le_refl _) hnb hnb) (ht.mono (by omega)) (by omega) hn1 hn hn1 hn hn1 hn) ?_
 rintro _ w5 ⟨hE5,g5,gs5,rfl,h51,h52,hO5⟩
 rw [gr_mulM2] at hO5
 have hsz:=hX.size
 refine gh ?_
 exact ret1 (v:=.slice _ _ _) rfl rfl ⟨hX.trans hE5,g5,gs5,rfl,by omega,fun i hi=>by have:=h52 i hi; omega,hO5⟩
theorem valE_len {r:Nat} {len:Nat→Nat} {M:Nat→Nat→Int} (h:okM r len = true):valE r (fun _=>len 0) M = valE r len M:=by
 have e:okS r (fun _=>len 0) = okS r len:=by
  rw [okS_of,okS_of,h]
  obtain ⟨h1,_⟩:=okM_iff.1 h
  rw [show okM r (fun _=>len 0) = true from okM_iff.2 ⟨h1,fun _ _=>rfl⟩]
 unfold valE
 rw [e]
theorem zbd {z:Int} (h1:-9223372036854775808≤z) (h2:z < 9223372036854775808):Bd 2 z:=by
 unfold Bd
 have:B ^ 2 = 18446744073709551616:=by decide
 omega
theorem MatZ.rng {w:World} {v:Value} {r i j:Nat} {len:Nat→Nat} {M:Nat→Nat→Int} (h:MatZ w v r len M) (hi:i < r) (hj:j < len i):-9223372036854775808≤M i j∧M i j < 9223372036854775808:=by
 obtain ⟨A,cap,rfl,_,_,hrow⟩:=h
 obtain ⟨_,u,_,_,hz⟩:=hrow i hi
 obtain ⟨_,_,_,_,_,he⟩:=hz
 obtain ⟨_,_,_,h1,h2⟩:=he j hj
 exact ⟨h1,h2⟩
set_option maxHeartbeats 8000000 in
theorem rIsReduced_ok (v:Value) (r:Nat) (len:Nat→Nat) (M:Nat→Nat→Int) (w:World) (h:MatZ w v r len M) :
 Meets Tryz.prog 16 #[v] w (REq w (redOk r len M)):=by
 refine fn_W (n:=24) Tryz.func16 rfl rfl (by kernel_rfl) (by simp) ?_
 refine gh ?_
 refine R1_call2 (rfromInts_ok v r len M w h) ?_
 intro u w1 hu
 by_cases hok:okM r len = true
 rotate_left
 · have hok':okM r len = false:=by simpa using hok
   obtain ⟨hE1,rfl⟩:=hu.no hok'
   refine gh ?_
   refine ret1 (v:=.bool _) rfl rfl ⟨hE1,false,rfl,(fun h=>by cases h),fun h=>?_⟩
   have:=(valE_zero.1 h.1).1
   rw [okS_of,hok'] at this
   cases this
 obtain ⟨_,rfl,hE1,gO,gs,rfl,_,_,hO⟩:=hu.get hok
 clear hu
 obtain ⟨⟨hr1,hr2,hc1,hc2⟩,hlen⟩:=okM_iff.1 hok
 have bM:∀ i j,i < r→j < len 0→Bd 2 (M i j):=fun i j hi hj=>by
  have:=h.rng hi (j:=j) (by rw [hlen i hi]; exact hj)
  exact zbd this.1 this.2
 have hA:=hO.rd bM (Nat.le_refl _) (by omega) (by omega)
 refine gh ?_
 refine R1_call2 (rvalidate_ok _ r 2 (fun _=>len 0) M w1 hA (by decide) (by decide)) ?_
 rintro _ w2 ⟨hE2,rfl⟩
 rw [valE_len hok]
 by_cases h0:valE r len M = 0
 rotate_left
 · refine gh ?_
   exact ret1 (v:=.bool _) rfl rfl ⟨hE1.trans hE2,false,rfl,(fun h=>by cases h),fun h=>absurd h.1 h0⟩
 obtain ⟨hos,h8,_⟩:=valE_zero.1 h0
 obtain ⟨_,_,hl⟩:=okS_iff.1 hos
 have e0:len 0 = r:=hl 0 (by omega)
 rw [e0] at hA bM
 have hA2:=hA.ext hE2
 refine gh ?_
 refine R1_call2 (rsmallM_ok _ r 2 M w2 hA2 hr2 (by decide) (by decide)) ?_
 rintro _ w3 ⟨hE3,b,rfl,hb⟩
 cases b with
 | false =>
  refine gh ?_
  exact ret1 (v:=.bool _) rfl rfl ⟨hE1.trans (hE2.trans hE3),false,rfl,(fun h=>by cases h),fun h=>hb.2 h.2.1⟩
 | true =>
  refine gh ?_
  refine R1_call2 (rreduced_ok _ r 2 M w3 (hA2.ext hE3) hr1 hr2 (by decide) (by decide)) ?_
  rintro _ w4 ⟨hE4,b',rfl,hb'⟩
  refine gh ?_
  refine ret1 (v:=.bool _) rfl rfl ⟨hE1.trans (hE2.trans (hE3.trans hE4)),b',rfl,fun h=>⟨h0,hb.1 rfl,hb'.1 h⟩,fun h=>hb'.2 h.2.2⟩
end Go.Proofs.YtmkbpjoihdfpkaaGreat
namespace Go.Proofs.YtmkbpjoihdfpkaaGreat
open Go Go.Eng Go.Num Go.Proofs
def RGd (w:World) (r:Nat) (len:Nat→Nat) (M:Nat→Nat→Int) (v:Value) (w':World):Prop :=
 Ext w w'∧∃ x y,v = .tuple #[.agg #[x,y],.int .i64 ((valE r len M:Nat):Int)]∧CV w' x y (if valE r len M = 0 then Go.Det.det r M else 0)
set_option maxHeartbeats 16000000 in
theorem gdet_ok (va:Value) (r N:Nat) (len:Nat→Nat) (M:Nat→Nat→Int) (w:World) (ha:MatE (EI N) w va r len M) (hN1:1≤N) (hN:N < 1048576) :
 Meets Tryz.prog 53 #[va] w (RGd w r len M):=by
 refine fn_W (n:=19) Tryz.func53 rfl rfl (by kernel_rfl) (by simp) ?_
 have hX:Ext w w:=Ext.refl w
 refine gg ?_
 refine R1_alloc (.inl rfl) z_Int ?_
 intro w_1 hB0_ hE_ hs_
 have hR:=Bx.zero (N:=1) true hB0_
 obtain ⟨gR,hg_⟩ : ∃ g,g = w.heap.size:=⟨_,rfl⟩
 rw [← hg_] at hR ⊢
 have hfr_gR:w.heap.size≤gR:=by have:=hX.size; omega
 replace ha:=ha.ext hE_
 replace hX:=hX.trans hE_
 clear hB0_ hs_ hg_ hE_
 refine gg ?_
 refine W_seq ?_
 refine gg ?_
 refine gg ?_
 refine R1_call2 (validate_ok va r N len M w_1 ha hN1 hN) ?_
 rintro _ w_2 ⟨hE_,rfl⟩
 replace ha:=ha.ext hE_
 replace hR:=hR.ext hE_
 replace hX:=hX.trans hE_
 clear hE_
 have h5:=valE_le r len M
 by_cases h0:valE r len M = 0
 rotate_left
 · refine gg ?_
   refine R1_bld0 b0_Int ?_
   refine gg ?_
   refine gg ?_
   refine R1_storeBx (by first | exact .inl rfl | exact .inr ⟨rfl,fun _ h=>h.mono fun b _ e=>by omega⟩) rfl rfl hR ((CV.zero w_2).ev true (Bd.zero 1)) ?_
   intro w_3 hR hC_ hk_ hs_
   clear ha
   replace hX:=hC_.ext_of hX (fun b hb=>by omega)
   clear hC_ hk_ hs_
   obtain ⟨u,v,hU,hV⟩:=hR
   refine gg ?_
   refine retCB (v:=.int _ _) rfl agg_Int rfl hU rfl ⟨hX,u,v,rfl,?_⟩
   rw [if_neg h0]; exact hV.2 rfl
 refine gg ?_
 obtain ⟨hok,h8,_⟩:=valE_zero.1 h0
 obtain ⟨hr1,hr2,hlen⟩:=okS_iff.1 hok
 refine gg ?_
 refine R1_call2 (detT_ok (ha.sq hlen) hN1 hN hr1 hr2) ?_
 rintro _ w_4 ⟨hE_,x,y,rfl,hcv⟩
 replace ha:=ha.ext hE_
 replace hR:=hR.ext hE_
 replace hX:=hX.trans hE_
 clear hE_
 have hbd:Bd (Nb N r) (detB r M):=detB_bd hN1 fun i j hi hj=>(ha.sq hlen).bd hi hj
 refine gg ?_
 refine R1_alloc (.inl rfl) z_Int ?_
 intro w_5 hB0_ hE_ hs_
 have hD:=Bx.zero (N:=1) true hB0_
 obtain ⟨gD,hg_⟩ : ∃ g,g = w_4.heap.size:=⟨_,rfl⟩
 rw [← hg_] at hD ⊢
 have hfr_gD:w.heap.size≤gD:=by have:=hX.size; omega
 have hne_gD_gR:gD ≠ gR:=by have:=hR.lt; omega
 replace ha:=ha.ext hE_
 replace hR:=hR.ext hE_
 replace hcv:=hcv.ext hE_
 replace hX:=hX.trans hE_
 clear hB0_ hs_ hg_ hE_
 refine gg ?_
 refine R1_storeBx (by first | exact .inl rfl | exact .inr ⟨rfl,fun _ h=>h.mono fun b _ e=>by omega⟩) rfl rfl hD (hcv.ev true hbd) ?_
 intro w_6 hD hC_ hk_ hs_
 clear ha
 replace hR:=hR.kp hk_ hC_ (by first | omega | assumption)
 replace hcv:=hcv.kp hk_
 replace hX:=hC_.ext_of hX (fun b hb=>by omega)
 clear hC_ hk_ hs_
 refine gg ?_
 obtain ⟨hD_u,hD_v,hD_B,hD_V⟩:=id hD
 obtain ⟨hD_0,hD_1⟩:=blkP hD_B
 refine gg ?_
 refine R1_storeBx (by first | exact .inl rfl | exact .inr ⟨rfl,fun _ h=>h.mono fun b _ e=>by omega⟩) rfl rfl hR (hD_V) ?_
 intro w_7 hR hC_ hk_ hs_
 replace hcv:=hcv.kp hk_
 replace hD:=hD.kp hk_ hC_ (by first | omega | assumption)
 replace hX:=hC_.ext_of hX (fun b hb=>by omega)
 clear hC_ hk_ hs_
 obtain ⟨u,v,hU,hV⟩:=hR
 refine gg ?_
 refine retCB (v:=.int _ _) rfl agg_Int rfl hU rfl ⟨hX,u,v,by rw [h0],?_⟩
 rw [if_pos h0,← detB_det]; exact hV.2 rfl
open Classical in
noncomputable def trE (r:Nat) (len:Nat→Nat) (M:Nat→Nat→Int) (r2:Nat) (len2:Nat→Nat) (T:Nat→Nat→Int):Nat :=
 if valE r len M = 0 then
  if okM r2 len2 = true∧r2 = r∧len2 0≤r2 then
   if ∃ k,k < len2 0∧Go.Det.Rk r2 (len2 0) T k then 8 else 0
  else 3
 else valE r len M
def RTr (w:World) (e r c:Nat) (M T:Nat→Nat→Int) (v:Value) (w':World):Prop :=
 Ext w w'∧((e ≠ 0∧v = .tuple #[.slice none 0 0,.int .i64 ((e:Nat):Int)]) ∨ (e = 0∧∃ gO gs,v = .tuple #[.slice (some ⟨gO,0,none⟩) c c,.int .i64 ((0:Nat):Int)]∧OMat w' gO gs c c (mulM r (fun i j=>T j i) (mulM r M T))))
set_option maxHeartbeats 16000000 in
theorem transform_ok (va vb:Value) (r r2 N:Nat) (len len2:Nat→Nat) (M T:Nat→Nat→Int) (w:World) (ha:MatE (EI N) w va r len M) (hb:MatE (EI N) w vb r2 len2 T) (hN1:1≤N) (hN:N < 1048576) :
 Meets Tryz.prog 59 #[va,vb] w (RTr w (trE r len M r2 len2 T) r (len2 0) M T):=by
 refine fn_W (n:=66) Tryz.func59 rfl rfl (by kernel_rfl) (by simp) ?_
 obtain ⟨Aa,ca,hva,_⟩:=id ha
 have hX:Ext w w:=Ext.refl w
 refine gg ?_
 refine W_seq ?_
 refine gg ?_
 refine gg ?_
 refine R1_call2 (validate_ok va r N len M w ha hN1 hN) ?_
 rintro _ w_1 ⟨hE_,rfl⟩
 replace ha:=ha.ext hE_
 replace hb:=hb.ext hE_
 replace hX:=hX.trans hE_
 clear hE_
 have h5:=valE_le r len M
 by_cases h0:valE r len M = 0
 rotate_left
 · have e0:trE r len M r2 len2 T = valE r len M:=by unfold trE; rw [if_neg h0]
   refine gg ?_
   exact ret2 (v:=.slice _ _ _) (v':=.int _ _) rfl rfl rfl ⟨hX,.inl ⟨by rw [e0]; exact h0,by rw [e0]⟩⟩
 refine gg ?_
 obtain ⟨hok,h8,_⟩:=valE_zero.1 h0
 obtain ⟨hr1,hr2,hlen⟩:=okS_iff.1 hok
 refine R1_call2 (shapeX_ok _ vb r2 len2 T w_1 hb) ?_
 rintro _ _ ⟨rfl,rfl⟩
 obtain ⟨s1,c1,ok1,e1,h1⟩:=shapeV_cases r2 len2
 rw [e1]
 clear e1
 have bad:¬ (okM r2 len2 = true∧r2 = r∧len2 0≤r2)→trE r len M r2 len2 T = 3:=fun h=>by unfold trE; rw [if_pos h0,if_neg h]
 rcases h1 with ⟨hok2,rfl,rfl,rfl⟩ | ⟨hok2,rfl,rfl,rfl⟩
 rotate_left
 · have e0:=bad (fun h=>by rw [hok2] at h; cases h.1)
   refine gg ?_
   refine W_seq ?_
   refine gg ?_
   exact ret2 (v:=.slice _ _ _) (v':=.int _ _) rfl rfl rfl ⟨hX,.inl ⟨by rw [e0]; decide,by rw [e0]⟩⟩
 by_cases hrr:s1 = r
 rotate_left
 · have e0:=bad (fun h=>hrr h.2.1)
   rw [hva]
   refine gg ?_
   refine W_seq ?_
   refine gg ?_
   exact ret2 (v:=.slice _ _ _) (v':=.int _ _) rfl rfl rfl ⟨hX,.inl ⟨by rw [e0]; decide,by rw [e0]⟩⟩
 by_cases hc1:len2 0≤s1
 rotate_left
 · have e0:=bad (fun h=>hc1 h.2.2)
   rw [hva]
   refine gg ?_
   refine W_seq ?_
   refine gg ?_
   exact ret2 (v:=.slice _ _ _) (v':=.int _ _) rfl rfl rfl ⟨hX,.inl ⟨by rw [e0]; decide,by rw [e0]⟩⟩
 obtain ⟨⟨hs1,hs2,hl1,hl2⟩,hlen2⟩:=okM_iff.1 hok2
 subst hrr
 obtain ⟨c,hc⟩ : ∃ c,c = len2 0:=⟨_,rfl⟩
 rw [← hc]
 have hc1':c≤s1:=by omega
 rw [hva]
 refine gg ?_
 refine W_seq ?_
 refine gg ?_
 rw [← hva]
 refine W_seq ?_
 refine gg ?_
 refine R1_call2 (rank_ok vb s1 N len2 T w_1 hb hN1 hN) ?_
 rintro _ w_r ⟨hE_r,⟨hno,_⟩ | ⟨_,k,rfl,hk⟩⟩
 · rw [hok2] at hno; cases hno
 rw [← hc] at hk
 have hX:=hX.trans hE_r
 have ha:=ha.ext hE_r
 have hb:=hb.ext hE_r
 by_cases hkc:k < c
 · have e0:trE s1 len M s1 len2 T = 8:=by
    unfold trE
    rw [if_pos h0,if_pos ⟨hok2,rfl,by omega⟩,if_pos ⟨k,by omega,by rw [← hc]; exact hk⟩]
   refine gg ?_
   exact ret2 (v:=.slice _ _ _) (v':=.int _ _) rfl rfl rfl ⟨hX,.inl ⟨by rw [e0]; decide,by rw [e0]⟩⟩
 have e0:trE s1 len M s1 len2 T = 0:=by
  unfold trE
  rw [if_pos h0,if_pos ⟨hok2,rfl,by omega⟩,if_neg]
  rintro ⟨k',h1,h2⟩
  rw [← hc] at h2
  have:=h2.unique hk
  omega
 refine gg ?_
 have hT:=hb.sq (c:=c) (fun i hi=>by rw [hlen2 i hi,hc])
 have hG:=ha.sq hlen
 refine gg ?_
 refine R1_call2 (transposeT_ok hT (by omega) hr1 hr2 (by omega) (by omega)) ?_
 rintro _ w_2 ⟨hE_,gT,gsT,rfl,hO⟩
 replace hT:=hT.ext hE_
 replace hG:=hG.ext hE_
 replace hX:=hX.trans hE_
 clear hE_
 refine gg ?_
 refine gg ?_
 refine R1_call2 (mulT_ok hG hT (by omega) hr1 hr2 hr1 hr2 (by omega) (by omega)) ?_
 rintro _ w_3 ⟨hE_,gU,gsU,rfl,hU⟩
 replace hT:=hT.ext hE_
 replace hG:=hG.ext hE_
 replace hO:=hO.ext hE_
 replace hX:=hX.trans hE_
 clear hE_
 refine gg ?_
 have b1:∀ i j,i < c→j < s1→Bd N (T j i):=fun i j hi hj=>hT.bd hj hi
 have b2:∀ i j,i < s1→j < c→Bd (N + N + 1) (mulM s1 M T i j):=fun i j hi hj=>sumTo_bd (N:=N + N) (by omega) fun k hk=>(hG.bd hi hk).mul (hT.bd hk hj)
 refine gg ?_
 refine R1_call2 (mulT_ok (hO.rd b1 (show N≤N + N + 1 by omega) (by omega) (by omega)) (hU.rd b2 (Nat.le_refl _) (by omega) (by omega)) (by omega) (by omega) (by omega) hr1 hr2 (by omega) (by omega)) ?_
 rintro _ w_4 ⟨hE_,gV,gsV,rfl,hV⟩
 replace hT:=hT.ext hE_
 replace hG:=hG.ext hE_
 replace hO:=hO.ext hE_
 replace hU:=hU.ext hE_
 replace hX:=hX.trans hE_
 clear hE_
 refine gg ?_
 exact ret2 (v:=.slice _ _ _) (v':=.int _ _) rfl rfl rfl ⟨hX,.inr ⟨e0,gV,gsV,rfl,hV⟩⟩
end Go.Proofs.YtmkbpjoihdfpkaaGreat
namespace Go.Proofs.YtmkbpjoihdfpkaaGreat
open Go Go.Eng Go.Num Go.Proofs
open Go.Det (gr bm det Sy PM Red LI one)
theorem val_pm {r:Nat} {len:Nat→Nat} {G:Nat→Nat→Int} (h:valE r len G = 0):PM r G∧Sy r G:=by
 obtain ⟨hok,h8,hs,hp⟩:=valE_zero.1 h
 refine ⟨fun m hm=>?_,fun a b ha hb=>?_⟩
 · by_cases e:m = 0
   · subst e; exact Int.zero_lt_one
   · have:=hp (m - 1) (by omega)
     rwa [show m - 1 + 1 = m by omega] at this
 · by_cases e:a = b
   · rw [e]
   · by_cases e2:b < a
     · exact hs a b ha e2
     · exact (hs b a hb (by omega)).symm
theorem trE_sq {r:Nat} {len len2:Nat→Nat} {G X:Nat→Nat→Int} (h:valE r len G = 0) (hl:∀ i,i < r→len2 i = r) (hX:det r X ≠ 0):trE r len G r len2 X = 0:=by
 obtain ⟨hok,h8,_⟩:=valE_zero.1 h
 obtain ⟨hr1,hr2,_⟩:=okS_iff.1 hok
 have h0:=hl 0 (by omega)
 unfold trE
 rw [if_pos h,if_pos ⟨okM_iff.2 ⟨⟨hr1,hr2,by omega,by omega⟩,fun i hi=>by rw [hl i hi,h0]⟩,rfl,by omega⟩,if_neg]
 rintro ⟨k,h1,h2⟩
 rw [h0] at h1 h2
 have:=h2.2.le (s:=r) ⟨id,id,fun t ht=>⟨ht,ht⟩,hX⟩
 omega
theorem gr_mulM (n:Nat) (T G:Nat→Nat→Int):mulM n T (mulM n G (fun i j=>T j i)) = gr n T G:=by
 rw [Go.Det.gr_mul,mulM_mul,mulM_mul]; rfl
structure Found (n N:Nat) (G T:Nat→Nat→Int):Prop where
 uni:det n T = 1 ∨ det n T = -1
 pos:PM n (gr n T G)
 sym:Go.Det.tr (gr n T G) = gr n T G
 red:Red n (gr n T G)
 det:det n (gr n T G) = det n G
 bd:∀ i j,i < n→j < n→Bd N (T i j)
 small:∀ i j,i < n→j < n→-262144 < gr n T G i j∧gr n T G i j < 262144
def RRd (w:World) (r N:Nat) (len:Nat→Nat) (G:Nat→Nat→Int) (v:Value) (w':World):Prop :=
 Ext w w'∧((valE r len G ≠ 0∧v = .tuple #[.slice none 0 0,.slice none 0 0,.int .i64 ((valE r len G:Nat):Int)]) ∨
  (valE r len G = 0∧10000 < det r G∧v = .tuple #[.slice none 0 0,.slice none 0 0,.int .i64 ((7:Nat):Int)]) ∨
  (valE r len G = 0∧det r G≤10000∧∃ T gO gs gT gsT,v = .tuple #[.slice (some ⟨gO,0,none⟩) r r,.slice (some ⟨gT,0,none⟩) r r,.int .i64 ((0:Nat):Int)] ∧
   w.heap.size≤gO∧(∀ i,i < r→w.heap.size≤gs i)∧ZMat w' gO gs r r (gr r T G)∧w.heap.size≤gT∧(∀ i,i < r→w.heap.size≤gsT i)∧OMat w' gT gsT r r (fun i j=>T j i)∧Found r N G T))
set_option maxHeartbeats 16000000 in
theorem reduce_ok (va:Value) (r N:Nat) (len:Nat→Nat) (G:Nat→Nat→Int) (w:World) (ha:MatE (EI N) w va r len G) (hN1:1≤N) (hN:N≤200) :
 Meets Tryz.prog 21 #[va] w (RRd w r (15 * Nb N 8 + 12) len G):=by
 refine fn_W (n:=51) Tryz.func21 rfl rfl (by kernel_rfl) (by simp) ?_
 have ha0:=ha
 have hX:Ext w w:=Ext.refl w
 refine gh ?_
 refine gh ?_
 refine R1_call2 (gdet_ok va r N len G w ha hN1 (by omega)) ?_
 rintro _ w_1 ⟨hE_,x,y,rfl,hcv⟩
 replace ha:=ha.ext hE_
 replace hX:=hX.trans hE_
 clear hE_
 have h5:=valE_le r len G
 by_cases h0:valE r len G = 0
 rotate_left
 · rw [if_neg h0] at hcv
   refine gh ?_
   refine R1_alloc (.inl rfl) z_Int ?_
   intro w_2 hB0_ hE_ hs_
   have hD:=Bx.zero (N:=1) true hB0_
   obtain ⟨gD,hg_⟩ : ∃ g,g = w_1.heap.size:=⟨_,rfl⟩
   rw [← hg_] at hD ⊢
   have hfr_gD:w.heap.size≤gD:=by have:=hX.size; omega
   replace ha:=ha.ext hE_
   replace hcv:=hcv.ext hE_
   replace hX:=hX.trans hE_
   clear hB0_ hs_ hg_ hE_
   refine gh ?_
   refine R1_storeBx (by first | exact .inl rfl | exact .inr ⟨rfl,fun _ h=>h.mono fun b _ e=>by omega⟩) rfl rfl hD (hcv.ev true (Bd.zero 1)) ?_
   intro w_3 hD hC_ hk_ hs_
   clear ha
   replace hcv:=hcv.kp hk_
   replace hX:=hC_.ext_of hX (fun b hb=>by omega)
   clear hC_ hk_ hs_
   refine gh ?_
   refine W_seq ?_
   refine gh ?_
   exact ret3 (v:=.slice _ _ _) (v':=.slice _ _ _) (v'':=.int _ _) rfl rfl rfl rfl ⟨hX,.inl ⟨h0,rfl⟩⟩
 rw [if_pos h0] at hcv
 obtain ⟨hok,h8,_⟩:=valE_zero.1 h0
 obtain ⟨hr1,hr2,hlen⟩:=okS_iff.1 hok
 obtain ⟨hp,hs⟩:=val_pm h0
 have hG:=ha.sq hlen
 have hbd:Bd (Nb N r) (det r G):=by rw [← detB_det]; exact detB_bd hN1 fun i j hi hj=>hG.bd hi hj
 refine gh ?_
 refine R1_alloc (.inl rfl) z_Int ?_
 intro w_4 hB0_ hE_ hs_
 have hD:=Bx.zero (N:=1) true hB0_
 obtain ⟨gD,hg_⟩ : ∃ g,g = w_1.heap.size:=⟨_,rfl⟩
 rw [← hg_] at hD ⊢
 have hfr_gD:w.heap.size≤gD:=by have:=hX.size; omega
 replace ha:=ha.ext hE_
 replace hcv:=hcv.ext hE_
 replace hX:=hX.trans hE_
 clear hB0_ hs_ hg_ hE_
 refine gh ?_
 refine R1_storeBx (by first | exact .inl rfl | exact .inr ⟨rfl,fun _ h=>h.mono fun b _ e=>by omega⟩) rfl rfl hD (hcv.ev true hbd) ?_
 intro w_5 hD hC_ hk_ hs_
 clear ha
 replace hcv:=hcv.kp hk_
 replace hX:=hC_.ext_of hX (fun b hb=>by omega)
 clear hC_ hk_ hs_
 refine gh ?_
 refine W_seq ?_
 refine gh ?_
 refine W_seq ?_
 refine gh ?_
 refine W_seqD [(0,0),(1,1),(2,2),(3,3)] mixed (by kernel_rfl) (fun w_6 hE_ _=>?_)
 replace hcv:=hcv.ext hE_
 replace hD:=hD.ext hE_
 replace hX:=hX.trans hE_
 clear hE_
 obtain ⟨hD_u,hD_v,hD_B,hD_V⟩:=id hD
 obtain ⟨hD_0,hD_1⟩:=blkP hD_B
 have hb1:Bd (Nb N r + 1) 10000:=(show Bd 1 10000 by unfold Bd B; decide).mono (by omega)
 refine gh ?_
 refine gh ?_
 refine R1_call1 (small_ok 10000 w_6 (by decide) (by decide)) ?_
 rintro _ w_7 ⟨hE_,x1,y1,rfl,hc1⟩
 refine ⟨hE_,?_⟩
 replace hcv:=hcv.ext hE_
 replace hD:=hD.ext hE_
 replace hD_V:=hD_V.ext hE_
 replace hX:=hX.trans hE_
 clear hE_
 refine gh ?_
 refine R1_call2 (cmp_ok _ _ _ _ _ _ (Nb N r + 1) w_7 (hD_V.1.mono (by omega)) (hc1.iv hb1) (by have:=Nb_big (show N < 1048576 by omega) (show r≤16 by omega); omega)) ?_
 rintro _ w_8 ⟨hE_,rfl⟩
 replace hcv:=hcv.ext hE_
 replace hD:=hD.ext hE_
 replace hD_V:=hD_V.ext hE_
 replace hc1:=hc1.ext hE_
 replace hX:=hX.trans hE_
 clear hE_
 by_cases hd:det r G≤10000
 rotate_left
 · have hcm:cmpI (det r G) 10000 = 1:=by
    unfold cmpI
    rw [if_neg (by omega),if_pos (by omega)]
   refine gh ?_
   exact ret3 (v:=.slice _ _ _) (v':=.slice _ _ _) (v'':=.int _ _) rfl rfl rfl rfl ⟨hX,.inr (.inl ⟨h0,by omega,rfl⟩)⟩
 have hcm:¬ 0 < cmpI (det r G) 10000:=by
  unfold cmpI
  split
  · decide
  · split
    · omega
    · decide
 refine gh ?_
 have hG:=(ha0.sq hlen).ext hX
 obtain ⟨K,hK⟩ : ∃ K,K = Nb N 8:=⟨_,rfl⟩
 have hK8:K≤51455:=by
  rw [hK]; simp only [Nb]; omega
 have hKN:N≤K:=by rw [hK]; exact Nb_le' N (Nat.zero_le 8)
 refine R1_call2 (newState_ok va r N (15 * K + 12) G w_8 hG hr1 h8 hN1 (by omega) (by omega) hp) ?_
 rintro _ w_a ⟨hE_a,I,rfl,hI,hfr,hS⟩
 obtain ⟨hRB,hLI⟩:=runB hs hr1 h8 hN1 (fun i j hi hj=>hG.bd hi hj) hp
 rw [← hK] at hRB hLI
 have hS0:StB w_a I r (15 * K + 12) (dH r G one) (lH r G one) one:=hS.congr (Nat.le_refl _) (fun m hm=>(Go.Det.gr_one_det hm).symm) (fun i c hc hi=>(Go.Det.gr_one_bm (by omega) hi (by omega)).symm) (fun _ _ _ _=>rfl)
 refine gh ?_
 refine R1_call2 (run_ok I r (15 * K + 12) I.gS G one _ _ _ _ w_a hS0 hI rfl hr1 h8 (by omega) (by omega) hRB hLI) ?_
 rintro _ w_b ⟨rfl,hC_b,hk_b,T,hS1,hL1⟩
 have hX:=hX.trans (hC_b.ext_of hE_a (fun b hb=>hfr b hb.blk))
 have ha:=ha0.ext hX
 have hG:=ha.sq hlen
 have hsb:=hX.size
 have k2:=hS1.c2
 have bT:∀ i j,i < r→j < r→Bd (15 * K + 12) (T i j):=fun i j hi hj=>hRB.bT _ _ (hL1.up hRB.Bl) i j hi hj
 refine gh ?_
 have hO:=hS1.ba.o
 refine R1_call2 (transpose_ok _ r (15 * K + 12) (fun _=>r) T w_b (hO.rd bT (Nat.le_refl _) (by omega) (by omega)) (by omega)) ?_
 intro _ w_c hq
 obtain ⟨_,rfl,hE_c,gT,gsT,rfl,hgT,hgsT,hOT⟩:=hq.get (okM_iff.2 ⟨⟨hr1,hr2,hr1,hr2⟩,fun _ _=>rfl⟩)
 have hX:=hX.trans hE_c
 have ha:=ha0.ext hX
 refine gh ?_
 have hu:det r (fun i j=>T j i) ≠ 0:=by
  rw [show det r (fun i j=>T j i) = det r T from Go.Det.det_tr r T]
  rcases hL1.uni with e | e <;> rw [e] <;> decide
 have e0:trE r len G r (fun _=>r) (fun i j=>T j i) = 0:=trE_sq h0 (fun _ _=>rfl) hu
 have bT':∀ i j,i < r→j < r→Bd (15 * K + 12) (T j i):=fun i j hi hj=>bT j i hj hi
 refine R1_call2 (transform_ok va _ r r (15 * K + 12) len (fun _=>r) G (fun i j=>T j i) w_c (MatE.mono ha (by omega)) (hOT.rd bT' (Nat.le_refl _) (by omega) (by omega)) (by omega) (by omega)) ?_
 rintro _ w_d ⟨hE_d,⟨hne,_⟩ | ⟨_,gH,gsH,rfl,hH⟩⟩
 · exact absurd e0 hne
 have hH:OMat w_d gH gsH r r (gr r T G):=by
  have:=hH
  rw [show (fun i j=>(fun i j=>T j i) j i) = T from rfl,gr_mulM] at this
  exact this
 have hX:=hX.trans hE_d
 have hOT:=hOT.ext hE_d
 have hsd:=hX.size
 have hsym:=Go.Det.gr_tr hs (T:=T)
 have hdet:det r (gr r T G) = det r G:=by
  rw [Go.Det.gr_det]
  rcases hL1.uni with e | e <;> rw [e] <;> omega
 have hsm:∀ i j,i < r→j < r→-262144 < gr r T G i j∧gr r T G i j < 262144:=fun i j hi hj=>Go.Det.entry_small hsym hL1.pos hL1.red h8 (by omega) hi hj
 have bH:∀ i j,i < r→j < r→Bd 1 (gr r T G i j):=fun i j hi hj=>by
  have:=hsm i j hi hj
  unfold Bd B
  omega
 refine gh ?_
 refine R1_call2 (toInts_ok _ r 1 (fun _=>r) (gr r T G) w_d (hH.rd bH (Nat.le_refl _) (by omega) (by omega)) (by decide)) ?_
 intro _ w_e hq
 have hok:okF r (fun _=>r) (gr r T G) = true:=by
  unfold okF
  rw [show okM r (fun _=>r) = true from okM_iff.2 ⟨⟨hr1,hr2,hr1,hr2⟩,fun _ _=>rfl⟩,Bool.true_and]
  exact allFit_iff.2 fun i j hi hj=>(fits_t (by have:=hsm i j hi hj; omega) (by have:=hsm i j hi hj; omega)).1
 rw [hok] at hq
 unfold RZB at hq
 rw [if_pos rfl] at hq
 obtain ⟨_,rfl,hE_e,gO,gs,rfl,hgO,hgs,hZ⟩:=hq
 have hsz1:=(hX.trans hE_e).size
 have hsz2:=hE_c.size
 refine gh ?_
 refine ret3 (v:=.slice _ _ _) (v':=.slice _ _ _) (v'':=.int _ _) rfl rfl rfl rfl ⟨hX.trans hE_e,.inr (.inr ⟨h0,hd,T,gO,gs,gT,gsT,rfl,by omega,fun i hi=>by have:=hgs i hi; omega,hZ,by omega,fun i hi=>by have:=hgsT i hi; omega,hOT.ext hE_e,?_⟩)⟩
 exact ⟨hL1.uni,hL1.pos,hsym,hL1.red,hdet,by rw [← hK]; exact bT,hsm⟩
end Go.Proofs.YtmkbpjoihdfpkaaGreat
namespace Go.Proofs.YtmkbpjoihdfpkaaGreat
open Go Go.Eng Go.Num Go.Proofs
open Go.Det (gr bm det Sy PM Red one)
theorem found_ok {n N:Nat} {G T:Nat→Nat→Int} (h:Found n N G T) (hn1:1≤n) (hn:n≤8) (hd:det n G≤10000):redOk n (fun _=>n) (gr n T G):=by
 refine ⟨valE_0 ⟨okS_iff.2 ⟨hn1,by omega,fun _ _=>rfl⟩,hn⟩ (fun i j _ _=>congrFun (congrFun h.sym j) i) fun q hq=>h.pos (q + 1) (by omega),by rw [h.det]; exact hd,h.red⟩
theorem found_rd {n N:Nat} {G T:Nat→Nat→Int} {w:World} {gO:Nat} {gs:Nat→Nat} (h:Found n N G T) (hZ:ZMat w gO gs n n (gr n T G)) (hn:n≤8):MatZ w (.slice (some ⟨gO,0,none⟩) n n) n (fun _=>n) (gr n T G) :=
 hZ.read (fun i j hi hj=>by have:=h.small i j hi hj; omega) (by omega) (by omega)
theorem awk_val:valE 2 (fun _=>2) (lit2 1 1 1 2) = 0:=by
 refine valE_0 ⟨okS22,by decide⟩ (fun i j hi hj=>?_) fun q hq=>?_
 · obtain rfl:i = 1:=by omega
   obtain rfl:j = 0:=by omega
   rfl
 · have:q = 0 ∨ q = 1:=by omega
   rcases this with rfl | rfl
   · rw [show 0 + 1 = 1 from rfl,det1]; decide
   · rw [show 1 + 1 = 2 from rfl,det2]; decide
set_option maxHeartbeats 16000000 in
theorem awake8_ok (w:World):Meets Tryz.prog 17 #[] w fun v w'=>Ext w w'∧v = .bool true:=by
 have bA:=lit2_bd (a:=1) (b:=1) (c:=1) (d:=2) (bd2 (by decide)) (bd2 (by decide)) (bd2 (by decide)) (bd2 (by decide))
 have r1:¬ redOk 2 (fun _=>2) (lit2 5 0 0 1):=fun h=>by
  have:=(redOk2 _).1 h
  revert this
  decide
 have r2:redOk 2 (fun _=>2) (lit2 2 1 1 2):=(redOk2 _).2 (by decide)
 refine fn_W (n:=54) Tryz.func17 rfl rfl (by kernel_rfl) (by simp) ?_
 refine gh ?_
 refine R1_build2 sl_i64 rfl (.inl rfl) rfl rfl rfl rfl ?_
 intro w1 hB1 hE1 hs1
 refine gh ?_
 refine R1_build2 sl_i64 rfl (.inl rfl) rfl rfl rfl rfl ?_
 intro w2 hB2 hE2 hs2
 refine gh ?_
 refine R1_build2 sl_si64 rfl (.inl rfl) rfl rfl rfl rfl ?_
 intro w3 hB3 hE3 hs3
 refine gh ?_
 refine R1_call2 (rof_ok _ 2 (fun _=>2) (lit2 1 1 1 2) w3 (matZ_lit hB3 (hB1.ext (hE2.trans hE3)) (hB2.ext hE3) (by decide) (by decide) (by decide) (by decide))) ?_
 intro v w4 hv
 obtain ⟨hE4,gA,gsA,rfl,_,_,hOA⟩:=hv.get okM22
 have hX:=hE1.trans (hE2.trans (hE3.trans hE4))
 clear hv
 refine gh ?_
 refine R1_call2 (reduce_ok _ 2 2 (fun _=>2) (lit2 1 1 1 2) w4 (hOA.read (fun i j _ _=>bA i j) (by decide) (by decide)) (by decide) (by decide)) ?_
 have hdd:det 2 (lit2 1 1 1 2) = 1:=by rw [det2]; decide
 rintro _ w5 ⟨hE5,⟨h0,_⟩ | ⟨_,h0,_⟩ | ⟨_,hd,T,gO,gs,gT,gsT,rfl,hgO,hgs,hZ,hgT,hgsT,hOT,hF⟩⟩
 · exact absurd awk_val h0
 · rw [hdd] at h0; exact absurd h0 (by decide)
 have hOk:=found_ok hF (by decide) (by decide) hd
 have hone:gr 2 T (lit2 1 1 1 2) 0 0 = 1:=first_one hF.pos hF.red (by rw [hF.det,hdd])
 replace hX:=hX.trans hE5
 clear hE1 hE2 hE3 hE4 hE5 hB1 hB2 hB3 hOA hOT hs1 hs2 hs3 hgO hgs hgT hgsT
 refine gh ?_
 refine R1_call2 (rIsReduced_ok _ 2 (fun _=>2) _ w5 (found_rd hF hZ (by decide))) ?_
 rintro _ w6 ⟨hE6,b,rfl,hb⟩
 obtain rfl:b = true:=hb.2 hOk
 have hZ6:=hZ.ext hE6
 refine gh ?_
 refine R1_call2 (isReduced_ok _ 2 (fun _=>2) _ w6 (found_rd hF hZ6 (by decide))) ?_
 rintro _ w7 ⟨hE7,b,rfl,hb⟩
 obtain rfl:b = true:=hb.2 hOk
 have hZ7:=hZ6.ext hE7
 have k3:=hZ7.at (i:=0) (by decide)
 have k4:=(hZ7.row 0 (by decide)).at (j:=0) (by decide)
 rw [hone] at k4
 refine gh ?_
 refine R1_index0B sl_i64 rfl (by omega) ?_
 refine gh ?_
 refine R1_build2 sl_i64 rfl (.inl rfl) rfl rfl rfl rfl ?_
 intro w8 hB8 hE8 hs8
 refine gh ?_
 refine R1_build2 sl_i64 rfl (.inl rfl) rfl rfl rfl rfl ?_
 intro w9 hB9 hE9 hs9
 refine gh ?_
 refine R1_build2 sl_si64 rfl (.inl rfl) rfl rfl rfl rfl ?_
 intro w10 hB10 hE10 hs10
 refine gh ?_
 refine R1_call2 (isReduced_ok _ 2 (fun _=>2) (lit2 5 0 0 1) w10 (matZ_lit hB10 (hB8.ext (hE9.trans hE10)) (hB9.ext hE10) (by decide) (by decide) (by decide) (by decide))) ?_
 rintro _ w11 ⟨hE11,b,rfl,hb⟩
 obtain rfl:b = false:=by
  cases b with
  | false=>rfl
  | true=>exact absurd (hb.1 rfl) r1
 replace hX:=hX.trans (hE6.trans (hE7.trans (hE8.trans (hE9.trans (hE10.trans hE11)))))
 refine gh ?_
 refine R1_build2 sl_i64 rfl (.inl rfl) rfl rfl rfl rfl ?_
 intro w12 hB12 hE12 hs12
 refine gh ?_
 refine R1_build2 sl_i64 rfl (.inl rfl) rfl rfl rfl rfl ?_
 intro w13 hB13 hE13 hs13
 refine gh ?_
 refine R1_build2 sl_si64 rfl (.inl rfl) rfl rfl rfl rfl ?_
 intro w14 hB14 hE14 hs14
 refine gh ?_
 refine R1_call2 (isReduced_ok _ 2 (fun _=>2) (lit2 2 1 1 2) w14 (matZ_lit hB14 (hB12.ext (hE13.trans hE14)) (hB13.ext hE14) (by decide) (by decide) (by decide) (by decide))) ?_
 rintro _ w15 ⟨hE15,b,rfl,hb⟩
 obtain rfl:b = true:=hb.2 r2
 refine gh ?_
 exact ret1 (v:=.bool _) rfl rfl ⟨hX.trans (hE12.trans (hE13.trans (hE14.trans hE15))),rfl⟩
end Go.Proofs.YtmkbpjoihdfpkaaGreat
