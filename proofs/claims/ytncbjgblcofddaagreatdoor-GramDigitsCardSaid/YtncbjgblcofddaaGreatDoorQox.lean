/- Joined: Rfm, Rgf, Lgj. -/
import Derived.Test.YtncbjgblcofddaaGreatDoorQoe
import Derived.Test.YtncbjgblcofddaaGreatDoorQoo
import Derived.Test.YtncbjgblcofddaaGreatDoorQoh
import Derived.Test.YtncbjgblcofddaaGreatDoorQof
import Derived.Test.YtncbjgblcofddaaGreatDoorQoc
import Derived.Test.YtncbjgblcofddaaGreatDoorQnh
import Derived.Test.YtncbjgblcofddaaGreatDoorQoj
import Derived.Test.YtncbjgblcofddaaGreatDoorQf
/- The reference's Format of an integer. -/
namespace Go.Proofs.YtncbjgblcofddaaGreatDoor
open Go Go.Eng Go.Num Go.Dig Go.Proofs
theorem rdivModN_ok (x1 y1 x2 y2:Value) (z1 z2:Int) (N:Nat) (w:World) (h1:IV w N x1 y1 z1) (h2:IV w N x2 y2 z2) (hN:N < 68719476736) (h0:z2 ≠ 0) :
 Meets Tryz.prog 135 #[.agg #[x1,y1],.agg #[x2,y2]] w fun v w'=>Ext w w'∧∃ qx qy rx ry,v = .tuple #[.agg #[qx,qy],.agg #[rx,ry],.bool true]∧CV w' qx qy (z1 / z2)∧CV w' rx ry (z1 % z2) :=
 (rdivMod_ok x1 y1 x2 y2 z1 z2 N w h1 h2 hN).mono fun _ _ hv=>by
  unfold RDZ at hv
  rw [if_neg h0] at hv
  exact hv
theorem dig_rev (m n:Nat):((dig (m + 1) n).map ch).reverse = ch (n / 10 ^ m % 10) :: ((dig m n).map ch).reverse:=by
 rw [dig_snoc]; simp
theorem low_of {w:World} {x y:Value} {r:Nat} (h:CV w x y ((r:Nat):Int)) (hr:r < 1000000000):∃ neg A l c,x = .bool neg∧y = .slice A l.length c∧Mag w A l∧l.length < 3∧val (l.take 2) = r:=by
 obtain ⟨neg,A,l,c,rfl,rfl,h3,h4,h5,h6,h7,h8⟩:=h
 have hv:val l = r:=by
  have:=congrArg Int.natAbs h8
  rw [sg_abs,Int.natAbs_natCast] at this
  exact this.symm
 have hl:l.length≤1:=trimd_len h6 (by rw [hv]; exact Nat.lt_trans hr (by decide))
 exact ⟨neg,A,l,c,rfl,rfl,h5,by omega,by rw [List.take_of_length_le (by omega)]; exact hv⟩
set_option maxHeartbeats 32000000 in
theorem rformat_ok (x y:Value) (z:Int) (N:Nat) (w:World) (h:IV w N x y z) (hN:N < 100000000) (hN1:1≤N) :
 Meets Tryz.prog 77 #[.agg #[x,y]] w fun v w'=>Ext w w'∧v = Tx (zt z):=by
 have hbz:=h.bd
 have h0':=h
 obtain ⟨neg,A,l,c,rfl,rfl,hc,hc2,hM,hl,hzv⟩:=h0'
 refine fn_W (n:=54) Tryz.func77 rfl rfl (by kernel_rfl) (by simp) ?_
 have hX:Ext w w:=Ext.refl w
 refine gb ?_
 refine R1_box (v:=.agg _) (.inl rfl) rfl ?_
 intro w_1 hB0_ hE_ hs_
 have hA:Blk w_1 w.heap.size 41 #[.bool neg,.slice A l.length c]:=hB0_
 obtain ⟨gA,hg_⟩ : ∃ g,g = w.heap.size:=⟨_,rfl⟩
 rw [← hg_] at hA ⊢
 have hfr_gA:w.heap.size≤gA:=by have:=hX.size; omega
 replace h:=h.ext hE_
 replace hX:=hX.trans hE_
 clear hB0_ hs_ hg_ hE_
 refine gb ?_
 refine W_seq ?_
 obtain ⟨f0,f1⟩:=blkP hA
 refine gb ?_
 refine gb ?_
 refine R1_call2 (rsign_ok _ _ _ _ w_1 h (by omega)) ?_
 rintro _ w_2 ⟨hE_,rfl⟩
 replace h:=h.ext hE_
 replace hA:=hA.ext hE_
 replace hX:=hX.trans hE_
 clear hE_
 clear f0 f1
 by_cases hz:z = 0
 · have hs:z.sign = 0:=by rw [hz]; rfl
   refine gb ?_
   exact ret1 (v:=Tx [48]) rfl rfl ⟨hX,by rw [hz]; rfl⟩
 have hs:¬ z.sign = 0:=fun e=>hz (Int.sign_eq_zero_iff_zero.1 e)
 obtain ⟨n,hn⟩ : ∃ n,n = z.natAbs:=⟨_,rfl⟩
 have hnp:0 < n:=by omega
 have hnN:n < B ^ N:=by rw [hn]; exact hbz
 have bn:∀ k,Bd N (((n / k:Nat)):Int):=fun k=>by
  unfold Bd; rw [Int.natAbs_natCast]; exact Nat.lt_of_le_of_lt (Nat.div_le_self _ _) hnN
 have bn1:Bd N ((n:Nat):Int):=by unfold Bd; rw [Int.natAbs_natCast]; exact hnN
 have fgA:w.heap.size≤gA:=hfr_gA
 refine gb ?_
 refine W_seqM (fun f w'=>∃ t k,f 1 = .pointer (some ⟨gA,0,none⟩)∧f 3 = Tx t∧Ext w w'∧Blk w' gA 41 #[.bool neg,.slice A l.length c]∧t = ((dig (9 * k) n).map ch).reverse∧n < 10 ^ (9 * k)∧9 * k≤32 * N + 9) ?_ ?_
 · obtain ⟨f0,f1⟩:=blkP hA
   refine gb ?_
   refine gb ?_
   refine R1_call2 (rabs_ok _ _ _ _ w_2 h (by omega)) ?_
   rintro _ w_3 ⟨hE_,a0,a1,rfl,hab⟩
   replace h:=h.ext hE_
   replace hA:=hA.ext hE_
   replace hX:=hX.trans hE_
   clear hE_
   rw [← hn] at hab
   clear f0 f1
   refine gb ?_
   refine gb ?_
   refine R1_alloc (.inl rfl) z_Int ?_
   intro w_4 hB0_ hE_ hs_
   have hG0:=Bx.zero (N:=1) true hB0_
   obtain ⟨g0,hg_⟩ : ∃ g,g = w_3.heap.size:=⟨_,rfl⟩
   rw [← hg_] at hG0 ⊢
   have hfr_g0:w.heap.size≤g0:=by have:=hX.size; omega
   have hne_g0_gA:g0 ≠ gA:=by have:=hA.lt; omega
   replace h:=h.ext hE_
   replace hA:=hA.ext hE_
   replace hab:=hab.ext hE_
   replace hX:=hX.trans hE_
   clear hB0_ hs_ hg_ hE_
   refine gb ?_
   refine gb ?_
   refine R1_storeBx (by first | exact .inl rfl | exact .inr ⟨rfl,fun _ h=>h.mono fun b _ e=>by omega⟩) rfl rfl hG0 (hab.ev true bn1) ?_
   intro w_5 hG0 hC_ hk_ hs_
   replace h:=h.kp hk_
   replace hA:=hA.ch hC_ (by omega)
   replace hab:=hab.kp hk_
   replace hX:=hC_.ext_of hX (fun b hb=>by omega)
   clear hC_ hk_ hs_
   refine gb ?_
   have f0:w.heap.size≤g0∧gA ≠ g0:=⟨hfr_g0,fun e=>hne_g0_gA e.symm⟩
   refine W_loop (fun q f w'=>∃ g t k,q = n / 10 ^ (9 * k)∧f 1 = .pointer (some ⟨gA,0,none⟩)∧f 3 = Tx t∧f 4 = .pointer (some ⟨g,0,none⟩)∧Ext w w'∧Blk w' gA 41 #[.bool neg,.slice A l.length c]∧Bx w' g N true ((n / 10 ^ (9 * k):Nat):Int)∧w.heap.size≤g∧gA ≠ g∧t = ((dig (9 * k) n).map ch).reverse∧9 * k≤32 * N + 9)
    n ⟨g0,[],0,by simp,rfl,rfl,rfl,hX,hA,by simpa using hG0,f0.1,f0.2,rfl,by omega⟩ ?_
   clear hX hA hG0 h hab f0
   rintro q f w' ⟨g,t,k,rfl,hf1,hf3,hf4,hX,hA,hG,hfg,hgA,ht,h32⟩
   rw [ui hf1,ui hf3,ui hf4]
   clear hf1 hf3 hf4
   refine W_seq ?_
   obtain ⟨hG_u,hG_v,hG_B,hG_V⟩:=id hG
   obtain ⟨hG_0,hG_1⟩:=blkP hG_B
   refine gb ?_
   refine gb ?_
   refine R1_call2 (rsign_ok _ _ _ _ w' hG_V.1 (by omega)) ?_
   rintro _ w_6 ⟨hE_,rfl⟩
   replace hA:=hA.ext hE_
   replace hG:=hG.ext hE_
   replace hX:=hX.trans hE_
   clear hE_
   clear hG_0 hG_1
   by_cases hX0:n / 10 ^ (9 * k) = 0
   · have hs:¬ 0 < ((n / 10 ^ (9 * k):Nat):Int).sign:=by rw [hX0]; decide
     refine gb ?_
     refine ⟨t,k,rfl,rfl,hX,hA,ht,?_,h32⟩
     rcases Nat.lt_or_ge n (10 ^ (9 * k)) with h' | h'
     · exact h'
     · have:=Nat.div_pos h' (Nat.pow_pos (by decide)); omega
   obtain ⟨X,hXd⟩ : ∃ X,X = n / 10 ^ (9 * k):=⟨_,rfl⟩
   have hs:0 < ((n / 10 ^ (9 * k):Nat):Int).sign:=by rw [Int.sign_eq_one_of_pos (by omega)]; decide
   have hj32:9 * k < 32 * N:=dig_bound (by
    rcases Nat.lt_or_ge n (10 ^ (9 * k)) with h' | h'
    · rw [Nat.div_eq_of_lt h'] at hX0; omega
    · exact h') hnN
   rw [← hXd] at hG hG_V hX0
   have b9:Bd N 1000000000:=Bd.mono (N:=1) (by unfold Bd; decide) hN1
   obtain ⟨r,hr⟩ : ∃ r,r = X % 1000000000:=⟨_,rfl⟩
   have hr9:r < 1000000000:=by omega
   have hXb:Bd N ((X:Nat):Int):=by rw [hXd]; exact bn _
   refine gb ?_
   refine gb ?_
   refine W_seqG [(0,0)] [(1,[],[]),(7,[],[]),(8,[],[]),(2,[(3,3),(4,3),(5,3),(6,3)],[1])] [(9,2),(10,2),(11,3)] mixed (by kernel_rfl) (fun w_7 hE_ _=>?_)
   replace hA:=hA.ext hE_
   replace hG:=hG.ext hE_
   replace hX:=hX.trans hE_
   clear hE_
   obtain ⟨hG_u,hG_v,hG_B,hG_V⟩:=id hG
   obtain ⟨hG_0,hG_1⟩:=blkP hG_B
   have q0:=hG_V.1
   refine gb ?_
   refine Rg_float [(1,[]),(2,[(3,3),(4,3),(5,3),(6,3)])] [fA 7 5 41 (.agg #[.bool false,.slice none 0 0]),fA 8 6 41 (.agg #[.bool false,.slice none 0 0])] [20,21,18,22,23,24,5,6] (by kernel_rfl) (fun a ha f' w' _ _=>by
    rcases List.mem_cons.1 ha with rfl | ha
    · exact flt_alloc z_Int rfl f' w'
    · skip
      rcases List.mem_singleton.1 ha with rfl
      exact flt_alloc z_Int rfl f' w') ?_
   have hltq_gA:=hA.lt
   have hltq_g:=hG.lt
   have hszq:=hX.size
   clear hG_0 hG_1
   refine gb ?_
   refine Rc_cons (fun w_8 hE_=>?_)
   replace hA:=hA.ext hE_
   replace hG:=hG.ext hE_
   replace q0:=q0.ext hE_
   replace hX:=hX.trans hE_
   clear hE_
   refine gb ?_
   refine R1_call1 (rsmall_ok 1000000000 w_8 (by decide) (by decide)) ?_
   rintro _ w_9 ⟨hE_,b0,b1,rfl,hc1⟩
   refine ⟨hE_,?_⟩
   replace hA:=hA.ext hE_
   replace hG:=hG.ext hE_
   replace q0:=q0.ext hE_
   replace hX:=hX.trans hE_
   clear hE_
   refine gb ?_
   refine Rc_cons (fun w_10 hE_=>?_)
   replace hA:=hA.ext hE_
   replace hG:=hG.ext hE_
   replace q0:=q0.ext hE_
   replace hc1:=hc1.ext hE_
   replace hX:=hX.trans hE_
   clear hE_
   refine gb ?_
   refine R1_call1 (rdivModN_ok _ _ _ _ _ _ N w_10 q0 (hc1.iv b9) (by omega) (by decide)) ?_
   rintro _ w_11 ⟨hE_,d0,d1,d2,d3,rfl,hq,hr1⟩
   refine ⟨hE_,?_⟩
   replace hA:=hA.ext hE_
   replace hG:=hG.ext hE_
   replace q0:=q0.ext hE_
   replace hc1:=hc1.ext hE_
   replace hX:=hX.trans hE_
   clear hE_
   refine gb ?_
   rw [show ((X:Nat):Int) / 1000000000 = ((X / 1000000000:Nat):Int) from by omega] at hq
   rw [show ((X:Nat):Int) % 1000000000 = ((r:Nat):Int) from by omega] at hr1
   have bq:Bd N ((X / 1000000000:Nat):Int):=by unfold Bd at *; rw [Int.natAbs_natCast] at *; omega
   have br:Bd N ((r:Nat):Int):=by unfold Bd at *; rw [Int.natAbs_natCast] at *; omega
   refine Rc_nil (fun w_12 hE_ bs hbs hdis=>?_)
   replace hA:=hA.ext hE_
   replace hG:=hG.ext hE_
   replace q0:=q0.ext hE_
   replace hc1:=hc1.ext hE_
   replace hq:=hq.ext hE_
   replace hr1:=hr1.ext hE_
   replace hX:=hX.trans hE_
   clear hE_
   obtain ⟨hge_g5,hB_g5⟩:=hbs _ List.mem_cons_self
   have hge_g5:w_7.heap.size≤bs 5:=hge_g5
   have h5:Bx w_12 (bs 5) 1 true 0:=Bx.zero true hB_g5
   obtain ⟨hge_g6,hB_g6⟩:=hbs _ (List.mem_cons_of_mem _ List.mem_cons_self)
   have hge_g6:w_7.heap.size≤bs 6:=hge_g6
   have h6:Bx w_12 (bs 6) 1 true 0:=Bx.zero true hB_g6
   have hne_g6_g5:bs 6 ≠ bs 5:=hdis _ _ (List.mem_cons_of_mem _ List.mem_cons_self) List.mem_cons_self (show (6:Nat) ≠ 5 by decide)
   show Ro _ _ _ _ _ _ (upd (upd _ 6 (.pointer (some ⟨bs 6,0,none⟩))) 5 (.pointer (some ⟨bs 5,0,none⟩))) _
   generalize bs 5 = g5 at *
   generalize bs 6 = g6 at *
   have hfr_g5:w.heap.size≤g5:=by omega
   have hne_g5_gA:g5 ≠ gA:=by omega
   have hne_g5_g:g5 ≠ g:=by omega
   have hfr_g6:w.heap.size≤g6:=by omega
   have hne_g6_gA:g6 ≠ gA:=by omega
   have hne_g6_g:g6 ≠ g:=by omega
   clear hbs hdis hszq hB_g5 hge_g5 hB_g6 hge_g6 hltq_gA hltq_g
   refine gb ?_
   refine R1_storeBx (by first | exact .inl rfl | exact .inr ⟨rfl,fun _ h=>h.mono fun b _ e=>by omega⟩) rfl rfl h5 (hq.ev true bq) ?_
   intro w_13 h5 hC_ hk_ hs_
   replace hA:=hA.ch hC_ (by omega)
   replace hG:=hG.kp hk_ hC_ (by first | omega | assumption)
   replace q0:=q0.kp hk_
   replace hc1:=hc1.kp hk_
   replace hq:=hq.kp hk_
   replace hr1:=hr1.kp hk_
   replace h6:=h6.kp hk_ hC_ (by first | omega | assumption)
   replace hX:=hC_.ext_of hX (fun b hb=>by omega)
   clear hC_ hk_ hs_
   refine gb ?_
   refine R1_storeBx (by first | exact .inl rfl | exact .inr ⟨rfl,fun _ h=>h.mono fun b _ e=>by omega⟩) rfl rfl h6 (hr1.ev true br) ?_
   intro w_14 h6 hC_ hk_ hs_
   replace hA:=hA.ch hC_ (by omega)
   replace hG:=hG.kp hk_ hC_ (by first | omega | assumption)
   replace q0:=q0.kp hk_
   replace hc1:=hc1.kp hk_
   replace hq:=hq.kp hk_
   replace hr1:=hr1.kp hk_
   replace h5:=h5.kp hk_ hC_ (by first | omega | assumption)
   replace hX:=hC_.ext_of hX (fun b hb=>by omega)
   clear hC_ hk_ hs_
   refine gb ?_
   obtain ⟨u6,v6,hB6,hV6⟩:=h6
   obtain ⟨ng,Ar,lr,cr,rfl,rfl,hMr,hlr,hvr⟩:=low_of (hV6.2 rfl) hr9
   have k6:=blk1 hB6
   refine gb ?_
   refine R1_call2 (low_ok Ar lr.length cr lr w_14 hMr rfl (by omega)) ?_
   rintro _ _ ⟨rfl,rfl⟩
   rw [hvr]
   clear k6 hB6 hV6 hMr
   have fg5:w.heap.size≤g5∧gA ≠ g5∧g ≠ g5:=⟨hfr_g5,fun e=>hne_g5_gA e.symm,fun e=>hne_g5_g e.symm⟩
   refine gb ?_
   refine W_seqM (fun f w'=>∃ t',f 1 = .pointer (some ⟨gA,0,none⟩)∧f 3 = Tx t'∧f 4 = .pointer (some ⟨g,0,none⟩)∧f 5 = .pointer (some ⟨g5,0,none⟩)∧Ext w w'∧Blk w' gA 41 #[.bool neg,.slice A l.length c]∧Bx w' g N true ((X:Nat):Int)∧Bx w' g5 N true ((X / 1000000000:Nat):Int)∧t' = ((dig 9 r).map ch).reverse ++ t) ?_ ?_
   · refine gb ?_
     refine W_loop (fun q f w'=>∃ i t',q = 9 - i∧i≤9∧f 1 = .pointer (some ⟨gA,0,none⟩)∧f 3 = Tx t'∧f 4 = .pointer (some ⟨g,0,none⟩)∧f 5 = .pointer (some ⟨g5,0,none⟩)∧f 8 = .int .u64 ((r / 10 ^ i:Nat):Int)∧f 9 = .int .i64 ((i:Nat):Int)∧Ext w w'∧Blk w' gA 41 #[.bool neg,.slice A l.length c]∧Bx w' g N true ((X:Nat):Int)∧Bx w' g5 N true ((X / 1000000000:Nat):Int)∧t' = ((dig i r).map ch).reverse ++ t)
      9 ⟨0,t,rfl,by omega,rfl,rfl,rfl,rfl,by simp; rfl,rfl,hX,hA,hG,h5,rfl⟩ ?_
     clear hX hA hG h5
     rintro q f w5 ⟨i,t',rfl,hi,hf1,hf3,hf4,hf5,hf8,hf9,hX,hA,hG,h5,ht'⟩
     rw [ui hf1,ui hf3,ui hf4,ui hf5,ui hf8,ui hf9]
     clear hf1 hf3 hf4 hf5 hf8 hf9
     refine W_seq ?_
     by_cases hi9:i < 9
     · have hd10:r / 10 ^ i % 10 < 10:=Nat.mod_lt _ (by decide)
       have hr64:r / 10 ^ i < 18446744073709551616:=Nat.lt_of_le_of_lt (Nat.div_le_self _ _) (by omega)
       have hlen:t'.length = i + 9 * k:=by rw [ht',ht]; simp [dig_len]
       have hd9:9 * k≤3200000009:=by omega
       refine gb ?_
       refine R1_rem_u64_c rfl (by decide) ?_
       refine gb ?_
       refine R1_add_u64_l rfl (by omega) ?_
       refine gb ?_
       refine R1_conv (by unfold TyD; exact Tryz.underlying108) (by unfold TyD; exact Tryz.underlying5) rfl (wrap_u8n (a:=48 + r / 10 ^ i % 10) (by omega)) ?_
       refine gb ?_
       refine R1_build1 sl_u8 rfl (.inl rfl) rfl rfl ?_
       intro w6 hB6 hE6 hs6
       have ech:48 + r / 10 ^ i % 10 = (ch (r / 10 ^ i % 10)).toNat:=by rw [ch_nat hd10]
       rw [ech] at hB6
       have k6:∀ j (hj:j < [ch (r / 10 ^ i % 10)].length),w6.cell? ((⟨w5.heap.size,0,none⟩ : Addr).add j) = some (.int .u8 ([ch (r / 10 ^ i % 10)][j].toNat:Int)):=fun j hj=>by
        have:j = 0:=by simp at hj; exact hj
        subst this
        exact blkS hB6
       refine gb ?_
       refine R1_ofBytes (by decide) by_u8 ty_str rfl (l:=[ch (r / 10 ^ i % 10)]) rfl (fun w' hw=>?_) ?_
       · rcases hw with hw | rfl
         · exact hw.elim
         · exact k6
       refine gb ?_
       refine R1_catS rfl rfl (by simp; omega) ?_
       refine gb ?_
       refine R1_quo_u64_c rfl hr64 (by decide) ?_
       refine gb ?_
       refine ⟨_,?_,i + 1,_,rfl,by omega,rfl,rfl,rfl,rfl,by rw [Nat.pow_succ,← Nat.div_div_eq_div_mul]; rfl,rfl,hX.trans hE6,hA.ext hE6,hG.ext hE6,h5.ext hE6,?_⟩
       · omega
       · rw [dig_rev,ht']; rfl
     · obtain rfl:i = 9:=by omega
       refine gb ?_
       exact ⟨t',rfl,rfl,rfl,rfl,hX,hA,hG,h5,ht'⟩
   clear hX hA hG h5
   rintro f w' ⟨t',hf1,hf3,hf4,hf5,hX,hA,hG,h5,ht'⟩
   rw [ui hf1,ui hf3,ui hf4,ui hf5]
   clear hf1 hf3 hf4 hf5
   obtain ⟨h5_u,h5_v,h5_B,h5_V⟩:=id h5
   obtain ⟨h5_0,h5_1⟩:=blkP h5_B
   refine gb ?_
   refine gb ?_
   refine R1_storeBx (by first | exact .inl rfl | exact .inr ⟨rfl,fun _ h=>h.mono fun b _ e=>by omega⟩) rfl rfl hG (h5_V) ?_
   intro w_15 hG hC_ hk_ hs_
   replace hA:=hA.ch hC_ (by omega)
   replace h5:=h5.kp hk_ hC_ (by first | omega | assumption)
   replace hX:=hC_.ext_of hX (fun b hb=>by omega)
   clear hC_ hk_ hs_
   clear h5_0 h5_1
   refine gb ?_
   obtain ⟨hG_u,hG_v,hG_B,hG_V⟩:=id hG
   obtain ⟨hG_0,hG_1⟩:=blkP hG_B
   have hGV:=hG_V
   refine gb ?_
   refine gb ?_
   refine R1_alloc (.inl rfl) z_Int ?_
   intro w_16 hB0_ hE_ hs_
   have h7:=Bx.zero (N:=1) true hB0_
   obtain ⟨g7,hg_⟩ : ∃ g,g = w_15.heap.size:=⟨_,rfl⟩
   rw [← hg_] at h7 ⊢
   have hfr_g7:w.heap.size≤g7:=by have:=hX.size; omega
   have hne_g7_gA:g7 ≠ gA:=by have:=hA.lt; omega
   have hne_g7_g:g7 ≠ g:=by have:=hG.lt; omega
   have hne_g7_g5:g7 ≠ g5:=by have:=h5.lt; omega
   replace hA:=hA.ext hE_
   replace hG:=hG.ext hE_
   replace h5:=h5.ext hE_
   replace hGV:=hGV.ext hE_
   replace hX:=hX.trans hE_
   clear hB0_ hs_ hg_ hE_
   refine gb ?_
   refine gb ?_
   refine R1_storeBx (by first | exact .inl rfl | exact .inr ⟨rfl,fun _ h=>h.mono fun b _ e=>by omega⟩) rfl rfl h7 (hGV) ?_
   intro w_17 h7 hC_ hk_ hs_
   replace hA:=hA.ch hC_ (by omega)
   replace hG:=hG.kp hk_ hC_ (by first | omega | assumption)
   replace h5:=h5.kp hk_ hC_ (by first | omega | assumption)
   replace hGV:=hGV.kp hk_
   replace hX:=hC_.ext_of hX (fun b hb=>by omega)
   clear hC_ hk_ hs_
   refine gb ?_
   have e10:X / 1000000000 = n / 10 ^ (9 * (k + 1)):=by
    rw [hXd,Nat.div_div_eq_div_mul,show (1000000000:Nat) = 10 ^ 9 by decide,← Nat.pow_add,show 9 * k + 9 = 9 * (k + 1) by omega]
   rw [e10] at h7
   refine ⟨_,?_,g7,t',k + 1,rfl,rfl,rfl,rfl,hX,hA,h7,hfr_g7,fun e=>hne_g7_gA e.symm,?_,by omega⟩
   · rw [← e10,← hXd]; exact Nat.div_lt_self (by omega) (by decide)
   · rw [ht',ht,show 9 * (k + 1) = 9 * k + 9 by omega,dig_add,← hXd,hr,show (1000000000:Nat) = 10 ^ 9 by decide,dig_mod]
     simp
 clear hX hA h
 rintro f w' ⟨t,k,hf1,hf3,hX,hA,ht,hlt,h32⟩
 rw [ui hf1,ui hf3]
 clear hf1 hf3
 have hdl:=dlen_pos hnp
 have hdk:=dlen_le hlt
 refine W_seqM (fun f w''=>f 1 = .pointer (some ⟨gA,0,none⟩)∧f 3 = Tx (nt n)∧w' = w'') ?_ ?_
 · refine gb ?_
   refine W_loop (fun q f w''=>∃ s,q≤9 * k∧dlen n≤q∧f 1 = .pointer (some ⟨gA,0,none⟩)∧f 3 = Tx s∧w' = w''∧s = ((dig q n).map ch).reverse)
    (9 * k) ⟨t,Nat.le_refl _,hdk,rfl,rfl,rfl,ht⟩ ?_
   rintro q f _ ⟨s,hqk,hdq,hf1,hf3,rfl,hs⟩
   rw [ui hf1,ui hf3]
   clear hf1 hf3
   obtain ⟨q,rfl⟩ : ∃ p,q = p + 1:=⟨q - 1,by omega⟩
   rw [dig_rev] at hs
   have hd10:n / 10 ^ q % 10 < 10:=Nat.mod_lt _ (by decide)
   have hc0:s[0]? = some (ch (n / 10 ^ q % 10)):=by rw [hs]; rfl
   have hcn:=ch_nat hd10
   refine W_seq ?_
   refine gb ?_
   refine R1_idxS ty_str rfl (j:=0) rfl hc0 ?_
   rw [hcn]
   by_cases hq:dlen n≤q
   · have hz:n / 10 ^ q % 10 = 0:=by
      rw [Nat.div_eq_of_lt (Nat.lt_of_lt_of_le (dlen_lt n) (Nat.pow_le_pow_right (by decide) hq))]
     rw [hz]
     refine gb ?_
     refine R1_dropS ty_str rfl (a:=1) rfl (by rw [hs]; simp) ?_
     refine gb ?_
     exact ⟨q,by omega,_,by omega,hq,rfl,rfl,rfl,by rw [hs]; rfl⟩
   · have e:dlen n = q + 1:=by omega
     have hne:n / 10 ^ q % 10 ≠ 0:=by
      have h1:=dlen_ge (n:=n) (by omega)
      rw [e,Nat.add_sub_cancel] at h1
      have h2:=dlen_lt n
      rw [e,Nat.pow_succ] at h2
      have h3:=Nat.div_pos h1 (Nat.pow_pos (show 0 < 10 by decide))
      have h4:n / 10 ^ q < 10:=Nat.div_lt_of_lt_mul (by omega)
      omega
     have hne':¬ 48 + n / 10 ^ q % 10 = 48:=by omega
     refine gb ?_
     exact ⟨rfl,by rw [hs,← dig_rev,← e]; rfl,rfl⟩
 rintro f _ ⟨hf1,hf3,rfl⟩
 rw [ui hf1,ui hf3]
 clear hf1 hf3
 have hval:n = val l:=by rw [hn,hzv,sg_abs]
 obtain ⟨f0,f1⟩:=blkP hA
 cases neg with
 | true =>
  refine gb ?_
  refine W_seq ?_
  refine gb ?_
  refine R1_catS rfl rfl (by simp [nt,dig_len]; omega) ?_
  refine gb ?_
  refine ret1 (v:=Tx _) rfl rfl ⟨hX,?_⟩
  have e:z = -((n:Nat):Int):=by rw [hzv,hval]; rfl
  unfold zt
  rw [if_neg hz,if_pos (by omega),← hn]
  rfl
 | false =>
  refine gb ?_
  refine W_seq ?_
  refine gb ?_
  refine ret1 (v:=Tx _) rfl rfl ⟨hX,?_⟩
  have e:z = ((n:Nat):Int):=by rw [hzv,hval]; rfl
  unfold zt
  rw [if_neg hz,if_neg (by omega),← hn]
end Go.Proofs.YtncbjgblcofddaaGreatDoor
namespace Go.Proofs.YtncbjgblcofddaaGreatDoor
open Go Go.Eng Go.Num Go.Dig Go.Proofs
theorem unsg_cons {c:UInt8} {r:List UInt8}:unsg (c :: r) = if c = 45 then r else c :: r:=by
 unfold unsg
 by_cases h:c = 45
 · subst h; rfl
 · rw [if_neg (by simpa using h),if_neg h]
theorem u8_45 {c:UInt8}:c.toNat = 45 ↔ c = 45:=⟨fun h=>UInt8.toNat_inj.1 h,fun h=>by rw [h]; rfl⟩
theorem rlong_ok (s:List UInt8) (w:World) :
 Meets Tryz.prog 76 #[Tx s] w fun v w'=>w = w'∧v = .bool (decide (2000 < (unsg s).length)):=by
 refine fn_W (n:=16) Tryz.func76 rfl rfl (by kernel_rfl) (by simp) ?_
 refine gb ?_
 by_cases h1:2000 < s.length
 rotate_left
 · have e:¬ 2000 < (unsg s).length:=by
    have:(unsg s).length≤s.length:=by unfold unsg; split <;> simp
    omega
   refine gb ?_
   exact ret1 (v:=.bool _) rfl rfl ⟨rfl,by rw [decide_eq_false e]⟩
 rcases s with _ | ⟨c,r⟩
 · simp at h1
 have hc:(c :: r)[0]? = some c:=rfl
 refine gb ?_
 refine R1_idxS ty_str rfl (j:=0) rfl hc ?_
 by_cases h45:c = 45
 · have e1:c.toNat = 45:=u8_45.2 h45
   rw [e1]
   rw [unsg_cons,if_pos h45]
   by_cases h2:2000 < r.length
   · have h2':2001 < (c :: r).length:=by simp; omega
     refine gb ?_
     exact ret1 (v:=.bool _) rfl rfl ⟨rfl,by rw [decide_eq_true h2,decide_eq_true h2']⟩
   · have h2':¬ 2001 < (c :: r).length:=by simp; omega
     refine gb ?_
     exact ret1 (v:=.bool _) rfl rfl ⟨rfl,by rw [decide_eq_false h2,decide_eq_false h2']⟩
 · have e1:¬ c.toNat = 45:=fun h=>h45 (u8_45.1 h)
   rw [unsg_cons,if_neg h45]
   refine gb ?_
   exact ret1 (v:=.bool _) rfl rfl ⟨rfl,by rw [decide_eq_true h1]⟩
theorem long_iff (z:Int):(2000 < (unsg (zt z)).length) ↔ ¬ Dig.okLen z:=by
 rw [← unsg_len]; omega
theorem zt_le {z:Int} (h:Dig.okLen z):(zt z).length≤2001:=by
 have:=zt_len z
 unfold Dig.okLen at h
 omega
set_option maxHeartbeats 16000000 in
theorem rline_ok (va:Value) (r N i:Nat) (M:Nat→Nat→Int) (w:World) (ha:MatE (EI N) w va r (fun _=>r) M) (hi:i < r) (hr:r≤16) (hN:N < 100000000) (hN1:1≤N) (hok:∀ k,k < r→Dig.okLen (M i k)) :
 Meets Tryz.prog 78 #[va,.int .i64 ((i:Nat):Int)] w fun v w'=>Ext w w'∧v = Tx (rowT M i (i + 1)):=by
 obtain ⟨ad,capa,_,rfl,hu,hru⟩:=ha.at hi
 obtain ⟨ai,capi,_,_,rfl,_,_,_⟩:=hru.at (show 0 < r by omega)
 refine fn_W (n:=27) Tryz.func78 rfl rfl (by kernel_rfl) (by simp) ?_
 have hX:Ext w w:=Ext.refl w
 refine gb ?_
 refine W_seqM (fun f w'=>f 5 = Tx (rowT M i (i + 1))∧Ext w w') ?_ ?_
 · refine gb ?_
   refine W_loop (fun q f w'=>∃ j s,q = i + 1 - j∧j≤i + 1∧f 0 = .slice (some ad) r capa∧f 1 = .int .i64 ((i:Nat):Int)∧f 5 = Tx s∧f 6 = .int .i64 ((j:Nat):Int)∧Ext w w'∧s = rowT M i j)
    (i + 1) ⟨0,[],rfl,Nat.zero_le _,rfl,rfl,rfl,rfl,hX,rfl⟩ ?_
   clear hX
   rintro q f w' ⟨j,s,rfl,hj,hf0,hf1,hf5,hf6,hX,hs⟩
   rw [ui hf0,ui hf1,ui hf5,ui hf6]
   clear hf0 hf1 hf5 hf6
   have hsl:s.length≤2002 * j:=by rw [hs]; exact rowT_len fun k hk=>hok k (by omega)
   refine W_seq ?_
   by_cases hji:j≤i
   · skip
     obtain ⟨_,_,x,y,e,hx,hy,hv⟩:=hru.at (show j < r by omega)
     cases e
     replace hx:=cell_ext hX hx
     replace hy:=cell_ext hX hy
     replace hv:=hv.ext hX
     have hu':=cell_ext hX hu
     have hzl:=zt_le (hok j (by omega))
     refine gb ?_
     refine W_seqM (fun f w''=>∃ s',f 0 = .slice (some ad) r capa∧f 1 = .int .i64 ((i:Nat):Int)∧f 5 = Tx s'∧f 6 = .int .i64 ((j:Nat):Int)∧w' = w''∧s' = rowT M i j ++ (if j = 0 then [] else [32])) ?_ ?_
     · refine W_seq ?_
       by_cases h0:j = 0
       · subst h0
         refine gb ?_
         exact ⟨s,rfl,rfl,rfl,rfl,rfl,by rw [hs]; simp⟩
       · have h0':0 < j:=by omega
         refine gb ?_
         refine R1_catS (b:=[32]) rfl rfl (by simp; omega) ?_
         refine gb ?_
         exact ⟨_,rfl,rfl,rfl,rfl,rfl,by rw [hs,if_neg h0]⟩
     rintro f _ ⟨s',hf0,hf1,hf5,hf6,rfl,hs'⟩
     rw [ui hf0,ui hf1,ui hf5,ui hf6]
     clear hf0 hf1 hf5 hf6
     have hsl':s'.length≤2002 * j + 1:=by
      rw [hs',← hs,List.length_append]
      split <;> simp <;> omega
     refine gb ?_
     refine R1_call2 (rformat_ok _ _ _ N w' hv hN hN1) ?_
     rintro _ w9 ⟨hE9,rfl⟩
     refine gb ?_
     refine R1_catS rfl rfl (by omega) ?_
     refine gb ?_
     refine ⟨_,?_,j + 1,_,rfl,by omega,rfl,rfl,rfl,rfl,hX.trans hE9,by rw [hs']; rfl⟩
     omega
   · refine gb ?_
     obtain rfl:j = i + 1:=by omega
     exact ⟨by rw [← hs]; rfl,hX⟩
 clear hX
 rintro f w' ⟨hf5,hX⟩
 rw [ui hf5]
 refine gb ?_
 exact ret1 (v:=Tx _) rfl rfl ⟨hX,rfl⟩
set_option maxHeartbeats 32000000 in
theorem rgformat_ok (va:Value) (r N:Nat) (len:Nat→Nat) (M:Nat→Nat→Int) (w:World) (ha:MatE (EI N) w va r len M) (hN1:1≤N) (hN:N < 1048576) :
 Meets Tryz.prog 23 #[va] w fun v w'=>Ext w w' ∧
  ((valE r len M ≠ 0∧v = .tuple #[Tx [],.int .i64 ((valE r len M:Nat):Int)]) ∨ (valE r len M = 0∧((okT r M∧v = .tuple #[Tx (formT r M),.int .i64 ((0:Nat):Int)]) ∨ (¬ okT r M∧v = .tuple #[Tx [],.int .i64 ((7:Nat):Int)])))):=by
 refine fn_W (n:=56) Tryz.func23 rfl rfl (by kernel_rfl) (by simp) ?_
 have hX:Ext w w:=Ext.refl w
 refine gb ?_
 refine W_seq ?_
 refine gb ?_
 refine gb ?_
 refine R1_call2 (rvalidate_ok va r N len M w ha hN1 hN) ?_
 rintro _ w_1 ⟨hE_,rfl⟩
 replace hX:=hX.trans hE_
 clear hE_
 by_cases hval:valE r len M = 0
 rotate_left
 · refine gb ?_
   exact ret2 (v:=Tx []) rfl rfl rfl ⟨hX,.inl ⟨hval,rfl⟩⟩
 obtain ⟨hok,h8,hsym,_⟩:=valE_zero.1 hval
 obtain ⟨hr1,hr2,hlen⟩:=okS_iff.1 hok
 obtain ⟨n,rfl⟩ : ∃ n,n = r:=⟨_,rfl⟩
 have hM:=ha.sq hlen
 obtain ⟨ad,capa,_,rfl,_,_⟩:=hM.at (show 0 < n by omega)
 have hsy:∀ i j,i < n→j < n→M i j = M j i:=(val_pm hval).2
 rw [hval]
 refine gb ?_
 clear ha
 refine W_seqM (fun f w'=>f 0 = .slice (some ad) n capa∧Ext w w'∧∀ a b,a < n→b < n→Dig.okLen (M a b)) ?_ ?_
 · refine gb ?_
   refine W_loop (fun q f w'=>∃ i,q = n - i∧i≤n∧f 0 = .slice (some ad) n capa∧f 15 = .int .i64 ((n:Nat):Int)∧f 16 = .int .i64 ((i:Nat):Int)∧Ext w w'∧∀ a b,a < i→b < n→Dig.okLen (M a b))
    n ⟨0,rfl,Nat.zero_le _,rfl,rfl,rfl,hX,fun a b h=>absurd h (by omega)⟩ ?_
   clear hX
   rintro q f w' ⟨i,rfl,hi,hf0,hf15,hf16,hX,hall⟩
   rw [ui hf0,ui hf15,ui hf16]
   clear hf0 hf15 hf16
   by_cases hlt:i < n
   rotate_left
   · refine gb ?_
     obtain rfl:i = n:=by omega
     exact ⟨rfl,hX,hall⟩
   obtain ⟨_,_,vr,e,hu,hru⟩:=hM.at hlt
   cases e
   obtain ⟨ai,capi,_,_,rfl,_,_,_⟩:=hru.at (show 0 < n by omega)
   have hu':=cell_ext hX hu
   refine gb ?_
   clear hu'
   refine W_loop (fun q f w'=>∃ j,q = n - j∧j≤n∧f 0 = .slice (some ad) n capa∧f 15 = .int .i64 ((n:Nat):Int)∧f 16 = .int .i64 ((i:Nat):Int)∧f 5 = .int .i64 ((i:Nat):Int)∧f 23 = .int .i64 ((n:Nat):Int)∧f 24 = .int .i64 ((j:Nat):Int)∧Ext w w'∧∀ b,b < j→Dig.okLen (M i b))
    n ⟨0,rfl,Nat.zero_le _,rfl,rfl,rfl,rfl,rfl,rfl,hX,fun b h=>absurd h (by omega)⟩ ?_
   clear hX
   rintro q f w6 ⟨j,rfl,hj,hf0,hf15,hf16,hf5,hf23,hf24,hX,hrow⟩
   rw [ui hf0,ui hf15,ui hf16,ui hf5,ui hf23,ui hf24]
   clear hf0 hf15 hf16 hf5 hf23 hf24
   by_cases hjl:j < n
   rotate_left
   · refine gb ?_
     obtain rfl:j = n:=by omega
     refine ⟨_,?_,i + 1,rfl,by omega,rfl,rfl,rfl,hX,fun a b h1 h2=>?_⟩
     · omega
     · by_cases e:a = i
       · subst e; exact hrow b h2
       · exact hall a b (by omega) h2
   obtain ⟨_,_,x,y,e,hx,hy,hv⟩:=hru.at hjl
   cases e
   have hu':=cell_ext hX hu
   replace hx:=cell_ext hX hx
   replace hy:=cell_ext hX hy
   replace hv:=hv.ext hX
   refine gb ?_
   refine R1_call2 (rformat_ok _ _ _ N w6 hv (by omega) hN1) ?_
   rintro _ w9 ⟨hE9,rfl⟩
   have hX9:=hX.trans hE9
   refine gb ?_
   refine R1_call2 (rlong_ok _ w9) ?_
   rintro _ _ ⟨rfl,rfl⟩
   by_cases hol:Dig.okLen (M i j)
   · rw [decide_eq_false (fun h=>(long_iff _).1 h hol)]
     refine gb ?_
     refine ⟨_,?_,j + 1,rfl,by omega,rfl,rfl,rfl,rfl,rfl,rfl,hX9,fun b hb=>?_⟩
     · omega
     · by_cases e:b = j
       · subst e; exact hol
       · exact hrow b (by omega)
   · rw [decide_eq_true ((long_iff _).2 hol)]
     refine gb ?_
     refine ret2 (v:=Tx []) (v':=.int _ _) rfl rfl rfl ⟨hX9,.inr ⟨rfl,.inr ⟨fun h=>hol ?_,rfl⟩⟩⟩
     by_cases h1:j≤i
     · exact h i j hlt h1
     · rw [hsy i j hlt hjl]; exact h j i hjl (by omega)
 clear hX
 rintro f w' ⟨hf0,hX,hall⟩
 rw [ui hf0]
 clear hf0
 have hT:okT n M:=fun i j hi hj=>hall i j hi (by omega)
 refine gb ?_
 refine R1_call2 (itoa_ok n w' (by omega)) ?_
 rintro _ _ ⟨rfl,rfl⟩
 refine gb ?_
 refine R1_catS rfl rfl (by simp) ?_
 refine gb ?_
 refine R1_catS rfl rfl (by simp) ?_
 refine gb ?_
 refine W_seqM (fun f w'=>f 7 = Tx (formT n M)∧Ext w w') ?_ ?_
 · refine gb ?_
   refine W_loop (fun q f w'=>∃ i s,q = n - i∧i≤n∧f 0 = .slice (some ad) n capa∧f 7 = Tx s∧f 44 = .int .i64 ((n:Nat):Int)∧f 45 = .int .i64 ((i:Nat):Int)∧Ext w w'∧s = headT n ++ linesT M i)
    n ⟨0,headT n,rfl,Nat.zero_le _,rfl,rfl,rfl,rfl,hX,by simp [linesT]⟩ ?_
   clear hX
   rintro q f w' ⟨i,s,rfl,hi,hf0,hf7,hf44,hf45,hX,hs⟩
   rw [ui hf0,ui hf7,ui hf44,ui hf45]
   clear hf0 hf7 hf44 hf45
   by_cases hlt:i < n
   rotate_left
   · refine gb ?_
     obtain rfl:i = n:=by omega
     exact ⟨by show Tx s = _; rw [hs]; rfl,hX⟩
   have hsl:s.length≤200000:=by
    have:=linesT_len (M:=M) (i:=i) (by omega) fun a k ha hk=>hall a k (by omega) (by omega)
    rw [hs]
    unfold headT
    simp only [List.length_append,List.length_cons,List.length_nil]
    omega
   have hrl:(rowT M i (i + 1)).length≤20000:=by
    have:=rowT_len (M:=M) (i:=i) (j:=i + 1) fun k hk=>hall i k hlt (by omega)
    omega
   refine gb ?_
   refine R1_call2 (rline_ok _ n N i M w' (hM.ext hX) hlt hr2 (by omega) hN1 (fun k hk=>hall i k hlt hk)) ?_
   rintro _ w9 ⟨hE9,rfl⟩
   refine gb ?_
   refine R1_catS (b:=[10]) rfl rfl (by simp; omega) ?_
   refine gb ?_
   refine R1_catS rfl rfl (by simp; omega) ?_
   refine gb ?_
   refine ⟨_,?_,i + 1,_,rfl,by omega,rfl,rfl,rfl,rfl,hX.trans hE9,by rw [hs]; simp [linesT]⟩
   omega
 clear hX
 rintro f w' ⟨hf7,hX⟩
 rw [ui hf7]
 refine gb ?_
 exact ret2 (v:=Tx _) (v':=.int _ _) rfl rfl rfl ⟨hX,.inr ⟨rfl,.inl ⟨hT,rfl⟩⟩⟩
end Go.Proofs.YtncbjgblcofddaaGreatDoor
namespace Go.Proofs.YtncbjgblcofddaaGreatDoor
open Go Go.Eng Go.Num Go.Dig Go.Proofs
open Go.Det (det)
open Classical in
noncomputable def fmtE (r:Nat) (len:Nat→Nat) (M:Nat→Nat→Int):Nat:=if valE r len M = 0 then (if okT r M then 0 else 7) else valE r len M
open Classical in
noncomputable def fmtT (r:Nat) (len:Nat→Nat) (M:Nat→Nat→Int):List UInt8:=if fmtE r len M = 0 then formT r M else []
theorem fmt_of {r:Nat} {len:Nat→Nat} {M:Nat→Nat→Int} {v:Value} (h:(valE r len M ≠ 0∧v = .tuple #[Tx [],.int .i64 ((valE r len M:Nat):Int)]) ∨ (valE r len M = 0∧((okT r M∧v = .tuple #[Tx (formT r M),.int .i64 ((0:Nat):Int)]) ∨ (¬ okT r M∧v = .tuple #[Tx [],.int .i64 ((7:Nat):Int)])))) :
 v = .tuple #[Tx (fmtT r len M),.int .i64 ((fmtE r len M:Nat):Int)]:=by
 unfold fmtT fmtE
 rcases h with ⟨h,rfl⟩ | ⟨h,⟨h1,rfl⟩ | ⟨h1,rfl⟩⟩
 · rw [if_neg h,if_neg h]
 · rw [if_pos h,if_pos h1,if_pos rfl]
 · rw [if_pos h,if_neg h1,if_neg (by decide)]
theorem rgformatR_ok (va:Value) (r N:Nat) (len:Nat→Nat) (M:Nat→Nat→Int) (w:World) (ha:MatE (EI N) w va r len M) (hN1:1≤N) (hN:N < 1048576) :
 Meets Tryz.prog 23 #[va] w fun v w'=>Ext w w'∧v = .tuple #[Tx (fmtT r len M),.int .i64 ((fmtE r len M:Nat):Int)] :=
 (rgformat_ok va r N len M w ha hN1 hN).mono fun _ _ h=>⟨h.1,fmt_of h.2⟩
end Go.Proofs.YtncbjgblcofddaaGreatDoor
