/- Joined: Rqa, Grr, Rsl. -/
import Derived.Test.YtmkbpjoihdfpkaaGreatQu
import Derived.Test.YtmkbpjoihdfpkaaGreatQx
import Derived.Test.YtmkbpjoihdfpkaaGreatQj
import Derived.Test.YtmkbpjoihdfpkaaGreatQk
/- quadformref01: Rem,Gcd; quadformref02.New. -/
namespace Go.Proofs.YtmkbpjoihdfpkaaGreat
open Go Go.Eng Go.Num Go.Proofs
theorem Bd.emod {N:Nat} {a b:Int} (hb:Bd N b) (h0:b ≠ 0):Bd N (a % b):=by
 have h1:=Int.emod_nonneg a h0
 have h2:=Int.emod_lt a h0
 unfold Bd at *
 omega
set_option maxHeartbeats 8000000 in
theorem rrem_ok (x1 y1 x2 y2:Value) (z1 z2:Int) (N:Nat) (w:World) (h1:IV w N x1 y1 z1) (h2:IV w N x2 y2 z2) (hN:N < 68719476736) (hz:z2 ≠ 0) :
 Meets Tryz.prog 169 #[.agg #[x1,y1],.agg #[x2,y2]] w (RI w (z1 % z2)):=by
 refine fn_W (n:=16) Tryz.func169 rfl rfl (by kernel_rfl) (by simp) ?_
 refine gg ?_
 refine R1_box (v:=.agg _) (.inl rfl) rfl ?_
 intro w1 hB1 hE1 hs1
 refine gg ?_
 refine R1_box (v:=.agg _) (.inl rfl) rfl ?_
 intro w2 hB2 hE2 hs2
 refine gg ?_
 refine R1_alloc (.inl rfl) z_Int ?_
 intro w3 hB3 hE3 hs3
 have hR3:Bx w3 w2.heap.size 1 true 0:=Bx.zero true hB3
 obtain ⟨gR,hgR⟩ : ∃ g,g = w2.heap.size:=⟨_,rfl⟩
 rw [← hgR] at hR3 ⊢
 have hE13:=hE1.trans (hE2.trans hE3)
 obtain ⟨f0,f1⟩:=blkP (hB1.ext (hE2.trans hE3))
 obtain ⟨f2,f3⟩:=blkP (hB2.ext hE3)
 have hs13:=hE13.size
 have hs12:=(hE1.trans hE2).size
 refine gg ?_
 refine R1_call2 (rdivMod_ok _ _ _ _ _ _ N w3 (h1.ext hE13) (h2.ext hE13) hN) ?_
 intro v w4 hv
 unfold RDZ at hv
 rw [if_neg hz] at hv
 obtain ⟨hE4,qx,qy,rx,ry,rfl,hq,hr⟩:=hv
 have hbq:Bd N (z1 / z2):=Bd.ediv (IV.bd h1)
 have hbr:Bd N (z1 % z2):=Bd.emod (IV.bd h2) hz
 have hs34:=hE4.size
 refine gg ?_
 refine R1_alloc (.inl rfl) z_Int ?_
 intro w5 hB5 hE5 hs5
 have hX5:Bx w5 w4.heap.size 1 true 0:=Bx.zero true hB5
 obtain ⟨g5,hg5⟩ : ∃ g,g = w4.heap.size:=⟨_,rfl⟩
 rw [← hg5] at hX5 ⊢
 refine gg ?_
 refine R1_alloc (.inl rfl) z_Int ?_
 intro w6 hB6 hE6 hs6
 have hX6:Bx w6 w5.heap.size 1 true 0:=Bx.zero true hB6
 obtain ⟨g6,hg6⟩ : ∃ g,g = w5.heap.size:=⟨_,rfl⟩
 rw [← hg6] at hX6 ⊢
 have hs45:=hE5.size
 have hE46:=hE5.trans hE6
 clear hB5 hB6
 refine gg ?_
 refine R1_storeBx (.inl rfl) rfl rfl (hX5.ext hE6) ((hq.ext hE46).ev true hbq) ?_
 intro w7 hX7 hC7 hk7 hs7
 refine gg ?_
 refine R1_storeBx (.inl rfl) rfl rfl (hX6.kp hk7 hC7 (by omega)) (((hr.ext hE46).kp hk7).ev true hbr) ?_
 intro w8 hX8 hC8 hk8 hs8
 have hE08:Ext w w8:=hC8.ext_of (hC7.ext_of (hE13.trans (hE4.trans hE46)) (fun b hb=>by omega)) (fun b hb=>by omega)
 have hR8:=((hR3.ext (hE4.trans hE46)).kp hk7 hC7 (by omega)).kp hk8 hC8 (by omega)
 obtain ⟨u,v,hU,hV⟩:=id hX8
 obtain ⟨p0,p1⟩:=blkP hU
 clear f0 f1 f2 f3
 refine gg ?_
 refine R1_storeBx (.inl rfl) rfl rfl hR8 hV ?_
 intro w9 hR9 hC9 hk9 hs9
 obtain ⟨u',v',hU',hV'⟩:=hR9
 refine gg ?_
 exact retC rfl agg_Int rfl hU' ⟨hC9.ext_of hE08 (fun b hb=>by omega),_,_,rfl,hV'.2 rfl⟩
set_option maxHeartbeats 16000000 in
theorem rgcd_ok (x1 y1 x2 y2:Value) (z1 z2:Int) (N:Nat) (w:World) (h1:IV w N x1 y1 z1) (h2:IV w N x2 y2 z2) (hN:N < 68719476736) :
 Meets Tryz.prog 166 #[.agg #[x1,y1],.agg #[x2,y2]] w (RI w ((Int.gcd z1 z2:Nat):Int)):=by
 refine fn_W (n:=19) Tryz.func166 rfl rfl (by kernel_rfl) (by simp) ?_
 refine gg ?_
 refine R1_box (v:=.agg _) (.inl rfl) rfl ?_
 intro w1 hB1 hE1 hs1
 refine gg ?_
 refine R1_box (v:=.agg _) (.inl rfl) rfl ?_
 intro w2 hB2 hE2 hs2
 refine gg ?_
 refine R1_alloc (.inl rfl) z_Int ?_
 intro w3 hB3 hE3 hs3
 have hR3:Bx w3 w2.heap.size 1 true 0:=Bx.zero true hB3
 obtain ⟨gR,hgR⟩ : ∃ g,g = w2.heap.size:=⟨_,rfl⟩
 rw [← hgR] at hR3 ⊢
 have hE13:=hE1.trans (hE2.trans hE3)
 have hs12:=(hE1.trans hE2).size
 have hRlt:=hR3.lt
 refine gg ?_
 refine W_seqG [(0,0),(2,0)] [(1,[],[]),(4,[],[]),(5,[],[]),(3,[],[1])] [(6,2),(7,2)] mixed (by kernel_rfl) (fun w9 hE9 _=>?_)
 obtain ⟨f0,f1⟩:=blkP (hB1.ext (hE2.trans (hE3.trans hE9)))
 obtain ⟨f2,f3⟩:=blkP (hB2.ext (hE3.trans hE9))
 have hE09:=hE13.trans hE9
 refine gg ?_
 refine Rg_float [(1,[]),(3,[])] [fA 4 5 47 (.agg #[.bool false,.slice none 0 0]),fA 5 6 47 (.agg #[.bool false,.slice none 0 0])] [8,10,5,6] (by kernel_rfl) (fun a ha f' w' _ _=>by
  rcases List.mem_cons.1 ha with rfl | ha
  · exact flt_alloc z_Int rfl f' w'
  · rcases List.mem_singleton.1 ha with rfl
    exact flt_alloc z_Int rfl f' w') ?_
 refine Rc_cons (fun w10 hE10=>?_)
 refine gg ?_
 refine R1_call1 (rabs_ok _ _ _ N w10 (h1.ext (hE09.trans hE10)) (by omega)) ?_
 rintro _ w11 ⟨hE11,q1,q2,rfl,hcq⟩
 refine ⟨hE11,?_⟩
 refine gg ?_
 refine Rc_cons (fun w12 hE12=>?_)
 refine gg ?_
 refine R1_call1 (rabs_ok _ _ _ N w12 (h2.ext (hE09.trans (hE10.trans (hE11.trans hE12)))) (by omega)) ?_
 rintro _ w13 ⟨hE13',r1,r2,rfl,hcr⟩
 refine ⟨hE13',?_⟩
 refine gg ?_
 refine Rc_nil (fun w14 hE14 bs hbs hdis=>?_)
 obtain ⟨hge11,hB11⟩:=hbs _ List.mem_cons_self
 obtain ⟨hge12,hB12⟩:=hbs _ (List.mem_cons_of_mem _ List.mem_cons_self)
 have hne:bs 5 ≠ bs 6:=hdis _ _ List.mem_cons_self (List.mem_cons_of_mem _ List.mem_cons_self) (show (5:Nat) ≠ 6 by decide)
 have hM11:Bx w14 (bs 5) 1 true 0:=Bx.zero true hB11
 have hM12:Bx w14 (bs 6) 1 true 0:=Bx.zero true hB12
 have hge11:w9.heap.size≤bs 5:=hge11
 have hge12:w9.heap.size≤bs 6:=hge12
 show Ro _ _ _ _ _ _ (upd (upd _ 6 (.pointer (some ⟨bs 6,0,none⟩))) 5 (.pointer (some ⟨bs 5,0,none⟩))) _
 generalize bs 5 = g5 at *
 generalize bs 6 = g6 at *
 clear hB11 hB12 hbs hdis f0 f1 f2 f3
 have b1:Bd N ((z1.natAbs:Nat):Int):=by have:=IV.bd h1; unfold Bd at *; omega
 have b2:Bd N ((z2.natAbs:Nat):Int):=by have:=IV.bd h2; unfold Bd at *; omega
 have hs9:=hE9.size
 have hs03:=hE13.size
 refine gg ?_
 refine R1_storeBx (.inl rfl) rfl rfl hM11 ((hcq.ext (hE12.trans (hE13'.trans hE14))).ev true b1) ?_
 intro w15 h5 hC15 hk15 hs15
 refine gg ?_
 refine R1_storeBx (.inl rfl) rfl rfl (hM12.kp hk15 hC15 hne.symm) (((hcr.ext hE14).kp hk15).ev true b2) ?_
 intro w16 h6 hC16 hk16 hs16
 have h5:=h5.kp hk16 hC16 hne
 have hE914:=hE10.trans (hE11.trans (hE12.trans (hE13'.trans hE14)))
 have hR16:=((hR3.ext (hE9.trans hE914)).kp hk15 hC15 (by omega)).kp hk16 hC16 (by omega)
 have hE16:Ext w w16:=hC16.ext_of (hC15.ext_of (hE09.trans hE914) (fun b hb=>by omega)) (fun b hb=>by omega)
 have hg:w.heap.size≤gR∧w.heap.size≤g5∧w.heap.size≤g6∧gR ≠ g5∧gR ≠ g6:=by omega
 clear hE914 hk15 hC15 hk16 hC16 hs15 hs16 hM11 hM12 hE14 hE13' hE12 hE11 hE10 hE9 hge11 hge12 hcq hcr hs9 hs03 hRlt hs12 hE13 hE09 hR3 hB1 hB2 hB3
 obtain ⟨G,hG⟩ : ∃ G,G = Int.gcd z1 z2:=⟨_,rfl⟩
 rw [← hG]
 refine gg ?_
 refine W_seqM (fun f w'=>f 4 = .pointer (some ⟨gR,0,none⟩)∧f 5 = .pointer (some ⟨g5,0,none⟩)∧f 6 = .pointer (some ⟨g6,0,none⟩)∧Ext w w'∧Bx w' gR 1 true 0∧Bx w' g5 N true ((G:Nat):Int)) ?_ ?_
 · refine gg ?_
   refine W_loop (fun m f w'=>∃ a b:Nat,m = b∧f 4 = .pointer (some ⟨gR,0,none⟩)∧f 5 = .pointer (some ⟨g5,0,none⟩)∧f 6 = .pointer (some ⟨g6,0,none⟩)∧Ext w w'∧Bx w' gR 1 true 0∧Bx w' g5 N true ((a:Nat):Int)∧Bx w' g6 N true ((b:Nat):Int)∧G = Nat.gcd a b)
    z2.natAbs ⟨z1.natAbs,z2.natAbs,rfl,rfl,rfl,rfl,hE16,hR16,h5,h6,hG⟩ ?_
   clear hE16 hR16 h5 h6 hG b1 b2
   rintro m f w17 ⟨a,b,rfl,hf4,hf5,hf6,hE,hR,h5,h6,hG⟩
   rw [ui hf4,ui hf5,ui hf6]
   clear hf4 hf5 hf6
   obtain ⟨u,v,hU,hV⟩:=id h6
   obtain ⟨p0,p1⟩:=blkP hU
   refine W_seq ?_
   refine W_seq ?_
   refine gg ?_
   refine R1_call2 (rsign_ok _ _ _ N w17 hV.1 (by omega)) ?_
   rintro _ w18 ⟨hE18,rfl⟩
   clear p0 p1
   by_cases hb0:m = 0
   · have hs:((m:Nat):Int).sign = 0:=by rw [hb0]; rfl
     refine gg ?_
     refine ⟨rfl,rfl,rfl,hE.trans hE18,hR.ext hE18,?_⟩
     rw [hG,hb0,Nat.gcd_zero_right]
     exact h5.ext hE18
   · have hs:¬ ((m:Nat):Int).sign = 0:=fun e=>hb0 (by have:=Int.sign_eq_zero_iff_zero.1 e; omega)
     refine gg ?_
     refine W_regD [(0,0),(1,0),(2,0),(3,1),(4,2),(5,2)] mixed (by kernel_rfl) (fun w19 hE19 _=>?_)
     have hE1719:=hE18.trans hE19
     obtain ⟨u,v,hU,hV⟩:=h6.ext hE1719
     obtain ⟨p0,p1⟩:=blkP hU
     obtain ⟨u2,v2,hU2,hV2⟩:=h5.ext hE1719
     obtain ⟨p2,p3⟩:=blkP hU2
     refine gg ?_
     refine R1_call1 (rrem_ok _ _ _ _ _ _ N w19 hV2.1 hV.1 hN (by omega)) ?_
     rintro _ w20 ⟨hE20,c1,c2,rfl,hcm⟩
     refine ⟨hE20,?_⟩
     have hbm:Bd N (((a:Nat):Int) % ((m:Nat):Int)):=Bd.emod hV.bd (by omega)
     have em:((a:Nat):Int) % ((m:Nat):Int) = ((a % m:Nat):Int):=by omega
     rw [em] at hcm hbm
     clear p0 p1 p2 p3
     refine gg ?_
     refine R1_storeBx (.inl rfl) rfl rfl (h5.ext (hE1719.trans hE20)) (hV.ext hE20) ?_
     intro w21 h21 hC21 hk21 hs21
     refine gg ?_
     refine R1_storeBx (.inl rfl) rfl rfl ((h6.ext (hE1719.trans hE20)).kp hk21 hC21 hne.symm) ((hcm.kp hk21).ev true hbm) ?_
     intro w22 h22 hC22 hk22 hs22
     refine gg ?_
     refine ⟨a % m,Nat.mod_lt _ (by omega),m,a % m,rfl,rfl,rfl,rfl,hC22.ext_of (hC21.ext_of (hE.trans (hE1719.trans hE20)) (fun b hb=>by omega)) (fun b hb=>by omega),((hR.ext (hE1719.trans hE20)).kp hk21 hC21 (by omega)).kp hk22 hC22 (by omega),h21.kp hk22 hC22 hne,h22,?_⟩
     rw [hG,Nat.gcd_comm a,Nat.gcd_rec,Nat.gcd_comm]
 clear hE16 hR16 h5 h6
 rintro f w17 ⟨hf4,hf5,hf6,hE,hR,h5⟩
 rw [ui hf4,ui hf5,ui hf6]
 clear hf4 hf5 hf6
 obtain ⟨u,v,hU,hV⟩:=id h5
 obtain ⟨p0,p1⟩:=blkP hU
 refine gg ?_
 refine R1_storeBx (.inl rfl) rfl rfl hR hV ?_
 intro w18 hR18 hC18 hk18 hs18
 obtain ⟨u',v',hU',hV'⟩:=hR18
 refine gg ?_
 exact retC rfl agg_Int rfl hU' ⟨hC18.ext_of hE (fun b hb=>by omega),_,_,rfl,hV'.2 rfl⟩
theorem lowG_dvd_left (n d:Int):lowG n d ∣ n:=by
 unfold lowG; split
 · exact Int.neg_dvd.2 (Int.gcd_dvd_left ..)
 · exact Int.gcd_dvd_left ..
theorem lowG_dvd_right (n d:Int):lowG n d ∣ d:=by
 unfold lowG; split
 · exact Int.neg_dvd.2 (Int.gcd_dvd_right ..)
 · exact Int.gcd_dvd_right ..
theorem lowN_mul (n d:Int):lowN n d * lowG n d = n:=Int.ediv_mul_cancel (lowG_dvd_left n d)
theorem lowD_mul (n d:Int):lowD n d * lowG n d = d:=Int.ediv_mul_cancel (lowG_dvd_right n d)
theorem low_cross {n d:Int}:lowN n d * d = n * lowD n d:=by
 have a:=lowN_mul n d
 have b:=lowD_mul n d
 generalize lowN n d = x at *
 generalize lowD n d = y at *
 generalize lowG n d = g at *
 subst a b
 grind
theorem lowD_pos {n d:Int} (h:d ≠ 0):0 < lowD n d:=by
 have h1:=lowD_mul n d
 have hg:Int.gcd n d ≠ 0:=fun e=>h (Int.gcd_eq_zero_iff.1 e).2
 by_cases hd:d < 0
 · have e:lowG n d = -((Int.gcd n d:Nat):Int):=by unfold lowG; rw [if_pos hd]
   rcases Int.lt_trichotomy (lowD n d) 0 with h2 | h2 | h2
   · exfalso
     have:=Int.mul_nonneg_of_nonpos_of_nonpos (Int.le_of_lt h2) (show lowG n d≤0 by omega)
     omega
   · rw [h2,Int.zero_mul] at h1; omega
   · exact h2
 · have e:lowG n d = ((Int.gcd n d:Nat):Int):=by unfold lowG; rw [if_neg hd]
   rcases Int.lt_trichotomy (lowD n d) 0 with h2 | h2 | h2
   · exfalso
     have:=Int.mul_nonpos_of_nonpos_of_nonneg (Int.le_of_lt h2) (show 0≤lowG n d by omega)
     omega
   · rw [h2,Int.zero_mul] at h1; omega
   · exact h2
theorem low_bd {n d:Int} {N:Nat} (h1:Bd N n) (h2:Bd N d):Bd N (lowN n d)∧Bd N (lowD n d):=⟨h1.ediv,h2.ediv⟩
set_option maxHeartbeats 16000000 in
theorem rratNew_ok (x1 y1 x2 y2:Value) (z1 z2:Int) (N:Nat) (w:World) (h1:IV w N x1 y1 z1) (h2:IV w N x2 y2 z2) (hN:N < 68719476736) (hz:z2 ≠ 0) :
 Meets Tryz.prog 159 #[.agg #[x1,y1],.agg #[x2,y2]] w fun v w'=>∃ u,v = .tuple #[u,.bool true]∧RRat w (lowN z1 z2) (lowD z1 z2) u w':=by
 refine fn_W (n:=28) Tryz.func159 rfl rfl (by kernel_rfl) (by simp) ?_
 refine gg ?_
 refine R1_box (v:=.agg _) (.inl rfl) rfl ?_
 intro w1 hB1 hE1 hs1
 have hX1:Bx w1 w.heap.size N false z1:=⟨x1,y1,hB1,(h1.ext hE1),fun e=>by cases e⟩
 obtain ⟨g2,hg2⟩ : ∃ g,g = w.heap.size:=⟨_,rfl⟩
 rw [← hg2] at hX1 ⊢
 refine gg ?_
 refine R1_box (v:=.agg _) (.inl rfl) rfl ?_
 intro w2 hB2 hE2 hs2
 have hX2:Bx w2 w1.heap.size N false z2:=⟨x2,y2,hB2,(h2.ext (hE1.trans hE2)),fun e=>by cases e⟩
 obtain ⟨g3,hg3⟩ : ∃ g,g = w1.heap.size:=⟨_,rfl⟩
 rw [← hg3] at hX2 ⊢
 refine gg ?_
 refine R1_alloc (.inl rfl) z_Rat ?_
 intro w3 hB3 hE3 hs3
 have hR3:Blk w3 w2.heap.size 129 #[.bool false,.slice none 0 0,.bool false,.slice none 0 0]:=hB3
 obtain ⟨gR,hgR⟩ : ∃ g,g = w2.heap.size:=⟨_,rfl⟩
 rw [← hgR] at hR3 ⊢
 clear hB1 hB2 hB3
 replace hX1:=hX1.ext (hE2.trans hE3)
 replace hX2:=hX2.ext hE3
 have hE03:=hE1.trans (hE2.trans hE3)
 have hs01:=hE1.size
 have hs12:=hE2.size
 have hs23:=hE3.size
 have hd:w.heap.size≤g2∧w.heap.size≤g3∧w.heap.size≤gR∧g2 ≠ g3∧g2 ≠ gR∧g3 ≠ gR:=by omega
 clear hs01 hs12 hs23 hs1 hs2 hs3 hg2 hg3 hgR hE1 hE2 hE3
 obtain ⟨u2,v2,hU2,hV2⟩:=id hX2
 obtain ⟨p2,p2'⟩:=blkP hU2
 refine gg ?_
 refine W_seq ?_
 refine gg ?_
 refine R1_call2 (rsign_ok _ _ _ N w3 hV2.1 (by omega)) ?_
 rintro _ w4 ⟨hE4,rfl⟩
 have hs0:¬ z2.sign = 0:=fun e=>hz (Int.sign_eq_zero_iff_zero.1 e)
 clear p2 p2' hU2 hV2
 replace hX1:=hX1.ext hE4
 replace hX2:=hX2.ext hE4
 replace hR3:=hR3.ext hE4
 replace hE03:=hE03.trans hE4
 refine gg ?_
 obtain ⟨s,hs⟩ : ∃ s:Int,s = if z2 < 0 then -1 else 1:=⟨_,rfl⟩
 refine W_seqM (fun f w'=>f 2 = .pointer (some ⟨g2,0,none⟩)∧f 3 = .pointer (some ⟨g3,0,none⟩)∧f 4 = .pointer (some ⟨gR,0,none⟩)∧Ext w w'∧Bx w' g2 N false (s * z1)∧Bx w' g3 N false (s * z2)∧Blk w' gR 129 #[.bool false,.slice none 0 0,.bool false,.slice none 0 0]) ?_ ?_
 · obtain ⟨u2,v2,hU2,hV2⟩:=id hX2
   obtain ⟨p2,p2'⟩:=blkP hU2
   refine gg ?_
   refine R1_call2 (rsign_ok _ _ _ N w4 hV2.1 (by omega)) ?_
   rintro _ w5 ⟨hE5,rfl⟩
   clear p2 p2' hU2 hV2
   by_cases hneg:z2 < 0
   · have hsn:z2.sign < 0:=by rw [Int.sign_eq_neg_one_of_neg hneg]; decide
     rw [if_pos hneg] at hs
     refine gg ?_
     refine W_regD [(0,0),(2,0),(1,1),(3,1),(4,2),(5,2)] mixed (by kernel_rfl) (fun w6 hE6 _=>?_)
     have hE46:=hE5.trans hE6
     obtain ⟨u1,v1,hU1,hV1⟩:=hX1.ext hE46
     obtain ⟨p1,p1'⟩:=blkP hU1
     obtain ⟨u2,v2,hU2,hV2⟩:=hX2.ext hE46
     obtain ⟨p2,p2'⟩:=blkP hU2
     refine gg ?_
     refine R1_call1 (rneg_ok _ _ _ N w6 hV1.1 (by omega)) ?_
     rintro _ w7 ⟨hE7,a1,b1,rfl,hc1⟩
     refine ⟨hE7,?_⟩
     refine gg ?_
     refine R1_call1 (rneg_ok _ _ _ N w7 (hV2.1.ext hE7) (by omega)) ?_
     rintro _ w8 ⟨hE8,a2,b2,rfl,hc2⟩
     refine ⟨hE8,?_⟩
     have hE48:=hE46.trans (hE7.trans hE8)
     clear p1 p1' p2 p2'
     refine gg ?_
     refine R1_storeBx (.inl rfl) rfl rfl (hX1.ext hE48) ((hc1.ext hE8).ev false hV1.bd.neg') ?_
     intro w9 hY1 hC9 hk9 hs9
     refine gg ?_
     refine R1_storeBx (.inl rfl) rfl rfl ((hX2.ext hE48).kp hk9 hC9 (by omega)) ((hc2.kp hk9).ev false hV2.bd.neg') ?_
     intro w10 hY2 hC10 hk10 hs10
     refine gg ?_
     refine ⟨rfl,rfl,rfl,hC10.ext_of (hC9.ext_of (hE03.trans hE48) (fun b hb=>by omega)) (fun b hb=>by omega),?_,?_,((hR3.ext hE48).ch hC9 (by omega)).ch hC10 (by omega)⟩
     · rw [hs,Int.neg_mul,Int.one_mul]; exact hY1.kp hk10 hC10 (by omega)
     · rw [hs,Int.neg_mul,Int.one_mul]; exact hY2
   · have hsn:¬ z2.sign < 0:=by rw [Int.sign_eq_one_of_pos (show 0 < z2 by omega)]; decide
     rw [if_neg hneg] at hs
     refine gg ?_
     refine ⟨rfl,rfl,rfl,hE03.trans hE5,?_,?_,hR3.ext hE5⟩
     · rw [hs,Int.one_mul]; exact hX1.ext hE5
     · rw [hs,Int.one_mul]; exact hX2.ext hE5
 clear hX1 hX2 hR3 hE03
 rintro f w5 ⟨hf2,hf3,hf4,hE,hX1,hX2,hR⟩
 rw [ui hf2,ui hf3,ui hf4]
 clear hf2 hf3 hf4
 have hs1:s = 1 ∨ s = -1:=by rw [hs]; split <;> omega
 have hpos:0 < s * z2:=by
  rw [hs]; split
  · rw [Int.neg_mul,Int.one_mul]; omega
  · rw [Int.one_mul]; omega
 obtain ⟨e1,e2⟩ : lowN z1 z2 = lowN (s * z1) (s * z2)∧lowD z1 z2 = lowD (s * z1) (s * z2):=by
  rcases hs1 with rfl | rfl
  · rw [Int.one_mul,Int.one_mul]; exact ⟨rfl,rfl⟩
  · rw [Int.neg_mul,Int.one_mul,Int.neg_mul,Int.one_mul]
    have hg:lowG (-z1) (-z2) = - lowG z1 z2:=by
     unfold lowG
     have e:Int.gcd (-z1) (-z2) = Int.gcd z1 z2:=by simp [Int.gcd]
     rw [e]
     by_cases h:z2 < 0
     · rw [if_neg (by omega),if_pos h]; omega
     · rw [if_pos (by omega),if_neg h]
    unfold lowN lowD
    rw [hg,Int.ediv_neg,Int.ediv_neg,Int.neg_ediv_of_dvd (lowG_dvd_left z1 z2),Int.neg_ediv_of_dvd (lowG_dvd_right z1 z2),Int.neg_neg,Int.neg_neg]
    exact ⟨rfl,rfl⟩
 rw [e1,e2]
 generalize s * z1 = y1 at *
 generalize s * z2 = y2 at *
 clear e1 e2 hs1 hs hs0
 have eG:lowG y1 y2 = ((Int.gcd y1 y2:Nat):Int):=by unfold lowG; rw [if_neg (by omega)]
 obtain ⟨u1,v1,hU1,hV1⟩:=id hX1
 obtain ⟨p1,p1'⟩:=blkP hU1
 obtain ⟨u2,v2,hU2,hV2⟩:=id hX2
 obtain ⟨p2,p2'⟩:=blkP hU2
 refine gg ?_
 refine R1_call2 (rgcd_ok _ _ _ _ _ _ N w5 hV1.1 hV2.1 hN) ?_
 rintro _ w6 ⟨hE6,a1,b1,rfl,hc1⟩
 have hgb:=gcd_bd (n:=y1) (show y2 ≠ 0 by omega) hV2.bd
 rw [← eG] at hc1 hgb
 have hlt:=hU1.lt
 have hlt2:=hU2.lt
 have hlt3:=hR.lt
 have hs56:=hE6.size
 clear p1 p1' p2 p2' hU1 hU2
 refine gg ?_
 refine R1_alloc (.inl rfl) z_Int ?_
 intro w7a hBa_ hEa_ hsa_
 have hG0_:Bx w7a w6.heap.size 1 true 0:=Bx.zero true hBa_
 obtain ⟨g6,hg_⟩ : ∃ g,g = w6.heap.size:=⟨_,rfl⟩
 rw [← hg_] at hG0_ ⊢
 refine gg ?_
 refine R1_storeBx (.inl rfl) rfl rfl hG0_ ((hc1.ext hEa_).ev true hgb) ?_
 intro w7 hG hCb_ hkb_ hsb_
 have hE7:Ext w6 w7:=hCb_.ext_of hEa_ (fun b hb=>by omega)
 have hfr_g6:w6.heap.size≤g6:=by omega
 clear hG0_ hBa_ hEa_ hsa_ hsb_ hCb_ hkb_ hg_
 have hE57:=hE6.trans hE7
 refine gg ?_
 refine W_seqD [(0,0),(1,0),(3,0),(4,0),(2,1),(5,1),(6,3),(7,2),(8,3)] mixed (by kernel_rfl) (fun w8 hE8 _=>?_)
 have hE58:=hE57.trans hE8
 obtain ⟨u1,v1,hU1,hV1⟩:=hX1.ext hE58
 obtain ⟨p1,p1'⟩:=blkP hU1
 obtain ⟨u2,v2,hU2,hV2⟩:=hX2.ext hE58
 obtain ⟨p2,p2'⟩:=blkP hU2
 obtain ⟨u3,v3,hU3,hV3⟩:=hG.ext hE8
 obtain ⟨p3,p3'⟩:=blkP hU3
 refine gg ?_
 refine R1_call1 (rquo_ok _ _ _ _ _ _ N w8 hV1.1 hV3.1 hN) ?_
 rintro _ w9 ⟨hE9,a4,b4,rfl,hc4⟩
 refine ⟨hE9,?_⟩
 refine gg ?_
 refine R1_call1 (rquo_ok _ _ _ _ _ _ N w9 (hV2.1.ext hE9) (hV3.1.ext hE9) hN) ?_
 rintro _ w10 ⟨hE10,a5,b5,rfl,hc5⟩
 refine ⟨hE10,?_⟩
 have hc4:CV w10 a4 b4 (lowN y1 y2):=hc4.ext hE10
 have hc5:CV w10 a5 b5 (lowD y1 y2):=hc5
 have hR10:=hR.ext (hE58.trans (hE9.trans hE10))
 refine gg ?_
 refine R1_bldRat rfl rfl ?_
 refine gg ?_
 refine R1_store4 agg_Rat (.inl rfl) rfl rfl hc4.one0 hc4.one1 hc5.one0 hc5.one1 hR10 (by decide) ?_
 intro w11 hB11 hC11 hs11
 have hk11:=kp_ch hR10 (noInt4 ⟨_,rfl⟩ ⟨_,_,_,rfl⟩ ⟨_,rfl⟩ ⟨_,_,_,rfl⟩).noU hC11
 refine gg ?_
 exact retC4B rfl agg_Rat rfl hB11 rfl ⟨_,rfl,hC11.ext_of (hE.trans (hE58.trans (hE9.trans hE10))) (fun b hb=>by omega),_,_,_,_,rfl,hc4.kp hk11,hc5.kp hk11⟩
end Go.Proofs.YtmkbpjoihdfpkaaGreat
namespace Go.Proofs.YtmkbpjoihdfpkaaGreat
open Go Go.Eng Go.Num Go.Proofs
def GrowR (w:World) (v:Value) (m:Nat) (a b:Nat→Int):Prop :=
 (m = 0∧v = .slice none 0 0) ∨ ∃ g cap,v = .slice (some ⟨g,0,none⟩) m cap∧m≤cap∧cap < 9223372036854775808∧RatB w g cap (cutR m a) (cutR m b)
theorem GrowR.congr {w:World} {v:Value} {m:Nat} {a b a' b':Nat→Int} (h:GrowR w v m a b) (e:∀ j,j < m→a j = a' j∧b j = b' j):GrowR w v m a' b':=by
 rcases h with h | ⟨g,cap,rfl,h1,h2,h3⟩
 · exact .inl h
 · refine .inr ⟨g,cap,rfl,h1,h2,h3.congr fun j hj=>?_⟩
   unfold cutR
   split
   · rename_i hlt; exact e j hlt
   · exact ⟨rfl,rfl⟩
def RatE (w:World) (v:Value) (m:Nat) (a b:Nat→Int):Prop :=
 ∃ A c,v = .slice A m c∧∀ i,i < m→∃ g h cs,A = some ⟨g,0,none⟩∧Blk w g 129 (arr cs h)∧i * 4 + 3 < cs∧CV w (h (i * 4)) (h (i * 4 + 1)) (a i)∧CV w (h (i * 4 + 2)) (h (i * 4 + 3)) (b i)
theorem RatE.congr {w:World} {v:Value} {m:Nat} {a b a' b':Nat→Int} (h:RatE w v m a b) (e:∀ j,j < m→a j = a' j∧b j = b' j):RatE w v m a' b':=by
 obtain ⟨A,c,e0,h⟩:=h
 refine ⟨A,c,e0,fun i hi=>?_⟩
 obtain ⟨g,hh,cs,e1,hB,hl,h1,h2⟩:=h i hi
 rw [(e i hi).1] at h1
 rw [(e i hi).2] at h2
 exact ⟨g,hh,cs,e1,hB,hl,h1,h2⟩
section
variable {n:Nat} {S:World→World→Prop} {k:Nat} {K:Fr→World→Prop} {f:Fr} {w:World}
 {d ty t t2:Nat} {x y:Operand} {pos:String} {aft:Array Edge} {gd:Option (Nat × Bool)}
end
end Go.Proofs.YtmkbpjoihdfpkaaGreat
namespace Go.Proofs.YtmkbpjoihdfpkaaGreat
open Go Go.Eng Go.Num Go.Proofs
theorem fa_Rat0:FieldA Tryz.prog 129 0 0:=by
 unfold FieldA
 intro a w
 simp [Instr.fieldAt,run_underlying Tryz.underlying129,Instr.sureAddr,fieldPlace,size_agg agg_Int]
theorem fa_Rat1:FieldA Tryz.prog 129 1 2:=by
 unfold FieldA
 intro a w
 simp [Instr.fieldAt,run_underlying Tryz.underlying129,Instr.sureAddr,fieldPlace,size_agg agg_Int]
theorem blkR {w:World} {g T:Nat} {x y z u:Value} (h:Blk w g T #[x,y,z,u]):(w.cell? ⟨g,0 + 0,none⟩ = some x∧w.cell? ((⟨g,0 + 0,none⟩ : Addr).add 1) = some y)∧w.cell? ⟨g,0 + 2,none⟩ = some z∧w.cell? ((⟨g,0 + 2,none⟩ : Addr).add 1) = some u:=by
 refine ⟨⟨by rw [h.cell]; rfl,by rw [add_lit,h.cell]; rfl⟩,by rw [h.cell]; rfl,by rw [add_lit,h.cell]; rfl⟩
theorem blkQ {w:World} {g T:Nat} {x y z u:Value} (h:Blk w g T #[x,y,z,u]):w.cell? ⟨g,0,none⟩ = some x∧w.cell? ((⟨g,0,none⟩ : Addr).add 1) = some y∧w.cell? ((⟨g,0,none⟩ : Addr).add 2) = some z∧w.cell? ((⟨g,0,none⟩ : Addr).add 3) = some u:=by
 refine ⟨by rw [h.cell]; rfl,by rw [add_lit,h.cell]; rfl,by rw [add_lit,h.cell]; rfl,by rw [add_lit,h.cell]; rfl⟩
end Go.Proofs.YtmkbpjoihdfpkaaGreat
