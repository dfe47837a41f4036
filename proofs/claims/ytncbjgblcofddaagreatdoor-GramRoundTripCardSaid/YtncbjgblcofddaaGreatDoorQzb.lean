/- Joined: Rqa, Grr, Rsl. -/
import Derived.Test.YtncbjgblcofddaaGreatDoorQu
import Derived.Test.YtncbjgblcofddaaGreatDoorQx
import Derived.Test.YtncbjgblcofddaaGreatDoorQj
import Derived.Test.YtncbjgblcofddaaGreatDoorQk
/- quadformref01: Rem,Gcd; quadformref02.New. -/
namespace Go.Proofs.YtncbjgblcofddaaGreatDoor
open Go Go.Eng Go.Num Go.Proofs
theorem Bd.emod {N:Nat} {a b:Int} (hb:Bd N b) (h0:b ≠ 0):Bd N (a % b):=by
 have h1:=Int.emod_nonneg a h0
 have h2:=Int.emod_lt a h0
 unfold Bd at *
 omega
set_option maxHeartbeats 8000000 in
theorem rrem_ok (x1 y1 x2 y2:Value) (z1 z2:Int) (N:Nat) (w:World) (h1:IV w N x1 y1 z1) (h2:IV w N x2 y2 z2) (hN:N < 68719476736) (hz:z2 ≠ 0) :
 Meets Tryz.prog 153 #[.agg #[x1,y1],.agg #[x2,y2]] w (RI w (z1 % z2)):=by
 refine fn_W (n:=16) Tryz.func153 rfl rfl (by kernel_rfl) (by simp) ?_
 refine gg ?_
 refine R1_box (v:=.agg _) (.inl rfl) rfl ?_
 intro w1 hB1 hE1 hs1
 refine gg ?_
 refine R1_box (v:=.agg _) (.inl rfl) rfl ?_
 intro w2 hB2 hE2 hs2
 refine gg ?_
 refine R1_alloc (.inl rfl) z_Int ?_
 intro w3 hB3 hE3 hs3
 have hR3:Bx w3 w2.heap.size 1 true 0:=Bx.zero true hB3
 obtain ⟨gR,hgR⟩ : ∃ g,g = w2.heap.size:=⟨_,rfl⟩
 rw [← hgR] at hR3 ⊢
 have hE13:=hE1.trans (hE2.trans hE3)
 obtain ⟨f0,f1⟩:=blkP (hB1.ext (hE2.trans hE3))
 obtain ⟨f2,f3⟩:=blkP (hB2.ext hE3)
 have hs13:=hE13.size
 have hs12:=(hE1.trans hE2).size
 refine gg ?_
 refine R1_call2 (rdivMod_ok _ _ _ _ _ _ N w3 (h1.ext hE13) (h2.ext hE13) hN) ?_
 intro v w4 hv
 unfold RDZ at hv
 rw [if_neg hz] at hv
 obtain ⟨hE4,qx,qy,rx,ry,rfl,hq,hr⟩:=hv
 have hbq:Bd N (z1 / z2):=Bd.ediv (IV.bd h1)
 have hbr:Bd N (z1 % z2):=Bd.emod (IV.bd h2) hz
 have hs34:=hE4.size
 refine gg ?_
 refine R1_alloc (.inl rfl) z_Int ?_
 intro w5 hB5 hE5 hs5
 have hX5:Bx w5 w4.heap.size 1 true 0:=Bx.zero true hB5
 obtain ⟨g5,hg5⟩ : ∃ g,g = w4.heap.size:=⟨_,rfl⟩
 rw [← hg5] at hX5 ⊢
 refine gg ?_
 refine R1_alloc (.inl rfl) z_Int ?_
 intro w6 hB6 hE6 hs6
 have hX6:Bx w6 w5.heap.size 1 true 0:=Bx.zero true hB6
 obtain ⟨g6,hg6⟩ : ∃ g,g = w5.heap.size:=⟨_,rfl⟩
 rw [← hg6] at hX6 ⊢
 have hs45:=hE5.size
 have hE46:=hE5.trans hE6
 clear hB5 hB6
 refine gg ?_
 refine R1_storeBx (.inl rfl) rfl rfl (hX5.ext hE6) ((hq.ext hE46).ev true hbq) ?_
 intro w7 hX7 hC7 hk7 hs7
 refine gg ?_
 refine R1_storeBx (.inl rfl) rfl rfl (hX6.kp hk7 hC7 (by omega)) (((hr.ext hE46).kp hk7).ev true hbr) ?_
 intro w8 hX8 hC8 hk8 hs8
 have hE08:Ext w w8:=hC8.ext_of (hC7.ext_of (hE13.trans (hE4.trans hE46)) (fun b hb=>by omega)) (fun b hb=>by omega)
 have hR8:=((hR3.ext (hE4.trans hE46)).kp hk7 hC7 (by omega)).kp hk8 hC8 (by omega)
 obtain ⟨u,v,hU,hV⟩:=id hX8
 obtain ⟨p0,p1⟩:=blkP hU
 clear f0 f1 f2 f3
 refine gg ?_
 refine R1_storeBx (.inl rfl) rfl rfl hR8 hV ?_
 intro w9 hR9 hC9 hk9 hs9
 obtain ⟨u',v',hU',hV'⟩:=hR9
 refine gg ?_
 exact retC rfl agg_Int rfl hU' ⟨hC9.ext_of hE08 (fun b hb=>by omega),_,_,rfl,hV'.2 rfl⟩
set_option maxHeartbeats 16000000 in
theorem rgcd_ok (x1 y1 x2 y2:Value) (z1 z2:Int) (N:Nat) (w:World) (h1:IV w N x1 y1 z1) (h2:IV w N x2 y2 z2) (hN:N < 68719476736) :
 Meets Tryz.prog 102 #[.agg #[x1,y1],.agg #[x2,y2]] w (RI w ((Int.gcd z1 z2:Nat):Int)):=by
 refine fn_W (n:=19) Tryz.func102 rfl rfl (by kernel_rfl) (by simp) ?_
 refine gg ?_
 refine R1_box (v:=.agg _) (.inl rfl) rfl ?_
 intro w1 hB1 hE1 hs1
 refine gg ?_
 refine R1_box (v:=.agg _) (.inl rfl) rfl ?_
 intro w2 hB2 hE2 hs2
 refine gg ?_
 refine R1_alloc (.inl rfl) z_Int ?_
 intro w3 hB3 hE3 hs3
 have hR3:Bx w3 w2.heap.size 1 true 0:=Bx.zero true hB3
 obtain ⟨gR,hgR⟩ : ∃ g,g = w2.heap.size:=⟨_,rfl⟩
 rw [← hgR] at hR3 ⊢
 have hE13:=hE1.trans (hE2.trans hE3)
 have hs12:=(hE1.trans hE2).size
 have hRlt:=hR3.lt
 refine gg ?_
 refine W_seqG [(0,0),(2,0)] [(1,[],[]),(4,[],[]),(5,[],[]),(3,[],[1])] [(6,2),(7,2)] mixed (by kernel_rfl) (fun w9 hE9 _=>?_)
 obtain ⟨f0,f1⟩:=blkP (hB1.ext (hE2.trans (hE3.trans hE9)))
 obtain ⟨f2,f3⟩:=blkP (hB2.ext (hE3.trans hE9))
 have hE09:=hE13.trans hE9
 refine gg ?_
 refine Rg_float [(1,[]),(3,[])] [fA 4 5 41 (.agg #[.bool false,.slice none 0 0]),fA 5 6 41 (.agg #[.bool false,.slice none 0 0])] [8,10,5,6] (by kernel_rfl) (fun a ha f' w' _ _=>by
  rcases List.mem_cons.1 ha with rfl | ha
  · exact flt_alloc z_Int rfl f' w'
  · rcases List.mem_singleton.1 ha with rfl
    exact flt_alloc z_Int rfl f' w') ?_
 refine Rc_cons (fun w10 hE10=>?_)
 refine gg ?_
 refine R1_call1 (rabs_ok _ _ _ N w10 (h1.ext (hE09.trans hE10)) (by omega)) ?_
 rintro _ w11 ⟨hE11,q1,q2,rfl,hcq⟩
 refine ⟨hE11,?_⟩
 refine gg ?_
 refine Rc_cons (fun w12 hE12=>?_)
 refine gg ?_
 refine R1_call1 (rabs_ok _ _ _ N w12 (h2.ext (hE09.trans (hE10.trans (hE11.trans hE12)))) (by omega)) ?_
 rintro _ w13 ⟨hE13',r1,r2,rfl,hcr⟩
 refine ⟨hE13',?_⟩
 refine gg ?_
 refine Rc_nil (fun w14 hE14 bs hbs hdis=>?_)
 obtain ⟨hge11,hB11⟩:=hbs _ List.mem_cons_self
 obtain ⟨hge12,hB12⟩:=hbs _ (List.mem_cons_of_mem _ List.mem_cons_self)
 have hne:bs 5 ≠ bs 6:=hdis _ _ List.mem_cons_self (List.mem_cons_of_mem _ List.mem_cons_self) (show (5:Nat) ≠ 6 by decide)
 have hM11:Bx w14 (bs 5) 1 true 0:=Bx.zero true hB11
 have hM12:Bx w14 (bs 6) 1 true 0:=Bx.zero true hB12
 have hge11:w9.heap.size≤bs 5:=hge11
 have hge12:w9.heap.size≤bs 6:=hge12
 show Ro _ _ _ _ _ _ (upd (upd _ 6 (.pointer (some ⟨bs 6,0,none⟩))) 5 (.pointer (some ⟨bs 5,0,none⟩))) _
 generalize bs 5 = g5 at *
 generalize bs 6 = g6 at *
 clear hB11 hB12 hbs hdis f0 f1 f2 f3
 have b1:Bd N ((z1.natAbs:Nat):Int):=by have:=IV.bd h1; unfold Bd at *; omega
 have b2:Bd N ((z2.natAbs:Nat):Int):=by have:=IV.bd h2; unfold Bd at *; omega
 have hs9:=hE9.size
 have hs03:=hE13.size
 refine gg ?_
 refine R1_storeBx (.inl rfl) rfl rfl hM11 ((hcq.ext (hE12.trans (hE13'.trans hE14))).ev true b1) ?_
 intro w15 h5 hC15 hk15 hs15
 refine gg ?_
 refine R1_storeBx (.inl rfl) rfl rfl (hM12.kp hk15 hC15 hne.symm) (((hcr.ext hE14).kp hk15).ev true b2) ?_
 intro w16 h6 hC16 hk16 hs16
 have h5:=h5.kp hk16 hC16 hne
 have hE914:=hE10.trans (hE11.trans (hE12.trans (hE13'.trans hE14)))
 have hR16:=((hR3.ext (hE9.trans hE914)).kp hk15 hC15 (by omega)).kp hk16 hC16 (by omega)
 have hE16:Ext w w16:=hC16.ext_of (hC15.ext_of (hE09.trans hE914) (fun b hb=>by omega)) (fun b hb=>by omega)
 have hg:w.heap.size≤gR∧w.heap.size≤g5∧w.heap.size≤g6∧gR ≠ g5∧gR ≠ g6:=by omega
 clear hE914 hk15 hC15 hk16 hC16 hs15 hs16 hM11 hM12 hE14 hE13' hE12 hE11 hE10 hE9 hge11 hge12 hcq hcr hs9 hs03 hRlt hs12 hE13 hE09 hR3 hB1 hB2 hB3
 obtain ⟨G,hG⟩ : ∃ G,G = Int.gcd z1 z2:=⟨_,rfl⟩
 rw [← hG]
 refine gg ?_
 refine W_seqM (fun f w'=>f 4 = .pointer (some ⟨gR,0,none⟩)∧f 5 = .pointer (some ⟨g5,0,none⟩)∧f 6 = .pointer (some ⟨g6,0,none⟩)∧Ext w w'∧Bx w' gR 1 true 0∧Bx w' g5 N true ((G:Nat):Int)) ?_ ?_
 · refine gg ?_
   refine W_loop (fun m f w'=>∃ a b:Nat,m = b∧f 4 = .pointer (some ⟨gR,0,none⟩)∧f 5 = .pointer (some ⟨g5,0,none⟩)∧f 6 = .pointer (some ⟨g6,0,none⟩)∧Ext w w'∧Bx w' gR 1 true 0∧Bx w' g5 N true ((a:Nat):Int)∧Bx w' g6 N true ((b:Nat):Int)∧G = Nat.gcd a b)
    z2.natAbs ⟨z1.natAbs,z2.natAbs,rfl,rfl,rfl,rfl,hE16,hR16,h5,h6,hG⟩ ?_
   clear hE16 hR16 h5 h6 hG b1 b2
   rintro m f w17 ⟨a,b,rfl,hf4,hf5,hf6,hE,hR,h5,h6,hG⟩
   rw [ui hf4,ui hf5,ui hf6]
   clear hf4 hf5 hf6
   obtain ⟨u,v,hU,hV⟩:=id h6
   obtain ⟨p0,p1⟩:=blkP hU
   refine W_seq ?_
   refine W_seq ?_
   refine gg ?_
   refine R1_call2 (rsign_ok _ _ _ N w17 hV.1 (by omega)) ?_
   rintro _ w18 ⟨hE18,rfl⟩
   clear p0 p1
   by_cases hb0:m = 0
   · have hs:((m:Nat):Int).sign = 0:=by rw [hb0]; rfl
     refine gg ?_
     refine ⟨rfl,rfl,rfl,hE.trans hE18,hR.ext hE18,?_⟩
     rw [hG,hb0,Nat.gcd_zero_right]
     exact h5.ext hE18
   · have hs:¬ ((m:Nat):Int).sign = 0:=fun e=>hb0 (by have:=Int.sign_eq_zero_iff_zero.1 e; omega)
     refine gg ?_
     refine W_regD [(0,0),(1,0),(2,0),(3,1),(4,2),(5,2)] mixed (by kernel_rfl) (fun w19 hE19 _=>?_)
     have hE1719:=hE18.trans hE19
     obtain ⟨u,v,hU,hV⟩:=h6.ext hE1719
     obtain ⟨p0,p1⟩:=blkP hU
     obtain ⟨u2,v2,hU2,hV2⟩:=h5.ext hE1719
     obtain ⟨p2,p3⟩:=blkP hU2
     refine gg ?_
     refine R1_call1 (rrem_ok _ _ _ _ _ _ N w19 hV2.1 hV.1 hN (by omega)) ?_
     rintro _ w20 ⟨hE20,c1,c2,rfl,hcm⟩
     refine ⟨hE20,?_⟩
     have hbm:Bd N (((a:Nat):Int) % ((m:Nat):Int)):=Bd.emod hV.bd (by omega)
     have em:((a:Nat):Int) % ((m:Nat):Int) = ((a % m:Nat):Int):=by omega
     rw [em] at hcm hbm
     clear p0 p1 p2 p3
     refine gg ?_
     refine R1_storeBx (.inl rfl) rfl rfl (h5.ext (hE1719.trans hE20)) (hV.ext hE20) ?_
     intro w21 h21 hC21 hk21 hs21
     refine gg ?_
     refine R1_storeBx (.inl rfl) rfl rfl ((h6.ext (hE1719.trans hE20)).kp hk21 hC21 hne.symm) ((hcm.kp hk21).ev true hbm) ?_
     intro w22 h22 hC22 hk22 hs22
     refine gg ?_
     refine ⟨a % m,Nat.mod_lt _ (by omega),m,a % m,rfl,rfl,rfl,rfl,hC22.ext_of (hC21.ext_of (hE.trans (hE1719.trans hE20)) (fun b hb=>by omega)) (fun b hb=>by omega),((hR.ext (hE1719.trans hE20)).kp hk21 hC21 (by omega)).kp hk22 hC22 (by omega),h21.kp hk22 hC22 hne,h22,?_⟩
     rw [hG,Nat.gcd_comm a,Nat.gcd_rec,Nat.gcd_comm]
 clear hE16 hR16 h5 h6
 rintro f w17 ⟨hf4,hf5,hf6,hE,hR,h5⟩
 rw [ui hf4,ui hf5,ui hf6]
 clear hf4 hf5 hf6
 obtain ⟨u,v,hU,hV⟩:=id h5
 obtain ⟨p0,p1⟩:=blkP hU
 refine gg ?_
 refine R1_storeBx (.inl rfl) rfl rfl hR hV ?_
 intro w18 hR18 hC18 hk18 hs18
 obtain ⟨u',v',hU',hV'⟩:=hR18
 refine gg ?_
 exact retC rfl agg_Int rfl hU' ⟨hC18.ext_of hE (fun b hb=>by omega),_,_,rfl,hV'.2 rfl⟩
end Go.Proofs.YtncbjgblcofddaaGreatDoor
namespace Go.Proofs.YtncbjgblcofddaaGreatDoor
open Go Go.Eng Go.Num Go.Proofs
theorem blkQ {w:World} {g T:Nat} {x y z u:Value} (h:Blk w g T #[x,y,z,u]):w.cell? ⟨g,0,none⟩ = some x∧w.cell? ((⟨g,0,none⟩ : Addr).add 1) = some y∧w.cell? ((⟨g,0,none⟩ : Addr).add 2) = some z∧w.cell? ((⟨g,0,none⟩ : Addr).add 3) = some u:=by
 refine ⟨by rw [h.cell]; rfl,by rw [add_lit,h.cell]; rfl,by rw [add_lit,h.cell]; rfl,by rw [add_lit,h.cell]; rfl⟩
end Go.Proofs.YtncbjgblcofddaaGreatDoor
