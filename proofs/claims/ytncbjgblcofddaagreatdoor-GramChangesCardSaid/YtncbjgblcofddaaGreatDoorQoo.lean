/- Joined: Rgc, Giv. -/
import Derived.Test.YtncbjgblcofddaaGreatDoorQon
import Derived.Test.YtncbjgblcofddaaGreatDoorQzb
import Derived.Test.YtncbjgblcofddaaGreatDoorQnh
import Derived.Test.YtncbjgblcofddaaGreatDoorQu
/- The reference's Divides. -/
namespace Go.Proofs.YtncbjgblcofddaaGreatDoor
open Go Go.Eng Go.Num Go.Proofs
set_option maxHeartbeats 16000000 in
theorem rdivides_ok (x1 y1 x2 y2:Value) (z1 z2:Int) (N:Nat) (w:World) (h1:IV w N x1 y1 z1) (h2:IV w N x2 y2 z2) (hN:N < 68719476736) (h0:z1 ≠ 0) :
 Meets Tryz.prog 106 #[.agg #[x1,y1],.agg #[x2,y2]] w fun v w'=>Ext w w'∧v = .bool (decide (z2 % z1 = 0)):=by
 refine fn_W (n:=16) Tryz.func106 rfl rfl (by kernel_rfl) (by simp) ?_
 have b1:Bd N z1:=h1.bd
 have hX:Ext w w:=Ext.refl w
 refine gg ?_
 refine R1_box (v:=.agg _) (.inl rfl) rfl ?_
 intro w_1 hB0_ hE_ hs_
 have hX1:Blk w_1 w.heap.size 41 #[x1,y1]:=hB0_
 obtain ⟨gX,hg_⟩ : ∃ g,g = w.heap.size:=⟨_,rfl⟩
 rw [← hg_] at hX1 ⊢
 have hfr_gX:w.heap.size≤gX:=by have:=hX.size; omega
 replace h1:=h1.ext hE_
 replace h2:=h2.ext hE_
 replace hX:=hX.trans hE_
 clear hB0_ hs_ hg_ hE_
 refine gg ?_
 refine R1_box (v:=.agg _) (.inl rfl) rfl ?_
 intro w_2 hB0_ hE_ hs_
 have hY1:Blk w_2 w_1.heap.size 41 #[x2,y2]:=hB0_
 obtain ⟨gY,hg_⟩ : ∃ g,g = w_1.heap.size:=⟨_,rfl⟩
 rw [← hg_] at hY1 ⊢
 have hfr_gY:w.heap.size≤gY:=by have:=hX.size; omega
 have hne_gY_gX:gY ≠ gX:=by have:=hX1.lt; omega
 replace h1:=h1.ext hE_
 replace h2:=h2.ext hE_
 replace hX1:=hX1.ext hE_
 replace hX:=hX.trans hE_
 clear hB0_ hs_ hg_ hE_
 refine gg ?_
 refine W_seq ?_
 obtain ⟨f0,f1⟩:=blkP hX1
 refine gg ?_
 have hs:¬ z1.sign = 0:=fun e=>h0 (Int.sign_eq_zero_iff_zero.1 e)
 refine gg ?_
 refine R1_call2 (rsign_ok _ _ _ _ w_2 h1 (by omega)) ?_
 rintro _ w_3 ⟨hE_,rfl⟩
 replace h1:=h1.ext hE_
 replace h2:=h2.ext hE_
 replace hX1:=hX1.ext hE_
 replace hY1:=hY1.ext hE_
 replace hX:=hX.trans hE_
 clear hE_
 clear f0 f1
 refine gg ?_
 obtain ⟨f0,f1⟩:=blkP hX1
 obtain ⟨f2,f3⟩:=blkP hY1
 refine gg ?_
 refine gg ?_
 refine R1_call2 (rrem_ok _ _ _ _ _ _ N w_3 h2 h1 hN h0) ?_
 rintro _ w_4 ⟨hE_,a,b,rfl,hr⟩
 replace h1:=h1.ext hE_
 replace h2:=h2.ext hE_
 replace hX1:=hX1.ext hE_
 replace hY1:=hY1.ext hE_
 replace hX:=hX.trans hE_
 clear hE_
 clear f0 f1 f2 f3
 refine gg ?_
 refine gg ?_
 refine R1_call2 (rsign_ok _ _ _ _ w_4 (hr.iv (b1.emod h0)) (by omega)) ?_
 rintro _ w_5 ⟨hE_,rfl⟩
 replace h1:=h1.ext hE_
 replace h2:=h2.ext hE_
 replace hX1:=hX1.ext hE_
 replace hY1:=hY1.ext hE_
 replace hr:=hr.ext hE_
 replace hX:=hX.trans hE_
 clear hE_
 refine gg ?_
 rw [show decide ((z2 % z1).sign = 0) = decide (z2 % z1 = 0) from by rw [decide_eq_decide]; exact Int.sign_eq_zero_iff_zero]
 exact ret1 (v:=.bool _) rfl rfl ⟨hX,rfl⟩
end Go.Proofs.YtncbjgblcofddaaGreatDoor
namespace Go.Proofs.YtncbjgblcofddaaGreatDoor
open Go Go.Eng Go.Num Go.Proofs
open Go.Det (det)
def gcdR (M:Nat→Int) (a:Nat):Nat→Nat
 | 0=>a
 | j + 1=>Int.gcd ((gcdR M a j:Nat):Int) (M j)
def gcdM (n:Nat) (M:Nat→Nat→Int):Nat→Nat
 | 0=>0
 | i + 1=>gcdR (M i) (gcdM n M i) n
theorem gcdN_bd {N:Nat} {a:Nat} {b:Int} (h1:Bd N ((a:Nat):Int)) (h2:Bd N b):Bd N ((Int.gcd ((a:Nat):Int) b:Nat):Int):=by
 unfold Bd at *
 rw [Int.natAbs_natCast] at *
 by_cases e:b = 0
 · subst e; rw [Int.gcd_zero_right]; simpa using h1
 · have h3:Int.gcd ((a:Nat):Int) b≤b.natAbs:=Nat.gcd_le_right _ (Int.natAbs_pos.2 e)
   omega
theorem gcdR_bd {N:Nat} {M:Nat→Int} {a:Nat} (h:Bd N ((a:Nat):Int)):∀ j,(∀ k,k < j→Bd N (M k))→Bd N ((gcdR M a j:Nat):Int)
 | 0,_=>h
 | j + 1,hM=>gcdN_bd (gcdR_bd h j fun k hk=>hM k (by omega)) (hM j (by omega))
theorem gcdM_bd {N n:Nat} {M:Nat→Nat→Int}:∀ i,(∀ k j,k < i→j < n→Bd N (M k j))→Bd N ((gcdM n M i:Nat):Int)
 | 0,_=>Bd.zero N
 | i + 1,hM=>gcdR_bd (gcdM_bd i fun k j hk hj=>hM k j (by omega) hj) n fun j hj=>hM i j (by omega) hj
theorem Bx.un {w:World} {g N:Nat} {cn:Bool} {z:Int} (h:Bx w g N cn z):Bx w g N false z:=by
 obtain ⟨x,y,h1,h2⟩:=h
 exact ⟨x,y,h1,h2.1,fun e=>by cases e⟩
def RCt (w:World) (e:Nat) (d:Nat) (v:Value) (w':World):Prop :=
 Ext w w'∧∃ x y,v = .tuple #[.agg #[x,y],.int .i64 ((e:Nat):Int)]∧CV w' x y (if e = 0 then ((d:Nat):Int) else 0)
set_option maxHeartbeats 16000000 in
theorem content_ok (va:Value) (r N:Nat) (len:Nat→Nat) (M:Nat→Nat→Int) (w:World) (ha:MatE (EI N) w va r len M) (hN1:1≤N) (hN:N < 1048576) :
 Meets Tryz.prog 46 #[va] w (RCt w (valE r len M) (gcdM r M r)):=by
 refine fn_W (n:=35) Tryz.func46 rfl rfl (by kernel_rfl) (by simp) ?_
 have ha0:=ha
 have hX:Ext w w:=Ext.refl w
 refine gg ?_
 refine R1_alloc (.inl rfl) z_Int ?_
 intro w_1 hB0_ hE_ hs_
 have hR:=Bx.zero (N:=1) true hB0_
 obtain ⟨gR,hg_⟩ : ∃ g,g = w.heap.size:=⟨_,rfl⟩
 rw [← hg_] at hR ⊢
 have hfr_gR:w.heap.size≤gR:=by have:=hX.size; omega
 replace ha:=ha.ext hE_
 replace hX:=hX.trans hE_
 clear hB0_ hs_ hg_ hE_
 refine gg ?_
 refine W_seq ?_
 refine gg ?_
 refine gg ?_
 refine R1_call2 (validate_ok va r N len M w_1 ha hN1 hN) ?_
 rintro _ w_2 ⟨hE_,rfl⟩
 replace ha:=ha.ext hE_
 replace hR:=hR.ext hE_
 replace hX:=hX.trans hE_
 clear hE_
 have h5:=valE_le r len M
 by_cases h0:valE r len M = 0
 rotate_left
 · refine gg ?_
   refine R1_bld0 b0_Int ?_
   refine gg ?_
   refine gg ?_
   refine R1_storeBx (by first | exact .inl rfl | exact .inr ⟨rfl,fun _ h=>h.mono fun b _ e=>by omega⟩) rfl rfl hR ((CV.zero w_2).ev true (Bd.zero 1)) ?_
   intro w_3 hR hC_ hk_ hs_
   clear ha
   replace hX:=hC_.ext_of hX (fun b hb=>by omega)
   clear hC_ hk_ hs_
   obtain ⟨u,v,hU,hV⟩:=hR
   refine gg ?_
   refine retCB (v:=.int _ _) rfl agg_Int rfl hU rfl ⟨hX,u,v,rfl,?_⟩
   rw [if_neg h0]; exact hV.2 rfl
 obtain ⟨hok,h8,_⟩:=valE_zero.1 h0
 obtain ⟨hr1,hr2,hlen⟩:=okS_iff.1 hok
 have hM:=ha0.sq hlen
 have bM:∀ i j,i < r→j < r→Bd N (M i j):=fun i j hi hj=>hM.bd hi hj
 refine gg ?_
 refine R1_bld0 b0_Int ?_
 refine gg ?_
 refine gg ?_
 refine R1_alloc (.inl rfl) z_Int ?_
 intro w_4 hB0_ hE_ hs_
 have hC:=Bx.zero (N:=1) true hB0_
 obtain ⟨gC,hg_⟩ : ∃ g,g = w_2.heap.size:=⟨_,rfl⟩
 rw [← hg_] at hC ⊢
 have hfr_gC:w.heap.size≤gC:=by have:=hX.size; omega
 have hne_gC_gR:gC ≠ gR:=by have:=hR.lt; omega
 replace ha:=ha.ext hE_
 replace hR:=hR.ext hE_
 replace hX:=hX.trans hE_
 clear hB0_ hs_ hg_ hE_
 refine gg ?_
 refine gg ?_
 refine R1_storeBx (by first | exact .inl rfl | exact .inr ⟨rfl,fun _ h=>h.mono fun b _ e=>by omega⟩) rfl rfl hC ((CV.zero w_4).ev true (Bd.zero N)) ?_
 intro w_5 hC hC_ hk_ hs_
 clear ha
 replace hR:=hR.kp hk_ hC_ (by first | omega | assumption)
 replace hX:=hC_.ext_of hX (fun b hb=>by omega)
 clear hC_ hk_ hs_
 refine gg ?_
 have fR:w.heap.size≤gR:=hfr_gR
 have fC:w.heap.size≤gC∧gR ≠ gC:=⟨hfr_gC,by omega⟩
 refine W_seqM (fun f w'=>f 2 = .pointer (some ⟨gR,0,none⟩)∧f 5 = .pointer (some ⟨gC,0,none⟩)∧Ext w w'∧Bx w' gR 1 true 0∧Bx w' gC N true ((gcdM r M r:Nat):Int)) ?_ ?_
 · obtain ⟨ad,capa,_,rfl,_,_⟩:=hM.at (show 0 < r by omega)
   clear ha0
   refine gg ?_
   refine W_loop (fun m f w'=>∃ i,m = r - i∧i≤r∧f 2 = .pointer (some ⟨gR,0,none⟩)∧f 5 = .pointer (some ⟨gC,0,none⟩)∧f 17 = .slice (some ad) r capa∧f 18 = .int .i64 ((r:Nat):Int)∧f 19 = .int .i64 ((i:Nat):Int)∧Ext w w'∧Bx w' gR 1 true 0∧Bx w' gC N true ((gcdM r M i:Nat):Int))
    r ⟨0,rfl,Nat.zero_le _,rfl,rfl,rfl,rfl,rfl,hX,hR,hC⟩ ?_
   clear hX hR hC
   rintro m f w' ⟨i,rfl,hi,hf2,hf5,hf17,hf18,hf19,hX,hR,hC⟩
   rw [ui hf2,ui hf5,ui hf17,ui hf18,ui hf19]
   clear hf2 hf5 hf17 hf18 hf19
   by_cases hlt:i < r
   · obtain ⟨_,_,vr,e,hu,hru⟩:=hM.at hlt
     cases e
     obtain ⟨ai,capi,_,_,rfl,_,_,_⟩:=hru.at (show 0 < r by omega)
     replace hu:=cell_ext hX hu
     refine gg ?_
     clear hu
     refine W_loop (fun m f w'=>∃ j,m = r - j∧j≤r∧f 2 = .pointer (some ⟨gR,0,none⟩)∧f 5 = .pointer (some ⟨gC,0,none⟩)∧f 17 = .slice (some ad) r capa∧f 18 = .int .i64 ((r:Nat):Int)∧f 19 = .int .i64 ((i:Nat):Int)∧f 23 = .slice (some ai) r capi∧f 24 = .int .i64 ((r:Nat):Int)∧f 25 = .int .i64 ((j:Nat):Int)∧Ext w w'∧Bx w' gR 1 true 0∧Bx w' gC N true ((gcdR (M i) (gcdM r M i) j:Nat):Int))
      r ⟨0,rfl,Nat.zero_le _,rfl,rfl,rfl,rfl,rfl,rfl,rfl,rfl,hX,hR,hC⟩ ?_
     clear hX hR hC
     rintro m f w' ⟨j,rfl,hj,hf2,hf5,hf17,hf18,hf19,hf23,hf24,hf25,hX,hR,hC⟩
     rw [ui hf2,ui hf5,ui hf17,ui hf18,ui hf19,ui hf23,ui hf24,ui hf25]
     clear hf2 hf5 hf17 hf18 hf19 hf23 hf24 hf25
     by_cases hjl:j < r
     · obtain ⟨_,_,x,y,e,hx,hy,hv⟩:=hru.at hjl
       cases e
       replace hx:=cell_ext hX hx
       replace hy:=cell_ext hX hy
       replace hv:=hv.ext hX
       refine gg ?_
       refine gg ?_
       refine R1_alloc (.inl rfl) z_Int ?_
       intro w_6 hB0_ hE_ hs_
       have h9:=Bx.zero (N:=1) true hB0_
       obtain ⟨g9,hg_⟩ : ∃ g,g = w'.heap.size:=⟨_,rfl⟩
       rw [← hg_] at h9 ⊢
       have hfr_g9:w.heap.size≤g9:=by have:=hX.size; omega
       have hne_g9_gR:g9 ≠ gR:=by have:=hR.lt; omega
       have hne_g9_gC:g9 ≠ gC:=by have:=hC.lt; omega
       replace hR:=hR.ext hE_
       replace hC:=hC.ext hE_
       replace hv:=hv.ext hE_
       replace hX:=hX.trans hE_
       clear hB0_ hs_ hg_ hE_
       refine gg ?_
       replace h9:=h9.un
       refine gg ?_
       refine R1_storeBx (by first | exact .inl rfl | exact .inr ⟨rfl,fun _ h=>h.mono fun b _ e=>by omega⟩) rfl rfl h9 (⟨hv,fun e=>by cases e⟩) ?_
       intro w_7 h9 hC_ hk_ hs_
       replace hR:=hR.kp hk_ hC_ (by first | omega | assumption)
       replace hC:=hC.kp hk_ hC_ (by first | omega | assumption)
       replace hv:=hv.kp hk_
       replace hX:=hC_.ext_of hX (fun b hb=>by omega)
       clear hC_ hk_ hs_
       refine gg ?_
       obtain ⟨h9_u,h9_v,h9_B,h9_V⟩:=id h9
       obtain ⟨h9_0,h9_1⟩:=blkP h9_B
       obtain ⟨hC_u,hC_v,hC_B,hC_V⟩:=id hC
       obtain ⟨hC_0,hC_1⟩:=blkP hC_B
       refine gg ?_
       have bG:Bd N ((gcdR (M i) (gcdM r M i) (j + 1):Nat):Int):=gcdR_bd (gcdM_bd i fun k j hk hj=>bM k j (by omega) hj) (j + 1) fun k hk=>bM i k hlt (by omega)
       refine gg ?_
       refine R1_call2 (gcd_ok _ _ _ _ _ _ N w_7 hC_V.1 h9_V.1 (by omega)) ?_
       rintro _ w_8 ⟨hE_,a,b,rfl,hg⟩
       replace hR:=hR.ext hE_
       replace hC:=hC.ext hE_
       replace hv:=hv.ext hE_
       replace h9:=h9.ext hE_
       replace hX:=hX.trans hE_
       clear hE_
       refine gg ?_
       refine gg ?_
       refine R1_storeBx (by first | exact .inl rfl | exact .inr ⟨rfl,fun _ h=>h.mono fun b _ e=>by omega⟩) rfl rfl hC (hg.ev true bG) ?_
       intro w_9 hC hC_ hk_ hs_
       replace hR:=hR.kp hk_ hC_ (by first | omega | assumption)
       replace hv:=hv.kp hk_
       replace h9:=h9.kp hk_ hC_ (by first | omega | assumption)
       replace hg:=hg.kp hk_
       replace hX:=hC_.ext_of hX (fun b hb=>by omega)
       clear hC_ hk_ hs_
       refine gg ?_
       refine ⟨_,?_,j + 1,rfl,by omega,rfl,rfl,rfl,rfl,rfl,rfl,rfl,rfl,hX,hR,hC⟩
       omega
     · refine gg ?_
       obtain rfl:j = r:=by omega
       refine ⟨_,?_,i + 1,rfl,by omega,rfl,rfl,rfl,rfl,rfl,hX,hR,hC⟩
       omega
   · refine gg ?_
     obtain rfl:i = r:=by omega
     exact ⟨rfl,rfl,hX,hR,hC⟩
 clear hX hR hC
 rintro f w' ⟨hf2,hf5,hX,hR,hC⟩
 rw [ui hf2,ui hf5]
 clear hf2 hf5
 refine gg ?_
 obtain ⟨hC_u,hC_v,hC_B,hC_V⟩:=id hC
 obtain ⟨hC_0,hC_1⟩:=blkP hC_B
 refine gg ?_
 refine gg ?_
 refine R1_storeBx (by first | exact .inl rfl | exact .inr ⟨rfl,fun _ h=>h.mono fun b _ e=>by omega⟩) rfl rfl hR (hC_V) ?_
 intro w_10 hR hC_ hk_ hs_
 replace hC:=hC.kp hk_ hC_ (by first | omega | assumption)
 replace hX:=hC_.ext_of hX (fun b hb=>by omega)
 clear hC_ hk_ hs_
 obtain ⟨u,v,hU,hV⟩:=hR
 refine gg ?_
 refine retCB (v:=.int _ _) rfl agg_Int rfl hU rfl ⟨hX,u,v,by rw [h0],?_⟩
 rw [if_pos h0]; exact hV.2 rfl
open Classical in
def REn (w:World) (e r:Nat) (M:Nat→Nat→Int) (v:Value) (w':World):Prop :=
 Ext w w'∧v = .tuple #[.bool (decide (e = 0∧∀ i,i < r→M i i % 2 = 0)),.int .i64 ((e:Nat):Int)]
theorem ren_err {w w':World} {e r:Nat} {M:Nat→Nat→Int} (h:Ext w w') (he:e ≠ 0):REn w e r M (.tuple #[.bool false,.int .i64 ((e:Nat):Int)]) w' :=
 ⟨h,by rw [decide_eq_false (fun h=>he h.1)]⟩
theorem ren_no {w w':World} {r i:Nat} {M:Nat→Nat→Int} (h:Ext w w') (hi:i < r) (hz:M i i % 2 ≠ 0):REn w 0 r M (.tuple #[.bool false,.int .i64 ((0:Nat):Int)]) w' :=
 ⟨h,by rw [decide_eq_false (fun h=>hz (h.2 i hi))]⟩
theorem ren_yes {w w':World} {r:Nat} {M:Nat→Nat→Int} (h:Ext w w') (hz:∀ i,i < r→M i i % 2 = 0):REn w 0 r M (.tuple #[.bool true,.int .i64 ((0:Nat):Int)]) w' :=
 ⟨h,by rw [decide_eq_true ⟨rfl,hz⟩]⟩
set_option maxHeartbeats 16000000 in
theorem even_ok (va:Value) (r N:Nat) (len:Nat→Nat) (M:Nat→Nat→Int) (w:World) (ha:MatE (EI N) w va r len M) (hN1:1≤N) (hN:N < 1048576) :
 Meets Tryz.prog 48 #[va] w (REn w (valE r len M) r M):=by
 refine fn_W (n:=36) Tryz.func48 rfl rfl (by kernel_rfl) (by simp) ?_
 have ha0:=ha
 have hX:Ext w w:=Ext.refl w
 refine gg ?_
 refine W_seq ?_
 refine gg ?_
 refine gg ?_
 refine R1_call2 (validate_ok va r N len M w ha hN1 hN) ?_
 rintro _ w_1 ⟨hE_,rfl⟩
 replace ha:=ha.ext hE_
 replace hX:=hX.trans hE_
 clear hE_
 have h5:=valE_le r len M
 by_cases h0:valE r len M = 0
 rotate_left
 · refine gg ?_
   exact ret2 (v:=.bool _) (v':=.int _ _) rfl rfl rfl (ren_err hX h0)
 obtain ⟨hok,h8,_⟩:=valE_zero.1 h0
 obtain ⟨hr1,hr2,hlen⟩:=okS_iff.1 hok
 have hM:=ha0.sq hlen
 have bM:∀ i j,i < r→j < r→Bd N (M i j):=fun i j hi hj=>hM.bd hi hj
 rw [h0]
 refine gg ?_
 obtain ⟨ad,capa,_,rfl,_,_⟩:=hM.at (show 0 < r by omega)
 clear ha0 ha
 refine gg ?_
 refine W_seqM (fun f w'=>Ext w w'∧∀ i,i < r→M i i % 2 = 0) ?_ ?_
 · refine gg ?_
   refine W_loop (fun m f w'=>∃ i,m = r - i∧i≤r∧f 15 = .slice (some ad) r capa∧f 16 = .int .i64 ((r:Nat):Int)∧f 17 = .int .i64 ((i:Nat):Int)∧Ext w w'∧∀ k,k < i→M k k % 2 = 0)
    r ⟨0,rfl,Nat.zero_le _,rfl,rfl,rfl,hX,fun k hk=>absurd hk (by omega)⟩ ?_
   clear hX
   rintro m f w' ⟨i,rfl,hi,hf15,hf16,hf17,hX,hall⟩
   rw [ui hf15,ui hf16,ui hf17]
   clear hf15 hf16 hf17
   by_cases hlt:i < r
   · skip
     obtain ⟨_,_,vr,e,hu,hru⟩:=hM.at hlt
     cases e
     obtain ⟨ai,capi,x,y,rfl,hx,hy,hv⟩:=hru.at hlt
     replace hu:=cell_ext hX hu
     refine gg ?_
     clear hu
     refine gg ?_
     refine W_seqG [(0,3),(1,3),(2,3),(3,0)] [(4,[],[]),(10,[],[]),(11,[],[]),(5,[(6,3),(7,3),(8,3),(9,3)],[4])] [(12,2),(13,2),(14,3)] mixed (by kernel_rfl) (fun w_2 hE_ _=>?_)
     replace hX:=hX.trans hE_
     clear hE_
     replace hx:=cell_ext hX hx
     replace hy:=cell_ext hX hy
     replace hv:=hv.ext hX
     refine gg ?_
     refine Rg_float [(4,[]),(5,[(6,3),(7,3),(8,3),(9,3)])] [fA 10 7 41 (.agg #[.bool false,.slice none 0 0]),fA 11 8 41 (.agg #[.bool false,.slice none 0 0])] [27,28,22,29,30,31,7,8] (by kernel_rfl) (fun a ha f' w' _ _=>by
      rcases List.mem_cons.1 ha with rfl | ha
      · exact flt_alloc z_Int rfl f' w'
      · skip
        rcases List.mem_singleton.1 ha with rfl
        exact flt_alloc z_Int rfl f' w') ?_
     have hszq:=hX.size
     refine gg ?_
     refine Rc_cons (fun w_3 hE_=>?_)
     replace hv:=hv.ext hE_
     replace hX:=hX.trans hE_
     clear hE_
     refine gg ?_
     refine R1_call1 (small_ok 2 w_3 (by decide) (by decide)) ?_
     rintro _ w_4 ⟨hE_,a0,a1,rfl,hc2⟩
     refine ⟨hE_,?_⟩
     replace hv:=hv.ext hE_
     replace hX:=hX.trans hE_
     clear hE_
     have b2:Bd N 2:=Bd.mono (N:=1) (by unfold Bd; decide) hN1
     refine gg ?_
     refine Rc_cons (fun w_5 hE_=>?_)
     replace hv:=hv.ext hE_
     replace hc2:=hc2.ext hE_
     replace hX:=hX.trans hE_
     clear hE_
     refine gg ?_
     refine R1_call1 (divMod_ok _ _ _ _ _ _ N w_5 hv (hc2.iv b2) (by omega) (by decide)) ?_
     rintro _ w_6 ⟨hE_,d0,d1,d2,d3,rfl,hq,hr⟩
     refine ⟨hE_,?_⟩
     replace hv:=hv.ext hE_
     replace hc2:=hc2.ext hE_
     replace hX:=hX.trans hE_
     clear hE_
     refine gg ?_
     refine Rc_nil (fun w_7 hE_ bs hbs hdis=>?_)
     replace hv:=hv.ext hE_
     replace hc2:=hc2.ext hE_
     replace hq:=hq.ext hE_
     replace hr:=hr.ext hE_
     replace hX:=hX.trans hE_
     clear hE_
     obtain ⟨hge_g7,hB_g7⟩:=hbs _ List.mem_cons_self
     have hge_g7:w_2.heap.size≤bs 7:=hge_g7
     have h7:Bx w_7 (bs 7) 1 true 0:=Bx.zero true hB_g7
     obtain ⟨hge_g8,hB_g8⟩:=hbs _ (List.mem_cons_of_mem _ List.mem_cons_self)
     have hge_g8:w_2.heap.size≤bs 8:=hge_g8
     have h8:Bx w_7 (bs 8) 1 true 0:=Bx.zero true hB_g8
     have hne_g8_g7:bs 8 ≠ bs 7:=hdis _ _ (List.mem_cons_of_mem _ List.mem_cons_self) List.mem_cons_self (show (8:Nat) ≠ 7 by decide)
     show Ro _ _ _ _ _ _ (upd (upd _ 8 (.pointer (some ⟨bs 8,0,none⟩))) 7 (.pointer (some ⟨bs 7,0,none⟩))) _
     generalize bs 7 = g7 at *
     generalize bs 8 = g8 at *
     have hfr_g7:w.heap.size≤g7:=by omega
     have hfr_g8:w.heap.size≤g8:=by omega
     clear hbs hdis hszq hB_g7 hge_g7 hB_g8 hge_g8
     refine gg ?_
     refine R1_storeBx (by first | exact .inl rfl | exact .inr ⟨rfl,fun _ h=>h.mono fun b _ e=>by omega⟩) rfl rfl h7 (hq.ev true (bM i i hlt hlt).ediv) ?_
     intro w_8 h7 hC_ hk_ hs_
     replace hv:=hv.kp hk_
     replace hc2:=hc2.kp hk_
     replace hq:=hq.kp hk_
     replace hr:=hr.kp hk_
     replace h8:=h8.kp hk_ hC_ (by first | omega | assumption)
     replace hX:=hC_.ext_of hX (fun b hb=>by omega)
     clear hC_ hk_ hs_
     refine gg ?_
     refine R1_storeBx (by first | exact .inl rfl | exact .inr ⟨rfl,fun _ h=>h.mono fun b _ e=>by omega⟩) rfl rfl h8 (hr.ev true (b2.emod (by decide))) ?_
     intro w_9 h8 hC_ hk_ hs_
     replace hv:=hv.kp hk_
     replace hc2:=hc2.kp hk_
     replace hq:=hq.kp hk_
     replace hr:=hr.kp hk_
     replace h7:=h7.kp hk_ hC_ (by first | omega | assumption)
     replace hX:=hC_.ext_of hX (fun b hb=>by omega)
     clear hC_ hk_ hs_
     clear hx hy
     refine gg ?_
     obtain ⟨h8_u,h8_v,h8_B,h8_V⟩:=id h8
     obtain ⟨h8_0,h8_1⟩:=blkP h8_B
     refine gg ?_
     refine gg ?_
     refine R1_call2 (sign_ok _ _ _ _ w_9 h8_V.1 (by omega)) ?_
     rintro _ w_10 ⟨hE_,rfl⟩
     replace hv:=hv.ext hE_
     replace hc2:=hc2.ext hE_
     replace hq:=hq.ext hE_
     replace hr:=hr.ext hE_
     replace h7:=h7.ext hE_
     replace h8:=h8.ext hE_
     replace hX:=hX.trans hE_
     clear hE_
     by_cases hz:M i i % 2 = 0
     · have hs:(M i i % 2).sign = 0:=by rw [hz]; rfl
       refine gg ?_
       refine ⟨_,?_,i + 1,rfl,by omega,rfl,rfl,rfl,hX,fun k hk=>?_⟩
       · omega
       · by_cases e:k = i
         · subst e; exact hz
         · exact hall k (by omega)
     · have hs:¬ (M i i % 2).sign = 0:=fun e=>hz (Int.sign_eq_zero_iff_zero.1 e)
       refine gg ?_
       exact ret2 (v:=.bool _) (v':=.int _ _) rfl rfl rfl (ren_no hX hlt hz)
   · refine gg ?_
     exact ⟨hX,fun k hk=>hall k (by omega)⟩
 clear hX
 rintro f w' ⟨hX,hall⟩
 refine gg ?_
 exact ret2 (v:=.bool _) (v':=.int _ _) rfl rfl rfl (ren_yes hX hall)
end Go.Proofs.YtncbjgblcofddaaGreatDoor
